/- The objects of the program as plain Lean data, and how they lie in memory. -/
import Derived.Test.YtdfljbffomhchaaGreatSf
set_option linter.unusedVariables false
namespace Go.Sm

structure Setup where
  cyc : Bool
  n1 : Int
  n2 : Int
  hold : Int
  octs : Int
  t0 : Int
  t1 : Int
  t2 : Int
  t3 : Int
  t4 : Int
  t5 : Int
  t6 : Int
  t7 : Int
abbrev I64 (n : Int) : Value := .int .i64 n
abbrev U8 (n : Int) : Value := .int .u8 n
abbrev Ptr (b : Nat) : Value := .pointer (some ⟨b, 0, none⟩)
def Setup.cells (s : Setup) : List Value :=
  [.bool s.cyc, I64 s.n1, I64 s.n2, I64 s.hold, I64 s.octs, I64 s.t0, I64 s.t1, I64 s.t2, I64 s.t3, I64 s.t4, I64 s.t5, I64 s.t6, I64 s.t7]

/-- Timers: eight of them. -/
abbrev Clk := List Int
def clkCells (c : Clk) : List Value := c.map I64
def clkObj (c : Clk) : Obj := .cells (clkCells c).toArray 170 (0, 0)
def okT (i : Int) : Prop := 0 ≤ i ∧ i < 8
instance (i : Int) : Decidable (okT i) := inferInstanceAs (Decidable (_ ∧ _))
def okS (i t : Int) : Prop := okT i ∧ 1 ≤ t ∧ t ≤ 4294967296
instance (i t : Int) : Decidable (okS i t) := inferInstanceAs (Decidable (_ ∧ _))
def Clk.start (c : Clk) (i t : Int) : Clk := if okS i t then c.set i.toNat t else c
def Clk.stop1 (c : Clk) (i : Int) : Clk := if okT i then c.set i.toNat 0 else c
def Clk.stop (c : Clk) (l : List Int) : Clk := l.foldl Clk.stop1 c
def Clk.left (c : Clk) (i : Int) : Int := if okT i then c.getD i.toNat 0 else 0
def Clk.none : Clk := [0, 0, 0, 0, 0, 0, 0, 0]
def tick1 (n : Int) : Int := if 0 < n then n - 1 else n
def Clk.tick (c : Clk) : Clk := c.map tick1
def Clk.dueTo (c : Clk) : Nat → List Int
  | 0 => []
  | k + 1 => if c.getD k 0 = 1 then Clk.dueTo c k ++ [(k : Int)] else Clk.dueTo c k
def Clk.due (c : Clk) : List Int := c.dueTo 8
def Clk.tickTo (c : List Int) (k : Nat) : List Int := (c.take k).map tick1 ++ c.drop k
class ClkOk (c : Clk) : Prop where
  len : c.length = 8
  rng : ∀ n ∈ c, 0 ≤ n ∧ n ≤ 4294967296
theorem Clk.start_len (c : Clk) (i t : Int) : (c.start i t).length = c.length := by unfold Clk.start; split <;> simp
theorem Clk.stop1_len (c : Clk) (i : Int) : (c.stop1 i).length = c.length := by unfold Clk.stop1; split <;> simp
theorem Clk.stop_len (l : List Int) : ∀ (c : Clk), (c.stop l).length = c.length := by
  induction l with
  | nil => intro c; rfl
  | cons i r ih => intro c; show (Clk.stop (c.stop1 i) r).length = _; rw [ih, Clk.stop1_len]
theorem Clk.tick_len (c : Clk) : c.tick.length = c.length := by simp [Clk.tick]
theorem nth_map {α : Type} (f : α → Value) (l : List α) (d : α) {k : Nat} (h : k < l.length) : nth (l.map f) k = some (f (l.getD k d)) := by
  rw [nth_get]; simp [h]
theorem wrap_nat {k : Nat} (h : k < 9223372036854775807) : IntKind.i64.wrap ((k : Int) + 1) = ((k + 1 : Nat) : Int) := by
  have := IntWalk.i64_in ((k : Int) + 1) (by omega)
  rw [this]; omega
theorem nth_clk {c : Clk} {k : Nat} (h : k < c.length) : nth (clkCells c) k = some (I64 (c.getD k 0)) := by
  rw [nth_get]; simp [clkCells, h]
theorem setNth_clk (c : Clk) (k : Nat) (v : Int) : setNth (clkCells c) k (I64 v) = clkCells (c.set k v) := by
  rw [setNth_set]; simp [clkCells, List.map_set]
theorem ClkOk.get {c : Clk} (h : ClkOk c) (k : Nat) : 0 ≤ c.getD k 0 ∧ c.getD k 0 ≤ 4294967296 := by
  rcases Nat.lt_or_ge k c.length with hk | hk
  · have : c.getD k 0 = c[k] := by simp [List.getD_eq_getElem?_getD, hk]
    rw [this]; exact h.rng _ (List.getElem_mem hk)
  · simp [List.getD_eq_getElem?_getD, List.getElem?_eq_none hk]
instance ClkOk.start {c : Clk} [h : ClkOk c] (i t : Int) : ClkOk (c.start i t) := by
  unfold Clk.start
  split
  · rename_i hs
    refine ⟨by simp [h.len], fun n hn => ?_⟩
    rcases List.mem_or_eq_of_mem_set hn with hn | rfl
    · exact h.rng n hn
    · have := hs.2; omega
  · exact h
theorem ClkOk.stop1 {c : Clk} [h : ClkOk c] (i : Int) : ClkOk (c.stop1 i) := by
  unfold Clk.stop1
  split
  · refine ⟨by simp [h.len], fun n hn => ?_⟩
    rcases List.mem_or_eq_of_mem_set hn with hn | rfl
    · exact h.rng n hn
    · omega
  · exact h
theorem ClkOk.stop' (l : List Int) : ∀ {c : Clk}, ClkOk c → ClkOk (c.stop l) := by
  induction l with
  | nil => intro c h; exact h
  | cons i r ih => intro c h; exact ih (ClkOk.stop1 (h := h) i)
instance ClkOk.stop {c : Clk} [h : ClkOk c] (l : List Int) : ClkOk (c.stop l) := ClkOk.stop' l h
instance {p : Prop} [Decidable p] {a b : Clk} [h : ClkOk a] [h' : ClkOk b] : ClkOk (if p then a else b) := by split <;> assumption
instance ClkOk.none : ClkOk Clk.none := ⟨rfl, by simp [Clk.none]⟩
instance ClkOk.tick {c : Clk} [h : ClkOk c] : ClkOk c.tick := by
  refine ⟨by simp [Clk.tick, h.len], fun n hn => ?_⟩
  obtain ⟨m, hm, rfl⟩ := List.mem_map.1 hn
  have := h.rng m hm
  unfold tick1
  split <;> omega
theorem Clk.dueTo_len (c : Clk) : ∀ k, (c.dueTo k).length ≤ k
  | 0 => by simp [Clk.dueTo]
  | k + 1 => by
    have := Clk.dueTo_len c k
    simp only [Clk.dueTo]
    split <;> simp <;> omega
theorem Clk.tickTo_len (c : List Int) (k : Nat) : (Clk.tickTo c k).length = c.length := by simp [Clk.tickTo]; omega
theorem Clk.tickTo_get {c : List Int} {k : Nat} (hk : k < c.length) : (Clk.tickTo c k).getD k 0 = c.getD k 0 := by
  simp [Clk.tickTo, List.getD_eq_getElem?_getD, List.getElem?_append, Nat.min_eq_left (Nat.le_of_lt hk)]
theorem Clk.tickTo_succ {c : List Int} {k : Nat} (hk : k < c.length) : Clk.tickTo c (k + 1) = (Clk.tickTo c k).set k (tick1 (c.getD k 0)) := by
  unfold Clk.tickTo
  have h1 : ((c.take k).map tick1).length = k := by simp; omega
  have h2 : (List.map tick1 (List.take k c) ++ List.drop k c).set k (tick1 (c.getD k 0)) = List.map tick1 (List.take k c) ++ (List.drop k c).set 0 (tick1 (c.getD k 0)) := by
    rw [List.set_append, if_neg (by rw [h1]; omega), h1, Nat.sub_self]
  have h3 : (List.drop k c).set 0 (tick1 (c.getD k 0)) = tick1 (c.getD k 0) :: List.drop (k + 1) c := by rw [List.drop_eq_getElem_cons hk]; rfl
  rw [h2, h3, List.take_succ_eq_append_getElem hk, List.map_append]
  simp [List.getD_eq_getElem?_getD, hk]
theorem Clk.tickTo_all {c : List Int} : Clk.tickTo c c.length = Clk.tick c := by simp [Clk.tickTo, Clk.tick]
end Go.Sm
