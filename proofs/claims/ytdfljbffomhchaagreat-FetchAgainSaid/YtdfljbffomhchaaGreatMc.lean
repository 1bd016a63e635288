/- What a sender holds back: plain data, what is done to it, and how it lies in memory. -/
import Derived.Test.YtdfljbffomhchaaGreatMb
import Derived.Test.YtdfljbffomhchaaGreatSi
set_option linter.unusedVariables false
namespace Go.Sm

abbrev Msg := List Int
def octets (p : Msg) : List Value := p.map U8
theorem octets_len (p : Msg) : (octets p).length = p.length := by simp [octets]
theorem octets_one : ∀ p : Msg, oneCells (octets p) = true
  | [] => rfl
  | x :: r => by
    have := octets_one r
    simp only [octets, List.map_cons, oneCells] at this ⊢
    rw [this]; rfl
/-- v is a slice over octets that nobody writes any more. -/
abbrev Pay (R : List Ent) (v : Value) (p : Msg) : Prop := Look R 5 v (octets p)
theorem Pay.shape {R : List Ent} {v : Value} {p : Msg} (h : Pay R v p) : ∃ a c, v = .slice a p.length c := by
  obtain ⟨a, c, h1⟩ := Look.shape h
  exact ⟨a, c, by rw [h1, octets_len]⟩
theorem Pay.find {R : List Ent} {v : Value} {p : Msg} (h : Pay R v p) (hp : p ≠ []) : ∃ q k c pre post, v = .slice (some ⟨q, k, none⟩) p.length c ∧ pre.length = k ∧ ∃ fz, Find R q (.cells (pre ++ (octets p ++ post)).toArray 5 fz) := by
  obtain ⟨q, k, c, pre, post, h1, h2, fz, h3⟩ := Look.find h (by simpa [octets] using hp)
  exact ⟨q, k, c, pre, post, by rw [h1, octets_len], h2, fz, h3⟩
/-- Slices, one for one. -/
inductive Pays (R : List Ent) : List Value → List Msg → Prop
  | nil : Pays R [] []
  | cons {v : Value} {p : Msg} {vs : List Value} {ps : List Msg} : Pay R v p → Pays R vs ps → Pays R (v :: vs) (p :: ps)
theorem Pays.sub {R R' : List Ent} {vs : List Value} {ps : List Msg} (h : Pays R vs ps) (hs : ∀ x, x ∈ R → x ∈ R') : Pays R' vs ps := by
  induction h with
  | nil => exact .nil
  | cons h1 _ ih => exact .cons (h1.sub hs) ih
theorem Pays.mono {R N : List Ent} {vs : List Value} {ps : List Msg} (h : Pays R vs ps) : Pays (N ++ R) vs ps := h.sub fun _ hx => List.mem_append_right _ hx
theorem Pays.len {R : List Ent} {vs : List Value} {ps : List Msg} (h : Pays R vs ps) : vs.length = ps.length := by
  induction h with
  | nil => rfl
  | cons _ _ ih => simp [ih]
theorem Pays.append {R : List Ent} {vs us : List Value} {ps qs : List Msg} (h : Pays R vs ps) (h' : Pays R us qs) : Pays R (vs ++ us) (ps ++ qs) := by
  induction h with
  | nil => exact h'
  | cons h1 _ ih => exact .cons h1 ih
theorem Pays.drop {R : List Ent} {vs : List Value} {ps : List Msg} (h : Pays R vs ps) : ∀ k, Pays R (vs.drop k) (ps.drop k) := by
  induction h with
  | nil => intro k; simp; exact .nil
  | @cons v p vs ps h1 h2 ih =>
    intro k
    cases k with
    | zero => exact .cons h1 h2
    | succ k => exact ih k
theorem Pays.take {R : List Ent} {vs : List Value} {ps : List Msg} (h : Pays R vs ps) : ∀ k, Pays R (vs.take k) (ps.take k) := by
  induction h with
  | nil => intro k; simp; exact .nil
  | @cons v p vs ps h1 h2 ih =>
    intro k
    cases k with
    | zero => exact .nil
    | succ k => exact .cons h1 (ih k)
theorem Pays.get {R : List Ent} {vs : List Value} {ps : List Msg} (h : Pays R vs ps) : ∀ {k : Nat}, k < ps.length → ∃ v, vs[k]? = some v ∧ Pay R v (ps.getD k []) := by
  induction h with
  | nil => intro k hk; simp at hk
  | @cons v p vs ps h1 h2 ih =>
    intro k hk
    cases k with
    | zero => exact ⟨v, rfl, h1⟩
    | succ k =>
      obtain ⟨u, h3, h4⟩ := ih (k := k) (by simpa using hk)
      exact ⟨u, by simpa using h3, by simpa using h4⟩
theorem Pay.one {R : List Ent} {v : Value} {p : Msg} (h : Pay R v p) : v.oneCell' = true := by
  obtain ⟨a, c, rfl⟩ := h.shape; rfl
theorem Pays.one {R : List Ent} {vs : List Value} {ps : List Msg} (h : Pays R vs ps) : oneCells vs = true := by
  induction h with
  | nil => rfl
  | cons h1 _ ih => simp [oneCells, ih, Pay.one h1]

structure Hd where
  most : Int
  octs : Int
  sent : List Msg
  first : Int
  next : List Msg
def szOf (l : List Msg) : Int := l.foldl (fun n p => w64 (n + p.length)) 0
theorem szOf_take {l : List Msg} {k : Nat} (h : k < l.length) : szOf (l.take (k + 1)) = w64 (szOf (l.take k) + (l.getD k []).length) := by
  unfold szOf
  rw [List.take_succ_eq_append_getElem h, List.foldl_append]
  have : l.getD k [] = l[k] := by simp [List.getD_eq_getElem?_getD, h]
  rw [this]
  rfl
def Hd.new (most octs : Int) : Hd := ⟨most, octs, [], 0, []⟩
def Hd.size (h : Hd) : Int := w64 (szOf h.sent + szOf h.next)
def Hd.waiting (h : Hd) : Int := szOf h.sent
def Hd.put (h : Hd) (p : Msg) : Hd × Int :=
  if (p.length : Int) < 3 then (h, 5) else if 273 < (p.length : Int) then (h, 6)
  else if h.most ≤ w64 (h.sent.length + h.next.length) ∨ h.octs < w64 (h.size + p.length) then (h, 3) else ({ h with next := h.next ++ [p] }, 0)
def Hd.last (h : Hd) : Int := ringAt (w64 (w64 (h.first + h.sent.length) - 1))
def Hd.sent1 (h : Hd) (p : Msg) : Hd := { h with sent := h.sent ++ [p], next := h.next.drop 1 }
def Hd.send (h : Hd) : Hd × Int × Msg × Int :=
  if (h.next.length : Int) = 0 then (h, 0, [], 2) else if 127 ≤ (h.sent.length : Int) then (h, 0, [], 3)
  else (h.sent1 (h.next.getD 0 []), (h.sent1 (h.next.getD 0 [])).last, h.next.getD 0 [], 0)
def Hd.sizeN (h : Hd) : Int := if (h.next.length : Int) = 0 then 0 else (h.next.getD 0 []).length
def Hd.at_ (h : Hd) (i : Int) : Int × Msg × Int := if i < 0 ∨ (h.sent.length : Int) ≤ i then (0, [], 2) else (ringAt (w64 (h.first + i)), h.sent.getD i.toNat [], 0)
def Hd.knows (h : Hd) (n : Int) : Bool := decide (n < 128) && decide (ringGap (ringPrev h.first) n ≤ ringGap (ringPrev h.first) h.last)
def Hd.gap (h : Hd) (n : Int) : Int := ringGap (ringPrev h.first) n
def Hd.free (h : Hd) (n : Int) : Hd × Int × Int := if ¬ h.knows n = true then (h, 0, 10) else ({ h with sent := h.sent.drop (h.gap n).toNat, first := ringNext n }, h.gap n, 0)
def Hd.rest (h : Hd) (n : Int) : List Msg × Int := if ¬ h.knows n = true then ([], 10) else (h.sent.drop (h.gap n).toNat ++ h.next, 0)
def Hd.flush (h : Hd) : Hd := { h with next := [] }
def Hd.clear (h : Hd) : Hd := { h with sent := [], next := [], first := 0 }

def holdObj (most octs : Int) (vs : Value) (first : Int) (vn : Value) : Obj := .cells (List.toArray [I64 most, I64 octs, vs, U8 first, vn]) 181 (0, 0)
theorem holdObj_eq (most octs : Int) (vs : Value) (first : Int) (vn : Value) : Obj.cells (List.toArray [I64 most, I64 octs, vs, U8 first, vn]) 181 (0, 0) = holdObj most octs vs first vn := rfl

/-- A hold's object o, the blocks es and en of its slices; R has what its messages lie in. -/
structure HdAt (R : List Ent) (h : Hd) (o : Obj) (es en : Ent) : Prop where
  out : ∃ vs xs vn xn, o = holdObj h.most h.octs vs h.first vn ∧ Slc 37 1 vs xs h.sent.length es ∧ Pays R xs h.sent ∧ Slc 37 1 vn xn h.next.length en ∧ Pays R xn h.next
theorem HdAt.sub {R R' : List Ent} {h : Hd} {o : Obj} {es en : Ent} (hh : HdAt R h o es en) (hs : ∀ x, x ∈ R → x ∈ R') : HdAt R' h o es en := ⟨by
  obtain ⟨vs, xs, vn, xn, h1, h2, h3, h4, h5⟩ := hh.out
  exact ⟨vs, xs, vn, xn, h1, h2, h3.sub hs, h4, h5.sub hs⟩⟩
theorem HdAt.mono {R N : List Ent} {h : Hd} {o : Obj} {es en : Ent} (hh : HdAt R h o es en) : HdAt (N ++ R) h o es en := hh.sub fun _ hx => List.mem_append_right _ hx

class HdOk (h : Hd) : Prop where
  most : h.most ≤ 100000
  len : h.sent.length + h.next.length ≤ 100000
  win : h.sent.length ≤ 127
  first : 0 ≤ h.first ∧ h.first < 128
  pay : ∀ p ∈ h.sent ++ h.next, p.length ≤ 273
theorem w64_id {n : Int} (h : -9223372036854775808 ≤ n ∧ n ≤ 9223372036854775807) : w64 n = n := IntWalk.i64_in n h
theorem w8_id {n : Int} (h : 0 ≤ n ∧ n ≤ 255) : w8 n = n := IntWalk.u8_in n h
theorem ringGap_eq (a b : Int) : ringGap a b = (b - a) % 128 := by
  have h1 : w8 (b - a) = (b - a) % 256 := IntKind.wrap_u8 _
  unfold ringGap
  rw [h1, Int.tmod_eq_emod_of_nonneg (by omega), w64_id (by omega)]
  omega
theorem ringPrev_eq (a : Int) : ringPrev a = (a + 127) % 128 := by
  unfold ringPrev
  have h1 : ∀ x, w8 x = x % 256 := fun x => IntKind.wrap_u8 _
  rw [h1, h1, Int.tmod_eq_emod_of_nonneg (by omega)]
  omega
theorem ringNext_eq (a : Int) : ringNext a = (a + 1) % 128 := by
  unfold ringNext
  have h1 : ∀ x, w8 x = x % 256 := fun x => IntKind.wrap_u8 _
  rw [h1, Int.tmod_eq_emod_of_nonneg (by omega)]
  omega
theorem ringAt_eq (n : Int) : ringAt n = n % 128 := by
  unfold ringAt
  have h1 : (BitVec.ofInt 64 n &&& BitVec.ofInt 64 127).toNat = (n % 18446744073709551616).toNat % 128 := by
    rw [BitVec.toNat_and]
    have : (BitVec.ofInt 64 127).toNat = 2 ^ 7 - 1 := by decide
    rw [this, Nat.and_two_pow_sub_one_eq_mod, BitVec.toNat_ofInt]
    rfl
  rw [h1, w64_id (by omega), w8_id (by omega)]
  omega
theorem Hd.last_eq {h : Hd} [hk : HdOk h] : h.last = (h.first + h.sent.length + 127) % 128 := by
  have := hk.win; have := hk.first
  unfold Hd.last
  rw [w64_id (n := h.first + h.sent.length) (by omega), w64_id (by omega), ringAt_eq]
  omega
theorem Hd.gap_eq (h : Hd) (n : Int) : h.gap n = (n - h.first + 1) % 128 := by
  unfold Hd.gap
  rw [ringGap_eq, ringPrev_eq]
  omega
theorem Hd.gap_last {h : Hd} [hk : HdOk h] : ringGap (ringPrev h.first) h.last = h.sent.length := by
  have := hk.win; have := hk.first
  rw [ringGap_eq, ringPrev_eq, Hd.last_eq]
  omega
theorem Hd.knows_eq {h : Hd} [hk : HdOk h] (n : Int) : h.knows n = (decide (n < 128) && decide (h.gap n ≤ h.sent.length)) := by
  unfold Hd.knows; rw [Hd.gap_last]; rfl
theorem Hd.gap_le {h : Hd} [hk : HdOk h] {n : Int} (hn : h.knows n = true) : 0 ≤ h.gap n ∧ h.gap n ≤ h.sent.length := by
  rw [Hd.knows_eq] at hn
  simp only [Bool.and_eq_true, decide_eq_true_eq] at hn
  refine ⟨?_, hn.2⟩
  rw [Hd.gap_eq]; omega
instance HdOk.send {h : Hd} [hk : HdOk h] : HdOk h.send.1 := by
  have h1 := hk.most; have h2 := hk.len; have h3 := hk.win; have h4 := hk.first; have h5 := hk.pay
  unfold Hd.send
  split
  · exact hk
  · split
    · exact hk
    · have h0 : 0 < h.next.length := by omega
      obtain ⟨p, r, hp⟩ : ∃ p r, h.next = p :: r := by
        cases hn : h.next with
        | nil => rw [hn] at h0; simp at h0
        | cons p r => exact ⟨p, r, rfl⟩
      refine ⟨h1, ?_, ?_, h4, ?_⟩
      · simp only [Hd.sent1, hp, List.drop_one, List.length_append, List.tail_cons, List.length_singleton]; rw [hp] at h2; simp at h2; omega
      · simp only [Hd.sent1, List.length_append, List.length_singleton]; omega
      · intro q hq
        apply h5
        simp only [Hd.sent1, hp, List.drop_one, List.tail_cons, List.append_assoc] at hq
        rw [hp]
        simpa using hq
instance HdOk.put {h : Hd} {p : Msg} [hk : HdOk h] : HdOk (h.put p).1 := by
  have h1 := hk.most; have h2 := hk.len; have h3 := hk.win; have h4 := hk.first; have h5 := hk.pay
  unfold Hd.put
  split
  · exact hk
  · split
    · exact hk
    · split
      · exact hk
      · rename_i h6 h7 h8
        refine ⟨h1, ?_, h3, h4, fun q hq => ?_⟩
        · simp only [List.length_append, List.length_singleton]
          rw [w64_id (by omega)] at h8
          omega
        · simp only [List.mem_append, List.mem_singleton] at hq
          rcases hq with hq | hq | hq
          · exact h5 q (by simp [hq])
          · exact h5 q (by simp [hq])
          · subst hq; omega
instance HdOk.free {h : Hd} {n : Int} [hk : HdOk h] : HdOk (h.free n).1 := by
  have h1 := hk.most; have h2 := hk.len; have h3 := hk.win; have h4 := hk.first; have h5 := hk.pay
  unfold Hd.free
  split
  · exact hk
  · refine ⟨h1, ?_, ?_, ?_, fun q hq => ?_⟩
    · simp only [List.length_drop]; omega
    · simp only [List.length_drop]; omega
    · simp only [ringNext_eq]; omega
    · simp only [List.mem_append] at hq
      rcases hq with hq | hq
      · exact h5 q (by simp [List.mem_of_mem_drop hq])
      · exact h5 q (by simp [hq])
instance HdOk.flush {h : Hd} [hk : HdOk h] : HdOk h.flush := by
  have h1 := hk.most; have h2 := hk.len; have h3 := hk.win; have h4 := hk.first; have h5 := hk.pay
  exact ⟨h1, by simp [Hd.flush]; omega, h3, h4, fun q hq => h5 q (by simp [Hd.flush] at hq; simp [hq])⟩
instance HdOk.clear {h : Hd} [hk : HdOk h] : HdOk h.clear := by
  have h1 := hk.most; have h2 := hk.len; have h3 := hk.win; have h4 := hk.first; have h5 := hk.pay
  exact ⟨h1, by simp [Hd.clear], by simp [Hd.clear], by simp [Hd.clear], fun q hq => by simp [Hd.clear] at hq⟩
theorem HdOk.new {m o : Int} (h : m ≤ 100000) : HdOk (Hd.new m o) := ⟨h, by simp [Hd.new], by simp [Hd.new], by simp [Hd.new], fun q hq => by simp [Hd.new] at hq⟩
end Go.Sm
