/- Slices over blocks that nobody writes any more: reading them, appending them (nothing, perhaps), cuts, clear. Plain theorems over any program. -/
import Derived.Test.YtdfljbffomhchaaGreatSh
import Derived.Deep.Upon
import Derived.Laws.StructEq
import Derived.Laws.BytesString
set_option linter.unusedVariables false
set_option linter.unusedSimpArgs false
namespace Go.Sm
open Go.RowKit

theorem nths_mid' : ∀ (xs pre post : List Value), nths (pre ++ (xs ++ post)) pre.length xs.length = some xs
  | [], pre, post => by simp [nths]
  | x :: r, pre, post => by
    have h1 : nth (pre ++ (x :: r ++ post)) pre.length = some x := by rw [nth_get]; simp
    have h2 := nths_mid' r (pre ++ [x]) post
    simp only [List.length_append, List.length_cons, List.length_nil, List.append_assoc, List.cons_append, List.nil_append] at h2
    simp only [List.length_cons, nths, h1]
    rw [List.cons_append, h2]
theorem nths_mid {pre xs post : List Value} {k n : Nat} (hk : pre.length = k) (hn : xs.length = n) : nths (pre ++ (xs ++ post)) k n = some xs := by
  subst hk; subst hn
  exact nths_mid' xs pre post
theorem nth_mid {pre xs post : List Value} {k i j : Nat} {v : Value} (hk : pre.length = k) (hj : j = k + i) (hv : xs[i]? = some v) : nth (pre ++ (xs ++ post)) j = some v := by
  subst hk; subst hj
  have hi := (List.getElem?_eq_some_iff.1 hv).1
  rw [nth_get, List.getElem?_append_right (by omega), Nat.add_sub_cancel_left, List.getElem?_append_left hi]
  exact hv

theorem Find.of_mem {L : List Ent} {q : Nat} {o : Obj} (h : some (q, o) ∈ L) : Find L q o := by
  obtain ⟨i, hi⟩ := List.mem_iff_getElem?.1 h
  exact ⟨⟨i, hi⟩⟩

/-- v is a slice of elements of one cell each, and these are xs; nobody asks who owns them. -/
structure Look (R : List Ent) (E : TypeId) (v : Value) (xs : List Value) : Prop where
  out : ∃ a c, v = .slice a xs.length c ∧ (xs = [] ∨ ∃ q k pre post, a = some ⟨q, k, none⟩ ∧ pre.length = k ∧ ∃ fz, some (q, Obj.cells (pre ++ (xs ++ post)).toArray E fz) ∈ R)
theorem Look.sub {R R' : List Ent} {E : TypeId} {v : Value} {xs : List Value} (h : Look R E v xs) (hs : ∀ x, x ∈ R → x ∈ R') : Look R' E v xs := ⟨by
  obtain ⟨a, c, h1, h2⟩ := h.out
  refine ⟨a, c, h1, h2.imp id ?_⟩
  rintro ⟨q, k, pre, post, h3, h4, fz, h5⟩
  exact ⟨q, k, pre, post, h3, h4, fz, hs _ h5⟩⟩
theorem Look.mono {R N : List Ent} {E : TypeId} {v : Value} {xs : List Value} (h : Look R E v xs) : Look (N ++ R) E v xs := h.sub fun _ hx => List.mem_append_right _ hx
theorem Look.cons {R : List Ent} {x : Ent} {E : TypeId} {v : Value} {xs : List Value} (h : Look R E v xs) : Look (x :: R) E v xs := h.sub fun _ hx => List.mem_cons_of_mem _ hx
theorem Look.shape {R : List Ent} {E : TypeId} {v : Value} {xs : List Value} (h : Look R E v xs) : ∃ a c, v = .slice a xs.length c := by
  obtain ⟨a, c, h1, _⟩ := h.out
  exact ⟨a, c, h1⟩
theorem Look.find {R : List Ent} {E : TypeId} {v : Value} {xs : List Value} (h : Look R E v xs) (hx : xs ≠ []) :
    ∃ q k c pre post, v = .slice (some ⟨q, k, none⟩) xs.length c ∧ pre.length = k ∧ ∃ fz, Find R q (.cells (pre ++ (xs ++ post)).toArray E fz) := by
  obtain ⟨a, c, h1, h2⟩ := h.out
  obtain ⟨q, k, pre, post, rfl, h4, fz, h5⟩ := h2.resolve_left hx
  exact ⟨q, k, c, pre, post, h1, h4, fz, .of_mem h5⟩
theorem Look.nil {R : List Ent} {E : TypeId} (a : Option Addr) (c : Nat) : Look R E (.slice a 0 c) [] := ⟨⟨a, c, rfl, .inl rfl⟩⟩
theorem Slc.look {E n : Nat} {v : Value} {xs : List Value} {x : Ent} {L : List Ent} (h : Slc E 1 v xs n x) (hm : x ∈ L) : Look L E v xs := by
  cases h with
  | nil => exact .nil _ _
  | «at» q k n c pre xs post hk hx hp hn hc =>
    simp only [Nat.mul_one] at hx
    subst hx
    exact ⟨⟨_, _, rfl, .inr ⟨q, k, pre, post, rfl, hk, (0, 0), hm⟩⟩⟩
theorem Slc.cap {E sz n : Nat} {v : Value} {xs : List Value} {x : Ent} (h : Slc E sz v xs n x) : ∃ p c, v = .slice p n c ∧ n ≤ c ∧ c ≤ maxLen ∧ (p = none → c = 0) := by
  cases h with
  | nil => exact ⟨_, _, rfl, by omega, by decide, fun _ => rfl⟩
  | «at» q k n c pre xs post hk hx hp hn hc => exact ⟨_, _, rfl, hn, hc, by simp⟩

/-- The front is cut off. -/
theorem Slc.cut {E n c : Nat} {p : Option Addr} {xs : List Value} {x : Ent} (h : Slc E 1 (.slice p n c) xs n x) {i : Nat} (hi : i ≤ n) :
    Slc E 1 (.slice (if c = i then p else p.map (·.add (i * 1))) (n - i) (c - i)) (xs.drop i) (n - i) x := by
  generalize hv : Value.slice p n c = v at h
  cases h with
  | nil =>
    cases hv
    obtain rfl : i = 0 := by omega
    exact .nil
  | «at» q k n' c' pre _ post hk hx hp hn hc =>
    cases hv
    simp only [Nat.mul_one] at hx hp ⊢
    by_cases hci : c = i
    · subst hci
      obtain rfl : n = c := by omega
      rw [if_pos rfl]
      rw [List.drop_of_length_le (by omega)]
      have := Slc.at (E := E) (sz := 1) q k (n - n) (n - n) pre [] (xs ++ post) hk (by simp) (by omega) (by omega) (by omega)
      simpa using this
    · rw [if_neg hci]
      have h1 := Slc.at (E := E) (sz := 1) q (k + i) (n - i) (c - i) (pre ++ xs.take i) (xs.drop i) post (by rw [List.length_append, List.length_take]; omega) (by rw [List.length_drop]; omega) (by omega) (by omega) (by omega)
      have h2 : pre ++ xs.take i ++ (xs.drop i ++ post) = pre ++ (xs ++ post) := by
        rw [List.append_assoc, ← List.append_assoc (xs.take i), List.take_append_drop]
      rw [h2] at h1
      simpa [add_plain] using h1
/-- What is cut out of the middle can be read. -/
theorem Look.cut {R : List Ent} {E c c' : TypeId} {m : Nat} {p : Option Addr} {xs : List Value} (h : Look R E (.slice p xs.length c) xs) {i j : Nat} (hi : i ≤ j) (hj : j ≤ xs.length) (hm : m = i → i = j) :
    Look R E (.slice (if m = i then p else p.map (·.add (i * 1))) (j - i) c') ((xs.take j).drop i) := by
  have hl : ((xs.take j).drop i).length = j - i := by rw [List.length_drop, List.length_take]; omega
  by_cases hij : i = j
  · subst hij
    have h0 : (xs.take i).drop i = [] := List.drop_of_length_le (by rw [List.length_take]; omega)
    rw [h0, Nat.sub_self]
    exact .nil _ _
  · rw [if_neg (fun h => hij (hm h))]
    have hx : xs ≠ [] := fun e => by rw [e] at hj; simp at hj; omega
    obtain ⟨a, c1, h1, h2⟩ := h.out
    cases h1
    obtain ⟨q, k, pre, post, rfl, h4, fz, h5⟩ := h2.resolve_left hx
    refine ⟨⟨some ⟨q, k + i, none⟩, c', by rw [hl]; simp [add_plain], .inr ⟨q, k + i, pre ++ xs.take i, xs.drop j ++ post, rfl, by rw [List.length_append, List.length_take]; omega, fz, ?_⟩⟩⟩
    have h6 : pre ++ xs.take i ++ ((xs.take j).drop i ++ (xs.drop j ++ post)) = pre ++ (xs ++ post) := by
      have h7 : xs.take i = (xs.take j).take i := by rw [List.take_take, Nat.min_eq_left hi]
      rw [h7, List.append_assoc, ← List.append_assoc ((xs.take j).take i), List.take_append_drop, ← List.append_assoc (xs.take j), List.take_append_drop]
    rw [h6]; exact h5

section
variable {P : Program} {w0 : World} {n : Nat} {e : Env} {L : List Ent} {dst : Option Tmp} {ty : TypeId} {pos : String} {af : Array Edge} {g : Option (Nat × Bool)}

theorem run_append_zero {T E sz bytes nn c c' : Nat} {z : Value} {a b : Option Addr} (hu : Und P T (.slice E)) (hI : Info P E sz bytes z) (hc : nn ≤ c) (w : World) :
    (Builtin.append_ #[T, T] ty #[.slice a nn c, .slice b 0 c']).run P w = .ok (.slice a nn c) w := by
  obtain ⟨inf, hinf, hz, hsz, hby⟩ := info_of (P := P) (E := E)
  have hl : ∀ b : Option Addr, (Builtin.firstCells inf.size 0 (.slice b 0 c')).run P w = .ok #[] w := fun b => by
    cases b with
    | none => simp [Builtin.firstCells]
    | some b => 
      have := run_firstCells_some (P := P) w inf.size 0 b 0 c' [] (by simp) (by simp)
      simpa using this
  cases a <;> simp [Builtin.append_, run_underlying hu.eq, sizeOf, typeInfo, hinf, Builtin.lenOf, hc, hl, storeCells]

theorem Ef_appendS {T E bytes nn i : Nat} {z v vy : Value} {xs ys : List Value} {x : Ent} {X Y : Operand} [hu : Und P T (.slice E)] [hI : Info P E 1 bytes z]
    (h1 : e.op X = some v) (h2 : e.op Y = some vy) (hs : Slc E 1 v xs nn x) (hi : L[i]? = some x) (hy : Look L E vy ys) (hyo : oneCells ys = true)
    (hb : (nn + ys.length) * bytes ≤ 140737488355328) (h63 : nn + ys.length ≤ 9223372036854775807) :
    Ef P w0 n e L ⟨dst, .call { callee := .builtin .append, args := #[X, Y], argTypes := #[T, T] }, ty, pos, af, g⟩ (fun v' L' => ∃ x', Slc E 1 v' (xs ++ ys) (nn + ys.length) x' ∧ L' = L.set i x') := by
  by_cases h0 : ys = []
  · subst h0
    obtain ⟨a, c, rfl⟩ := hy.shape
    obtain ⟨p, c', rfl, hcc, _⟩ := hs.cap
    intro aa w ha hw
    have hr := run_append_zero (ty := ty) (a := p) (b := a) (c' := c) hu hI hcc w
    refine ⟨.slice p nn c', w, L, .inl ?_, ⟨x, by simpa using hs, (set_same hi).symm⟩, hw⟩
    simp [execOp, resolve, invoke, builtin, ha.op h1, ha.op h2, hr]
  · obtain ⟨q, k, c, pre, post, rfl, hk, fz, hf⟩ := hy.find h0
    have hm : 0 < ys.length := List.length_pos_iff.2 h0
    exact Ef_append h1 h2 hs hi hf (nths_mid hk (by simp)) hyo hb h63 hm

/-- A full slice: what is appended (if anything is) makes a new one. -/
theorem Ef_appendN {T E bytes : Nat} {z vy : Value} {p : Option Addr} {xs ys : List Value} {X Y : Operand} [hu : Und P T (.slice E)] [hI : Info P E 1 bytes z]
    (h1 : e.op X = some (.slice p xs.length xs.length)) (h2 : e.op Y = some vy) (hx : Look L E (.slice p xs.length xs.length) xs) (hp : p = none → xs = []) (hy : Look L E vy ys) 
    (hb : (xs.length + ys.length) * bytes ≤ 140737488355328) (h63 : xs.length + ys.length ≤ 9223372036854775807) :
    Ef P w0 n e L ⟨dst, .call { callee := .builtin .append, args := #[X, Y], argTypes := #[T, T] }, ty, pos, af, g⟩ (fun v' L' => ∃ N, L' = N ++ L ∧ Look L' E v' (xs ++ ys)) := by
  intro aa w ha hw
  by_cases h0 : ys = []
  · subst h0
    obtain ⟨a, c, rfl⟩ := hy.shape
    have hr := run_append_zero (ty := ty) (a := p) (nn := xs.length) (c := xs.length) (b := a) (c' := c) hu hI (Nat.le_refl _) w
    refine ⟨.slice p xs.length xs.length, w, L, .inl ?_, ⟨[], rfl, by simpa using hx⟩, hw⟩
    simp [execOp, resolve, invoke, builtin, ha.op h1, ha.op h2, hr]
  · obtain ⟨q, k, c, pre, post, rfl, hk, fz, hf⟩ := hy.find h0
    have hm : 0 < ys.length := List.length_pos_iff.2 h0
    obtain ⟨inf, hinf, hz, hsz, hby⟩ := info_of (P := P) (E := E)
    have hzc := hI.cells
    have hnews : ∀ j u, ys[j]? = some u → w.cell? ((⟨q, k, none⟩ : Addr).add j) = some u := fun j u hj => by
      have hjl := (List.getElem?_eq_some_iff.1 hj).1
      rw [add_plain, heap_cell (hf.heap hw), List.getElem?_append_right (by omega), hk, Nat.add_sub_cancel_left, List.getElem?_append_left hjl]; exact hj
    have hexec : (execOp aa.eval ⟨dst, .call { callee := .builtin .append, args := #[X, Y], argTypes := #[T, T] }, ty, pos, af, g⟩).run P w =
        ((Builtin.append_ #[T, T] ty #[.slice p xs.length xs.length, .slice (some ⟨q, k, none⟩) ys.length c]).run P w).andThen fun u w' => .ok (.value u) w' := by
      simp [execOp, resolve, invoke, builtin, ha.op h1, ha.op h2]
    have key : ∃ cap, (Builtin.append_ #[T, T] ty #[.slice p xs.length xs.length, .slice (some ⟨q, k, none⟩) ys.length c]).run P w =
        .ok (.slice (some ⟨w.heap.size, 0, none⟩) (xs.length + ys.length) cap) (w.drew.alloc (.cells ((xs ++ ys).toArray ++ Builtin.zeroCells z.cells (cap - (xs.length + ys.length))) E)) := by
      cases hpp : p with
      | none =>
        have hx0 := hp hpp
        subst hx0
        have hr := run_append_nil (P := P) w T ty E inf z hu.eq hinf hz ⟨q, k, none⟩ ys.length c ys (by rw [hsz]; simp) hnews hm (by omega) (by rw [hby]; simp only [List.length_nil, Nat.zero_add] at hb; omega)
        refine ⟨_, by simpa using hr⟩
      | some b =>
        have holds : ∀ j u, xs[j]? = some u → w.cell? (b.add j) = some u := fun j u hj => by
          have hx0 : xs ≠ [] := fun e => by rw [e] at hj; simp at hj
          obtain ⟨q', k', c', pre', post', h3, h4, fz', h5⟩ := hx.find hx0
          rw [hpp] at h3
          cases h3
          have hjl := (List.getElem?_eq_some_iff.1 hj).1
          rw [add_plain, heap_cell (h5.heap hw), List.getElem?_append_right (by omega), h4, Nat.add_sub_cancel_left, List.getElem?_append_left hjl]; exact hj
        have hr := run_append_grow (P := P) w T ty E inf z hu.eq hinf hz b xs.length xs.length xs (by rw [hsz]; simp) holds ⟨q, k, none⟩ ys.length c ys (by rw [hsz]; simp) hnews (by omega) (by omega)
          (by rw [hby]; exact growslice_fits (by omega) hb)
        refine ⟨_, by simpa using hr⟩
    obtain ⟨cap, hr⟩ := key
    have h9 : (Obj.cells ((xs ++ ys).toArray ++ Builtin.zeroCells z.cells (cap - (xs.length + ys.length))) E) = .cells ([] ++ ((xs ++ ys) ++ (Builtin.zeroCells z.cells (cap - (xs.length + ys.length))).toList)).toArray E (0, 0) := by
      congr 1
      apply Array.ext'
      simp
    rw [h9] at hr
    have hall := hw.drew.alloc (.cells ([] ++ ((xs ++ ys) ++ (Builtin.zeroCells z.cells (cap - (xs.length + ys.length))).toList)).toArray E (0, 0))
    refine ⟨_, _, _, .inl (by rw [hexec, hr]; rfl), ⟨[_], rfl, ?_⟩, hall⟩
    refine ⟨⟨some ⟨w.heap.size, 0, none⟩, cap, by simp, .inr ⟨w.heap.size, 0, [], (Builtin.zeroCells z.cells (cap - (xs.length + ys.length))).toList, rfl, rfl, (0, 0), ?_⟩⟩⟩
    simp

/-- There is room: the block is written in place. -/
theorem Ef_appendR {T E bytes nn c q k i : Nat} {z vy : Value} {pre xs post ys : List Value} {T' : TypeId} {X Y : Operand} [hu : Und P T (.slice E)] [hI : Info P E 1 bytes z]
    (h1 : e.op X = some (.slice (some ⟨q, k, none⟩) nn c)) (h2 : e.op Y = some vy) (hk : pre.length = k) (hx : xs.length = nn) (hp : c - nn ≤ post.length)
    (hi : L[i]? = some (some (q, .cells (pre ++ (xs ++ post)).toArray T' (0, 0)))) (hy : Look L E vy ys) (hyo : oneCells ys = true) (hroom : nn + ys.length ≤ c) :
    Ef P w0 n e L ⟨dst, .call { callee := .builtin .append, args := #[X, Y], argTypes := #[T, T] }, ty, pos, af, g⟩
      (fun v' L' => v' = .slice (some ⟨q, k, none⟩) (nn + ys.length) c ∧ L' = L.set i (some (q, .cells (pre ++ ((xs ++ ys) ++ post.drop ys.length)).toArray T' (0, 0)))) := by
  intro aa w ha hw
  by_cases h0 : ys = []
  · subst h0
    obtain ⟨a, c', rfl⟩ := hy.shape
    have hr := run_append_zero (ty := ty) (a := some ⟨q, k, none⟩) (b := a) (c' := c') hu hI (show nn ≤ c by simp at hroom; omega) w
    refine ⟨.slice (some ⟨q, k, none⟩) nn c, w, L, .inl ?_, ⟨rfl, ?_⟩, hw⟩
    · simp [execOp, resolve, invoke, builtin, ha.op h1, ha.op h2, hr]
    · simp only [List.append_nil, List.length_nil, List.drop_zero]
      exact (set_same hi).symm
  · obtain ⟨q', k', c', pre', post', rfl, hk', fz, hf⟩ := hy.find h0
    obtain ⟨inf, hinf, hz, hsz, hby⟩ := info_of (P := P) (E := E)
    have hnews : ∀ j u, ys[j]? = some u → w.cell? ((⟨q', k', none⟩ : Addr).add j) = some u := fun j u hj => by
      have hjl := (List.getElem?_eq_some_iff.1 hj).1
      rw [add_plain, heap_cell (hf.heap hw), List.getElem?_append_right (by omega), hk', Nat.add_sub_cancel_left, List.getElem?_append_left hjl]; exact hj
    have hh := (hw.mem i q _ hi).1
    have hfc := run_firstCells_some (P := P) w 1 ys.length ⟨q', k', none⟩ ys.length c' ys (by simp) hnews
    have hst := run_storeCells_at P q (k + nn * 1) T' ys 0 (pre ++ (xs ++ post)).toArray w hh (by simp only [List.size_toArray, List.length_append]; omega) (oneCells_all ys hyo)
    have hlist : ((pre ++ (xs ++ post)).take (k + nn * 1) ++ ys ++ (pre ++ (xs ++ post)).drop (k + nn * 1 + ys.length)) = pre ++ ((xs ++ ys) ++ post.drop ys.length) := by
      have e1 : k + nn * 1 = (pre ++ xs).length := by rw [List.length_append]; omega
      rw [← List.append_assoc pre xs post, e1, List.take_left, ← List.drop_drop, List.drop_left]
      simp
    simp only [Nat.add_zero] at hst
    rw [hlist] at hst
    refine ⟨.slice (some ⟨q, k, none⟩) (nn + ys.length) c, _, _, .inl ?_, ⟨rfl, rfl⟩, hw.setRow (new := pre ++ ((xs ++ ys) ++ post.drop ys.length)) hi⟩
    simp [execOp, resolve, invoke, builtin, ha.op h1, ha.op h2, Builtin.append_, run_underlying hu.eq, sizeOf, typeInfo, hinf, hsz, Builtin.lenOf, hroom, hfc, add_plain]
    simp at hst
    simp [hst]

theorem zeroCells_one {z : Value} (hz : z.oneCell' = true) (m : Nat) : (Builtin.zeroCells z.cells m).toList = List.replicate m z := by
  have : z.cells = #[z] := by cases z <;> first | rfl | (cases hz)
  rw [this]
  simp [Builtin.zeroCells]
  apply List.ext_getElem
  · simp
  · intro i h1 h2
    simp [Nat.mod_one]
theorem Ef_clear {T E bytes m c q k i : Nat} {z : Value} {l : List Value} {T' : TypeId} {X : Operand} [hu : Und P T (.slice E)] [hI : Info P E 1 bytes z] (hz1 : z.oneCell' = true)
    (h1 : e.op X = some (.slice (some ⟨q, k, none⟩) m c)) (hi : L[i]? = some (some (q, .cells l.toArray T' (0, 0)))) (hk : k + m ≤ l.length) :
    Ef P w0 n e L ⟨dst, .call { callee := .builtin .clear, args := #[X], argTypes := #[T] }, ty, pos, af, g⟩
      (fun _ L' => L' = L.set i (some (q, .cells (l.take k ++ List.replicate m z ++ l.drop (k + m)).toArray T' (0, 0)))) := by
  intro aa w ha hw
  obtain ⟨inf, hinf, hz, hsz, hby⟩ := info_of (P := P) (E := E)
  by_cases h0 : m = 0
  · subst h0
    refine ⟨.tuple #[], w, L, .inl ?_, ?_, hw⟩
    · simp [execOp, resolve, invoke, builtin, ha.op h1, Builtin.clear_, run_underlying hu.eq]
    · have h2 : l.take k ++ List.replicate 0 z ++ l.drop (k + 0) = l := by simp
      rw [h2, set_same hi]
  · have hh := (hw.mem i q _ hi).1
    have hone : ∀ u ∈ List.replicate m z, u.oneCell' = true := fun u hu => by rw [List.eq_of_mem_replicate hu]; exact hz1
    have hst := run_storeCells_at P q k T' (List.replicate m z) 0 l.toArray w hh (by simpa using hk) hone
    simp only [Nat.add_zero, List.length_replicate] at hst
    refine ⟨.tuple #[], _, _, .inl ?_, rfl, hw.setRow (new := l.take k ++ List.replicate m z ++ l.drop (k + m)) hi⟩
    obtain ⟨m', rfl⟩ : ∃ m', m = m' + 1 := ⟨m - 1, by omega⟩
    simp [execOp, resolve, invoke, builtin, ha.op h1, Builtin.clear_, run_underlying hu.eq, zeroValue, typeInfo, hinf, hz, zeroCells_one hz1]
    simp at hst
    simp [hst]
end

section
variable {P : Program} {w0 : World} {n : Nat} {e : Env} {L LS : List Ent} {Q : Exit → Act → World → Prop} {ops : Array Oper} {l : List Oper} {rest : List Oper} {steps : List (Nat × Nat × Oper)} {i d j : Nat} {ty : TypeId} {pos : String} {af : Array Edge}
theorem xaS {T E bytes nn i : Nat} {z v vy : Value} {xs ys : List Value} {x : Ent} {X Y : Operand} [hu : Und P T (.slice E)] [hI : Info P E 1 bytes z]
    (h1 : e.op X = some v) (h2 : e.op Y = some vy) (hs : Slc E 1 v xs nn x) (hi : L[i]? = some x) (hy : Look L E vy ys) (hyo : oneCells ys = true)
    (hb : (nn + ys.length) * bytes ≤ 140737488355328) (h63 : nn + ys.length ≤ 9223372036854775807) (hd : Nat.blt d n = true)
    (hk : ∀ v' x', Slc E 1 v' (xs ++ ys) (nn + ys.length) x' → GL P w0 ops Q n rest ((d, v') :: e) (L.set i x')) :
    GL P w0 ops Q n (⟨some d, .call { callee := .builtin .append, args := #[X, Y], argTypes := #[T, T] }, ty, pos, af, none⟩ :: rest) e L :=
  GL_ef (Ef_appendS h1 h2 hs hi hy hyo hb h63) hd fun v' L' ⟨x', hs', hL⟩ => by subst hL; exact hk v' x' hs'
theorem UaS {T E bytes nn i : Nat} {z v vy : Value} {xs ys : List Value} {x : Ent} {X Y : Operand} [hu : Und P T (.slice E)] [hI : Info P E 1 bytes z]
    (h1 : e.op X = some v) (h2 : e.op Y = some vy) (hs : Slc E 1 v xs nn x) (hi : L[i]? = some x) (hy : Look L E vy ys) (hyo : oneCells ys = true)
    (hb : (nn + ys.length) * bytes ≤ 140737488355328) (h63 : nn + ys.length ≤ 9223372036854775807) (hd : Nat.blt d n = true)
    (hk : ∀ v' x', Slc E 1 v' (xs ++ ys) (nn + ys.length) x' → GD P w0 l Q LS n steps ((d, v') :: e) (L.set i x')) :
    GD P w0 l Q LS n ((2, j, ⟨some d, .call { callee := .builtin .append, args := #[X, Y], argTypes := #[T, T] }, ty, pos, af, none⟩) :: steps) e L :=
  GD_ef (Ef_appendS h1 h2 hs hi hy hyo hb h63) hd fun v' L' ⟨x', hs', hL⟩ => by subst hL; exact hk v' x' hs'
theorem xaN {T E bytes : Nat} {z vy : Value} {p : Option Addr} {xs ys : List Value} {X Y : Operand} [hu : Und P T (.slice E)] [hI : Info P E 1 bytes z]
    (h1 : e.op X = some (.slice p xs.length xs.length)) (h2 : e.op Y = some vy) (hx : Look L E (.slice p xs.length xs.length) xs) (hp : p = none → xs = []) (hy : Look L E vy ys) 
    (hb : (xs.length + ys.length) * bytes ≤ 140737488355328) (h63 : xs.length + ys.length ≤ 9223372036854775807) (hd : Nat.blt d n = true)
    (hk : ∀ v' N, Look (N ++ L) E v' (xs ++ ys) → GL P w0 ops Q n rest ((d, v') :: e) (N ++ L)) :
    GL P w0 ops Q n (⟨some d, .call { callee := .builtin .append, args := #[X, Y], argTypes := #[T, T] }, ty, pos, af, none⟩ :: rest) e L :=
  GL_ef (Ef_appendN h1 h2 hx hp hy hb h63) hd fun v' L' ⟨N, hL, hs'⟩ => by subst hL; exact hk v' N hs'
theorem UaN {T E bytes : Nat} {z vy : Value} {p : Option Addr} {xs ys : List Value} {X Y : Operand} [hu : Und P T (.slice E)] [hI : Info P E 1 bytes z]
    (h1 : e.op X = some (.slice p xs.length xs.length)) (h2 : e.op Y = some vy) (hx : Look L E (.slice p xs.length xs.length) xs) (hp : p = none → xs = []) (hy : Look L E vy ys) 
    (hb : (xs.length + ys.length) * bytes ≤ 140737488355328) (h63 : xs.length + ys.length ≤ 9223372036854775807) (hd : Nat.blt d n = true)
    (hk : ∀ v' N, Look (N ++ L) E v' (xs ++ ys) → GD P w0 l Q LS n steps ((d, v') :: e) (N ++ L)) :
    GD P w0 l Q LS n ((2, j, ⟨some d, .call { callee := .builtin .append, args := #[X, Y], argTypes := #[T, T] }, ty, pos, af, none⟩) :: steps) e L :=
  GD_ef (Ef_appendN h1 h2 hx hp hy hb h63) hd fun v' L' ⟨N, hL, hs'⟩ => by subst hL; exact hk v' N hs'
theorem xcl {T E bytes m c q k i : Nat} {z : Value} {l' : List Value} {T' : TypeId} {X : Operand} [hu : Und P T (.slice E)] [hI : Info P E 1 bytes z] (hz1 : z.oneCell' = true)
    (h1 : e.op X = some (.slice (some ⟨q, k, none⟩) m c)) (hi : L[i]? = some (some (q, .cells l'.toArray T' (0, 0)))) (hk : k + m ≤ l'.length)
    (h : GL P w0 ops Q n rest e (L.set i (some (q, .cells (l'.take k ++ List.replicate m z ++ l'.drop (k + m)).toArray T' (0, 0))))) :
    GL P w0 ops Q n (⟨none, .call { callee := .builtin .clear, args := #[X], argTypes := #[T] }, ty, pos, af, none⟩ :: rest) e L :=
  GL_ef0 (Ef_clear hz1 h1 hi hk) h
theorem Ucl {T E bytes m c q k i : Nat} {z : Value} {l' : List Value} {T' : TypeId} {X : Operand} [hu : Und P T (.slice E)] [hI : Info P E 1 bytes z] (hz1 : z.oneCell' = true)
    (h1 : e.op X = some (.slice (some ⟨q, k, none⟩) m c)) (hi : L[i]? = some (some (q, .cells l'.toArray T' (0, 0)))) (hk : k + m ≤ l'.length)
    (h : GD P w0 l Q LS n steps e (L.set i (some (q, .cells (l'.take k ++ List.replicate m z ++ l'.drop (k + m)).toArray T' (0, 0))))) :
    GD P w0 l Q LS n ((2, j, ⟨none, .call { callee := .builtin .clear, args := #[X], argTypes := #[T] }, ty, pos, af, none⟩) :: steps) e L :=
  GD_ef0 (Ef_clear hz1 h1 hi hk) h
theorem xaR {T E bytes nn c q k i : Nat} {z vy : Value} {pre xs post ys : List Value} {T' : TypeId} {X Y : Operand} [hu : Und P T (.slice E)] [hI : Info P E 1 bytes z]
    (h1 : e.op X = some (.slice (some ⟨q, k, none⟩) nn c)) (h2 : e.op Y = some vy) (hk : pre.length = k) (hx : xs.length = nn) (hp : c - nn ≤ post.length)
    (hi : L[i]? = some (some (q, .cells (pre ++ (xs ++ post)).toArray T' (0, 0)))) (hy : Look L E vy ys) (hyo : oneCells ys = true) (hroom : nn + ys.length ≤ c) (hd : Nat.blt d n = true)
    (h : GL P w0 ops Q n rest ((d, .slice (some ⟨q, k, none⟩) (nn + ys.length) c) :: e) (L.set i (some (q, .cells (pre ++ ((xs ++ ys) ++ post.drop ys.length)).toArray T' (0, 0))))) :
    GL P w0 ops Q n (⟨some d, .call { callee := .builtin .append, args := #[X, Y], argTypes := #[T, T] }, ty, pos, af, none⟩ :: rest) e L :=
  GL_ef (Ef_appendR h1 h2 hk hx hp hi hy hyo hroom) hd fun v' L' ⟨hv, hL⟩ => by subst hv; subst hL; exact h
theorem UaR {T E bytes nn c q k i : Nat} {z vy : Value} {pre xs post ys : List Value} {T' : TypeId} {X Y : Operand} [hu : Und P T (.slice E)] [hI : Info P E 1 bytes z]
    (h1 : e.op X = some (.slice (some ⟨q, k, none⟩) nn c)) (h2 : e.op Y = some vy) (hk : pre.length = k) (hx : xs.length = nn) (hp : c - nn ≤ post.length)
    (hi : L[i]? = some (some (q, .cells (pre ++ (xs ++ post)).toArray T' (0, 0)))) (hy : Look L E vy ys) (hyo : oneCells ys = true) (hroom : nn + ys.length ≤ c) (hd : Nat.blt d n = true)
    (h : GD P w0 l Q LS n steps ((d, .slice (some ⟨q, k, none⟩) (nn + ys.length) c) :: e) (L.set i (some (q, .cells (pre ++ ((xs ++ ys) ++ post.drop ys.length)).toArray T' (0, 0))))) :
    GD P w0 l Q LS n ((2, j, ⟨some d, .call { callee := .builtin .append, args := #[X, Y], argTypes := #[T, T] }, ty, pos, af, none⟩) :: steps) e L :=
  GD_ef (Ef_appendR h1 h2 hk hx hp hi hy hyo hroom) hd fun v' L' ⟨hv, hL⟩ => by subst hv; subst hL; exact h
/-- An append where loads may still come. -/
theorem Eap {T E sz bytes nn m c k q i : Nat} {z v : Value} {xs ys l' : List Value} {fz : Nat × Nat} {T' : TypeId} {x : Ent} {X Y : Operand} [hu : Und P T (.slice E)] [hI : Info P E sz bytes z]
    (h1 : e.op X = some v) (h2 : e.op Y = some (.slice (some ⟨q, k, none⟩) m c)) (hs : Slc E sz v xs nn x) (hi : L[i]? = some x) (hf : Find L q (.cells l'.toArray T' fz)) (hy : nths l' k (m * sz) = some ys) (hyo : oneCells ys = true)
    (hb : (nn + m) * bytes ≤ 140737488355328) (h63 : nn + m ≤ 9223372036854775807) (hm : 0 < m) (hd : Nat.blt d n = true)
    (hE : ∀ v' x', Slc E sz v' (xs ++ ys) (nn + m) x' → ∀ w, Own w0 w (L.set i x') → Own w0 w LS)
    (hk : ∀ v' x', Slc E sz v' (xs ++ ys) (nn + m) x' → GD P w0 l Q LS n steps ((d, v') :: e) (L.set i x')) :
    GD P w0 l Q LS n ((3, j, ⟨some d, .call { callee := .builtin .append, args := #[X, Y], argTypes := #[T, T] }, ty, pos, af, none⟩) :: steps) e L :=
  GD_efE (Ef_append h1 h2 hs hi hf hy hyo hb h63 hm) hd fun v' L' ⟨x', hs', hL⟩ => by subst hL; exact ⟨hE v' x' hs', hk v' x' hs'⟩
instance Sub.head {x : Ent} {L : List Ent} : Sub (x :: L) [x] := ⟨fun w0 w h => h.sub (by simp)⟩
theorem GC_drawS {id n : Nat} {w0 : World} {e e' : Env} {L : List Ent} {l : List Oper} (LS : List Ent) (ks : List Nat) (π : List (Nat × Nat)) (he : e.keep ks = e') (hm : P.follows .mixedOrders = true)
    (hB : (Region.noSelect l.toArray && (Nat.beq π.length l.length && orderB l.toArray (earlyOf π) π (Array.replicate l.length false))) = true) [hQ : PanicOk Q]
    (h : GD P w0 l Q LS n (stepsOf l π) e' L) : GC P w0 n (.region id l.toArray true) Q e L := GC_keep ks (GC_draw' LS π hm hB (by rw [he]; exact h))
end
class IsI (P : Program) (T : TypeId) : Prop where
  eq : (match P.underlying T with | some (.interface _) => true | _ => false) = true
theorem IsI.und {P : Program} {T : TypeId} [h : IsI P T] : ∃ ms, P.underlying T = some (.interface ms) := by
  have := h.eq
  split at this
  · exact ⟨_, by assumption⟩
  · cases this
section
variable {P : Program} {w0 : World} {n : Nat} {e : Env} {L LS : List Ent} {Q : Exit → Act → World → Prop} {ops : Array Oper} {l : List Oper} {rest : List Oper} {steps : List (Nat × Nat × Oper)} {i d j : Nat} {ty : TypeId} {pos : String} {af : Array Edge} {dst : Option Tmp} {g : Option (Nat × Bool)}
theorem EvF_eqNilI {x y : Operand} {T T' t : TypeId} {u : Value} [hu : IsI P T] (hx : e.op x = some (.iface t u)) (hy : e.op y = some .nilIface) : EvF P n e ⟨dst, .binOp .eql T x y T', ty, pos, af, g⟩ (.bool false) :=
  fun a w ha => by
    obtain ⟨ms, h1⟩ := hu.und
    have h3 : ∀ d, (Op.equalIn (d + 1) T (.iface t u) .nilIface).run P w = .ok false w := fun d => by simp [Op.equalIn, run_underlying h1]
    have h2 : (Op.equalIn Op.maxDepth T (.iface t u) .nilIface).run P w = .ok false w := h3 _
    simp [execOp, ha.op hx, ha.op hy, eqGuard, binOp, Op.equal, h2]
theorem EvF_neNilI {x y : Operand} {T T' t : TypeId} {u : Value} [hu : IsI P T] (hx : e.op x = some (.iface t u)) (hy : e.op y = some .nilIface) : EvF P n e ⟨dst, .binOp .neq T x y T', ty, pos, af, g⟩ (.bool true) :=
  fun a w ha => by
    obtain ⟨ms, h1⟩ := hu.und
    have h3 : ∀ d, (Op.equalIn (d + 1) T (.iface t u) .nilIface).run P w = .ok false w := fun d => by simp [Op.equalIn, run_underlying h1]
    have h2 : (Op.equalIn Op.maxDepth T (.iface t u) .nilIface).run P w = .ok false w := h3 _
    simp [execOp, ha.op hx, ha.op hy, eqGuard, binOp, Op.equal, h2]
theorem xiq {x y : Operand} {T T' t : TypeId} {u : Value} [hu : IsI P T] (h1 : e.op x = some (.iface t u)) (h2 : e.op y = some .nilIface) (hd : Nat.blt d n = true) (k : GL P w0 ops Q n rest ((d, .bool false) :: e) L) :
    GL P w0 ops Q n (⟨some d, .binOp .eql T x y T', ty, pos, af, none⟩ :: rest) e L := GL_ev (EvF_eqNilI h1 h2).ev hd k
theorem xiQ {x y : Operand} {T T' t : TypeId} {u : Value} [hu : IsI P T] (h1 : e.op x = some (.iface t u)) (h2 : e.op y = some .nilIface) (hd : Nat.blt d n = true) (k : GL P w0 ops Q n rest ((d, .bool true) :: e) L) :
    GL P w0 ops Q n (⟨some d, .binOp .neq T x y T', ty, pos, af, none⟩ :: rest) e L := GL_ev (EvF_neNilI h1 h2).ev hd k
theorem Fiq {x y : Operand} {T T' t : TypeId} {u : Value} [hu : IsI P T] (h1 : e.op x = some (.iface t u)) (h2 : e.op y = some .nilIface) (hd : Nat.blt d n = true) (k : GD P w0 l Q LS n steps ((d, .bool false) :: e) L) :
    GD P w0 l Q LS n ((1, j, ⟨some d, .binOp .eql T x y T', ty, pos, af, none⟩) :: steps) e L := GD_free (EvF_eqNilI h1 h2) hd k
theorem FiQ {x y : Operand} {T T' t : TypeId} {u : Value} [hu : IsI P T] (h1 : e.op x = some (.iface t u)) (h2 : e.op y = some .nilIface) (hd : Nat.blt d n = true) (k : GD P w0 l Q LS n steps ((d, .bool true) :: e) L) :
    GD P w0 l Q LS n ((1, j, ⟨some d, .binOp .neq T x y T', ty, pos, af, none⟩) :: steps) e L := GD_free (EvF_neNilI h1 h2) hd k
class SEq (P : Program) (T : TypeId) (xs ys : List Value) (b : outParam Bool) : Prop where
  eq : ∀ (w : World) (d : Nat), (Op.equalIn (d + 1 + 1) T (.agg xs.toArray) (.agg ys.toArray)).run P w = .ok b w
  guard : P.eqGuardType P.depth T = false
theorem EvF_eqS {x y : Operand} {T T' : TypeId} {xs ys : List Value} {b : Bool} [hs : SEq P T xs ys b] (hx : e.op x = some (.agg xs.toArray)) (hy : e.op y = some (.agg ys.toArray)) : EvF P n e ⟨dst, .binOp .eql T x y T', ty, pos, af, g⟩ (.bool b) :=
  fun a w ha => by
    have h1 := run_eqGuard_agg w .eql T x y xs.toArray ys.toArray hs.guard
    have h2 : (Op.equalIn Op.maxDepth T (.agg xs.toArray) (.agg ys.toArray)).run P w = .ok b w := hs.eq w _
    simp [execOp, ha.op hx, ha.op hy, h1, binOp, Op.equal, h2]
theorem xse {x y : Operand} {T T' : TypeId} {xs ys : List Value} {b : Bool} [SEq P T xs ys b] (h1 : e.op x = some (.agg xs.toArray)) (h2 : e.op y = some (.agg ys.toArray)) (hd : Nat.blt d n = true) (k : GL P w0 ops Q n rest ((d, .bool b) :: e) L) :
    GL P w0 ops Q n (⟨some d, .binOp .eql T x y T', ty, pos, af, none⟩ :: rest) e L := GL_ev (EvF_eqS h1 h2).ev hd k
theorem Fse {x y : Operand} {T T' : TypeId} {xs ys : List Value} {b : Bool} [SEq P T xs ys b] (h1 : e.op x = some (.agg xs.toArray)) (h2 : e.op y = some (.agg ys.toArray)) (hd : Nat.blt d n = true) (k : GD P w0 l Q LS n steps ((d, .bool b) :: e) L) :
    GD P w0 l Q LS n ((1, j, ⟨some d, .binOp .eql T x y T', ty, pos, af, none⟩) :: steps) e L := GD_free (EvF_eqS h1 h2) hd k
theorem Ef_convS {T E q k m c i : Nat} {cs : List Value} {x : Operand} [hu : Und P T (.slice E)] [he : Und P E (.int .u8)] (hx : e.op x = some (.slice (some ⟨q, k, none⟩) m c)) (hi : L[i]? = some (some (q, .cells cs.toArray E (0, 0)))) :
    Ef P w0 n e L ⟨dst, .convert T T x, ty, pos, af, g⟩ (fun v' L' => v' = .slice (some ⟨q, k, none⟩) m c ∧ L' = L.set i (some (q, .cells cs.toArray E (cs.length, cs.length + 1)))) := by
  intro a w ha hw
  have hh := (hw.mem i q _ hi).1
  have hlt : q < w.heap.size := (Array.getElem?_eq_some_iff.1 hh).1
  have hsh : w.shape? q = some (E, cs.length) := by unfold World.shape?; rw [hh]; simp
  have hb : (w.freeze ⟨q, cs.length, none⟩ 1).heap[q]? = some (.cells cs.toArray E (cs.length, cs.length + 1)) := by
    unfold World.freeze
    simp [Array.getElem?_modify, hh]
  refine ⟨_, w.freeze ⟨q, cs.length, none⟩ 1, _, .inl ?_, ⟨rfl, rfl⟩, hw.upd ⟨⟨i, hi, rfl⟩⟩ hb (by simp [World.freeze]) (fun j hj => by
    unfold World.freeze
    simp [Array.getElem?_modify, hj.symm, Ne.symm hj]) rfl rfl rfl⟩
  simp [execOp, ha.op hx, convert, run_underlying hu.eq, run_underlying he.eq, markStringish, hsh]
theorem xcS {T E q k m c i : Nat} {cs : List Value} {x : Operand} [hu : Und P T (.slice E)] [he : Und P E (.int .u8)] (hx : e.op x = some (.slice (some ⟨q, k, none⟩) m c)) (hi : L[i]? = some (some (q, .cells cs.toArray E (0, 0)))) (hd : Nat.blt d n = true)
    (h : GL P w0 ops Q n rest ((d, .slice (some ⟨q, k, none⟩) m c) :: e) (L.set i (some (q, .cells cs.toArray E (cs.length, cs.length + 1))))) :
    GL P w0 ops Q n (⟨some d, .convert T T x, ty, pos, af, none⟩ :: rest) e L :=
  GL_ef (Ef_convS hx hi) hd fun v' L' ⟨hv, hL⟩ => by subst hv; subst hL; exact h
def strOf (p : List Int) : ByteArray := p.foldl (fun r n => r.push (UInt8.ofNat n.toNat)) ByteArray.empty
theorem Ev_str {T U E : Nat} {x : Operand} {v : Value} {p : List Int} [hu : Und P T (.slice E)] [he : Und P E (.int .u8)] [hs : Und P U .string] (hx : e.op x = some v) (hl : Look L E v (p.map (Value.int .u8))) :
    Ev P w0 n e L ⟨dst, .convert T U x, ty, pos, af, g⟩ (.string (strOf p)) := by
  intro a w ha hw
  obtain ⟨ad, c, h1, h2⟩ := hl.out
  subst h1
  have hr := run_convert_bytes_string w T U E ad (p.map (Value.int .u8)).length c hu.eq he.eq hs.eq
  have key : (Conv.bytesToString (.slice ad (p.map (Value.int .u8)).length c)).run P w = .ok (.string (strOf p)) w := by
    cases ad with
    | none =>
      have : p = [] := by
        rcases h2 with h2 | ⟨_, _, _, _, h2, _⟩
        · simpa using h2
        · cases h2
      subst this
      simp [Conv.bytesToString, strOf]
      try rfl
    | some ad =>
      refine run_bytesToString w ad _ c p ?_
      rcases h2 with h2 | ⟨q, k, pre, post, h3, hk, fz, hm⟩
      · have hp : p = [] := by simpa using h2
        subst hp
        simpa using run_loadCells_list (P := P) (w := w) ad [] (fun j v hj => by simp at hj)
      · cases h3
        have hf := Find.of_mem hm
        have := run_loadCells_list (P := P) (w := w) ⟨q, k, none⟩ (p.map (Value.int .u8)) (fun j v hj => by
          have hjl := (List.getElem?_eq_some_iff.1 hj).1
          rw [add_plain, heap_cell (hf.heap hw), List.getElem?_append_right (by omega), hk, Nat.add_sub_cancel_left, List.getElem?_append_left hjl]; exact hj)
        exact this
  have hr' := hr.trans key
  simp only [List.length_map] at hr'
  simp [execOp, ha.op hx, hr']
theorem Dstr {T U E : Nat} {x : Operand} {v : Value} {p : List Int} [hu : Und P T (.slice E)] [he : Und P E (.int .u8)] [hs : Und P U .string] (hx : e.op x = some v) (hl : Look LS E v (p.map (Value.int .u8))) [Sub L LS] (hd : Nat.blt d n = true)
    (k : GD P w0 l Q LS n steps ((d, .string (strOf p)) :: e) L) : GD P w0 l Q LS n ((0, j, ⟨some d, .convert T U x, ty, pos, af, none⟩) :: steps) e L := GD_take (Ev_str hx hl) hd k
theorem Ustr {T U E : Nat} {x : Operand} {v : Value} {p : List Int} [hu : Und P T (.slice E)] [he : Und P E (.int .u8)] [hs : Und P U .string] (hx : e.op x = some v) (hl : Look L E v (p.map (Value.int .u8))) (hd : Nat.blt d n = true)
    (k : GD P w0 l Q LS n steps ((d, .string (strOf p)) :: e) L) : GD P w0 l Q LS n ((2, j, ⟨some d, .convert T U x, ty, pos, af, none⟩) :: steps) e L := GD_ev (Ev_str hx hl) hd k
theorem EvF_neS {x y : Operand} {T T' : TypeId} {a b : ByteArray} (hx : e.op x = some (.string a)) (hy : e.op y = some (.string b)) : EvF P n e ⟨dst, .binOp .neq T x y T', ty, pos, af, g⟩ (.bool (!(a.toList == b.toList))) :=
  fun c w ha => by
    simp [execOp, ha.op hx, ha.op hy, eqGuard, binOp, Op.stringOp]
theorem Fns {x y : Operand} {T T' : TypeId} {a b : ByteArray} (h1 : e.op x = some (.string a)) (h2 : e.op y = some (.string b)) (hd : Nat.blt d n = true) (k : GD P w0 l Q LS n steps ((d, .bool (!(a.toList == b.toList))) :: e) L) :
    GD P w0 l Q LS n ((1, j, ⟨some d, .binOp .neq T x y T', ty, pos, af, none⟩) :: steps) e L := GD_free (EvF_neS h1 h2) hd k
end
end Go.Sm
