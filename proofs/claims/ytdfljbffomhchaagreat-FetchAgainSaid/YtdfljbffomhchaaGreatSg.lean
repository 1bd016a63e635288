/- Slices that an object owns: what they hold, append, a cut of them. Plain theorems over any program. -/
import Derived.Test.YtdfljbffomhchaaGreatSf
set_option linter.unusedVariables false
set_option linter.unusedSimpArgs false
namespace Go.Sm
open Go.RowKit

/-- Slice v of n elements (of type E, sz cells each) holds the cells xs; x is the block that it owns, whole. -/
inductive Slc (E sz : Nat) : Value → List Value → Nat → Ent → Prop
  | nil : Slc E sz (.slice none 0 0) [] 0 none
  | at (q k n c : Nat) (pre xs post : List Value) (hk : pre.length = k) (hx : xs.length = n * sz) (hp : (c - n) * sz ≤ post.length) (hn : n ≤ c) (hc : c ≤ maxLen) :
      Slc E sz (.slice (some ⟨q, k, none⟩) n c) xs n (some (q, .cells (pre ++ (xs ++ post)).toArray E (0, 0)))

class Info (P : Program) (E : TypeId) (sz bytes : outParam Nat) (z : outParam Value) : Prop where
  eq : (P.info? E).map (fun i => (i.zero, i.size, i.bytes)) = some (some z, sz, bytes)
  cells : z.cells.size = sz

theorem Slc.len {E sz n : Nat} {v : Value} {xs : List Value} {x : Ent} (h : Slc E sz v xs n x) : xs.length = n * sz := by
  cases h with
  | nil => simp
  | «at» => assumption
theorem Slc.shape {E sz n : Nat} {v : Value} {xs : List Value} {x : Ent} (h : Slc E sz v xs n x) : ∃ p c, v = .slice p n c := by
  cases h with
  | nil => exact ⟨_, _, rfl⟩
  | «at» q k n c => exact ⟨_, _, rfl⟩

theorem Own.setNew {w0 w : World} {L : List Ent} {x : Ent} {i : Nat} (h : Own w0 w (x :: L)) (hi : i < L.length) : Own w0 w (L.set i x) := by
  refine h.along (fun k => if k = i then 0 else k + 1) (fun k y hk => ?_) (fun k l hk hl e => ?_)
  · by_cases hki : k = i
    · subst hki
      rw [List.getElem?_set_self hi] at hk
      simpa using hk
    · rw [List.getElem?_set_ne (fun e => hki e.symm)] at hk
      simpa [hki] using hk
  · split at e <;> split at e <;> omega

theorem Own.setRow {w0 w : World} {L : List Ent} {i q : Nat} {old new : List Value} {T : TypeId} (h : Own w0 w L) (hi : L[i]? = some (some (q, .cells old.toArray T (0, 0)))) :
    Own w0 (w.setRow q new.toArray) (L.set i (some (q, .cells new.toArray T (0, 0)))) := by
  have hh := (h.mem i q _ hi).1
  exact h.upd ⟨⟨i, hi, rfl⟩⟩ (setRow_heap w q old.toArray new.toArray T (0, 0) hh) (by simp [World.setRow]) (fun k hk => setRow_other w q k _ hk) rfl rfl rfl

section
variable {P : Program} {w0 : World} {n : Nat} {e : Env} {L : List Ent} {dst : Option Tmp} {ty : TypeId} {pos : String} {af : Array Edge} {g : Option (Nat × Bool)}

theorem info_of {E sz bytes : Nat} {z : Value} [h : Info P E sz bytes z] : ∃ i, P.info? E = some i ∧ i.zero = some z ∧ i.size = sz ∧ i.bytes = bytes := by
  have := h.eq
  cases hi : P.info? E with
  | none => rw [hi] at this; simp at this
  | some i => rw [hi] at this; simp at this; exact ⟨i, rfl, this.1, this.2.1, this.2.2⟩

theorem Ef_append {T E sz bytes nn m c k q i : Nat} {z v : Value} {xs ys l : List Value} {fz : Nat × Nat} {T' : TypeId} {x : Ent} {X Y : Operand} [hu : Und P T (.slice E)] [hI : Info P E sz bytes z]
    (h1 : e.op X = some v) (h2 : e.op Y = some (.slice (some ⟨q, k, none⟩) m c)) (hs : Slc E sz v xs nn x) (hi : L[i]? = some x) (hf : Find L q (.cells l.toArray T' fz)) (hy : nths l k (m * sz) = some ys) (hyo : oneCells ys = true)
    (hb : (nn + m) * bytes ≤ 140737488355328) (h63 : nn + m ≤ 9223372036854775807) (hm : 0 < m) :
    Ef P w0 n e L ⟨dst, .call { callee := .builtin .append, args := #[X, Y], argTypes := #[T, T] }, ty, pos, af, g⟩ (fun v' L' => ∃ x', Slc E sz v' (xs ++ ys) (nn + m) x' ∧ L' = L.set i x') :=
  fun a w ha hw => by
    obtain ⟨inf, hinf, hz, hsz, hby⟩ := info_of (P := P) (E := E)
    have hzc := hI.cells
    obtain ⟨hyl, hyg⟩ := nths_get l (m * sz) k ys hy
    have hnews : ∀ j u, ys[j]? = some u → w.cell? ((⟨q, k, none⟩ : Addr).add j) = some u := fun j u hj => by
      rw [add_plain, heap_cell (hf.heap hw), hyg j (by rw [← hyl]; exact (List.getElem?_eq_some_iff.1 hj).1)]; exact hj
    have hil := (List.getElem?_eq_some_iff.1 hi).1
    have hexec : (execOp a.eval ⟨dst, .call { callee := .builtin .append, args := #[X, Y], argTypes := #[T, T] }, ty, pos, af, g⟩).run P w =
        ((Builtin.append_ #[T, T] ty #[v, .slice (some ⟨q, k, none⟩) m c]).run P w).andThen fun u w' => .ok (.value u) w' := by
      simp [execOp, resolve, invoke, builtin, ha.op h1, ha.op h2]
    cases hs with
    | nil =>
      have hr := run_append_nil (P := P) w T ty E inf z hu.eq hinf hz ⟨q, k, none⟩ m c ys (by rw [hsz]; exact hyl) hnews hm (by omega) (by rw [hby]; simp only [Nat.zero_add] at hb; omega)
      have hge := grownCap_ge w m 0 E
      have hcm := grownCap_le_maxLen w m 0 E (by simp only [maxLen]; omega)
      have hall := hw.drew.alloc (.cells (ys ++ (Builtin.zeroCells z.cells (grownCap w m 0 E - m)).toList).toArray E)
      refine ⟨.slice (some ⟨w.heap.size, 0, none⟩) (0 + m) (grownCap w m 0 E), w.drew.alloc (.cells (ys.toArray ++ Builtin.zeroCells z.cells (grownCap w m 0 E - m)) E), _, .inl ?_, ⟨some (w.heap.size, .cells ([] ++ (([] ++ ys) ++ (Builtin.zeroCells z.cells (grownCap w m 0 E - m)).toList)).toArray E (0, 0)), ?_, rfl⟩, ?_⟩
      · rw [hexec, hr]; simp [Result.andThen]
      · refine Slc.at _ 0 (0 + m) _ [] ([] ++ ys) _ rfl (by simpa using hyl) ?_ (by omega) hcm
        simp [Builtin.zeroCells, hzc]
      · have h9 : (Obj.cells (ys.toArray ++ Builtin.zeroCells z.cells (grownCap w m 0 E - m)) E) = .cells ([] ++ (([] ++ ys) ++ (Builtin.zeroCells z.cells (grownCap w m 0 E - m)).toList)).toArray E (0, 0) := by
          congr 1
          apply Array.ext'
          simp
        rw [h9]
        have := hw.drew.alloc (.cells ([] ++ (([] ++ ys) ++ (Builtin.zeroCells z.cells (grownCap w m 0 E - m)).toList)).toArray E (0, 0))
        exact this.setNew hil
    | «at» q' k' _ c' pre _ post hk hx hp hn hc =>
      by_cases hroom : nn + m ≤ c'
      · have hh := (hw.mem i q' _ hi).1
        have hfc := run_firstCells_some (P := P) w sz m ⟨q, k, none⟩ m c ys hyl hnews
        have hpl : m * sz ≤ post.length := Nat.le_trans (Nat.mul_le_mul_right sz (by omega)) hp
        have hst := run_storeCells_at P q' (k' + nn * sz) E ys 0 (pre ++ (xs ++ post)).toArray w hh (by simp only [List.size_toArray, List.length_append]; omega) (oneCells_all ys hyo)
        have hlist : ((pre ++ (xs ++ post)).take (k' + nn * sz) ++ ys ++ (pre ++ (xs ++ post)).drop (k' + nn * sz + ys.length)) = pre ++ ((xs ++ ys) ++ post.drop ys.length) := by
          have e1 : k' + nn * sz = (pre ++ xs).length := by rw [List.length_append]; omega
          rw [← List.append_assoc pre xs post, e1, List.take_left]
          rw [show (pre ++ xs).length + ys.length = (pre ++ xs).length + ys.length from rfl, ← List.drop_drop, List.drop_left]
          simp
        simp only [Nat.add_zero] at hst
        rw [hlist] at hst
        refine ⟨.slice (some ⟨q', k', none⟩) (nn + m) c', _, _, .inl ?_, ⟨some (q', .cells (pre ++ ((xs ++ ys) ++ post.drop ys.length)).toArray E (0, 0)), ?_, rfl⟩, hw.setRow (new := pre ++ ((xs ++ ys) ++ post.drop ys.length)) hi⟩
        · rw [hexec]
          simp [Builtin.append_, run_underlying hu.eq, sizeOf, typeInfo, hinf, hsz, Builtin.lenOf, hroom, hfc, add_plain, hst]
        · refine Slc.at _ _ _ _ pre (xs ++ ys) _ hk (by rw [List.length_append, hx, hyl, Nat.add_mul]) ?_ hroom hc
          rw [List.length_drop, hyl]
          have : (c' - (nn + m)) * sz + m * sz = (c' - nn) * sz := by rw [← Nat.add_mul]; congr 1; omega
          omega
      · have hh := (hw.mem i q' _ hi).1
        have holds : ∀ j u, xs[j]? = some u → w.cell? ((⟨q', k', none⟩ : Addr).add j) = some u := fun j u hj => by
          have hjl := (List.getElem?_eq_some_iff.1 hj).1
          rw [add_plain, heap_cell hh, List.getElem?_append_right (by omega), hk, Nat.add_sub_cancel_left, List.getElem?_append_left hjl]; exact hj
        have hr := run_append_grow (P := P) w T ty E inf z hu.eq hinf hz ⟨q', k', none⟩ nn c' xs (by rw [hsz]; exact hx) holds ⟨q, k, none⟩ m c ys (by rw [hsz]; exact hyl) hnews (by omega) (by omega)
          (by rw [hby]; exact growslice_fits (by omega) hb)
        have hge := grownCap_ge w (nn + m) c' E
        have hcm := grownCap_le_maxLen w (nn + m) c' E (by simp only [maxLen]; omega)
        refine ⟨.slice (some ⟨w.heap.size, 0, none⟩) (nn + m) (grownCap w (nn + m) c' E), w.drew.alloc (.cells (xs.toArray ++ ys.toArray ++ Builtin.zeroCells z.cells (grownCap w (nn + m) c' E - (nn + m))) E), _, .inl ?_, ⟨some (w.heap.size, .cells ([] ++ ((xs ++ ys) ++ (Builtin.zeroCells z.cells (grownCap w (nn + m) c' E - (nn + m))).toList)).toArray E (0, 0)), ?_, rfl⟩, ?_⟩
        · rw [hexec, hr]; simp [Result.andThen]
        · refine Slc.at _ 0 (nn + m) _ [] (xs ++ ys) _ rfl (by rw [List.length_append, hx, hyl, Nat.add_mul]) ?_ (by omega) hcm
          simp [Builtin.zeroCells, hzc]
        · have h9 : (Obj.cells (xs.toArray ++ ys.toArray ++ Builtin.zeroCells z.cells (grownCap w (nn + m) c' E - (nn + m))) E) = .cells ([] ++ ((xs ++ ys) ++ (Builtin.zeroCells z.cells (grownCap w (nn + m) c' E - (nn + m))).toList)).toArray E (0, 0) := by
            congr 1
            apply Array.ext'
            simp
          rw [h9]
          have := hw.drew.alloc (.cells ([] ++ ((xs ++ ys) ++ (Builtin.zeroCells z.cells (grownCap w (nn + m) c' E - (nn + m))).toList)).toArray E (0, 0))
          exact this.setNew hil
end
end Go.Sm
namespace Go.Sm
open Go.RowKit
section
variable {P : Program} {w0 : World} {n : Nat} {e : Env} {L LS : List Ent} {Q : Exit → Act → World → Prop} {ops : Array Oper} {l : List Oper} {rest : List Oper} {steps : List (Nat × Nat × Oper)} {i d : Nat} {ty : TypeId} {pos : String} {af : Array Edge}
theorem xap {T E sz bytes nn m c k q i : Nat} {z v : Value} {xs ys l' : List Value} {fz : Nat × Nat} {T' : TypeId} {x : Ent} {X Y : Operand} [hu : Und P T (.slice E)] [hI : Info P E sz bytes z]
    (h1 : e.op X = some v) (h2 : e.op Y = some (.slice (some ⟨q, k, none⟩) m c)) (hs : Slc E sz v xs nn x) (hi : L[i]? = some x) (hf : Find L q (.cells l'.toArray T' fz)) (hy : nths l' k (m * sz) = some ys) (hyo : oneCells ys = true)
    (hb : (nn + m) * bytes ≤ 140737488355328) (h63 : nn + m ≤ 9223372036854775807) (hm : 0 < m) (hd : Nat.blt d n = true)
    (hk : ∀ v' x', Slc E sz v' (xs ++ ys) (nn + m) x' → GL P w0 ops Q n rest ((d, v') :: e) (L.set i x')) :
    GL P w0 ops Q n (⟨some d, .call { callee := .builtin .append, args := #[X, Y], argTypes := #[T, T] }, ty, pos, af, none⟩ :: rest) e L :=
  GL_ef (Ef_append h1 h2 hs hi hf hy hyo hb h63 hm) hd fun v' L' ⟨x', hs', hL⟩ => by subst hL; exact hk v' x' hs'
theorem Uap {T E sz bytes nn m c k q i j : Nat} {z v : Value} {xs ys l' : List Value} {fz : Nat × Nat} {T' : TypeId} {x : Ent} {X Y : Operand} [hu : Und P T (.slice E)] [hI : Info P E sz bytes z]
    (h1 : e.op X = some v) (h2 : e.op Y = some (.slice (some ⟨q, k, none⟩) m c)) (hs : Slc E sz v xs nn x) (hi : L[i]? = some x) (hf : Find L q (.cells l'.toArray T' fz)) (hy : nths l' k (m * sz) = some ys) (hyo : oneCells ys = true)
    (hb : (nn + m) * bytes ≤ 140737488355328) (h63 : nn + m ≤ 9223372036854775807) (hm : 0 < m) (hd : Nat.blt d n = true)
    (hk : ∀ v' x', Slc E sz v' (xs ++ ys) (nn + m) x' → GD P w0 l Q LS n steps ((d, v') :: e) (L.set i x')) :
    GD P w0 l Q LS n ((2, j, ⟨some d, .call { callee := .builtin .append, args := #[X, Y], argTypes := #[T, T] }, ty, pos, af, none⟩) :: steps) e L :=
  GD_ef (Ef_append h1 h2 hs hi hf hy hyo hb h63 hm) hd fun v' L' ⟨x', hs', hL⟩ => by subst hL; exact hk v' x' hs'
/-- An array's element. -/
theorem EvF_index1 {T m E : Nat} {x y : Operand} {cs : List Value} {z : IntKind} {p : Int} {v : Value} {dst : Option Tmp} {g : Option (Nat × Bool)} [hu : Und P T (.array m E)] [ho : One P E]
    (h1 : e.op x = some (.agg cs.toArray)) (h2 : e.op y = some (.int z p)) (h3 : 0 ≤ p ∧ p < m) (h4 : nth cs p.toNat = some v) : EvF P n e ⟨dst, .index T x y, ty, pos, af, g⟩ v :=
  fun a w ha => by
    have e1 := run_underlying hu.eq w
    have e2 := ho.agg w
    have e3 := ho.size w
    rw [nth_get] at h4
    simp [execOp, ha.op h1, ha.op h2, Instr.index, asIntOf, e1, h3, e3, part, e2, h4]
theorem xX {T m E : Nat} {x y : Operand} {cs : List Value} {z : IntKind} {p : Int} {v : Value} [Und P T (.array m E)] [One P E]
    (h1 : e.op x = some (.agg cs.toArray)) (h2 : e.op y = some (.int z p)) (h3 : 0 ≤ p ∧ p < m) (h4 : nth cs p.toNat = some v) (hd : Nat.blt d n = true)
    (k : GL P w0 ops Q n rest ((d, v) :: e) L) : GL P w0 ops Q n (⟨some d, .index T x y, ty, pos, af, none⟩ :: rest) e L := GL_ev (EvF_index1 h1 h2 h3 h4).ev hd k
end
end Go.Sm
