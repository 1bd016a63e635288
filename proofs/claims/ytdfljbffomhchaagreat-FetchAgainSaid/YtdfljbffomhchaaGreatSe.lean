/- More operations: whole structs, new variables and slices; and the rules of a region that draws its order. Plain theorems over any program. -/
import Derived.Test.YtdfljbffomhchaaGreatSc
import Derived.Test.YtdfljbffomhchaaGreatSd
set_option linter.unusedVariables false
set_option linter.unusedSimpArgs false
set_option linter.unnecessarySimpa false
namespace Go.Sm
open Go.RowKit

def cellsL : Value → List Value
  | .agg cs => cs.toList
  | v => [v]
theorem cells_cellsL (v : Value) : v.cells = (cellsL v).toArray := by cases v <;> simp [Value.cells, cellsL]

def nthP : List (Nat × Nat) → Nat → Option (Nat × Nat)
  | [], _ => none
  | x :: _, 0 => some x
  | _ :: r, k + 1 => nthP r k
theorem nthP_get : ∀ (l : List (Nat × Nat)) (k : Nat), nthP l k = l[k]?
  | [], _ => by simp [nthP]
  | _ :: _, 0 => by simp [nthP]
  | _ :: r, k + 1 => by simp [nthP, nthP_get r k]
def lenL : List Value → Nat
  | [] => 0
  | _ :: r => lenL r + 1
theorem lenL_eq : ∀ l, lenL l = l.length
  | [] => rfl
  | _ :: r => by simp [lenL, lenL_eq r]
def bldL (fs : List (Nat × Nat)) : List Value → List (Nat × Value) → Option (List Value)
  | z, [] => some z
  | z, (i, v) :: r => match nthP fs i with
    | none => none
    | some (off, sz) => bif Nat.beq (lenL (cellsL v)) sz && Nat.ble (off + sz) (lenL z) then bldL fs (setNths z off (cellsL v)) r else none

theorem foldl_set (off : Nat) : ∀ (vs : List Value) (j : Nat) (z : List Value),
    (vs.zipIdx j).foldl (fun (cs : Array Value) (x : Value × Nat) => cs.setIfInBounds (off + x.2) x.1) z.toArray = (setNths z (off + j) vs).toArray
  | [], j, z => by simp [setNths]
  | v :: r, j, z => by
    have := foldl_set off r (j + 1) (setNth z (off + j) v)
    simp only [List.zipIdx_cons, List.foldl_cons, setNths]
    rw [show off + j + 1 = off + (j + 1) by omega, ← this]
    congr 1
    simp [setNth_set]

theorem bldL_fill (fs : List (Nat × Nat)) : ∀ (ps : List (Nat × Value)) (z cs : List Value), bldL fs z ps = some cs → Instr.fill (fun i => fs[i]?) z.toArray ps = some cs.toArray
  | [], z, cs, h => by cases h; rfl
  | (i, v) :: r, z, cs, h => by
    simp only [bldL, nthP_get] at h
    split at h
    · cases h
    · rename_i off sz hp
      cases hb : (Nat.beq (lenL (cellsL v)) sz && Nat.ble (off + sz) (lenL z)) with
      | false => rw [hb] at h; cases h
      | true =>
        rw [hb] at h
        simp only [cond_true] at h
        simp only [Bool.and_eq_true, lenL_eq] at hb
        have h1 := Nat.eq_of_beq_eq_true hb.1
        have h2 := Nat.ble_eq.mp hb.2
        have h3 : v.cells.size = sz := by rw [cells_cellsL]; simpa using h1
        have h4 : ¬ (off + sz > z.length) := by omega
        have h5 := foldl_set off (cellsL v) 0 z
        simp only [Nat.add_zero] at h5
        have h6 := bldL_fill fs r _ cs h
        rw [← h5] at h6
        simp only [Instr.fill, hp, h3]
        simp only [Bool.false_or, List.size_toArray, h4, decide_false, Bool.false_eq_true, if_false, cells_cellsL, ne_eq, not_true_eq_false]
        simpa using h6

def partsL (e : Env) : List (Nat × Operand) → Option (List (Nat × Value))
  | [] => some []
  | (i, x) :: r => match e.op x with
    | none => none
    | some v => match partsL e r with
      | none => none
      | some vs => some ((i, v) :: vs)
theorem partsL_map {n : Nat} {e : Env} {a : Act} (ha : EnvOk n e a) : ∀ {xs : List (Nat × Operand)} {ps : List (Nat × Value)}, partsL e xs = some ps → xs.map (fun (i, x) => (i, a.eval x)) = ps
  | [], ps, h => by cases h; rfl
  | (i, x) :: r, ps, h => by
    simp only [partsL] at h
    split at h
    · cases h
    · rename_i v hv
      split at h
      · cases h
      · rename_i us hus
        cases h
        simp [ha.op hv, partsL_map ha hus]

theorem sliceB_pl {s : Nat} {fs : List (Nat × Nat)} (h : (fs.zipIdx.all fun x => decide (x.1 = (x.2 * s, s))) = true) : ∀ i, i < fs.length → (fun i : Nat => some (i * s, s)) i = fs[i]? := fun i hi => by
  have h1 := List.all_eq_true.1 h (fs[i], i) (by
    rw [List.mem_iff_getElem]
    exact ⟨i, by simpa using hi, by simp⟩)
  simp only [decide_eq_true_eq] at h1
  rw [List.getElem?_eq_getElem hi, h1]

theorem fill_congr {p q : Nat → Option (Nat × Nat)} : ∀ (ps : List (Nat × Value)) (z : Array Value), (∀ x ∈ ps, p x.1 = q x.1) → Instr.fill p z ps = Instr.fill q z ps
  | [], z, _ => rfl
  | (i, v) :: r, z, h => by
    simp only [Instr.fill]
    rw [h (i, v) (by simp)]
    cases q i with
    | none => rfl
    | some x =>
      simp only
      split
      · rfl
      · exact fill_congr r _ fun y hy => h y (by simp [hy])

theorem bldL_lt (fs : List (Nat × Nat)) : ∀ (ps : List (Nat × Value)) (z cs : List Value), bldL fs z ps = some cs → ∀ x ∈ ps, x.1 < fs.length
  | [], z, cs, h => by simp
  | (i, v) :: r, z, cs, h => by
    simp only [bldL, nthP_get] at h
    split at h
    · cases h
    · rename_i off sz hp
      cases hb : (Nat.beq (lenL (cellsL v)) sz && Nat.ble (off + sz) (lenL z)) with
      | false => rw [hb] at h; cases h
      | true =>
        rw [hb] at h
        simp only [cond_true] at h
        intro x hx
        rcases List.mem_cons.1 hx with rfl | hx
        · exact (List.getElem?_eq_some_iff.1 hp).1
        · exact bldL_lt fs r _ cs h x hx

/-- A struct's or an array's parts: places and sizes; its zero value. -/
class Bld (P : Program) (T : TypeId) (fs : outParam (List (Nat × Nat))) (z : outParam (List Value)) : Prop where
  run : ∀ (parts : Array (Nat × Value)) (w : World), ∃ (pl : Nat → Option (Nat × Nat)) (why : String), (∀ i, i < fs.length → pl i = fs[i]?) ∧ (Instr.build T parts).run P w =
    Sem.run P (match Instr.fill pl z.toArray parts.toList with | some cells => pure (.agg cells) | none => stuck why) w
def flds (P : Program) (T : TypeId) : Array Field := match P.underlying T with
  | some (.struct fs) => fs
  | _ => #[]
theorem Bld.of {P : Program} {T : TypeId} {fs : List (Nat × Nat)} {z : List Value} (v : Value) (hu : P.underlying T = some (.struct (flds P T))) (hz : ∀ w, (zeroValue T).run P w = .ok v w) (hv : v.cells = z.toArray)
    (hp : ∀ w, ((flds P T).mapM (m := Sem) fun f => do pure (f.offset, ← sizeOf f.type)).run P w = .ok fs.toArray w) : Bld P T fs z := ⟨fun parts w => ⟨fun i => fs.toArray[i]?, "build: no such field, or a part of the wrong size", fun i _ => by simp, by
  have h1 := run_underlying hu w
  have h2 := hz w
  have h3 := hp w
  simp only [Instr.build, Sem.run_bind, h1, h2, Result.andThen, h3, hv]
  cases Instr.fill (fun x : Nat => fs.toArray[x]?) z.toArray parts.toList <;> rfl⟩⟩
theorem Bld.arr {P : Program} {T E len s : Nat} {fs : List (Nat × Nat)} {z : List Value} (v : Value) (hu : P.underlying T = some (.array len E)) (hs : ∀ w, (sizeOf E).run P w = .ok s w) (hz : ∀ w, (zeroValue T).run P w = .ok v w) (hv : v.cells = z.toArray)
    (hfs : (fs.zipIdx.all fun x => decide (x.1 = (x.2 * s, s))) = true) : Bld P T fs z := ⟨fun parts w => ⟨fun i => some (i * s, s), "build: a part of the wrong size", sliceB_pl hfs, by
  have h1 := run_underlying hu w
  have h2 := hz w
  have h3 := hs w
  simp only [Instr.build, Sem.run_bind, h1, h2, Result.andThen, h3, hv]
  cases Instr.fill (fun i => some (i * s, s)) z.toArray parts.toList <;> rfl⟩⟩

section
variable {P : Program} {w0 : World} {n : Nat} {e : Env} {L : List Ent} {dst : Option Tmp} {ty : TypeId} {pos : String} {af : Array Edge} {g : Option (Nat × Bool)}

theorem EvF_build {T : TypeId} {fs : List (Nat × Nat)} {z cs : List Value} {parts : Array (Nat × Operand)} {ps : List (Nat × Value)} [hb : Bld P T fs z] (hp : partsL e parts.toList = some ps) (hc : bldL fs z ps = some cs) :
    EvF P n e ⟨dst, .build T parts, ty, pos, af, g⟩ (.agg cs.toArray) :=
  fun a w ha => by
    have h1 : parts.map (fun (i, x) => (i, a.eval x)) = ps.toArray := by
      apply Array.ext'
      simpa using partsL_map ha hp
    obtain ⟨pl, why, hpl, h2⟩ := hb.run ps.toArray w
    have h3 := bldL_fill fs ps z cs hc
    rw [← fill_congr (p := pl) ps z.toArray fun x hx => hpl _ (bldL_lt fs ps z cs hc x hx)] at h3
    rw [h3] at h2
    simp [execOp, h1, h2]

/-- A new variable that holds v. -/
theorem Ef_box {T : TypeId} {x : Operand} {v : Value} {cs : List Value} (h : e.op x = some v) (hc : cellsL v = cs) :
    Ef P w0 n e L ⟨dst, .box T x, ty, pos, af, g⟩ (fun u L' => ∃ q, u = .pointer (some ⟨q, 0, none⟩) ∧ L' = some (q, .cells cs.toArray T (0, 0)) :: L) :=
  fun a w ha hw => by
    subst hc
    refine ⟨.pointer (some ⟨w.heap.size, 0, none⟩), w.alloc (.cells (cellsL v).toArray T), _, .inl ?_, ⟨w.heap.size, rfl, rfl⟩, hw.alloc _⟩
    simp [execOp, ha.op h, Instr.box, newVar, newRow, cells_cellsL]

theorem Ef_alloc {T : TypeId} {z : List Value} [hz : Zero P T z] :
    Ef P w0 n e L ⟨dst, .alloc T, ty, pos, af, g⟩ (fun u L' => ∃ q, u = .pointer (some ⟨q, 0, none⟩) ∧ L' = some (q, .cells z.toArray T (0, 0)) :: L) :=
  fun a w ha hw => by
    obtain ⟨v, h1, h2⟩ := hz.run w
    refine ⟨.pointer (some ⟨w.heap.size, 0, none⟩), w.alloc (.cells z.toArray T), _, .inl ?_, ⟨w.heap.size, rfl, rfl⟩, hw.alloc _⟩
    simp [execOp, Instr.alloc, h1, h2, newVar, newRow]

def placesS (sz : Nat) : Nat → Nat → List (Nat × Nat)
  | _, 0 => []
  | k, m + 1 => (k * sz, sz) :: placesS sz (k + 1) m
def zerosS (z : List Value) : Nat → List Value
  | 0 => []
  | m + 1 => z ++ zerosS z m
class SliceB (P : Program) (T : TypeId) (len : Nat) (E : outParam TypeId) (fs : outParam (List (Nat × Nat))) (z : outParam (List Value)) : Prop where
  run : ∀ (parts : Array (Nat × Value)) (w : World), ∃ pl : Nat → Option (Nat × Nat), (∀ i, i < fs.length → pl i = fs[i]?) ∧ (Instr.buildSlice T len parts).run P w =
    Sem.run P (match Instr.fill pl z.toArray parts.toList with | some cells => (do pure (.slice (some (← newRow E cells)) len len)) | none => stuck "buildSlice: a part of the wrong size") w

theorem SliceB.of {P : Program} {T E len s : Nat} {fs : List (Nat × Nat)} {z : List Value} (v : Value) (hu : P.underlying T = some (.slice E)) (hs : ∀ w, (sizeOf E).run P w = .ok s w) (hz : ∀ w, (zeroValue E).run P w = .ok v w)
    (hn : Nat.ble (len * s) 16777216 = true) (h0 : Nat.beq (len * s) 0 = false) (hza : ((Array.range (len * s)).map fun i => v.cells[i % v.cells.size]!) = z.toArray)
    (hfs : (fs.zipIdx.all fun x => decide (x.1 = (x.2 * s, s))) = true) : SliceB P T len E fs z := ⟨fun parts w => ⟨fun i => some (i * s, s), sliceB_pl hfs, by
  have h1 := run_underlying hu w
  have h2 := hz w
  have h3 := hs w
  have h4 : ¬ (len * s > 2 ^ 24) := by have := Nat.ble_eq.mp hn; omega
  have h5 : ¬ (len * s = 0) := fun e => by rw [e] at h0; cases h0
  simp only [Instr.buildSlice, Sem.run_bind, h1, Result.andThen, h3, if_neg h4, if_neg h5, h2, Sem.run_pure, hza]
  cases Instr.fill (fun i => some (i * s, s)) z.toArray parts.toList <;> rfl⟩⟩

theorem SliceB.zero {P : Program} {T E s : Nat} (hu : P.underlying T = some (.slice E)) (hs : ∀ w, (sizeOf E).run P w = .ok s w) : SliceB P T 0 E [] [] := ⟨fun parts w => ⟨fun i => some (i * s, s), by simp, by
  have h1 := run_underlying hu w
  have h3 := hs w
  have h5 : (0 * s = 0) := Nat.zero_mul s
  have h4 : ¬ (0 * s > 2 ^ 24) := by rw [h5]; omega
  have h6 : (Array.range (0 * s)).map (fun x => (#[] : Array Value)[x % (#[] : Array Value).size]!) = (([] : List Value)).toArray := by rw [h5]; simp
  simp only [Instr.buildSlice, Sem.run_bind, h1, Result.andThen, h3, if_neg h4, if_pos h5, Sem.run_pure, h6]
  cases Instr.fill (fun i => some (i * s, s)) ([] : List Value).toArray parts.toList <;> rfl⟩⟩

theorem Ef_buildSlice {T E : TypeId} {len : Nat} {fs : List (Nat × Nat)} {z cs : List Value} {parts : Array (Nat × Operand)} {ps : List (Nat × Value)} [hb : SliceB P T len E fs z] (hp : partsL e parts.toList = some ps) (hc : bldL fs z ps = some cs) :
    Ef P w0 n e L ⟨dst, .buildSlice T len parts, ty, pos, af, g⟩ (fun u L' => ∃ q, u = .slice (some ⟨q, 0, none⟩) len len ∧ L' = some (q, .cells cs.toArray E (0, 0)) :: L) :=
  fun a w ha hw => by
    have h1 : parts.map (fun (i, x) => (i, a.eval x)) = ps.toArray := by
      apply Array.ext'
      simpa using partsL_map ha hp
    obtain ⟨pl, hpl, h2⟩ := hb.run ps.toArray w
    have h3 := bldL_fill fs ps z cs hc
    rw [← fill_congr (p := pl) ps z.toArray fun x hx => hpl _ (bldL_lt fs ps z cs hc x hx)] at h3
    rw [h3] at h2
    refine ⟨.slice (some ⟨w.heap.size, 0, none⟩) len len, w.alloc (.cells cs.toArray E), _, .inl ?_, ⟨w.heap.size, rfl, rfl⟩, hw.alloc _⟩
    simp [execOp, h1, h2, newRow]

theorem set_same {α : Type} {L : List α} {j : Nat} {x : α} (h : L[j]? = some x) : L.set j x = L := by
  apply List.ext_getElem?
  intro m
  rw [List.getElem?_set]
  split
  · rename_i e
    subst e
    rw [if_pos (List.getElem?_eq_some_iff.1 h).1, h]
  · rfl
/-- A whole struct is stored. -/
theorem Own.setCells {b : Nat} {T : TypeId} : ∀ (vs : List Value) (k : Nat) (l : List Value) (w : World) (L' : List Ent), Own w0 w L → k + vs.length ≤ l.length → (∀ v ∈ vs, v.oneCell' = true) →
    Upd L b (.cells l.toArray T (0, 0)) (.cells (setNths l k vs).toArray T (0, 0)) L' → ∃ w', (storeCells ⟨b, k, none⟩ vs 0).run P w = .ok () w' ∧ Own w0 w' L' := by
  suffices H : ∀ (vs : List Value) (k i : Nat) (l : List Value) (w : World) (L L' : List Ent), Own w0 w L → k + i + vs.length ≤ l.length → (∀ v ∈ vs, v.oneCell' = true) →
      Upd L b (.cells l.toArray T (0, 0)) (.cells (setNths l (k + i) vs).toArray T (0, 0)) L' → ∃ w', (storeCells ⟨b, k, none⟩ vs i).run P w = .ok () w' ∧ Own w0 w' L' by
    intro vs k l w L' hw hl h1 hu
    exact H vs k 0 l w L L' hw (by simpa using hl) h1 (by simpa using hu)
  intro vs
  induction vs with
  | nil =>
    intro k i l w L L' hw hl h1 hu
    obtain ⟨j, hj, rfl⟩ := hu.out
    refine ⟨w, by simp [storeCells], ?_⟩
    rw [show setNths l (k + i) [] = l from rfl, set_same hj]
    exact hw
  | cons v r ih =>
    intro k i l w L L' hw hl h1 hu
    obtain ⟨j, hj, rfl⟩ := hu.out
    have hh : w.heap[b]? = some (.cells l.toArray T (0, 0)) := (hw.mem j b _ hj).1
    simp only [List.length_cons] at hl
    have hc : w.cell? ⟨b, k + i, none⟩ = l[k + i]? := heap_cell hh
    rw [List.getElem?_eq_getElem (by omega)] at hc
    have hfz := heap_free (k := k + i) hh
    have hst := run_store P w ⟨b, k + i, none⟩ v .plain (h1 v (by simp))
    rw [hc] at hst
    simp only [hfz, Bool.false_eq_true, if_false] at hst
    have hu1 : Upd L b (.cells l.toArray T (0, 0)) (.cells (setNth l (k + i) v).toArray T (0, 0)) (L.set j (some (b, .cells (setNth l (k + i) v).toArray T (0, 0)))) := ⟨⟨j, hj, rfl⟩⟩
    have hw1 := hw.setCell hu1
    obtain ⟨w', h2, h3⟩ := ih k (i + 1) (setNth l (k + i) v) _ _ (L.set j (some (b, .cells (setNths l (k + i) (v :: r)).toArray T (0, 0)))) hw1 (by rw [length_setNth]; omega) (fun u hu => h1 u (by simp [hu]))
      ⟨⟨j, by rw [List.getElem?_set_self (List.getElem?_eq_some_iff.1 hj).1], by rw [List.set_set]; rfl⟩⟩
    refine ⟨w', ?_, h3⟩
    simp [storeCells, add_plain, hst, h2]

def oneCells : List Value → Bool
  | [] => true
  | v :: r => v.oneCell' && oneCells r
theorem oneCells_all : ∀ (vs : List Value), oneCells vs = true → ∀ v ∈ vs, v.oneCell' = true
  | [], _, v, hv => by cases hv
  | u :: r, h, v, hv => by
    simp only [oneCells, Bool.and_eq_true] at h
    rcases List.mem_cons.1 hv with rfl | hv
    · exact h.1
    · exact oneCells_all r h.2 v hv

theorem Ef_storeAgg {T b k m : Nat} {x y : Operand} {l cs : List Value} {T' : TypeId} {L' : List Ent} [ho : SizeOf P T m] (h : e.op x = some (.pointer (some ⟨b, k, none⟩))) (hy : e.op y = some (.agg cs.toArray))
    (hu : Upd L b (.cells l.toArray T' (0, 0)) (.cells (setNths l k cs).toArray T' (0, 0)) L') (hm : lenL cs = m) (hv : Nat.ble (k + m) (lenL l) = true) (h1 : oneCells cs = true) : Ef P w0 n e L ⟨dst, .store T x y, ty, pos, af, g⟩ (fun _ L1 => L1 = L') :=
  fun a w ha hw => by
    rw [lenL_eq] at hm
    have hv' := Nat.ble_eq.mp hv
    rw [lenL_eq] at hv'
    obtain ⟨w', h2, h3⟩ := Own.setCells (P := P) cs k l w L' hw (by omega) (oneCells_all cs h1) hu
    have h4 := ho.run w
    refine ⟨undef, w', L', .inr ⟨?_, rfl⟩, rfl, h3⟩
    simp [execOp, ha.op h, ha.op hy, Instr.storeAt, Instr.sureAddr, storeVar, Value.cells, h4, hm, h2]
end

/-! ### A region that draws its order: the rules -/
/-- What is owned now tells what was owned then. -/
class Sub (L LS : List Ent) : Prop where
  own : ∀ w0 w, Own w0 w L → Own w0 w LS
instance Sub.refl {L : List Ent} : Sub L L := ⟨fun _ _ h => h⟩
instance Sub.cons {x : Ent} {L LS : List Ent} [h : Sub L LS] : Sub (x :: L) LS := ⟨fun w0 w hw => h.own w0 w hw.drop⟩

section
variable {P : Program} {w0 : World} {n : Nat} {e : Env} {L LS : List Ent} {Q : Exit → Act → World → Prop} {l : List Oper} {rest : List (Nat × Nat × Oper)} {i d : Nat} {op : Op} {ty : TypeId} {pos : String} {af : Array Edge}

theorem GD_nil (h : GX w0 n .normal Q e L) : GD P w0 l Q LS n [] e L := ⟨h.run⟩
theorem GD_keep (ks : List Nat) (h : GD P w0 l Q LS n rest (e.keep ks) L) : GD P w0 l Q LS n rest e L := ⟨fun a w ha hw => h.run a w (ha.keep ks) hw⟩
theorem GD_on {k j s : Nat} {b : Bool} {dst : Option Tmp} (hj : nthO l j = some (some s)) (ht : e.get s = some (.bool b))
    (h : GD P w0 l Q LS n ((k, i, ⟨dst, op, ty, pos, af, none⟩) :: rest) e L) : GD P w0 l Q LS n ((k, i, ⟨dst, op, ty, pos, af, some (j, b)⟩) :: rest) e L :=
  ⟨fun a w ha hw => by
    have h1 := h.run a w ha hw
    have hon : Region.wanted ⟨dst, op, ty, pos, af, some (j, b)⟩ (yielded l.toArray a.tmps) = true := by rw [wanted_of ha hj ht]; simp
    match k, h1 with
    | 0, ⟨v, hS, hy, hr⟩ =>
      refine ⟨v, hS, .inl ⟨hon, ?_⟩, hr⟩
      rcases hy with ⟨_, hy⟩ | ⟨hy, _⟩
      · exact hy
      · rw [wanted_none] at hy; cases hy
    | 1, ⟨v, hy, hr⟩ =>
      refine ⟨v, .inl ⟨hon, ?_⟩, hr⟩
      rcases hy with ⟨_, hy⟩ | ⟨hy, _⟩
      · exact hy
      · rw [wanted_none] at hy; cases hy
    | 2, h1 =>
      simp only [wpD] at h1 ⊢
      rw [if_pos (wanted_none _)] at h1
      rw [if_pos hon]
      exact h1
    | m + 3, h1 =>
      simp only [wpD] at h1 ⊢
      rw [if_pos (wanted_none _)] at h1
      rw [if_pos hon]
      exact h1⟩
theorem GD_off {k j s : Nat} {b : Bool} [hs : Sub L LS] (hj : nthO l j = some (some s)) (ht : e.get s = some (.bool !b)) (hd : Nat.blt d n = true)
    (h : GD P w0 l Q LS n rest ((d, undef) :: e) L) : GD P w0 l Q LS n ((k, i, ⟨some d, op, ty, pos, af, some (j, b)⟩) :: rest) e L :=
  ⟨fun a w ha hw => by
    have h1 := h.run _ w (ha.put undef (Nat.blt_eq.mp hd)) hw
    have hoff : Region.wanted ⟨some d, op, ty, pos, af, some (j, b)⟩ (yielded l.toArray a.tmps) = false := by rw [wanted_of ha hj ht]; cases b <;> simp
    match k with
    | 0 => exact ⟨undef, hs.own _ w hw, .inr ⟨hoff, rfl⟩, h1⟩
    | 1 => exact ⟨undef, .inr ⟨hoff, rfl⟩, h1⟩
    | 2 => simp only [wpD]; rw [if_neg (by rw [hoff]; simp)]; exact h1
    | m + 3 => simp only [wpD]; rw [if_neg (by rw [hoff]; simp)]; exact h1⟩
theorem GD_take {v : Value} [hs : Sub L LS] (h : Ev P w0 n e LS ⟨some d, op, ty, pos, af, none⟩ v) (hd : Nat.blt d n = true)
    (k : GD P w0 l Q LS n rest ((d, v) :: e) L) : GD P w0 l Q LS n ((0, i, ⟨some d, op, ty, pos, af, none⟩) :: rest) e L :=
  ⟨fun a w ha hw => ⟨v, hs.own _ w hw, .inl ⟨wanted_none _, fun w' hw' => h a w' ha hw'⟩, k.run _ w (ha.put v (Nat.blt_eq.mp hd)) hw⟩⟩
theorem GD_free {v : Value} (h : EvF P n e ⟨some d, op, ty, pos, af, none⟩ v) (hd : Nat.blt d n = true)
    (k : GD P w0 l Q LS n rest ((d, v) :: e) L) : GD P w0 l Q LS n ((1, i, ⟨some d, op, ty, pos, af, none⟩) :: rest) e L :=
  ⟨fun a w ha hw => ⟨v, .inl ⟨wanted_none _, fun w' _ => h a w' ha⟩, k.run _ w (ha.put v (Nat.blt_eq.mp hd)) hw⟩⟩
/-- The only one that may come: late. -/
theorem GD_ef {Φ : Value → List Ent → Prop} (h : Ef P w0 n e L ⟨some d, op, ty, pos, af, none⟩ Φ) (hd : Nat.blt d n = true)
    (k : ∀ v L', Φ v L' → GD P w0 l Q LS n rest ((d, v) :: e) L') : GD P w0 l Q LS n ((2, i, ⟨some d, op, ty, pos, af, none⟩) :: rest) e L :=
  ⟨fun a w ha hw => by
    obtain ⟨v, w', L', hr, hΦ, hw'⟩ := h a w ha hw
    simp only [wpD]
    rw [if_pos (wanted_none _)]
    refine .inl ?_
    unfold Oper.wp
    rcases hr with hr | ⟨hr, rfl⟩
    · rw [hr]; exact (k v L' hΦ).run _ w' (ha.put v (Nat.blt_eq.mp hd)) hw'
    · rw [hr]; exact (k _ L' hΦ).run _ w' (ha.put _ (Nat.blt_eq.mp hd)) hw'⟩
theorem GD_ef0 {L' : List Ent} (h : Ef P w0 n e L ⟨none, op, ty, pos, af, none⟩ (fun _ L1 => L1 = L'))
    (k : GD P w0 l Q LS n rest e L') : GD P w0 l Q LS n ((2, i, ⟨none, op, ty, pos, af, none⟩) :: rest) e L :=
  ⟨fun a w ha hw => by
    obtain ⟨v, w', L1, hr, hΦ, hw'⟩ := h a w ha hw
    subst hΦ
    simp only [wpD]
    rw [if_pos (wanted_none _)]
    refine .inl ?_
    unfold Oper.wp
    rcases hr with hr | ⟨hr, rfl⟩
    · rw [hr]; exact k.run _ w' ha hw'
    · rw [hr]; exact k.run _ w' ha hw'⟩
/-- .. early. -/
theorem GD_efE {Φ : Value → List Ent → Prop} (h : Ef P w0 n e L ⟨some d, op, ty, pos, af, none⟩ Φ) (hd : Nat.blt d n = true)
    (k : ∀ v L', Φ v L' → (∀ w, Own w0 w L' → Own w0 w LS) ∧ GD P w0 l Q LS n rest ((d, v) :: e) L') : GD P w0 l Q LS n ((3, i, ⟨some d, op, ty, pos, af, none⟩) :: rest) e L :=
  ⟨fun a w ha hw => by
    obtain ⟨v, w', L', hr, hΦ, hw'⟩ := h a w ha hw
    obtain ⟨hE, hk⟩ := k v L' hΦ
    simp only [wpD]
    rw [if_pos (wanted_none _)]
    refine .inl ?_
    unfold Oper.wp
    rcases hr with hr | ⟨hr, rfl⟩
    · rw [hr]; exact ⟨fun _ => hE w' hw', hk.run _ w' (ha.put v (Nat.blt_eq.mp hd)) hw'⟩
    · rw [hr]; exact ⟨fun _ => hE w' hw', hk.run _ w' (ha.put _ (Nat.blt_eq.mp hd)) hw'⟩⟩
theorem GD_ev {v : Value} (h : Ev P w0 n e L ⟨some d, op, ty, pos, af, none⟩ v) (hd : Nat.blt d n = true)
    (k : GD P w0 l Q LS n rest ((d, v) :: e) L) : GD P w0 l Q LS n ((2, i, ⟨some d, op, ty, pos, af, none⟩) :: rest) e L :=
  ⟨fun a w ha hw => by
    simp only [wpD]
    rw [if_pos (wanted_none _)]
    refine .inl ?_
    unfold Oper.wp
    rw [h a w ha hw]
    exact k.run _ w (ha.put v (Nat.blt_eq.mp hd)) hw⟩
theorem GD_enter {f : FuncId} {vs : List Value} {Φ : Value → World → Prop} (hd : Nat.blt d n = true)
    (hx : ∀ a w, EnvOk n e a → (execOp a.eval ⟨some d, op, ty, pos, af, none⟩).run P w = .ok (.enter f vs.toArray) w)
    (hc : ∀ w, Own w0 w L → Calls P f vs.toArray w (Ret Φ))
    (k : ∀ v w', Φ v w' → ∃ L', Own w0 w' L' ∧ GD P w0 l Q LS n rest ((d, v) :: e) L') : GD P w0 l Q LS n ((2, i, ⟨some d, op, ty, pos, af, none⟩) :: rest) e L :=
  ⟨fun a w ha hw => by
    simp only [wpD]
    rw [if_pos (wanted_none _)]
    refine .inl ?_
    unfold Oper.wp
    rw [hx a w ha]
    refine (hc w hw).mono fun x w' hx => ?_
    obtain ⟨v, rfl, hΦ⟩ := hx.out
    obtain ⟨L', hw', hk⟩ := k v w' hΦ
    exact hk.run _ w' (ha.put v (Nat.blt_eq.mp hd)) hw'⟩
theorem GD_enterE {f : FuncId} {vs : List Value} {Φ : Value → World → Prop} (hd : Nat.blt d n = true)
    (hx : ∀ a w, EnvOk n e a → (execOp a.eval ⟨some d, op, ty, pos, af, none⟩).run P w = .ok (.enter f vs.toArray) w)
    (hc : ∀ w, Own w0 w L → Calls P f vs.toArray w (Ret Φ))
    (k : ∀ v w', Φ v w' → ∃ L', Own w0 w' L' ∧ (∀ w, Own w0 w L' → Own w0 w LS) ∧ GD P w0 l Q LS n rest ((d, v) :: e) L') : GD P w0 l Q LS n ((3, i, ⟨some d, op, ty, pos, af, none⟩) :: rest) e L :=
  ⟨fun a w ha hw => by
    simp only [wpD]
    rw [if_pos (wanted_none _)]
    refine .inl ?_
    unfold Oper.wp
    rw [hx a w ha]
    refine (hc w hw).mono fun x w' hx => ?_
    obtain ⟨v, rfl, hΦ⟩ := hx.out
    obtain ⟨L', hw', hE, hk⟩ := k v w' hΦ
    exact ⟨fun _ => hE w' hw', hk.run _ w' (ha.put v (Nat.blt_eq.mp hd)) hw'⟩⟩
theorem GD_call {f : FuncId} [IsFn P f] {args : Array Operand} {at_ : Array TypeId} {vs : List Value} {Φ : Value → World → Prop}
    (hv : e.opsL args.toList = some vs) (hc : ∀ w, Own w0 w L → Calls P f vs.toArray w (Ret Φ)) (hd : Nat.blt d n = true)
    (k : ∀ v w', Φ v w' → ∃ L', Own w0 w' L' ∧ GD P w0 l Q LS n rest ((d, v) :: e) L') :
    GD P w0 l Q LS n ((2, i, ⟨some d, .call { callee := .value (.func f), args := args, argTypes := at_ }, ty, pos, af, none⟩) :: rest) e L :=
  GD_enter hd (fun _ _ ha => exec_call f ha hv) hc k
theorem GD_callE {f : FuncId} [IsFn P f] {args : Array Operand} {at_ : Array TypeId} {vs : List Value} {Φ : Value → World → Prop}
    (hv : e.opsL args.toList = some vs) (hc : ∀ w, Own w0 w L → Calls P f vs.toArray w (Ret Φ)) (hd : Nat.blt d n = true)
    (k : ∀ v w', Φ v w' → ∃ L', Own w0 w' L' ∧ (∀ w, Own w0 w L' → Own w0 w LS) ∧ GD P w0 l Q LS n rest ((d, v) :: e) L') :
    GD P w0 l Q LS n ((3, i, ⟨some d, .call { callee := .value (.func f), args := args, argTypes := at_ }, ty, pos, af, none⟩) :: rest) e L :=
  GD_enterE hd (fun _ _ ha => exec_call f ha hv) hc k
theorem GD_invoke {t : TypeId} {name : String} {f : FuncId} [IsMethod P t name f] {recv : Operand} {p : Addr} {args : Array Operand} {at_ : Array TypeId} {vs : List Value} {Φ : Value → World → Prop}
    (hr : e.op recv = some (.iface t (.pointer (some p)))) (hv : e.opsL args.toList = some vs) (hc : ∀ w, Own w0 w L → Calls P f (.pointer (some p) :: vs).toArray w (Ret Φ)) (hd : Nat.blt d n = true)
    (k : ∀ v w', Φ v w' → ∃ L', Own w0 w' L' ∧ GD P w0 l Q LS n rest ((d, v) :: e) L') :
    GD P w0 l Q LS n ((2, i, ⟨some d, .call { callee := .invoke recv name, args := args, argTypes := at_ }, ty, pos, af, none⟩) :: rest) e L :=
  GD_enter hd (fun _ _ ha => exec_invoke ha hr hv) hc k
theorem GD_invokeE {t : TypeId} {name : String} {f : FuncId} [IsMethod P t name f] {recv : Operand} {p : Addr} {args : Array Operand} {at_ : Array TypeId} {vs : List Value} {Φ : Value → World → Prop}
    (hr : e.op recv = some (.iface t (.pointer (some p)))) (hv : e.opsL args.toList = some vs) (hc : ∀ w, Own w0 w L → Calls P f (.pointer (some p) :: vs).toArray w (Ret Φ)) (hd : Nat.blt d n = true)
    (k : ∀ v w', Φ v w' → ∃ L', Own w0 w' L' ∧ (∀ w, Own w0 w L' → Own w0 w LS) ∧ GD P w0 l Q LS n rest ((d, v) :: e) L') :
    GD P w0 l Q LS n ((3, i, ⟨some d, .call { callee := .invoke recv name, args := args, argTypes := at_ }, ty, pos, af, none⟩) :: rest) e L :=
  GD_enterE hd (fun _ _ ha => exec_invoke ha hr hv) hc k
end
end Go.Sm
