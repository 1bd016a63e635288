/- Short-circuits inside a region: both ways are walked only up to the choice, and meet there. Plain theorems over any program. -/
import Derived.Test.YtdfljbffomhchaaGreatSg
set_option linter.unusedVariables false
set_option linter.unusedSimpArgs false
namespace Go.Sm
open Go.RowKit

def Env.hasKey : Env → Nat → Bool
  | [], _ => false
  | (s, _) :: r, k => Nat.beq s k || Env.hasKey r k
theorem Env.hasKey_get : ∀ (e : Env) (k : Nat), e.hasKey k = false → e.get k = none
  | [], k, _ => rfl
  | (s, v) :: r, k, h => by
    simp only [Env.hasKey, Bool.or_eq_false_iff] at h
    rw [Env.get_cons]
    by_cases hk : s = k
    · subst hk; rw [Nat.beq_refl] at h; cases h.1
    · rw [if_neg hk]; exact Env.hasKey_get r k h.2
/-- e knows all that e0 knows. -/
structure Ext (e0 e : Env) : Prop where
  out : ∀ t v, e0.get t = some v → e.get t = some v
theorem Ext.refl {e : Env} : Ext e e := ⟨fun _ _ h => h⟩
theorem Ext.cons {e0 e : Env} {k : Nat} {v : Value} (hk : e0.hasKey k = false) (h : Ext e0 e) : Ext e0 ((k, v) :: e) := ⟨fun t u ht => by
  rw [Env.get_cons]
  by_cases hkt : k = t
  · subst hkt; rw [Env.hasKey_get e0 k hk] at ht; cases ht
  · rw [if_neg hkt]; exact h.out t u ht⟩
theorem Ext.top {e0 e : Env} (h : Ext e0 e) {d : Nat} {v : Value} : Ext ((d, v) :: e0) ((d, v) :: e) := ⟨fun t u ht => by
  rw [Env.get_cons] at ht ⊢
  by_cases hkt : d = t
  · rw [if_pos hkt] at ht ⊢; exact ht
  · rw [if_neg hkt] at ht ⊢; exact h.out t u ht⟩

/-- The bool says p. -/
structure Tell (t : Bool) (p : Prop) : Prop where
  out : t = true ↔ p
theorem Tell.dec {p : Prop} [h : Decidable p] : Tell (decide p) p := ⟨decide_eq_true_iff⟩
theorem Tell.self {t : Bool} : Tell t (t = true) := ⟨Iff.rfl⟩
theorem Tell.not {t : Bool} {p : Prop} (h : Tell t p) : Tell (!t) (¬ p) := ⟨by have := h.out; cases t <;> simp_all⟩
theorem Tell.or {t u : Bool} {p q : Prop} (h : Tell t p) (h' : Tell u q) : Tell (t || u) (p ∨ q) := ⟨by have := h.out; have := h'.out; cases t <;> cases u <;> simp_all⟩
theorem Tell.and {t u : Bool} {p q : Prop} (h : Tell t p) (h' : Tell u q) : Tell (t && u) (p ∧ q) := ⟨by have := h.out; have := h'.out; cases t <;> cases u <;> simp_all⟩
theorem Tell.yes {t : Bool} {p : Prop} (h : Tell t p) (ht : t = true) : p := h.out.1 ht
theorem Tell.no {t : Bool} {p : Prop} (h : Tell t p) (ht : t = false) : ¬ p := fun hp => by have := h.out.2 hp; rw [ht] at this; cases this

section
variable {P : Program} {w0 : World} {n : Nat} {e e0 : Env} {L LS : List Ent} {Q : Exit → Act → World → Prop} {ops : Array Oper} {l : List Oper} {rest more : List Oper} {steps stepr : List (Nat × Nat × Oper)}
variable {ty : TypeId} {pos : String} {af : Array Edge} {i d : Nat} {op : Op} {dst : Option Tmp}

theorem GL_close {v : Value} (K : GL P w0 ops Q n rest ((d, v) :: e0) L) (h : Ext e0 e) : GL P w0 ops Q n rest ((d, v) :: e) L := ⟨fun a w ha hw => K.run a w (ha.sub h.top.out) hw⟩
theorem GD_close {v : Value} (K : GD P w0 l Q LS n steps ((d, v) :: e0) L) (h : Ext e0 e) : GD P w0 l Q LS n steps ((d, v) :: e) L := ⟨fun a w ha hw => K.run a w (ha.sub h.top.out) hw⟩

theorem EnvOk.unknow {a : Act} {s : Nat} {t b : Bool} {v v' : Value} (h : e.get s = some (.bool t)) (ht : t = b) (hv : v = v') (ha : EnvOk n ((d, v) :: (s, .bool b) :: e) a) : EnvOk n ((d, v') :: e) a := by
  subst ht; subst hv
  exact ha.sub fun t' u hu => by
    rw [Env.get_cons] at hu ⊢
    by_cases hd : d = t'
    · rw [if_pos hd] at hu ⊢; exact hu
    · rw [if_neg hd] at hu ⊢
      rw [Env.get_cons]
      by_cases hs : s = t'
      · subst hs; rw [if_pos rfl]; rw [h] at hu; exact hu
      · rw [if_neg hs]; exact hu
theorem GL_or {s j : Nat} {t c : Bool} {p : Prop} (hj : nthO l j = some (some s)) (ht : e.get s = some (.bool t)) (hp : Tell t p)
    (hf : ¬ p → GL P w0 l.toArray Q n rest ((d, .bool c) :: (s, .bool false) :: e) L → GL P w0 l.toArray Q n (⟨dst, op, ty, pos, af, some (j, false)⟩ :: more) ((s, .bool false) :: e) L)
    (htr : p → GL P w0 l.toArray Q n rest ((d, .bool true) :: (s, .bool true) :: e) L → GL P w0 l.toArray Q n (⟨dst, op, ty, pos, af, some (j, false)⟩ :: more) ((s, .bool true) :: e) L)
    (k : GL P w0 l.toArray Q n rest ((d, .bool (t || c)) :: e) L) : GL P w0 l.toArray Q n (⟨dst, op, ty, pos, af, some (j, false)⟩ :: more) e L :=
  ⟨fun a w ha hw => by
    cases h : t with
    | true => exact (htr (hp.yes h) ⟨fun a w ha hw => k.run a w (ha.unknow ht h (by rw [h]; rfl)) hw⟩).run a w (ha.know ht h) hw
    | false => exact (hf (hp.no h) ⟨fun a w ha hw => k.run a w (ha.unknow ht h (by rw [h]; rfl)) hw⟩).run a w (ha.know ht h) hw⟩
theorem GL_and {s j : Nat} {t c : Bool} {p : Prop} (hj : nthO l j = some (some s)) (ht : e.get s = some (.bool t)) (hp : Tell t p)
    (htr : p → GL P w0 l.toArray Q n rest ((d, .bool c) :: (s, .bool true) :: e) L → GL P w0 l.toArray Q n (⟨dst, op, ty, pos, af, some (j, true)⟩ :: more) ((s, .bool true) :: e) L)
    (hf : ¬ p → GL P w0 l.toArray Q n rest ((d, .bool false) :: (s, .bool false) :: e) L → GL P w0 l.toArray Q n (⟨dst, op, ty, pos, af, some (j, true)⟩ :: more) ((s, .bool false) :: e) L)
    (k : GL P w0 l.toArray Q n rest ((d, .bool (t && c)) :: e) L) : GL P w0 l.toArray Q n (⟨dst, op, ty, pos, af, some (j, true)⟩ :: more) e L :=
  ⟨fun a w ha hw => by
    cases h : t with
    | true => exact (htr (hp.yes h) ⟨fun a w ha hw => k.run a w (ha.unknow ht h (by rw [h]; rfl)) hw⟩).run a w (ha.know ht h) hw
    | false => exact (hf (hp.no h) ⟨fun a w ha hw => k.run a w (ha.unknow ht h (by rw [h]; rfl)) hw⟩).run a w (ha.know ht h) hw⟩
theorem GD_or {kk s j : Nat} {t c : Bool} {p : Prop} (hj : nthO l j = some (some s)) (ht : e.get s = some (.bool t)) (hp : Tell t p)
    (hf : ¬ p → GD P w0 l Q LS n stepr ((d, .bool c) :: (s, .bool false) :: e) L → GD P w0 l Q LS n ((kk, i, ⟨dst, op, ty, pos, af, some (j, false)⟩) :: steps) ((s, .bool false) :: e) L)
    (htr : p → GD P w0 l Q LS n stepr ((d, .bool true) :: (s, .bool true) :: e) L → GD P w0 l Q LS n ((kk, i, ⟨dst, op, ty, pos, af, some (j, false)⟩) :: steps) ((s, .bool true) :: e) L)
    (k : GD P w0 l Q LS n stepr ((d, .bool (t || c)) :: e) L) : GD P w0 l Q LS n ((kk, i, ⟨dst, op, ty, pos, af, some (j, false)⟩) :: steps) e L :=
  ⟨fun a w ha hw => by
    cases h : t with
    | true => exact (htr (hp.yes h) ⟨fun a w ha hw => k.run a w (ha.unknow ht h (by rw [h]; rfl)) hw⟩).run a w (ha.know ht h) hw
    | false => exact (hf (hp.no h) ⟨fun a w ha hw => k.run a w (ha.unknow ht h (by rw [h]; rfl)) hw⟩).run a w (ha.know ht h) hw⟩
theorem GD_and {kk s j : Nat} {t c : Bool} {p : Prop} (hj : nthO l j = some (some s)) (ht : e.get s = some (.bool t)) (hp : Tell t p)
    (htr : p → GD P w0 l Q LS n stepr ((d, .bool c) :: (s, .bool true) :: e) L → GD P w0 l Q LS n ((kk, i, ⟨dst, op, ty, pos, af, some (j, true)⟩) :: steps) ((s, .bool true) :: e) L)
    (hf : ¬ p → GD P w0 l Q LS n stepr ((d, .bool false) :: (s, .bool false) :: e) L → GD P w0 l Q LS n ((kk, i, ⟨dst, op, ty, pos, af, some (j, true)⟩) :: steps) ((s, .bool false) :: e) L)
    (k : GD P w0 l Q LS n stepr ((d, .bool (t && c)) :: e) L) : GD P w0 l Q LS n ((kk, i, ⟨dst, op, ty, pos, af, some (j, true)⟩) :: steps) e L :=
  ⟨fun a w ha hw => by
    cases h : t with
    | true => exact (htr (hp.yes h) ⟨fun a w ha hw => k.run a w (ha.unknow ht h (by rw [h]; rfl)) hw⟩).run a w (ha.know ht h) hw
    | false => exact (hf (hp.no h) ⟨fun a w ha hw => k.run a w (ha.unknow ht h (by rw [h]; rfl)) hw⟩).run a w (ha.know ht h) hw⟩
theorem GC_condT {c : Operand} {x y : Code} {t : Bool} {p : Prop} (hc : e.op c = some (.bool t)) (hp : Tell t p) (ht : p → GC P w0 n x Q e L) (hf : ¬ p → GC P w0 n y Q e L) : GC P w0 n (.cond c x y) Q e L :=
  GC_cond hc (fun h => ht (hp.yes h)) (fun h => hf (hp.no h))
theorem wanted_undef {a : Act} {j s : Nat} {b : Bool} (ha : EnvOk n e a) (hj : nthO l j = some (some s)) (ht : e.get s = some undef) :
    Region.wanted ⟨dst, op, ty, pos, af, some (j, b)⟩ (yielded l.toArray a.tmps) = false := by
  have h1 : (l.toArray[j]?).bind (·.dst) = some s := by simpa using nthO_get l j _ hj
  have h2 := ha.get s _ ht
  simp only [Region.wanted, yielded, h1, Option.bind_some, h2]
  rfl
theorem GL_offU {j s : Nat} {b : Bool} (hj : nthO l j = some (some s)) (ht : e.get s = some undef) (hd : Nat.blt d n = true)
    (k : GL P w0 l.toArray Q n rest ((d, undef) :: e) L) : GL P w0 l.toArray Q n (⟨some d, op, ty, pos, af, some (j, b)⟩ :: rest) e L :=
  ⟨fun a w ha hw => by
    unfold wpList
    rw [if_neg (by rw [wanted_undef ha hj ht]; simp)]
    exact k.run _ w (ha.put _ (Nat.blt_eq.mp hd)) hw⟩
theorem GD_offU {k j s : Nat} {b : Bool} [hs : Sub L LS] (hj : nthO l j = some (some s)) (ht : e.get s = some undef) (hd : Nat.blt d n = true)
    (h : GD P w0 l Q LS n steps ((d, undef) :: e) L) : GD P w0 l Q LS n ((k, i, ⟨some d, op, ty, pos, af, some (j, b)⟩) :: steps) e L :=
  ⟨fun a w ha hw => by
    have h1 := h.run _ w (ha.put undef (Nat.blt_eq.mp hd)) hw
    have hoff : Region.wanted ⟨some d, op, ty, pos, af, some (j, b)⟩ (yielded l.toArray a.tmps) = false := wanted_undef ha hj ht
    match k with
    | 0 => exact ⟨undef, hs.own _ w hw, .inr ⟨hoff, rfl⟩, h1⟩
    | 1 => exact ⟨undef, .inr ⟨hoff, rfl⟩, h1⟩
    | 2 => simp only [wpD]; rw [if_neg (by rw [hoff]; simp)]; exact h1
    | _ + 3 => simp only [wpD]; rw [if_neg (by rw [hoff]; simp)]; exact h1⟩
/-! ### Results that lie in cells -/
structure Cell (P : Program) (w0 : World) (L : List Ent) (u : Value) (T : TypeId) (v : Value) : Prop where
  run : ∀ w, Own w0 w L → ∃ p, (asAddr u).run P w = .ok p w ∧ (loadVar T p).run P w = .ok v w
theorem Cell.agg {T b k m : Nat} {l cs : List Value} {T' : TypeId} {fz : Nat × Nat} [ho : Many P T m] (hf : Find L b (.cells l.toArray T' fz)) (hv : nths l k m = some cs) :
    Cell P w0 L (.pointer (some ⟨b, k, none⟩)) T (.agg cs.toArray) := ⟨fun w hw => by
  obtain ⟨h1, h2⟩ := nths_get l m k cs hv
  have hc : (loadCells ⟨b, k, none⟩ m).run P w = .ok cs.toArray w := by
    have := run_loadCells_list (P := P) (w := w) ⟨b, k, none⟩ cs (fun j v hj => by
      rw [add_plain, heap_cell (hf.heap hw), h2 j (by rw [← h1]; exact (List.getElem?_eq_some_iff.1 hj).1)]; exact hj)
    rw [h1] at this
    exact this
  have h3 := ho.agg w
  have h4 := ho.size w
  refine ⟨_, by simp [asAddr]; rfl, ?_⟩
  simp [loadVar, h3, h4, hc]⟩
theorem Cell.one {T b k : Nat} {l : List Value} {v : Value} {T' : TypeId} {fz : Nat × Nat} [ho : One P T] (hf : Find L b (.cells l.toArray T' fz)) (hv : nth l k = some v) :
    Cell P w0 L (.pointer (some ⟨b, k, none⟩)) T v := ⟨fun w hw => by
  have hc : w.cell? ⟨b, k, none⟩ = some v := by rw [heap_cell (hf.heap hw), ← nth_get]; exact hv
  have h1 := ho.agg w
  refine ⟨_, by simp [asAddr]; rfl, ?_⟩
  simp [loadVar, h1, hc]⟩
theorem resC1 {fn : Func} {t : Nat} {T : TypeId} {u v : Value} (hf : fn.results = #[.cell t T]) (hu : e.get t = some u) (hc : Cell P w0 L u T v) :
    ∀ a w, EnvOk n e a → Own w0 w L → (results fn a.tmps).run P w = .ok v w := fun a w ha hw => by
  obtain ⟨p, h1, h2⟩ := hc.run w hw
  simp [results, hf, Array.getD_eq_getD_getElem?, ha.get t u hu, h1, h2]
theorem resC2 {fn : Func} {t s : Nat} {T : TypeId} {u v v' : Value} (hf : fn.results = #[.cell t T, .tmp s]) (hu : e.get t = some u) (hc : Cell P w0 L u T v) (hs : e.get s = some v') :
    ∀ a w, EnvOk n e a → Own w0 w L → (results fn a.tmps).run P w = .ok (.tuple #[v, v']) w := fun a w ha hw => by
  obtain ⟨p, h1, h2⟩ := hc.run w hw
  simp [results, hf, Array.getD_eq_getD_getElem?, ha.get t u hu, ha.get s v' hs, h1, h2]
theorem resC3 {fn : Func} {t s r : Nat} {T : TypeId} {u v v' v'' : Value} (hf : fn.results = #[.cell t T, .tmp s, .tmp r]) (hu : e.get t = some u) (hc : Cell P w0 L u T v) (hs : e.get s = some v') (hr : e.get r = some v'') :
    ∀ a w, EnvOk n e a → Own w0 w L → (results fn a.tmps).run P w = .ok (.tuple #[v, v', v'']) w := fun a w ha hw => by
  obtain ⟨p, h1, h2⟩ := hc.run w hw
  simp [results, hf, Array.getD_eq_getD_getElem?, ha.get t u hu, ha.get s v' hs, ha.get r v'' hr, h1, h2]
/-! ### A store where loads may still come: what they read isn't the block that is written -/
theorem GD_ef0E {L' : List Ent} (h : Ef P w0 n e L ⟨none, op, ty, pos, af, none⟩ (fun _ L1 => L1 = L')) (hs : Sub L' LS)
    (k : GD P w0 l Q LS n steps e L') : GD P w0 l Q LS n ((3, i, ⟨none, op, ty, pos, af, none⟩) :: steps) e L :=
  ⟨fun a w ha hw => by
    obtain ⟨v, w', L1, hr, hΦ, hw'⟩ := h a w ha hw
    subst hΦ
    simp only [wpD]
    rw [if_pos (wanted_none _)]
    refine .inl ?_
    unfold Oper.wp
    rcases hr with hr | ⟨hr, rfl⟩
    · rw [hr]; exact ⟨fun _ => hs.own _ _ hw', k.run _ w' ha hw'⟩
    · rw [hr]; exact ⟨fun _ => hs.own _ _ hw', k.run _ w' ha hw'⟩⟩
theorem Es {T b j : Nat} {x y : Operand} {l' : List Value} {T' : TypeId} {u v : Value} {L' : List Ent} [One P T] (h1 : e.op x = some (.pointer (some ⟨b, j, none⟩))) (h2 : e.op y = some v)
    (h3 : Upd L b (.cells l'.toArray T' (0, 0)) (.cells (setNth l' j v).toArray T' (0, 0)) L') (h4 : nth l' j = some u) (h5 : v.oneCell' = true) (h6 : Sub L' LS) (k : GD P w0 l Q LS n steps e L') : GD P w0 l Q LS n ((3, i, ⟨none, .store T x y, ty, pos, af, none⟩) :: steps) e L :=
  GD_ef0E (Ef_store h1 h2 h3 h4 h5) h6 k
theorem ES {T b j m : Nat} {x y : Operand} {l' cs : List Value} {T' : TypeId} {L' : List Ent} [SizeOf P T m] (h1 : e.op x = some (.pointer (some ⟨b, j, none⟩))) (h2 : e.op y = some (.agg cs.toArray))
    (h3 : Upd L b (.cells l'.toArray T' (0, 0)) (.cells (setNths l' j cs).toArray T' (0, 0)) L') (h4 : lenL cs = m) (h5 : Nat.ble (j + m) (lenL l') = true) (h6 : oneCells cs = true) (h7 : Sub L' LS) (k : GD P w0 l Q LS n steps e L') : GD P w0 l Q LS n ((3, i, ⟨none, .store T x y, ty, pos, af, none⟩) :: steps) e L :=
  GD_ef0E (Ef_storeAgg h1 h2 h3 h4 h5 h6) h7 k
theorem GC_drawT {id n : Nat} {w0 : World} {e e' : Env} {x : Ent} {L : List Ent} {l : List Oper} (ks : List Nat) (π : List (Nat × Nat)) (he : e.keep ks = e') (hm : P.follows .mixedOrders = true)
    (hB : (Region.noSelect l.toArray && (Nat.beq π.length l.length && orderB l.toArray (earlyOf π) π (Array.replicate l.length false))) = true) [hQ : PanicOk Q]
    (h : GD P w0 l Q L n (stepsOf l π) e' (x :: L)) : GC P w0 n (.region id l.toArray true) Q e (x :: L) := GC_keep ks (GC_draw' L π hm hB (by rw [he]; exact h))
end
end Go.Sm
