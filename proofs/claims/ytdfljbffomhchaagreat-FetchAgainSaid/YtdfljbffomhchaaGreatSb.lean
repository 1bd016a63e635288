/- Rules of the small separation logic: code, regions, calls, loops, the end of a function. Plain theorems over any program. -/
import Derived.Test.YtdfljbffomhchaaGreatSa
set_option linter.unusedVariables false
set_option linter.unusedSimpArgs false
set_option linter.unnecessarySimpa false
namespace Go.Sm
open Go.RowKit

structure GL (P : Program) (w0 : World) (ops : Array Oper) (Q : Exit → Act → World → Prop) (n : Nat) (rest : List Oper) (e : Env) (L : List Ent) : Prop where
  run : ∀ a w, EnvOk n e a → Own w0 w L → wpList P ops Q rest a w
structure GC (P : Program) (w0 : World) (n : Nat) (c : Code) (Q : Exit → Act → World → Prop) (e : Env) (L : List Ent) : Prop where
  run : ∀ a w, EnvOk n e a → Own w0 w L → c.wp P Q a w
structure GX (w0 : World) (n : Nat) (x : Exit) (Q : Exit → Act → World → Prop) (e : Env) (L : List Ent) : Prop where
  run : ∀ a w, EnvOk n e a → Own w0 w L → Q x a w
/-- What a function hands back. -/
structure Ret (Φ : Value → World → Prop) (e : Ending) (w' : World) : Prop where
  out : ∃ v, e = .returned v ∧ Φ v w'

section
variable {P : Program} {w0 : World} {n : Nat} {e : Env} {L : List Ent} {Q : Exit → Act → World → Prop} {ops : Array Oper} {rest : List Oper}

/-! ### Exits -/
theorem GX_then {c : Code} {Q' : Exit → Act → World → Prop} (h : GC P w0 n c Q' e L) : GX w0 n .normal (Exit.then (c.wp P Q') Q) e L := ⟨h.run⟩
theorem GX_then_ret {K : Act → World → Prop} (h : GX w0 n .ret Q e L) : GX w0 n .ret (Exit.then K Q) e L := ⟨h.run⟩
theorem GX_then_exit {K : Act → World → Prop} {id : Nat} (h : GX w0 n (.exit id) Q e L) : GX w0 n (.exit id) (Exit.then K Q) e L := ⟨h.run⟩
theorem GX_block {id : Nat} (h : GX w0 n .normal Q e L) : GX w0 n .normal (Exit.inBlock id Q) e L := ⟨h.run⟩
theorem GX_block_ret {id : Nat} (h : GX w0 n .ret Q e L) : GX w0 n .ret (Exit.inBlock id Q) e L := ⟨h.run⟩
theorem GX_block_exit {id id' : Nat} (hid : id' = id) (h : GX w0 n .normal Q e L) : GX w0 n (.exit id') (Exit.inBlock id Q) e L :=
  ⟨fun a w ha hw => by simp only [Exit.inBlock, hid, if_true]; exact h.run a w ha hw⟩
theorem GX_block_other {id id' : Nat} (hid : Nat.beq id' id = false) (h : GX w0 n (.exit id') Q e L) : GX w0 n (.exit id') (Exit.inBlock id Q) e L :=
  ⟨fun a w ha hw => by
    have : ¬ id' = id := fun e => by rw [e, Nat.beq_refl] at hid; cases hid
    simp only [Exit.inBlock, this, if_false]; exact h.run a w ha hw⟩
/-- The end of a function: one result. -/
theorem GX_end {x : Exit} {fn : Func} {R : Ending → World → Prop} {v : Value} (hx : x = .ret ∨ x = .normal)
    (hr : ∀ a w, EnvOk n e a → Own w0 w L → (results fn a.tmps).run P w = .ok v w) (h : ∀ w, Own w0 w L → R (.returned v) w) : GX w0 n x (bodyPost P fn R) e L :=
  ⟨fun a w ha hw => by
    rcases hx with rfl | rfl
    · exact ⟨ha.defers, v, hr a w ha hw, h w hw⟩
    · exact ⟨ha.defers, v, hr a w ha hw, h w hw⟩⟩
theorem res0 {fn : Func} (hf : fn.results = #[]) : ∀ a w, EnvOk n e a → Own w0 w L → (results fn a.tmps).run P w = .ok (.tuple #[]) w :=
  fun a w _ _ => results_none hf a.tmps P w
theorem res1 {fn : Func} {t : Nat} {v : Value} (hf : fn.results = #[.tmp t]) (hv : e.get t = some v) : ∀ a w, EnvOk n e a → Own w0 w L → (results fn a.tmps).run P w = .ok v w :=
  fun a w ha _ => by rw [results_tmp hf]; simp [Array.getD_eq_getD_getElem?, ha.get t v hv]
theorem res2 {fn : Func} {t u : Nat} {v v' : Value} (hf : fn.results = #[.tmp t, .tmp u]) (hv : e.get t = some v) (hv' : e.get u = some v') :
    ∀ a w, EnvOk n e a → Own w0 w L → (results fn a.tmps).run P w = .ok (.tuple #[v, v']) w :=
  fun a w ha _ => by rw [results_tmp2 hf]; simp [Array.getD_eq_getD_getElem?, ha.get t v hv, ha.get u v' hv']
theorem res3 {fn : Func} {t u s : Nat} {v v' v'' : Value} (hf : fn.results = #[.tmp t, .tmp u, .tmp s]) (hv : e.get t = some v) (hv' : e.get u = some v') (hv'' : e.get s = some v'') :
    ∀ a w, EnvOk n e a → Own w0 w L → (results fn a.tmps).run P w = .ok (.tuple #[v, v', v'']) w :=
  fun a w ha _ => by simp [results, hf, Array.getD_eq_getD_getElem?, ha.get t v hv, ha.get u v' hv', ha.get s v'' hv'']

/-! ### Code -/
theorem GC_seq {x y : Code} (h : GC P w0 n x (Exit.then (y.wp P Q) Q) e L) : GC P w0 n (.seq x y) Q e L := ⟨fun a w ha hw => wp_seq (h.run a w ha hw)⟩
theorem GC_skip (h : GX w0 n .normal Q e L) : GC P w0 n .skip Q e L := ⟨fun a w ha hw => wp_skip (h.run a w ha hw)⟩
theorem GC_ret (h : GX w0 n .ret Q e L) : GC P w0 n .ret Q e L := ⟨fun a w ha hw => wp_ret (h.run a w ha hw)⟩
theorem GC_exit {id : Nat} (h : GX w0 n (.exit id) Q e L) : GC P w0 n (.exit id) Q e L := ⟨fun a w ha hw => wp_exit (h.run a w ha hw)⟩
theorem GC_block {id : Nat} {c : Code} (h : GC P w0 n c (Exit.inBlock id Q) e L) : GC P w0 n (.block id c) Q e L := ⟨fun a w ha hw => wp_block (h.run a w ha hw)⟩
theorem GC_true {c : Operand} {x y : Code} (hc : e.op c = some (.bool true)) (h : GC P w0 n x Q e L) : GC P w0 n (.cond c x y) Q e L :=
  ⟨fun a w ha hw => wp_cond_true (ha.op hc) (h.run a w ha hw)⟩
theorem GC_false {c : Operand} {x y : Code} (hc : e.op c = some (.bool false)) (h : GC P w0 n y Q e L) : GC P w0 n (.cond c x y) Q e L :=
  ⟨fun a w ha hw => wp_cond_false (ha.op hc) (h.run a w ha hw)⟩
theorem GC_cond {c : Operand} {x y : Code} {b : Bool} (hc : e.op c = some (.bool b)) (ht : b = true → GC P w0 n x Q e L) (hf : b = false → GC P w0 n y Q e L) : GC P w0 n (.cond c x y) Q e L :=
  ⟨fun a w ha hw => wp_cond_split (ha.op hc) (fun h => (ht h).run a w ha hw) (fun h => (hf h).run a w ha hw)⟩
theorem GC_condP {c : Operand} {x y : Code} {p : Prop} [Decidable p] (hc : e.op c = some (.bool (decide p))) (ht : p → GC P w0 n x Q e L) (hf : ¬ p → GC P w0 n y Q e L) : GC P w0 n (.cond c x y) Q e L :=
  ⟨fun a w ha hw => wp_cond_split (ha.op hc) (fun h => (ht (of_decide_eq_true h)).run a w ha hw) (fun h => (hf (of_decide_eq_false h)).run a w ha hw)⟩
theorem GC_keep {c : Code} (ks : List Nat) (h : GC P w0 n c Q (e.keep ks) L) : GC P w0 n c Q e L := ⟨fun a w ha hw => h.run a w (ha.keep ks) hw⟩
theorem GC_sub {c : Code} {L' : List Ent} (hs : ∀ w, Own w0 w L → Own w0 w L') (h : GC P w0 n c Q e L') : GC P w0 n c Q e L := ⟨fun a w ha hw => h.run a w ha (hs w hw)⟩
theorem GX_keep {x : Exit} (ks : List Nat) (h : GX w0 n x Q (e.keep ks) L) : GX w0 n x Q e L := ⟨fun a w ha hw => h.run a w (ha.keep ks) hw⟩
theorem GX_sub {x : Exit} {L' : List Ent} (hs : ∀ w, Own w0 w L → Own w0 w L') (h : GX w0 n x Q e L') : GX w0 n x Q e L := ⟨fun a w ha hw => h.run a w ha (hs w hw)⟩

/-- Ways that meet again: what holds behind the first part, whichever way was taken. -/
def Cut (w0 : World) (n : Nat) (Φ : Env → List Ent → Prop) (Q : Exit → Act → World → Prop) : Exit → Act → World → Prop
  | .normal, a, w => ∃ e L, Φ e L ∧ EnvOk n e a ∧ Own w0 w L
  | x, a, w => Q x a w
theorem GC_cut {x y : Code} (Φ : Env → List Ent → Prop) (h1 : GC P w0 n x (Cut w0 n Φ Q) e L) (h2 : ∀ e L, Φ e L → GC P w0 n y Q e L) : GC P w0 n (.seq x y) Q e L :=
  ⟨fun a w ha hw => wp_seq (wp_mono (h1.run a w ha hw) fun x a w hx => by
    cases x with
    | normal => obtain ⟨e, L, h, ha, hw⟩ := hx; exact (h2 e L h).run a w ha hw
    | _ => exact hx)⟩
theorem GX_cut {Φ : Env → List Ent → Prop} (h : Φ e L) : GX w0 n .normal (Cut w0 n Φ Q) e L := ⟨fun _ _ ha hw => ⟨e, L, h, ha, hw⟩⟩
theorem GX_cut_ret {Φ : Env → List Ent → Prop} (h : GX w0 n .ret Q e L) : GX w0 n .ret (Cut w0 n Φ Q) e L := ⟨h.run⟩
theorem GX_cut_exit {Φ : Env → List Ent → Prop} {id : Nat} (h : GX w0 n (.exit id) Q e L) : GX w0 n (.exit id) (Cut w0 n Φ Q) e L := ⟨h.run⟩

/-- A loop: what holds at every round's head, told by an index; a measure of the index. -/
def Lp (w0 : World) (n : Nat) {ι : Type} (I : ι → Env → List Ent → Prop) (μ : ι → Nat) (i : ι) (Q : Exit → Act → World → Prop) : Exit → Act → World → Prop
  | .normal, a, w => ∃ j e L, I j e L ∧ μ j < μ i ∧ EnvOk n e a ∧ Own w0 w L
  | x, a, w => Q x a w
theorem GC_loop {ι : Type} (I : ι → Env → List Ent → Prop) (μ : ι → Nat) {c : Code} (i : ι) (h0 : I i e L)
    (hr : ∀ i e L, I i e L → GC P w0 n c (Lp w0 n I μ i Q) e L) : GC P w0 n (.loop c) Q e L := by
  refine ⟨fun a w ha hw => ?_⟩
  intro b k cs
  have key : ∀ m i e L a w, μ i = m → I i e L → EnvOk n e a → Own w0 w L →
      ∃ x a' w', Q x a' w' ∧ Arrives P (lone (b.at a (.code c :: .inLoop c :: k)) cs w) b k cs x a' w' := by
    intro m
    induction m using Nat.strongRecOn with
    | _ m ih =>
      intro i e L a w hm hI ha hw
      obtain ⟨x, a₁, w₁, hq, harr⟩ := (hr i e L hI).run a w ha hw b (.inLoop c :: k) cs
      cases x with
      | normal =>
        obtain ⟨j, e', L', hI', hlt, ha', hw'⟩ := hq
        obtain ⟨x₂, a₂, w₂, hq₂, harr₂⟩ := ih (μ j) (hm ▸ hlt) j e' L' a₁ w₁ rfl hI' ha' hw'
        exact ⟨x₂, a₂, w₂, hq₂, .of_steps (Steps.trans harr (.one step_inLoop)) harr₂⟩
      | exit id => exact ⟨_, a₁, w₁, hq, .pass (x := .inLoop c) rfl (fun _ _ => .inl (by simp)) harr⟩
      | goto l => exact ⟨_, a₁, w₁, hq, .pass (x := .inLoop c) rfl (fun _ _ => .inl (by simp)) harr⟩
      | ret => exact ⟨_, a₁, w₁, hq, .pass (x := .inLoop c) rfl (fun _ _ => .inl (by simp)) harr⟩
      | panic ch => exact ⟨_, a₁, w₁, hq, .pass (x := .inLoop c) rfl (fun _ _ => .inl (by simp)) harr⟩
      | outgrown => exact ⟨_, a₁, w₁, hq, .pass (x := .inLoop c) rfl (fun _ _ => .inl (by simp)) harr⟩
  obtain ⟨x, a', w', hq, harr⟩ := key _ i e L a w rfl h0 ha hw
  exact ⟨x, a', w', hq, .of_steps (.one step_loop) harr⟩
theorem GX_loop {ι : Type} {I : ι → Env → List Ent → Prop} {μ : ι → Nat} {i : ι} (j : ι) (h : I j e L) (hlt : μ j < μ i) : GX w0 n .normal (Lp w0 n I μ i Q) e L :=
  ⟨fun _ _ ha hw => ⟨j, e, L, h, hlt, ha, hw⟩⟩
theorem GX_loop_ret {ι : Type} {I : ι → Env → List Ent → Prop} {μ : ι → Nat} {i : ι} (h : GX w0 n .ret Q e L) : GX w0 n .ret (Lp w0 n I μ i Q) e L := ⟨h.run⟩
theorem GX_loop_exit {ι : Type} {I : ι → Env → List Ent → Prop} {μ : ι → Nat} {i : ι} {id : Nat} (h : GX w0 n (.exit id) Q e L) : GX w0 n (.exit id) (Lp w0 n I μ i Q) e L := ⟨h.run⟩

/-! ### A region in the order of the text -/
theorem GC_region {id : Nat} {l : List Oper} (h : GL P w0 l.toArray Q n l e L) : GC P w0 n (.region id l.toArray false) Q e L :=
  ⟨fun a w ha hw => wp_region_lit (h.run a w ha hw)⟩
theorem GL_nil (h : GX w0 n .normal Q e L) : GL P w0 ops Q n [] e L := ⟨h.run⟩
theorem GL_keep (ks : List Nat) (h : GL P w0 ops Q n rest (e.keep ks) L) : GL P w0 ops Q n rest e L := ⟨fun a w ha hw => h.run a w (ha.keep ks) hw⟩
theorem GL_sub {L' : List Ent} (hs : ∀ w, Own w0 w L → Own w0 w L') (h : GL P w0 ops Q n rest e L') : GL P w0 ops Q n rest e L := ⟨fun a w ha hw => h.run a w ha (hs w hw)⟩

/-- It hands back v and leaves the world alone. -/
def Ev (P : Program) (w0 : World) (n : Nat) (e : Env) (L : List Ent) (o : Oper) (v : Value) : Prop :=
  ∀ a w, EnvOk n e a → Own w0 w L → (execOp a.eval o).run P w = .ok (.value v) w
/-- It hands back something, and what is owned turns. -/
def Ef (P : Program) (w0 : World) (n : Nat) (e : Env) (L : List Ent) (o : Oper) (Φ : Value → List Ent → Prop) : Prop :=
  ∀ a w, EnvOk n e a → Own w0 w L → ∃ v w' L', ((execOp a.eval o).run P w = .ok (.value v) w' ∨ ((execOp a.eval o).run P w = .ok .skip w' ∧ v = undef)) ∧ Φ v L' ∧ Own w0 w' L'

theorem wanted_none {dst : Option Tmp} {op : Op} {ty : TypeId} {pos : String} {af : Array Edge} (y : Nat → Option Bool) : Region.wanted ⟨dst, op, ty, pos, af, none⟩ y = true := rfl

theorem wpList_none {dst : Option Tmp} {op : Op} {ty : TypeId} {pos : String} {af : Array Edge} {a : Act} {w : World}
    (h : (⟨dst, op, ty, pos, af, none⟩ : Oper).wp P a w (wpList P ops Q rest) Q) : wpList P ops Q (⟨dst, op, ty, pos, af, none⟩ :: rest) a w := by
  unfold wpList
  rw [if_pos (wanted_none _)]
  exact .inl h

theorem GL_ev {d : Nat} {op : Op} {ty : TypeId} {pos : String} {af : Array Edge} {v : Value} (h : Ev P w0 n e L ⟨some d, op, ty, pos, af, none⟩ v) (hd : Nat.blt d n = true)
    (k : GL P w0 ops Q n rest ((d, v) :: e) L) : GL P w0 ops Q n (⟨some d, op, ty, pos, af, none⟩ :: rest) e L :=
  ⟨fun a w ha hw => wpList_none (by
    unfold Oper.wp
    rw [h a w ha hw]
    exact k.run _ w (ha.put v (Nat.blt_eq.mp hd)) hw)⟩

theorem GL_ef {d : Nat} {op : Op} {ty : TypeId} {pos : String} {af : Array Edge} {Φ : Value → List Ent → Prop} (h : Ef P w0 n e L ⟨some d, op, ty, pos, af, none⟩ Φ) (hd : Nat.blt d n = true)
    (k : ∀ v L', Φ v L' → GL P w0 ops Q n rest ((d, v) :: e) L') : GL P w0 ops Q n (⟨some d, op, ty, pos, af, none⟩ :: rest) e L :=
  ⟨fun a w ha hw => wpList_none (by
    obtain ⟨v, w', L', hr, hΦ, hw'⟩ := h a w ha hw
    unfold Oper.wp
    rcases hr with hr | ⟨hr, rfl⟩
    · rw [hr]; exact (k v L' hΦ).run _ w' (ha.put v (Nat.blt_eq.mp hd)) hw'
    · rw [hr]; exact (k _ L' hΦ).run _ w' (ha.put _ (Nat.blt_eq.mp hd)) hw')⟩

theorem GL_ef0 {op : Op} {ty : TypeId} {pos : String} {af : Array Edge} {L' : List Ent} (h : Ef P w0 n e L ⟨none, op, ty, pos, af, none⟩ (fun _ L1 => L1 = L'))
    (k : GL P w0 ops Q n rest e L') : GL P w0 ops Q n (⟨none, op, ty, pos, af, none⟩ :: rest) e L :=
  ⟨fun a w ha hw => wpList_none (by
    obtain ⟨v, w', L1, hr, hΦ, hw'⟩ := h a w ha hw
    subst hΦ
    unfold Oper.wp
    rcases hr with hr | ⟨hr, rfl⟩
    · rw [hr]; exact k.run _ w' ha hw'
    · rw [hr]; exact k.run _ w' ha hw')⟩

/-! ### Guards -/
def nthO : List Oper → Nat → Option (Option Tmp)
  | [], _ => none
  | o :: _, 0 => some o.dst
  | _ :: r, k + 1 => nthO r k
theorem nthO_get : ∀ (l : List Oper) (j : Nat) (d : Option Tmp), nthO l j = some d → (l[j]?).bind (·.dst) = d
  | [], _, _, h => by cases h
  | o :: _, 0, d, h => by simp only [nthO] at h; cases h; simp
  | _ :: r, k + 1, d, h => by simp only [nthO] at h; simpa using nthO_get r k d h

theorem wanted_of {l : List Oper} {a : Act} {j s : Nat} {t b : Bool} (ha : EnvOk n e a) (hj : nthO l j = some (some s)) (ht : e.get s = some (.bool t))
    {dst : Option Tmp} {op : Op} {ty : TypeId} {pos : String} {af : Array Edge} : Region.wanted ⟨dst, op, ty, pos, af, some (j, b)⟩ (yielded l.toArray a.tmps) = (t == b) := by
  have h1 : (l.toArray[j]?).bind (·.dst) = some s := by simpa using nthO_get l j _ hj
  have h2 := ha.get s _ ht
  simp only [Region.wanted, yielded, h1, Option.bind_some, h2]
  cases t <;> cases b <;> rfl

/-- A guarded operation that runs, as one without a guard. -/
theorem GL_on {l : List Oper} {dst : Option Tmp} {op : Op} {ty : TypeId} {pos : String} {af : Array Edge} {j s : Nat} {b : Bool} (hj : nthO l j = some (some s)) (ht : e.get s = some (.bool b))
    (k : GL P w0 l.toArray Q n (⟨dst, op, ty, pos, af, none⟩ :: rest) e L) : GL P w0 l.toArray Q n (⟨dst, op, ty, pos, af, some (j, b)⟩ :: rest) e L :=
  ⟨fun a w ha hw => by
    have h := k.run a w ha hw
    unfold wpList at h ⊢
    rw [if_pos (wanted_none _)] at h
    rw [if_pos (by rw [wanted_of ha hj ht]; simp)]
    exact h⟩
/-- .. that doesn't run. -/
theorem GL_off {l : List Oper} {d : Nat} {op : Op} {ty : TypeId} {pos : String} {af : Array Edge} {j s : Nat} {b : Bool} (hj : nthO l j = some (some s)) (ht : e.get s = some (.bool !b)) (hd : Nat.blt d n = true)
    (k : GL P w0 l.toArray Q n rest ((d, undef) :: e) L) : GL P w0 l.toArray Q n (⟨some d, op, ty, pos, af, some (j, b)⟩ :: rest) e L :=
  ⟨fun a w ha hw => by
    unfold wpList
    rw [if_neg (by rw [wanted_of ha hj ht]; cases b <;> simp)]
    exact k.run _ w (ha.put _ (Nat.blt_eq.mp hd)) hw⟩

/-! ### Calls -/
class IsFn (P : Program) (f : FuncId) : Prop where
  run : ∀ (args : Array Value) (w : World), (callFunc f args).run P w = .ok (.enter f args) w
class IsMethod (P : Program) (t : TypeId) (name : String) (f : outParam FuncId) : Prop where
  run : ∀ (a : Addr) (args : Array Value) (w : World), (callMethod (.iface t (.pointer (some a))) name args).run P w = .ok (.enter f (#[.pointer (some a)] ++ args)) w

theorem exec_call {a : Act} {w : World} (f : FuncId) [hf : IsFn P f] {args : Array Operand} {vs : List Value} {dst : Option Tmp} {at_ : Array TypeId} {ty : TypeId} {pos : String} {af : Array Edge} {g : Option (Nat × Bool)}
    (ha : EnvOk n e a) (hv : e.opsL args.toList = some vs) :
    (execOp a.eval ⟨dst, .call { callee := .value (.func f), args := args, argTypes := at_ }, ty, pos, af, g⟩).run P w = .ok (.enter f vs.toArray) w := by
  have h1 : args.map a.eval = vs.toArray := by
    have := ha.opsL hv
    apply Array.ext'
    simpa using this
  have h2 := hf.run vs.toArray w
  have h3 : a.eval (.func f) = .func (.func f) #[] #[] := rfl
  simp [execOp, resolve, h1, h3, Deferred.ofValue, invoke, h2]

theorem exec_invoke {a : Act} {w : World} {t : TypeId} {name : String} {f : FuncId} [hf : IsMethod P t name f] {recv : Operand} {p : Addr} {args : Array Operand} {vs : List Value} {dst : Option Tmp} {at_ : Array TypeId} {ty : TypeId} {pos : String} {af : Array Edge} {g : Option (Nat × Bool)}
    (ha : EnvOk n e a) (hr : e.op recv = some (.iface t (.pointer (some p)))) (hv : e.opsL args.toList = some vs) :
    (execOp a.eval ⟨dst, .call { callee := .invoke recv name, args := args, argTypes := at_ }, ty, pos, af, g⟩).run P w = .ok (.enter f (.pointer (some p) :: vs).toArray) w := by
  have h1 : args.map a.eval = vs.toArray := by
    have := ha.opsL hv
    apply Array.ext'
    simpa using this
  have h2 := hf.run p vs.toArray w
  have h3 := ha.op hr
  have h4 : ((#[Value.iface t (.pointer (some p))] : Array Value) ++ vs.toArray).extract 1 (vs.length + 1) = vs.toArray := by
    apply Array.ext'
    simp [List.extract_eq_take_drop]
  have h4' : ((#[Value.iface t (.pointer (some p))] : Array Value) ++ vs.toArray).extract 1 (1 + vs.length) = vs.toArray := by rw [Nat.add_comm]; exact h4
  have h5 : ((#[Value.iface t (.pointer (some p))] : Array Value) ++ vs.toArray)[0]? = some (.iface t (.pointer (some p))) := by simp
  simp [execOp, resolve, h1, h3, invoke]
  first
    | (simp [h2]; done)
    | (simp [h4, h2]; done)
    | (simp [h4', h2])

theorem GL_enter {d : Nat} {op : Op} {ty : TypeId} {pos : String} {af : Array Edge} {f : FuncId} {vs : List Value} {Φ : Value → World → Prop} (hd : Nat.blt d n = true)
    (hx : ∀ a w, EnvOk n e a → (execOp a.eval ⟨some d, op, ty, pos, af, none⟩).run P w = .ok (.enter f vs.toArray) w)
    (hc : ∀ w, Own w0 w L → Calls P f vs.toArray w (Ret Φ))
    (k : ∀ v w', Φ v w' → ∃ L', Own w0 w' L' ∧ GL P w0 ops Q n rest ((d, v) :: e) L') : GL P w0 ops Q n (⟨some d, op, ty, pos, af, none⟩ :: rest) e L :=
  ⟨fun a w ha hw => wpList_none (by
    unfold Oper.wp
    rw [hx a w ha]
    refine (hc w hw).mono fun x w' hx => ?_
    obtain ⟨v, rfl, hΦ⟩ := hx.out
    obtain ⟨L', hw', hk⟩ := k v w' hΦ
    exact hk.run _ w' (ha.put v (Nat.blt_eq.mp hd)) hw')⟩

theorem GL_call {d : Nat} {ty : TypeId} {pos : String} {af : Array Edge} {f : FuncId} [IsFn P f] {args : Array Operand} {at_ : Array TypeId} {vs : List Value} {Φ : Value → World → Prop}
    (hv : e.opsL args.toList = some vs) (hc : ∀ w, Own w0 w L → Calls P f vs.toArray w (Ret Φ)) (hd : Nat.blt d n = true)
    (k : ∀ v w', Φ v w' → ∃ L', Own w0 w' L' ∧ GL P w0 ops Q n rest ((d, v) :: e) L') :
    GL P w0 ops Q n (⟨some d, .call { callee := .value (.func f), args := args, argTypes := at_ }, ty, pos, af, none⟩ :: rest) e L :=
  GL_enter hd (fun _ _ ha => exec_call f ha hv) hc k

theorem GL_invoke {d : Nat} {ty : TypeId} {pos : String} {af : Array Edge} {t : TypeId} {name : String} {f : FuncId} [IsMethod P t name f] {recv : Operand} {p : Addr} {args : Array Operand} {at_ : Array TypeId} {vs : List Value} {Φ : Value → World → Prop}
    (hr : e.op recv = some (.iface t (.pointer (some p)))) (hv : e.opsL args.toList = some vs) (hc : ∀ w, Own w0 w L → Calls P f (.pointer (some p) :: vs).toArray w (Ret Φ)) (hd : Nat.blt d n = true)
    (k : ∀ v w', Φ v w' → ∃ L', Own w0 w' L' ∧ GL P w0 ops Q n rest ((d, v) :: e) L') :
    GL P w0 ops Q n (⟨some d, .call { callee := .invoke recv name, args := args, argTypes := at_ }, ty, pos, af, none⟩ :: rest) e L :=
  GL_enter hd (fun _ _ ha => exec_invoke ha hr hv) hc k

/-! ### A function -/
def argsEnv : Nat → List Value → Env
  | _, [] => []
  | k, v :: r => (k, v) :: argsEnv (k + 1) r
theorem argsEnv_get : ∀ (vs : List Value) (k t : Nat) (v : Value), (argsEnv k vs).get t = some v → k ≤ t ∧ vs[t - k]? = some v
  | [], _, _, _, h => by simp [argsEnv, Env.get] at h
  | u :: r, k, t, v, h => by
    rw [argsEnv, Env.get_cons] at h
    by_cases hk : k = t
    · subst hk; rw [if_pos rfl] at h; cases h; simp
    · rw [if_neg hk] at h
      obtain ⟨h1, h2⟩ := argsEnv_get r (k + 1) t v h
      refine ⟨by omega, ?_⟩
      rw [show t - k = (t - (k + 1)) + 1 by omega]
      simpa using h2

theorem calls_of_GC {f : FuncId} {fn : Func} {c : Code} {vs : List Value} {R : Ending → World → Prop} (hf : P.funcs[f]? = some fn) (hb : fn.body = some c) (hn : Nat.ble vs.length fn.ntmps = true)
    (h : GC P w0 fn.ntmps c (bodyPost P fn R) (argsEnv 0 vs) L) {w : World} (hw : Own w0 w L) : Calls P f vs.toArray w R := by
  refine calls_of_wp hf hb (h.run _ w ⟨?_, rfl, fun t v ht => ?_⟩ hw)
  · have := Nat.ble_eq.mp hn
    simp; omega
  · obtain ⟨_, h2⟩ := argsEnv_get vs 0 t v ht
    have hlt := (List.getElem?_eq_some_iff.1 h2).1
    rw [Array.getElem?_append_left (by simp at hlt ⊢; exact hlt)]
    simpa using h2

def undefs : List Nat → Env
  | [] => []
  | k :: r => (k, undef) :: undefs r
theorem undefs_get : ∀ (ks : List Nat) (t : Nat) (v : Value), (undefs ks).get t = some v → t ∈ ks ∧ v = undef
  | [], _, _, h => by simp [undefs, Env.get] at h
  | k :: r, t, v, h => by
    rw [undefs, Env.get_cons] at h
    by_cases hk : k = t
    · subst hk; rw [if_pos rfl] at h; cases h; exact ⟨by simp, rfl⟩
    · rw [if_neg hk] at h
      obtain ⟨h1, h2⟩ := undefs_get r t v h
      exact ⟨by simp [h1], h2⟩
theorem Env.get_append : ∀ (e e' : Env) (t : Nat), Env.get (e ++ e') t = (match e.get t with | some v => some v | none => e'.get t)
  | [], e', t => by simp [Env.get]
  | (s, u) :: r, e', t => by
    rw [List.cons_append, Env.get_cons, Env.get_cons]
    by_cases h : s = t
    · simp [h]
    · simp only [if_neg h]; exact Env.get_append r e' t
theorem calls_of_GC' {f : FuncId} {fn : Func} {c : Code} {vs : List Value} {R : Ending → World → Prop} (ks : List Nat) (hf : P.funcs[f]? = some fn) (hb : fn.body = some c) (hn : Nat.ble vs.length fn.ntmps = true)
    (hk : (ks.all fun k => Nat.ble vs.length k && Nat.blt k fn.ntmps) = true)
    (h : GC P w0 fn.ntmps c (bodyPost P fn R) (argsEnv 0 vs ++ undefs ks) L) {w : World} (hw : Own w0 w L) : Calls P f vs.toArray w R := by
  refine calls_of_wp hf hb (h.run _ w ⟨?_, rfl, fun t v ht => ?_⟩ hw)
  · have := Nat.ble_eq.mp hn
    simp; omega
  · rw [Env.get_append] at ht
    split at ht
    · rename_i u hu
      cases ht
      obtain ⟨_, h2⟩ := argsEnv_get vs 0 t v hu
      have hlt := (List.getElem?_eq_some_iff.1 h2).1
      rw [Array.getElem?_append_left (by simp at hlt ⊢; exact hlt)]
      simpa using h2
    · obtain ⟨h1, rfl⟩ := undefs_get ks t v ht
      have h2 := List.all_eq_true.1 hk t h1
      simp only [Bool.and_eq_true] at h2
      have h3 := Nat.ble_eq.mp h2.1
      have h4 := Nat.blt_eq.mp h2.2
      have h5 : vs.toArray.size = vs.length := by simp
      rw [Array.getElem?_append_right (by rw [h5]; exact h3), h5]
      simp only [Array.getElem?_replicate]
      rw [if_pos (by omega)]
theorem GC_regionK {id : Nat} {l : List Oper} (ks : List Nat) {e' : Env} (he : e.keep ks = e') (h : GL P w0 l.toArray Q n l e' L) : GC P w0 n (.region id l.toArray false) Q e L :=
  GC_keep ks (GC_region (by rw [he]; exact h))
theorem Ret.intro {Φ : Value → World → Prop} {v : Value} {w' : World} (h : Φ v w') : Ret Φ (.returned v) w' := ⟨⟨v, rfl, h⟩⟩
theorem Ret.mono {f : FuncId} {args : Array Value} {w : World} {Φ Ψ : Value → World → Prop} (h : Calls P f args w (Ret Φ)) (hi : ∀ v w', Φ v w' → Ψ v w') : Calls P f args w (Ret Ψ) :=
  Calls.mono h fun e w' he => by obtain ⟨v, rfl, hv⟩ := he.out; exact .intro (hi v w' hv)
end
end Go.Sm
