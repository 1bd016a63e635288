/- A region that draws its order, walked once, in an order of one's own: an operation that only reads is taken first where nobody who can come before it turns what it reads; any other one comes when it is the only one that may. Plain theorems over any program. -/
import Derived.Test.YtdfljbffomhchaaGreatSb
import Derived.OrdersHeld
set_option linter.unusedVariables false
set_option linter.unusedSimpArgs false
set_option linter.unnecessarySimpa false
namespace Go.Sm
open Go.RowKit

section
variable {P : Program} {ops : Array Oper} {Q : Exit → Act → World → Prop} {S : World → Prop} {E : Nat → Bool}

/-- j waits for i, through others too. -/
def depO (ops : Array Oper) : Nat → Nat → Nat → Bool
  | 0, _, _ => false
  | f + 1, j, i => match ops[j]? with
    | some o => o.after.any fun e => Region.binds .any e && (Nat.beq e.on i || depO ops f e.on i)
    | none => false

def Closed (ops : Array Oper) (listed : Array Bool) : Prop :=
  ∀ j oj, ops[j]? = some oj → listed.getD j false = true → ∀ e ∈ oj.after, Region.binds .any e = true → listed.getD e.on false = true

theorem dep_listed {listed : Array Bool} (hc : Closed ops listed) (hsz : listed.size = ops.size) : ∀ (f j i : Nat) (oj : Oper), ops[j]? = some oj →
    (∀ e ∈ oj.after, Region.binds .any e = true → listed.getD e.on false = true) → depO ops f j i = true → listed.getD i false = true
  | 0, _, _, _, _, _, h => by simp [depO] at h
  | f + 1, j, i, oj, hj, hd, h => by
    simp only [depO, hj] at h
    obtain ⟨e, he, hb⟩ := Array.any_eq_true'.1 h
    simp only [Bool.and_eq_true, Bool.or_eq_true] at hb
    have hl := hd e he hb.1
    rcases hb.2 with h1 | h1
    · rw [← Nat.eq_of_beq_eq_true h1]; exact hl
    · have hlt : e.on < ops.size := by
        rw [← hsz]
        rcases Nat.lt_or_ge e.on listed.size with h' | h'
        · exact h'
        · simp [Array.getElem?_eq_none h'] at hl
      have hget : ops[e.on]? = some ops[e.on] := Array.getElem?_eq_getElem hlt
      exact dep_listed hc hsz f e.on i _ hget (hc e.on _ hget hl) h1

/-- Whatever comes up, those of E keep S. -/
def wpAnyE (P : Program) (ops : Array Oper) (Q : Exit → Act → World → Prop) (S : World → Prop) (E : Nat → Bool) : Nat → Array Bool → Act → World → Prop
  | 0, listed, a, w => Region.ready .any ops listed = [] ∧ Q .normal a w
  | fuel + 1, listed, a, w =>
    (Region.ready .any ops listed = [] → Q .normal a w) ∧
    ∀ i ∈ Region.ready .any ops listed, wpOp P ops Q i (fun a' w' => (E i = true → S w → S w') ∧ wpAnyE P ops Q S E fuel (listed.setIfInBounds i true) a' w') a w

theorem wpAny_of_E : ∀ (fuel : Nat) (listed : Array Bool) (a : Act) (w : World), wpAnyE P ops Q S E fuel listed a w → wpAny P .any ops Q fuel listed a w
  | 0, _, _, _, h => h
  | fuel + 1, _, _, _, h => ⟨h.1, fun i hi => wpOp_mono (fun a' w' h' => wpAny_of_E fuel _ a' w' h'.2) (h.2 i hi)⟩

theorem Closed.set {i : Nat} {listed : Array Bool} (hc : Closed ops listed) (hi : i ∈ Region.ready .any ops listed) : Closed ops (listed.setIfInBounds i true) := by
  obtain ⟨_, oi, hoi, hall⟩ := mem_ready.1 hi
  intro j oj hj hl e he hb
  by_cases hij : i = j
  · subst hij
    have : oj = oi := Option.some.inj (hj.symm.trans hoi)
    subst this
    exact getD_set_true (hall e he hb)
  · rw [getD_set_ne false hij] at hl
    exact getD_set_true (hc j oj hj hl e he hb)

theorem wpAnyE_first {S' : World → Prop} {i : Nat} {oi : Oper} {v : Value} (hi : ops[i]? = some oi) (hsel : ∀ (j : Nat) (o : Oper) cs b, ops[j]? = some o → o.op ≠ .select cs b)
    (hQ : ∀ c a w, Q (.panic c) (a.put oi.dst v) w → Q (.panic c) a w)
    (hkeep : ∀ listed, Closed ops listed → listed.size = ops.size → listed.getD i true = false → ∀ j ∈ Region.ready .any ops listed, j ≠ i → (∀ w, S' w) ∨ (E j = true ∧ ∀ w, S' w ↔ S w)) :
    ∀ (fuel : Nat) (listed : Array Bool) (a : Act) (w : World), Closed ops listed → listed.size = ops.size →
      (∀ j oj, ops[j]? = some oj → j ≠ i → listed.getD j true = false → (∀ e ∈ oj.after, Region.binds .any e = true → e.on ≠ i) → oi.apart ops oj = true) →
      i ∈ Region.ready .any ops listed → YieldsIf P ops S' oi v a → S' w →
      wpAnyE P ops Q S E fuel (listed.setIfInBounds i true) (a.put oi.dst v) w → wpAnyE P ops Q S E (fuel + 1) listed a w := by
  intro fuel
  induction fuel with
  | zero =>
    intro listed a w _ _ _ hr hy hS H
    refine ⟨fun h => (by rw [h] at hr; cases hr), fun j hj => ?_⟩
    by_cases hji : j = i
    · subst hji; exact hy.wpOp hi hS ⟨fun _ h => h, H⟩
    · have := ready_mono hj hji
      rw [H.1] at this
      cases this
  | succ fuel ih =>
    intro listed a w hc hsz hfree hr hy hS H
    refine ⟨fun h => (by rw [h] at hr; cases hr), fun j hj => ?_⟩
    by_cases hji : j = i
    · subst hji; exact hy.wpOp hi hS ⟨fun _ h => h, H⟩
    · have h1 := H.2 j (ready_mono hj hji)
      obtain ⟨hjun, oj, hoj, hall⟩ := mem_ready.1 hj
      have hnot : ∀ e ∈ oj.after, Region.binds .any e = true → e.on ≠ i := fun e he hb heq => by
        have h1 := hall e he hb
        have h0 := (mem_ready.1 hr).1
        rw [heq] at h1
        rcases Nat.lt_or_ge i listed.size with h' | h'
        · simp [h'] at h0 h1; rw [h0] at h1; cases h1
        · simp [Array.getElem?_eq_none h'] at h1
      have h2 := wpOp_putIf hoj (hfree j oj hoj hji hjun hnot) (fun cs b => hsel i oi cs b hi) (fun cs b => hsel j oj cs b hoj) hQ hy h1
      have hfree' : ∀ k ok, ops[k]? = some ok → k ≠ i → (listed.setIfInBounds j true).getD k true = false →
          (∀ e ∈ ok.after, Region.binds .any e = true → e.on ≠ i) → oi.apart ops ok = true := fun k ok hk hki hun hno => by
        refine hfree k ok hk hki ?_ hno
        by_cases hjk : j = k
        · subst hjk; exact hjun
        · rw [getD_set_ne true hjk] at hun; exact hun
      have hk := hkeep listed hc hsz (mem_ready.1 hr).1 j hj hji
      refine wpOp_mono (fun a' w' h3 => ?_) h2
      have hS' : S' w' := by
        rcases hk with hk | ⟨hk1, hk2⟩
        · exact hk w'
        · exact (hk2 w').2 (h3.2.1 hk1 ((hk2 w).1 hS))
      refine ⟨h3.2.1, ih (listed.setIfInBounds j true) a' w' (hc.set hj) (by simp [hsz]) hfree' (ready_mono hr (Ne.symm hji)) h3.1 hS' ?_⟩
      rw [Array.setIfInBounds_comm _ _ hji]
      exact h3.2.2

/-! ### The walk -/
/-- 0: taken first, by S. 1: taken first, whatever the world. 2: the only one that may come; it waits for all that is taken by S. 3: the only one that may come; it keeps S. -/
def wpD (P : Program) (ops : Array Oper) (Q : Exit → Act → World → Prop) (S : World → Prop) : List (Nat × Nat × Oper) → Act → World → Prop
  | [], a, w => Q .normal a w
  | (0, _, o) :: r, a, w => ∃ v, S w ∧ YieldsIf P ops S o v a ∧ wpD P ops Q S r (a.put o.dst v) w
  | (1, _, o) :: r, a, w => ∃ v, YieldsIf P ops (fun _ => True) o v a ∧ wpD P ops Q S r (a.put o.dst v) w
  | (2, _, o) :: r, a, w =>
    if Region.wanted o (yielded ops a.tmps) then o.wp P a w (wpD P ops Q S r) Q ∨ (o.asks P a w ∧ LetsOut Q)
    else wpD P ops Q S r (a.put o.dst undef) w
  | (_ + 3, _, o) :: r, a, w =>
    if Region.wanted o (yielded ops a.tmps) then o.wp P a w (fun a' w' => (S w → S w') ∧ wpD P ops Q S r a' w') Q ∨ (o.asks P a w ∧ LetsOut Q)
    else wpD P ops Q S r (a.put o.dst undef) w

def earlyOf (π : List (Nat × Nat)) (i : Nat) : Bool := !(π.any fun x => Nat.beq x.2 i && Nat.beq x.1 2)
/-- May the order be? -/
def lateB (ops : Array Oper) (E : Nat → Bool) (i : Nat) : Bool := (List.range ops.size).all fun j => E j || Nat.beq j i || depO ops ops.size j i
def orderB (ops : Array Oper) (E : Nat → Bool) : List (Nat × Nat) → Array Bool → Bool
  | [], listed => (Region.ready .any ops listed).isEmpty
  | (k, i) :: r, listed =>
    Nat.blt i ops.size &&
    (match k with
    | 0 => (Region.ready .any ops listed).contains i && Region.free .any ops listed i && lateB ops E i
    | 1 => (Region.ready .any ops listed).contains i && Region.free .any ops listed i
    | 2 => decide (Region.ready .any ops listed = [i]) && !E i
    | _ + 3 => decide (Region.ready .any ops listed = [i])) &&
    orderB ops E r (listed.setIfInBounds i true)
def nthOp : List Oper → Nat → Option Oper
  | [], _ => none
  | o :: _, 0 => some o
  | _ :: r, k + 1 => nthOp r k
theorem nthOp_get : ∀ (l : List Oper) (k : Nat), nthOp l k = l[k]?
  | [], _ => by simp [nthOp]
  | _ :: _, 0 => by simp [nthOp]
  | _ :: r, k + 1 => by simp [nthOp, nthOp_get r k]
def stepsOf (l : List Oper) : List (Nat × Nat) → List (Nat × Nat × Oper)
  | [] => []
  | (k, i) :: r => match nthOp l i with
    | some o => (k, i, o) :: stepsOf l r
    | none => stepsOf l r

theorem wpAnyE_of_D (hsel : Region.noSelect ops = true) (hQ : ∀ c a dst v w, Q (.panic c) (a.put dst v) w → Q (.panic c) a w) :
    ∀ (l : List (Nat × Nat)) (listed : Array Bool) (a : Act) (w : World), Closed ops listed → listed.size = ops.size → orderB ops E l listed = true →
      wpD P ops Q S (stepsOf ops.toList l) a w → wpAnyE P ops Q S E l.length listed a w
  | [], listed, a, w, _, _, hB, h => ⟨by simpa [orderB] using hB, h⟩
  | (k, i) :: r, listed, a, w, hc, hsz, hB, h => by
    simp only [orderB, Bool.and_eq_true] at hB
    obtain ⟨⟨hlt, hk⟩, hB'⟩ := hB
    have hlt' : i < ops.size := Nat.blt_eq.mp hlt
    have hget : ops[i]? = some ops[i] := Array.getElem?_eq_getElem hlt'
    have hget' : nthOp ops.toList i = some ops[i] := by rw [nthOp_get]; simp
    simp only [stepsOf, hget'] at h
    match k, hk, h with
    | 0, hk, h =>
      simp only [Bool.and_eq_true] at hk
      obtain ⟨v, hS, hy, h⟩ := h
      have hr : i ∈ Region.ready .any ops listed := by simpa using hk.1.1
      refine wpAnyE_first (S' := S) hget (Region.noSelect_spec hsel) (fun c a w hq => hQ c _ _ _ w hq) (fun listed' hc' hsz' hun j hj hji => .inr ⟨?_, fun _ => Iff.rfl⟩) r.length listed a w hc hsz
        (Region.free_spec hget hk.1.2) hr hy hS (wpAnyE_of_D hsel hQ r _ _ _ (hc.set hr) (by simp [hsz]) hB' h)
      obtain ⟨hjun, oj, hoj, hall⟩ := mem_ready.1 hj
      have h1 := List.all_eq_true.1 hk.2 j (List.mem_range.2 (Array.getElem?_eq_some_iff.1 hoj).1)
      simp only [Bool.or_eq_true] at h1
      rcases h1 with (h1 | h1) | h1
      · exact h1
      · exact absurd (Nat.eq_of_beq_eq_true h1) hji
      · have := dep_listed hc' hsz' _ j i oj hoj hall h1
        rcases Nat.lt_or_ge i listed'.size with h' | h'
        · simp [h'] at hun this; rw [hun] at this; cases this
        · simp [Array.getElem?_eq_none h'] at this
    | 1, hk, h =>
      simp only [Bool.and_eq_true] at hk
      obtain ⟨v, hy, h⟩ := h
      have hr : i ∈ Region.ready .any ops listed := by simpa using hk.1
      exact wpAnyE_first (S' := fun _ => True) hget (Region.noSelect_spec hsel) (fun c a w hq => hQ c _ _ _ w hq) (fun _ _ _ _ _ _ _ => .inl fun _ => trivial) r.length listed a w hc hsz
        (Region.free_spec hget hk.2) hr hy trivial (wpAnyE_of_D hsel hQ r _ _ _ (hc.set hr) (by simp [hsz]) hB' h)
    | 2, hk, h =>
      simp only [Bool.and_eq_true, Bool.not_eq_true', decide_eq_true_eq] at hk
      obtain ⟨hk', hE⟩ := hk
      have hr : i ∈ Region.ready .any ops listed := by rw [hk']; simp
      refine ⟨fun h0 => (by rw [hk'] at h0; cases h0), fun j hj => ?_⟩
      rw [hk'] at hj
      have : j = i := by simpa using hj
      subst this
      simp only [wpD] at h
      unfold wpOp
      simp only [hget]
      split at h
      · rename_i hw
        rw [if_pos hw]
        rcases h with h | h
        · exact .inl (Oper.wp_mono (fun a' w' h' => ⟨fun h => (by rw [hE] at h; cases h), wpAnyE_of_D hsel hQ r _ _ _ (hc.set hr) (by simp [hsz]) hB' h'⟩) h)
        · exact .inr h
      · rename_i hw
        rw [if_neg hw]
        exact ⟨fun h => (by rw [hE] at h; cases h), wpAnyE_of_D hsel hQ r _ _ _ (hc.set hr) (by simp [hsz]) hB' h⟩
    | m + 3, hk, h =>
      have hk' : Region.ready .any ops listed = [i] := by simpa using hk
      have hr : i ∈ Region.ready .any ops listed := by rw [hk']; simp
      refine ⟨fun h0 => (by rw [hk'] at h0; cases h0), fun j hj => ?_⟩
      rw [hk'] at hj
      have : j = i := by simpa using hj
      subst this
      simp only [wpD] at h
      unfold wpOp
      simp only [hget]
      split at h
      · rename_i hw
        rw [if_pos hw]
        rcases h with h | h
        · exact .inl (Oper.wp_mono (fun a' w' h' => ⟨fun _ => h'.1, wpAnyE_of_D hsel hQ r _ _ _ (hc.set hr) (by simp [hsz]) hB' h'.2⟩) h)
        · exact .inr h
      · rename_i hw
        rw [if_neg hw]
        exact ⟨fun _ h => h, wpAnyE_of_D hsel hQ r _ _ _ (hc.set hr) (by simp [hsz]) hB' h⟩

/-- The code behind a panic asks nothing of the slots. -/
class PanicOk (Q : Exit → Act → World → Prop) : Prop where
  ok : ∀ c a dst v w, Q (.panic c) (Act.put a dst v) w → Q (.panic c) a w
instance {fn : Func} {R : Ending → World → Prop} : PanicOk (bodyPost P fn R) := ⟨fun c a dst v w h => by
  cases dst <;> exact h⟩
instance {K : Act → World → Prop} [h : PanicOk Q] : PanicOk (Exit.then K Q) := ⟨fun c a dst v w hq => h.ok c a dst v w hq⟩
instance {id : Nat} [h : PanicOk Q] : PanicOk (Exit.inBlock id Q) := ⟨fun c a dst v w hq => h.ok c a dst v w hq⟩
instance {w0 : World} {n : Nat} {Φ : Env → List Ent → Prop} [h : PanicOk Q] : PanicOk (Cut w0 n Φ Q) := ⟨fun c a dst v w hq => h.ok c a dst v w hq⟩
instance {w0 : World} {n : Nat} {ι : Type} {I : ι → Env → List Ent → Prop} {μ : ι → Nat} {i : ι} [h : PanicOk Q] : PanicOk (Lp w0 n I μ i Q) := ⟨fun c a dst v w hq => h.ok c a dst v w hq⟩

structure GD (P : Program) (w0 : World) (l : List Oper) (Q : Exit → Act → World → Prop) (LS : List Ent) (n : Nat) (steps : List (Nat × Nat × Oper)) (e : Env) (L : List Ent) : Prop where
  run : ∀ a w, EnvOk n e a → Own w0 w L → wpD P l.toArray Q (fun w => Own w0 w LS) steps a w

theorem GC_draw' {id n : Nat} {w0 : World} {e : Env} {L : List Ent} {l : List Oper} (LS : List Ent) (π : List (Nat × Nat)) (hm : P.follows .mixedOrders = true)
    (hB : (Region.noSelect l.toArray && (Nat.beq π.length l.length && orderB l.toArray (earlyOf π) π (Array.replicate l.length false))) = true) [hQ : PanicOk Q]
    (h : GD P w0 l Q LS n (stepsOf l π) e L) : GC P w0 n (.region id l.toArray true) Q e L :=
  ⟨fun a w ha hw => by
    simp only [Bool.and_eq_true] at hB
    obtain ⟨hsel, hlen, hord⟩ := hB
    refine wp_region_any hm ?_
    have h1 := wpAnyE_of_D (P := P) (ops := l.toArray) (Q := Q) (S := fun w => Own w0 w LS) (E := earlyOf π) hsel (fun c a dst v w hq => hQ.ok c a dst v w hq) π (Array.replicate l.length false) a w.drew
      (fun j oj _ hl => (by rw [getD_replicate_false] at hl; cases hl)) (by simp) hord (by simpa using h.run a w.drew ha hw.drew)
    have h2 := wpAny_of_E _ _ _ _ h1
    rw [Nat.eq_of_beq_eq_true hlen] at h2
    simpa using h2⟩
theorem GC_draw {id n : Nat} {w0 : World} {e : Env} {L : List Ent} {l : List Oper} (π : List (Nat × Nat)) (hm : P.follows .mixedOrders = true)
    (hB : (Region.noSelect l.toArray && (Nat.beq π.length l.length && orderB l.toArray (earlyOf π) π (Array.replicate l.length false))) = true) [hQ : PanicOk Q]
    (h : GD P w0 l Q L n (stepsOf l π) e L) : GC P w0 n (.region id l.toArray true) Q e L := GC_draw' L π hm hB h
theorem GC_drawK {id n : Nat} {w0 : World} {e e' : Env} {L : List Ent} {l : List Oper} (ks : List Nat) (π : List (Nat × Nat)) (he : e.keep ks = e') (hm : P.follows .mixedOrders = true)
    (hB : (Region.noSelect l.toArray && (Nat.beq π.length l.length && orderB l.toArray (earlyOf π) π (Array.replicate l.length false))) = true) [hQ : PanicOk Q]
    (h : GD P w0 l Q L n (stepsOf l π) e' L) : GC P w0 n (.region id l.toArray true) Q e L := GC_keep ks (GC_draw π hm hB (by rw [he]; exact h))
theorem GC_drawK' {id n : Nat} {w0 : World} {e e' : Env} {L : List Ent} {l : List Oper} (LS : List Ent) (ks : List Nat) (π : List (Nat × Nat)) (he : e.keep ks = e') (hm : P.follows .mixedOrders = true)
    (hB : (Region.noSelect l.toArray && (Nat.beq π.length l.length && orderB l.toArray (earlyOf π) π (Array.replicate l.length false))) = true) [hQ : PanicOk Q]
    (h : GD P w0 l Q LS n (stepsOf l π) e' L) : GC P w0 n (.region id l.toArray true) Q e L := GC_keep ks (GC_draw' LS π hm hB (by rw [he]; exact h))
end
end Go.Sm
