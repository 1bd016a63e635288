/- A small separation logic over the model's worlds, for walks over objects behind pointers: what a call owns is a list of blocks; the frame's slots are a list of values. Plain theorems over any program. -/
import Derived.WalkKit
import Derived.Below
import Derived.Deep.Quiet
import Derived.StillTail
import Derived.KernelRfl
set_option linter.unusedVariables false
set_option linter.unusedSimpArgs false
set_option linter.unnecessarySimpa false
namespace Go.Sm
open Go.RowKit

/-! ### Slots -/
abbrev Env := List (Nat × Value)
def Env.get : Env → Nat → Option Value
  | [], _ => none
  | (s, v) :: r, t => bif Nat.beq s t then some v else Env.get r t

/-- These slots are kept, the others forgotten. -/
def Env.keep (e : Env) : List Nat → Env
  | [] => []
  | t :: r => match e.get t with
    | some v => (t, v) :: Env.keep e r
    | none => Env.keep e r

def Env.op (e : Env) : Operand → Option Value
  | .tmp t => e.get t
  | .const v => some v
  | .global g => some (.pointer (some ⟨g, 0, none⟩))
  | .func f => some (.func (.func f) #[] #[])

def Env.opsL (e : Env) : List Operand → Option (List Value)
  | [] => some []
  | x :: r => match e.op x with
    | none => none
    | some v => match Env.opsL e r with
      | none => none
      | some vs => some (v :: vs)

structure EnvOk (n : Nat) (e : Env) (a : Act) : Prop where
  size : a.tmps.size = n
  defers : a.defers = []
  get : ∀ t v, e.get t = some v → a.tmps[t]? = some v

theorem EnvOk.op {n : Nat} {e : Env} {a : Act} (h : EnvOk n e a) {x : Operand} {v : Value} (hx : e.op x = some v) : a.eval x = v := by
  cases x with
  | tmp t =>
    have := h.get t v hx
    simp [Act.eval, Array.getD_eq_getD_getElem?, this]
  | const u => simpa [Env.op, Act.eval] using hx
  | global g => simpa [Env.op, Act.eval] using hx
  | func f => simpa [Env.op, Act.eval] using hx

theorem EnvOk.opsL {n : Nat} {e : Env} {a : Act} (h : EnvOk n e a) : ∀ {xs : List Operand} {vs : List Value}, e.opsL xs = some vs → xs.map a.eval = vs
  | [], vs, hx => by simpa [Env.opsL] using hx
  | x :: r, vs, hx => by
    simp only [Env.opsL] at hx
    split at hx
    · cases hx
    · rename_i v hv
      split at hx
      · cases hx
      · rename_i us hus
        cases hx
        simp [h.op hv, h.opsL hus]

theorem Env.get_cons (s : Nat) (u : Value) (e : Env) (t : Nat) : Env.get ((s, u) :: e) t = if s = t then some u else e.get t := by
  simp only [Env.get]
  by_cases h : s = t
  · subst h; simp
  · rw [if_neg h]
    have : Nat.beq s t = false := by
      cases hb : Nat.beq s t with
      | false => rfl
      | true => exact absurd (Nat.eq_of_beq_eq_true hb) h
    simp [this]

theorem EnvOk.put {n : Nat} {e : Env} {a : Act} (h : EnvOk n e a) {d : Nat} (v : Value) (hd : d < n) : EnvOk n ((d, v) :: e) (a.put (some d) v) := by
  refine ⟨by simp [Act.put, h.size], by simp [Act.put, h.defers], fun t u ht => ?_⟩
  rw [Env.get_cons] at ht
  simp only [Act.put]
  rw [Array.getElem?_setIfInBounds]
  by_cases hdt : d = t
  · subst hdt
    rw [if_pos rfl] at ht
    cases ht
    simp [h.size, hd]
  · rw [if_neg hdt] at ht ⊢
    exact h.get t u ht

theorem EnvOk.put_none {n : Nat} {e : Env} {a : Act} (h : EnvOk n e a) (v : Value) : EnvOk n e (a.put none v) := h

theorem EnvOk.sub {n : Nat} {e e' : Env} {a : Act} (h : EnvOk n e a) (hs : ∀ t v, e'.get t = some v → e.get t = some v) : EnvOk n e' a :=
  ⟨h.size, h.defers, fun t v ht => h.get t v (hs t v ht)⟩

theorem Env.keep_get (e : Env) : ∀ (ks : List Nat) (t : Nat) (v : Value), (e.keep ks).get t = some v → e.get t = some v
  | [], t, v, h => by simp [Env.keep, Env.get] at h
  | k :: r, t, v, h => by
    simp only [Env.keep] at h
    split at h
    · rename_i u hu
      rw [Env.get_cons] at h
      by_cases hk : k = t
      · subst hk; rw [if_pos rfl] at h; cases h; exact hu
      · rw [if_neg hk] at h; exact Env.keep_get e r t v h
    · exact Env.keep_get e r t v h

theorem EnvOk.keep {n : Nat} {e : Env} {a : Act} (h : EnvOk n e a) (ks : List Nat) : EnvOk n (e.keep ks) a := h.sub (Env.keep_get e ks)

/-! ### What is owned -/
abbrev Ent := Option (Nat × Obj)

structure Own (w0 w : World) (L : List Ent) : Prop where
  below : Below w0.heap.size w0 w
  mem : ∀ (i b : Nat) (o : Obj), L[i]? = some (some (b, o)) → w.heap[b]? = some o ∧ w0.heap.size ≤ b
  apart : ∀ (i j b : Nat) (o : Obj) (b' : Nat) (o' : Obj), L[i]? = some (some (b, o)) → L[j]? = some (some (b', o')) → i ≠ j → b ≠ b'

section
variable {w0 w : World} {L : List Ent}

theorem Own.start (w0 : World) : Own w0 w0 [] := ⟨Below.refl _ _, fun i b o h => by simp at h, fun i j b o b' o' h => by simp at h⟩
theorem Own.drew (h : Own w0 w L) : Own w0 w.drew L := ⟨h.below.drew, h.mem, h.apart⟩

theorem Own.lt (h : Own w0 w L) {i b : Nat} {o : Obj} (hi : L[i]? = some (some (b, o))) : b < w.heap.size := (Array.getElem?_eq_some_iff.1 (h.mem i b o hi).1).1

/-- A new block. -/
theorem Own.alloc (h : Own w0 w L) (o : Obj) : Own w0 (w.alloc o) (some (w.heap.size, o) :: L) := by
  refine ⟨h.below.alloc h.below.size o, fun i b u hi => ?_, fun i j b u b' u' hi hj hij => ?_⟩
  · cases i with
    | zero => simp at hi; obtain ⟨rfl, rfl⟩ := hi; exact ⟨heap_alloc_new w _, h.below.size⟩
    | succ i =>
      have hi' : L[i]? = some (some (b, u)) := by simpa using hi
      obtain ⟨h1, h2⟩ := h.mem i b u hi'
      exact ⟨by rw [Below.heap_alloc w o b (h.lt hi')]; exact h1, h2⟩
  · cases i with
    | zero =>
      cases j with
      | zero => exact absurd rfl hij
      | succ j =>
        have hj' : L[j]? = some (some (b', u')) := by simpa using hj
        have := h.lt hj'
        simp at hi
        omega
    | succ i =>
      have hi' : L[i]? = some (some (b, u)) := by simpa using hi
      cases j with
      | zero => have := h.lt hi'; simp at hj; omega
      | succ j => exact h.apart i j b u b' u' hi' (by simpa using hj) (by omega)

/-- What is owned may be forgotten. -/
theorem Own.drop {x : Ent} (h : Own w0 w (x :: L)) : Own w0 w L :=
  ⟨h.below, fun i b o hi => h.mem (i + 1) b o (by simpa using hi), fun i j b o b' o' hi hj hij => h.apart (i + 1) (j + 1) b o b' o' (by simpa using hi) (by simpa using hj) (by omega)⟩
theorem Own.nothing (h : Own w0 w L) : Own w0 w (none :: L) := by
  refine ⟨h.below, fun i b o hi => ?_, fun i j b o b' o' hi hj hij => ?_⟩
  · cases i with
    | zero => simp at hi
    | succ i => exact h.mem i b o (by simpa using hi)
  · cases i with
    | zero => simp at hi
    | succ i => cases j with
      | zero => simp at hj
      | succ j => exact h.apart i j b o b' o' (by simpa using hi) (by simpa using hj) (by omega)

/-- Through another list that has the same entries at other places. -/
theorem Own.along {L' : List Ent} (h : Own w0 w L) (f : Nat → Nat) (hf : ∀ i x, L'[i]? = some (some x) → L[f i]? = some (some x)) (hinj : ∀ i j, i < L'.length → j < L'.length → f i = f j → i = j) : Own w0 w L' := by
  refine ⟨h.below, fun i b o hi => h.mem (f i) b o (hf i _ hi), fun i j b o b' o' hi hj hij => ?_⟩
  refine h.apart (f i) (f j) b o b' o' (hf i _ hi) (hf j _ hj) fun e => hij (hinj i j ?_ ?_ e)
  · exact (List.getElem?_eq_some_iff.1 hi).1
  · exact (List.getElem?_eq_some_iff.1 hj).1

/-- Number i comes to the front. -/
theorem Own.pull (h : Own w0 w L) (i : Nat) {x : Ent} (hx : L[i]? = some x) : Own w0 w (x :: L.eraseIdx i) := by
  have hi := (List.getElem?_eq_some_iff.1 hx).1
  refine h.along (fun k => if k = 0 then i else if k ≤ i then k - 1 else k) (fun k y hk => ?_) (fun k l hk hl e => ?_)
  · cases k with
    | zero => simp at hk ⊢; rw [hx, hk]
    | succ k =>
      simp only [List.getElem?_cons_succ, List.getElem?_eraseIdx] at hk
      simp only [Nat.add_eq_zero_iff, Nat.succ_ne_self, and_false, if_false, Nat.add_sub_cancel]
      split at hk
      · rw [if_pos (by omega)]; exact hk
      · rw [if_neg (by omega)]; exact hk
  · split at e <;> split at e <;> (try split at e) <;> (try split at e) <;> omega

/-- And back. -/
theorem Own.push {x : Ent} (h : Own w0 w (x :: L)) (i : Nat) (hi : i ≤ L.length) : Own w0 w (L.insertIdx i x) := by
  refine h.along (fun k => if k < i then k + 1 else if k = i then 0 else k) (fun k y hk => ?_) (fun k l hk hl e => ?_)
  · rw [List.getElem?_insertIdx] at hk
    split at hk
    · rename_i hlt; simp only [hlt, if_true, List.getElem?_cons_succ]; exact hk
    · split at hk
      · rename_i h1 h2
        subst h2
        rw [if_pos hi] at hk
        simp only [if_neg h1, if_true, List.getElem?_cons_zero]
        exact hk
      · rename_i h1 h2
        simp only [if_neg h1, if_neg h2]
        obtain ⟨m, rfl⟩ : ∃ m, k = m + 1 := ⟨k - 1, by omega⟩
        simpa using hk
  · split at e <;> split at e <;> (try split at e) <;> (try split at e) <;> omega

theorem Own.swap {A B R : List Ent} (h : Own w0 w (A ++ (B ++ R))) : Own w0 w (B ++ (A ++ R)) := by
  refine h.along (fun k => if k < B.length then k + A.length else if k < B.length + A.length then k - B.length else k) (fun k y hk => ?_) (fun k l hk hl e => ?_)
  · by_cases h1 : k < B.length
    · simp only [h1, if_true]
      rw [List.getElem?_append_left h1] at hk
      rw [List.getElem?_append_right (by omega), List.getElem?_append_left (by omega)]
      rw [show k + A.length - A.length = k by omega]; exact hk
    · rw [List.getElem?_append_right (by omega)] at hk
      simp only [h1, if_false]
      by_cases h2 : k < B.length + A.length
      · simp only [h2, if_true]
        rw [List.getElem?_append_left (by omega)] at hk
        rw [List.getElem?_append_left (by omega)]
        exact hk
      · simp only [h2, if_false]
        rw [List.getElem?_append_right (by omega)] at hk
        rw [List.getElem?_append_right (by omega), List.getElem?_append_right (by omega)]
        rw [show k - A.length - B.length = k - B.length - A.length by omega]; exact hk
  · split at e <;> split at e <;> (try split at e) <;> (try split at e) <;> omega

theorem Own.sub {L' : List Ent} (h : Own w0 w L) (hs : L'.Sublist L) : Own w0 w L' := by
  induction hs generalizing w with
  | slnil => exact h
  | cons x _ ih => exact ih h.drop
  | @cons_cons l1 l2 x hs ih =>
    have h1 := ih h.drop
    obtain ⟨f, hf, hmono⟩ : ∃ f : Nat → Nat, (∀ i y, l1[i]? = some y → l2[f i]? = some y) ∧ (∀ i j, i < l1.length → j < l1.length → f i = f j → i = j) := by
      obtain ⟨is, hmap, hpw⟩ := List.sublist_eq_map_getElem hs
      subst hmap
      refine ⟨fun i => if hi : i < is.length then is[i].1 else 0, fun i y hy => ?_, fun i j hi hj e => ?_⟩
      · have hi : i < is.length := by have := (List.getElem?_eq_some_iff.1 hy).1; simpa using this
        simp only [dif_pos hi]
        rw [List.getElem?_map, List.getElem?_eq_getElem hi] at hy
        simp only [Option.map_some, Option.some.injEq] at hy
        rw [← hy]
        simp
      · have hi' : i < is.length := by simpa using hi
        have hj' : j < is.length := by simpa using hj
        simp only [dif_pos hi', dif_pos hj'] at e
        rw [List.pairwise_iff_getElem] at hpw
        rcases Nat.lt_trichotomy i j with hlt | heq | hgt
        · have := hpw i j hi' hj' hlt; omega
        · exact heq
        · have := hpw j i hj' hi' hgt; omega
    refine h.along (fun k => if k = 0 then 0 else f (k - 1) + 1) (fun k y hk => ?_) (fun k l hk hl e => ?_)
    · cases k with
      | zero => simpa using hk
      | succ k => simp at hk ⊢; exact hf k _ hk
    · cases k with
      | zero => cases l with
        | zero => rfl
        | succ l => simp at e
      | succ k => cases l with
        | zero => simp at e
        | succ l =>
          simp at e
          have := hmono k l (by simpa using hk) (by simpa using hl) e
          omega
end
end Go.Sm
