/- The operations, one lemma each: what they hand back and what becomes of what is owned. Plain theorems over any program. -/
import Derived.Test.YtdfljbffomhchaaGreatSb
set_option linter.unusedVariables false
set_option linter.unusedSimpArgs false
set_option linter.unnecessarySimpa false
namespace Go.Sm
open Go.RowKit

/-! ### Cells -/
def nth : List Value → Nat → Option Value
  | [], _ => none
  | v :: _, 0 => some v
  | _ :: r, k + 1 => nth r k
def setNth : List Value → Nat → Value → List Value
  | [], _, _ => []
  | _ :: r, 0, v => v :: r
  | u :: r, k + 1, v => u :: setNth r k v
def nths (l : List Value) : Nat → Nat → Option (List Value)
  | _, 0 => some []
  | k, n + 1 => match nth l k with
    | none => none
    | some v => match nths l (k + 1) n with
      | none => none
      | some r => some (v :: r)
def setNths (l : List Value) : Nat → List Value → List Value
  | _, [] => l
  | k, v :: r => setNths (setNth l k v) (k + 1) r
theorem nth_get : ∀ (l : List Value) (k : Nat), nth l k = l[k]?
  | [], _ => by simp [nth]
  | _ :: _, 0 => by simp [nth]
  | _ :: r, k + 1 => by simp [nth, nth_get r k]
theorem setNth_set : ∀ (l : List Value) (k : Nat) (v : Value), setNth l k v = l.set k v
  | [], _, _ => by simp [setNth]
  | _ :: _, 0, _ => by simp [setNth]
  | _ :: r, k + 1, v => by simp [setNth, setNth_set r k v]
theorem nths_get (l : List Value) : ∀ (n k : Nat) (cs : List Value), nths l k n = some cs → cs.length = n ∧ ∀ j, j < n → l[k + j]? = cs[j]?
  | 0, k, cs, h => by cases h; simp
  | n + 1, k, cs, h => by
    simp only [nths] at h
    split at h
    · cases h
    · rename_i v hv
      split at h
      · cases h
      · rename_i r hr
        cases h
        obtain ⟨h1, h2⟩ := nths_get l n (k + 1) r hr
        refine ⟨by simp [h1], fun j hj => ?_⟩
        cases j with
        | zero => rw [nth_get] at hv; simpa using hv
        | succ j => rw [show k + (j + 1) = k + 1 + j by omega, h2 j (by omega)]; simp
theorem length_setNth (l : List Value) (k : Nat) (v : Value) : (setNth l k v).length = l.length := by rw [setNth_set]; simp
theorem length_setNths : ∀ (vs : List Value) (l : List Value) (k : Nat), (setNths l k vs).length = l.length
  | [], l, k => rfl
  | v :: r, l, k => by simp [setNths, length_setNths r, length_setNth]

structure Find (L : List Ent) (b : Nat) (o : Obj) : Prop where
  out : ∃ i : Nat, L[i]? = some (some (b, o))
theorem Find.here {L : List Ent} {b : Nat} {o : Obj} : Find (some (b, o) :: L) b o := ⟨⟨0, by simp⟩⟩
theorem Find.there {L : List Ent} {x : Ent} {b : Nat} {o : Obj} (h : Find L b o) : Find (x :: L) b o := by
  obtain ⟨i, hi⟩ := h.out
  exact ⟨⟨i + 1, by simpa using hi⟩⟩
theorem Find.append {L L' : List Ent} {b : Nat} {o : Obj} (h : Find L b o) : Find (L' ++ L) b o := by
  obtain ⟨i, hi⟩ := h.out
  exact ⟨⟨L'.length + i, by rw [List.getElem?_append_right (by omega)]; simpa using hi⟩⟩
theorem Find.append_left {L L' : List Ent} {b : Nat} {o : Obj} (h : Find L b o) : Find (L ++ L') b o := by
  obtain ⟨i, hi⟩ := h.out
  exact ⟨⟨i, by rw [List.getElem?_append_left (List.getElem?_eq_some_iff.1 hi).1]; exact hi⟩⟩
theorem Find.heap {w0 w : World} {L : List Ent} {b : Nat} {o : Obj} (h : Find L b o) (hw : Own w0 w L) : w.heap[b]? = some o := by
  obtain ⟨i, hi⟩ := h.out
  exact (hw.mem i b o hi).1

structure Upd (L : List Ent) (b : Nat) (o o' : Obj) (L' : List Ent) : Prop where
  out : ∃ i : Nat, L[i]? = some (some (b, o)) ∧ L' = L.set i (some (b, o'))
theorem Upd.here {L : List Ent} {b : Nat} {o o' : Obj} : Upd (some (b, o) :: L) b o o' (some (b, o') :: L) := ⟨⟨0, by simp⟩⟩
theorem Upd.there {L L' : List Ent} {x : Ent} {b : Nat} {o o' : Obj} (h : Upd L b o o' L') : Upd (x :: L) b o o' (x :: L') := by
  obtain ⟨i, hi, rfl⟩ := h.out
  exact ⟨⟨i + 1, by simpa using hi, by simp⟩⟩

theorem heap_cell {w : World} {b k : Nat} {l : List Value} {T : TypeId} {f : Nat × Nat} (h : w.heap[b]? = some (.cells l.toArray T f)) : w.cell? ⟨b, k, none⟩ = l[k]? := by
  simp [World.cell?, h]
theorem heap_free {w : World} {b k : Nat} {l : List Value} {T : TypeId} (h : w.heap[b]? = some (.cells l.toArray T (0, 0))) : w.frozen? ⟨b, k, none⟩ = false := by
  simp [World.frozen?, h]

/-- A block turns. -/
theorem Own.upd {w0 w w' : World} {L L' : List Ent} {b : Nat} {o o' : Obj} (h : Own w0 w L) (hu : Upd L b o o' L') (hb : w'.heap[b]? = some o') (hs : w'.heap.size = w.heap.size)
    (ho : ∀ k, k ≠ b → w'.heap[k]? = w.heap[k]?) (hos : w'.os = w.os) (ht : w'.tape = w.tape) (hout : w'.output = w.output) : Own w0 w' L' := by
  obtain ⟨i, hi, rfl⟩ := hu.out
  have hbase := (h.mem i b o hi).2
  have hil := (List.getElem?_eq_some_iff.1 hi).1
  refine ⟨⟨hos.trans h.below.os, ht.trans h.below.tape, hout.trans h.below.output, hs ▸ h.below.size, fun k hk => ?_⟩, fun j c u hj => ?_, fun j k c u c' u' hj hk hjk => ?_⟩
  · rw [ho k (by omega)]; exact h.below.block k hk
  · by_cases hij : i = j
    · subst hij
      rw [List.getElem?_set_self hil] at hj
      cases hj
      exact ⟨hb, hbase⟩
    · rw [List.getElem?_set_ne hij] at hj
      obtain ⟨h1, h2⟩ := h.mem j c u hj
      have : b ≠ c := h.apart i j b o c u hi hj hij
      exact ⟨by rw [ho c (fun e => this e.symm)]; exact h1, h2⟩
  · by_cases hij : i = j
    · subst hij
      rw [List.getElem?_set_self hil] at hj
      cases hj
      rw [List.getElem?_set_ne hjk] at hk
      exact h.apart i k b o c' u' hi hk hjk
    · rw [List.getElem?_set_ne hij] at hj
      by_cases hik : i = k
      · subst hik
        rw [List.getElem?_set_self hil] at hk
        cases hk
        exact h.apart j i c u b o hj hi hjk
      · rw [List.getElem?_set_ne hik] at hk
        exact h.apart j k c u c' u' hj hk hjk

theorem heap_setCell_self (w : World) (b k : Nat) (l : List Value) (T : TypeId) (f : Nat × Nat) (v : Value) (h : w.heap[b]? = some (.cells l.toArray T f)) :
    (w.setCell ⟨b, k, none⟩ v).heap[b]? = some (.cells (setNth l k v).toArray T f) := by
  simp [World.setCell, Array.getElem?_modify, h, setNth_set]
theorem Own.setCell {w0 w : World} {L L' : List Ent} {b k : Nat} {l : List Value} {T : TypeId} {v : Value} (h : Own w0 w L)
    (hu : Upd L b (.cells l.toArray T (0, 0)) (.cells (setNth l k v).toArray T (0, 0)) L') : Own w0 (w.setCell ⟨b, k, none⟩ v) L' := by
  have hh : w.heap[b]? = some (.cells l.toArray T (0, 0)) := by
    obtain ⟨i, hi, _⟩ := hu.out
    exact (h.mem i b _ hi).1
  exact h.upd hu (heap_setCell_self w b k l T (0, 0) v hh) (by simp [World.setCell]) (fun j hj => Below.heap_setCell _ _ _ _ hj) rfl rfl rfl

/-! ### What is told of types -/
class Und (P : Program) (T : TypeId) (d : outParam TypeDesc) : Prop where
  eq : P.underlying T = some d
class One (P : Program) (T : TypeId) : Prop where
  agg : ∀ w, (isAgg T).run P w = .ok false w
  size : ∀ w, (sizeOf T).run P w = .ok 1 w
class Many (P : Program) (T : TypeId) (n : outParam Nat) : Prop where
  agg : ∀ w, (isAgg T).run P w = .ok true w
  size : ∀ w, (sizeOf T).run P w = .ok n w
class SizeOf (P : Program) (T : TypeId) (n : outParam Nat) : Prop where
  run : ∀ w, (sizeOf T).run P w = .ok n w
class FieldOff (P : Program) (T : TypeId) (f : Nat) (off : outParam Nat) : Prop where
  run : ∀ (a : Addr) (w : World), (Instr.fieldAt T (.pointer (some a)) f).run P w = .ok (.pointer (some (a.add off))) w
class Zero (P : Program) (T : TypeId) (z : outParam (List Value)) : Prop where
  run : ∀ w, ∃ v, (zeroValue T).run P w = .ok v w ∧ v.cells = z.toArray

section
variable {P : Program} {w0 : World} {n : Nat} {e : Env} {L : List Ent} {dst : Option Tmp} {ty : TypeId} {pos : String} {af : Array Edge} {g : Option (Nat × Bool)}

/-- It hands back v, whatever the world. -/
def EvF (P : Program) (n : Nat) (e : Env) (o : Oper) (v : Value) : Prop := ∀ a w, EnvOk n e a → (execOp a.eval o).run P w = .ok (.value v) w
theorem EvF.ev {o : Oper} {v : Value} (h : EvF P n e o v) : Ev P w0 n e L o v := fun a w ha _ => h a w ha
theorem EvF_move {x : Operand} {v : Value} (h : e.op x = some v) : EvF P n e ⟨dst, .move x, ty, pos, af, g⟩ v := fun a w ha => by simp [execOp, ha.op h]
theorem EvF_assign {x : Operand} {v : Value} (h : e.op x = some v) : EvF P n e ⟨dst, .assign x, ty, pos, af, g⟩ v := fun a w ha => by simp [execOp, ha.op h]
theorem EvF_pick {c x y : Operand} {b : Bool} {v u : Value} (hc : e.op c = some (.bool b)) (hx : e.op x = some v) (hy : e.op y = some u) : EvF P n e ⟨dst, .pick c x y, ty, pos, af, g⟩ (bif b then v else u) :=
  fun a w ha => by simp [execOp, ha.op hc, ha.op hx, ha.op hy, asBool]
theorem EvF_pick_t {c x y : Operand} {v : Value} (hc : e.op c = some (.bool true)) (hx : e.op x = some v) : EvF P n e ⟨dst, .pick c x y, ty, pos, af, g⟩ v :=
  fun a w ha => by simp [execOp, ha.op hc, ha.op hx, asBool]
theorem EvF_pick_f {c x y : Operand} {v : Value} (hc : e.op c = some (.bool false)) (hy : e.op y = some v) : EvF P n e ⟨dst, .pick c x y, ty, pos, af, g⟩ v :=
  fun a w ha => by simp [execOp, ha.op hc, ha.op hy, asBool]
theorem EvF_nilCheck {x : Operand} {p : Addr} (h : e.op x = some (.pointer (some p))) : EvF P n e ⟨dst, .nilCheck x, ty, pos, af, g⟩ (.pointer (some p)) :=
  fun a w ha => by simp [execOp, ha.op h]
theorem EvF_nilCheck_iface {x : Operand} {t : TypeId} {u : Value} (h : e.op x = some (.iface t u)) : EvF P n e ⟨dst, .nilCheck x, ty, pos, af, g⟩ (.iface t u) :=
  fun a w ha => by simp [execOp, ha.op h]
theorem add_plain (b k j : Nat) : (⟨b, k, none⟩ : Addr).add j = ⟨b, k + j, none⟩ := by unfold Addr.add; split <;> simp_all
theorem EvF_fieldAddr {T f off b k : Nat} {x : Operand} [hf : FieldOff P T f off] (h : e.op x = some (.pointer (some ⟨b, k, none⟩))) : EvF P n e ⟨dst, .fieldAddr T x f, ty, pos, af, g⟩ (.pointer (some ⟨b, k + off, none⟩)) :=
  fun a w ha => by simp only [execOp, ha.op h, Sem.run_bind, hf.run, add_plain]; rfl
theorem EvF_extract {x : Operand} {i : Nat} {vs : List Value} {v : Value} (h : e.op x = some (.tuple vs.toArray)) (hv : nth vs i = some v) : EvF P n e ⟨dst, .extract x i, ty, pos, af, g⟩ v :=
  fun a w ha => by rw [nth_get] at hv; simp [execOp, ha.op h, Instr.extract, hv]
theorem EvF_not {x : Operand} {T : TypeId} {b : Bool} (h : e.op x = some (.bool b)) : EvF P n e ⟨dst, .unOp .not T x, ty, pos, af, g⟩ (.bool !b) :=
  fun a w ha => by simp [execOp, ha.op h, Op.unary]
theorem EvF_notP {x : Operand} {T : TypeId} {p : Prop} [Decidable p] (h : e.op x = some (.bool (decide p))) : EvF P n e ⟨dst, .unOp .not T x, ty, pos, af, g⟩ (.bool (decide (¬ p))) :=
  fun a w ha => by simp [execOp, ha.op h, Op.unary]
theorem EvF_eqI {x y : Operand} {T T' : TypeId} {k : IntKind} {p q : Int} (hx : e.op x = some (.int k p)) (hy : e.op y = some (.int k q)) : EvF P n e ⟨dst, .binOp .eql T x y T', ty, pos, af, g⟩ (.bool (decide (p = q))) :=
  fun a w ha => by
    have h : (p == q) = decide (p = q) := by by_cases h : p = q <;> simp [h]
    simp [execOp, ha.op hx, ha.op hy, eqGuard, binOp, Op.intCmp, h]
theorem EvF_neI {x y : Operand} {T T' : TypeId} {k : IntKind} {p q : Int} (hx : e.op x = some (.int k p)) (hy : e.op y = some (.int k q)) : EvF P n e ⟨dst, .binOp .neq T x y T', ty, pos, af, g⟩ (.bool (decide (p ≠ q))) :=
  fun a w ha => by
    have h : (p != q) = decide (p ≠ q) := by by_cases h : p = q <;> simp [h]
    simp [execOp, ha.op hx, ha.op hy, eqGuard, binOp, Op.intCmp, h]
theorem EvF_ltI {x y : Operand} {T T' : TypeId} {k : IntKind} {p q : Int} (hx : e.op x = some (.int k p)) (hy : e.op y = some (.int k q)) : EvF P n e ⟨dst, .binOp .lss T x y T', ty, pos, af, g⟩ (.bool (decide (p < q))) :=
  fun a w ha => by simp [execOp, ha.op hx, ha.op hy, eqGuard, binOp, Op.intCmp]
theorem EvF_leI {x y : Operand} {T T' : TypeId} {k : IntKind} {p q : Int} (hx : e.op x = some (.int k p)) (hy : e.op y = some (.int k q)) : EvF P n e ⟨dst, .binOp .leq T x y T', ty, pos, af, g⟩ (.bool (decide (p ≤ q))) :=
  fun a w ha => by simp [execOp, ha.op hx, ha.op hy, eqGuard, binOp, Op.intCmp]
theorem EvF_gtI {x y : Operand} {T T' : TypeId} {k : IntKind} {p q : Int} (hx : e.op x = some (.int k p)) (hy : e.op y = some (.int k q)) : EvF P n e ⟨dst, .binOp .gtr T x y T', ty, pos, af, g⟩ (.bool (decide (q < p))) :=
  fun a w ha => by simp [execOp, ha.op hx, ha.op hy, eqGuard, binOp, Op.intCmp]
theorem EvF_geI {x y : Operand} {T T' : TypeId} {k : IntKind} {p q : Int} (hx : e.op x = some (.int k p)) (hy : e.op y = some (.int k q)) : EvF P n e ⟨dst, .binOp .geq T x y T', ty, pos, af, g⟩ (.bool (decide (q ≤ p))) :=
  fun a w ha => by simp [execOp, ha.op hx, ha.op hy, eqGuard, binOp, Op.intCmp]
theorem EvF_addI {x y : Operand} {T T' : TypeId} {k : IntKind} {p q : Int} (hx : e.op x = some (.int k p)) (hy : e.op y = some (.int k q)) : EvF P n e ⟨dst, .binOp .add T x y T', ty, pos, af, g⟩ (.int k (k.wrap (p + q))) :=
  fun a w ha => by simp [execOp, ha.op hx, ha.op hy, eqGuard, binOp, Op.intArith]
theorem EvF_subI {x y : Operand} {T T' : TypeId} {k : IntKind} {p q : Int} (hx : e.op x = some (.int k p)) (hy : e.op y = some (.int k q)) : EvF P n e ⟨dst, .binOp .sub T x y T', ty, pos, af, g⟩ (.int k (k.wrap (p - q))) :=
  fun a w ha => by simp [execOp, ha.op hx, ha.op hy, eqGuard, binOp, Op.intArith]
theorem EvF_mulI {x y : Operand} {T T' : TypeId} {k : IntKind} {p q : Int} (hx : e.op x = some (.int k p)) (hy : e.op y = some (.int k q)) : EvF P n e ⟨dst, .binOp .mul T x y T', ty, pos, af, g⟩ (.int k (k.wrap (p * q))) :=
  fun a w ha => by simp [execOp, ha.op hx, ha.op hy, eqGuard, binOp, Op.intArith]
theorem EvF_remI {x y : Operand} {T T' : TypeId} {k : IntKind} {p q : Int} (hx : e.op x = some (.int k p)) (hy : e.op y = some (.int k q)) (hq : (q == 0) = false) : EvF P n e ⟨dst, .binOp .rem T x y T', ty, pos, af, g⟩ (.int k (p.tmod q)) :=
  fun a w ha => by
    have : ¬ q = 0 := by simpa using hq
    simp [execOp, ha.op hx, ha.op hy, eqGuard, binOp, Op.intDiv, this]
theorem EvF_quoI {x y : Operand} {T T' : TypeId} {k : IntKind} {p q : Int} (hx : e.op x = some (.int k p)) (hy : e.op y = some (.int k q)) (hq : (q == 0) = false) : EvF P n e ⟨dst, .binOp .quo T x y T', ty, pos, af, g⟩ (.int k (k.wrap (p.tdiv q))) :=
  fun a w ha => by
    have : ¬ q = 0 := by simpa using hq
    simp [execOp, ha.op hx, ha.op hy, eqGuard, binOp, Op.intDiv, this]
theorem EvF_eqNil {x y : Operand} {T T' E : TypeId} {p : Option Addr} [hu : Und P T (.pointer E)] (hx : e.op x = some (.pointer p)) (hy : e.op y = some (.pointer none)) : EvF P n e ⟨dst, .binOp .eql T x y T', ty, pos, af, g⟩ (.bool p.isNone) :=
  fun a w ha => by
    have h1 : P.underlying T = some (.pointer (P.pointee T)) := by rw [hu.eq]; simp [Program.pointee, hu.eq]
    have h2 := run_eql_pointer_nil (P := P) w T p h1
    simp [execOp, ha.op hx, ha.op hy, eqGuard, h2]
theorem EvF_neNil {x y : Operand} {T T' E : TypeId} {p : Option Addr} [hu : Und P T (.pointer E)] (hx : e.op x = some (.pointer p)) (hy : e.op y = some (.pointer none)) : EvF P n e ⟨dst, .binOp .neq T x y T', ty, pos, af, g⟩ (.bool !p.isNone) :=
  fun a w ha => by
    have h1 : P.underlying T = some (.pointer (P.pointee T)) := by rw [hu.eq]; simp [Program.pointee, hu.eq]
    have h2 := run_neq_pointer_nil (P := P) w T p h1
    simp [execOp, ha.op hx, ha.op hy, eqGuard, h2]
theorem EvF_len {x : Operand} {T : TypeId} {E : TypeId} {p : Option Addr} {m c : Nat} [hu : Und P T (.slice E)] (hx : e.op x = some (.slice p m c)) : EvF P n e ⟨dst, .call { callee := .builtin .len, args := #[x], argTypes := #[T] }, ty, pos, af, g⟩ (.int .i64 m) :=
  fun a w ha => by
    have h1 := run_underlying hu.eq w
    simp [execOp, resolve, invoke, builtin, ha.op hx, Builtin.len_, h1, goInt]
theorem EvF_conv {x : Operand} {S T : TypeId} {d : TypeDesc} {k k' : IntKind} {p : Int} [hs : Und P S d] [hu : Und P T (.int k)] (hx : e.op x = some (.int k' p)) : EvF P n e ⟨dst, .convert S T x, ty, pos, af, g⟩ (.int k (k.wrap p)) :=
  fun a w ha => by
    have h1 := run_underlying hu.eq w
    have h2 := run_underlying hs.eq w
    simp [execOp, ha.op hx, convert, h1, h2, Conv.intToInt]
theorem EvF_andI {x y : Operand} {T T' : TypeId} {k : IntKind} {p q : Int} (hx : e.op x = some (.int k p)) (hy : e.op y = some (.int k q)) : EvF P n e ⟨dst, .binOp .and T x y T', ty, pos, af, g⟩ (.int k (k.wrap (BitVec.ofInt k.bits p &&& BitVec.ofInt k.bits q).toNat)) :=
  fun a w ha => by simp [execOp, ha.op hx, ha.op hy, eqGuard, binOp, Op.intBits]
theorem EvF_orI {x y : Operand} {T T' : TypeId} {k : IntKind} {p q : Int} (hx : e.op x = some (.int k p)) (hy : e.op y = some (.int k q)) : EvF P n e ⟨dst, .binOp .or T x y T', ty, pos, af, g⟩ (.int k (k.wrap (BitVec.ofInt k.bits p ||| BitVec.ofInt k.bits q).toNat)) :=
  fun a w ha => by simp [execOp, ha.op hx, ha.op hy, eqGuard, binOp, Op.intBits]
theorem EvF_xorI {x y : Operand} {T T' : TypeId} {k : IntKind} {p q : Int} (hx : e.op x = some (.int k p)) (hy : e.op y = some (.int k q)) : EvF P n e ⟨dst, .binOp .xor T x y T', ty, pos, af, g⟩ (.int k (k.wrap (BitVec.ofInt k.bits p ^^^ BitVec.ofInt k.bits q).toNat)) :=
  fun a w ha => by simp [execOp, ha.op hx, ha.op hy, eqGuard, binOp, Op.intBits]
theorem EvF_shlI {x y : Operand} {T T' : TypeId} {k k' : IntKind} {p q : Int} (hx : e.op x = some (.int k p)) (hy : e.op y = some (.int k' q)) (hq : ¬ q < 0) : EvF P n e ⟨dst, .binOp .shl T x y T', ty, pos, af, g⟩ (.int k (k.wrap (p * 2 ^ (min q.toNat k.bits)))) :=
  fun a w ha => by simp [execOp, ha.op hx, ha.op hy, eqGuard, binOp, Op.shift, hq]
theorem EvF_shrI {x y : Operand} {T T' : TypeId} {k k' : IntKind} {p q : Int} (hx : e.op x = some (.int k p)) (hy : e.op y = some (.int k' q)) (hq : ¬ q < 0) : EvF P n e ⟨dst, .binOp .shr T x y T', ty, pos, af, g⟩ (.int k (p.fdiv (2 ^ (min q.toNat k.bits)))) :=
  fun a w ha => by simp [execOp, ha.op hx, ha.op hy, eqGuard, binOp, Op.shift, hq]
theorem EvF_eqB {x y : Operand} {T T' : TypeId} {p q : Bool} [hu : Und P T .bool] (hx : e.op x = some (.bool p)) (hy : e.op y = some (.bool q)) : EvF P n e ⟨dst, .binOp .eql T x y T', ty, pos, af, g⟩ (.bool (p == q)) :=
  fun a w ha => by
    have h2 : (Op.equalIn Op.maxDepth T (.bool p) (.bool q)).run P w = .ok (p == q) w := run_equalIn_bool (P := P) w _ T p q hu.eq
    simp [execOp, ha.op hx, ha.op hy, eqGuard, binOp, Op.equal, h2]
theorem EvF_neB {x y : Operand} {T T' : TypeId} {p q : Bool} [hu : Und P T .bool] (hx : e.op x = some (.bool p)) (hy : e.op y = some (.bool q)) : EvF P n e ⟨dst, .binOp .neq T x y T', ty, pos, af, g⟩ (.bool (!(p == q))) :=
  fun a w ha => by
    have h2 : (Op.equalIn Op.maxDepth T (.bool p) (.bool q)).run P w = .ok (p == q) w := run_equalIn_bool (P := P) w _ T p q hu.eq
    simp [execOp, ha.op hx, ha.op hy, eqGuard, binOp, Op.equal, h2]
theorem run_equalIn_nilS {T E : TypeId} {p : Option Addr} {m c : Nat} (hu : P.underlying T = some (.slice E)) (w : World) (d : Nat) : (Op.equalIn (d + 1) T (.slice p m c) (.slice none 0 0)).run P w = .ok p.isNone w := by
  cases p <;> simp [Op.equalIn, run_underlying hu]
theorem EvF_eqNilS {x y : Operand} {T T' E : TypeId} {p : Option Addr} {m c : Nat} [hu : Und P T (.slice E)] (hx : e.op x = some (.slice p m c)) (hy : e.op y = some (.slice none 0 0)) : EvF P n e ⟨dst, .binOp .eql T x y T', ty, pos, af, g⟩ (.bool p.isNone) :=
  fun a w ha => by
    have h2 : (Op.equalIn Op.maxDepth T (.slice p m c) (.slice none 0 0)).run P w = .ok p.isNone w := run_equalIn_nilS hu.eq w _
    simp [execOp, ha.op hx, ha.op hy, eqGuard, binOp, Op.equal, h2]
theorem EvF_neNilS {x y : Operand} {T T' E : TypeId} {p : Option Addr} {m c : Nat} [hu : Und P T (.slice E)] (hx : e.op x = some (.slice p m c)) (hy : e.op y = some (.slice none 0 0)) : EvF P n e ⟨dst, .binOp .neq T x y T', ty, pos, af, g⟩ (.bool !p.isNone) :=
  fun a w ha => by
    have h2 : (Op.equalIn Op.maxDepth T (.slice p m c) (.slice none 0 0)).run P w = .ok p.isNone w := run_equalIn_nilS hu.eq w _
    simp [execOp, ha.op hx, ha.op hy, eqGuard, binOp, Op.equal, h2]
theorem EvF_min {x y : Operand} {ts : Array TypeId} {k k' : IntKind} {p q : Int} (hx : e.op x = some (.int k p)) (hy : e.op y = some (.int k' q)) : EvF P n e ⟨dst, .call { callee := .builtin .min, args := #[x, y], argTypes := ts }, ty, pos, af, g⟩ (.int k (if q < p then q else p)) :=
  fun a w ha => by simp [execOp, resolve, invoke, builtin, ha.op hx, ha.op hy, run_min_int2]
theorem EvF_max {x y : Operand} {ts : Array TypeId} {k k' : IntKind} {p q : Int} (hx : e.op x = some (.int k p)) (hy : e.op y = some (.int k' q)) : EvF P n e ⟨dst, .call { callee := .builtin .max, args := #[x, y], argTypes := ts }, ty, pos, af, g⟩ (.int k (if q > p then q else p)) :=
  fun a w ha => by simp [execOp, resolve, invoke, builtin, ha.op hx, ha.op hy, run_max_int2]
theorem EvF_indexAddrA {x y : Operand} {T m E s b k : Nat} {ik : IntKind} {i : Int} [hu : Und P T (.array m E)] [hs : SizeOf P E s] (hx : e.op x = some (.pointer (some ⟨b, k, none⟩))) (hy : e.op y = some (.int ik i)) (h0 : 0 ≤ i ∧ i < m) :
    EvF P n e ⟨dst, .indexAddr T x y, ty, pos, af, g⟩ (.pointer (some ⟨b, k + i.toNat * s, none⟩)) :=
  fun a w ha => by
    have h1 := run_underlying hu.eq w
    have h2 := hs.run w
    simp [execOp, ha.op hx, ha.op hy, Instr.indexAt, asIntOf, h1, h2, Instr.sureAddr, h0, add_plain]
theorem EvF_indexAddrS {x y : Operand} {T E s b k m c : Nat} {ik : IntKind} {i : Int} [hu : Und P T (.slice E)] [hs : SizeOf P E s] (hx : e.op x = some (.slice (some ⟨b, k, none⟩) m c)) (hy : e.op y = some (.int ik i)) (h0 : 0 ≤ i ∧ i < m) :
    EvF P n e ⟨dst, .indexAddr T x y, ty, pos, af, g⟩ (.pointer (some ⟨b, k + i.toNat * s, none⟩)) :=
  fun a w ha => by
    have h1 := run_underlying hu.eq w
    have h2 := hs.run w
    simp [execOp, ha.op hx, ha.op hy, Instr.indexAt, asIntOf, h1, h2, h0, add_plain]
theorem EvF_mkIface {x : Operand} {T : TypeId} {d : TypeDesc} {v : Value} [hu : Und P T d] (hd : (match d with | .interface _ => false | _ => true) = true) (hx : e.op x = some v) : EvF P n e ⟨dst, .makeInterface T x, ty, pos, af, g⟩ (.iface T v) :=
  fun a w ha => by
    have h1 := run_underlying hu.eq w
    cases d <;> first | (cases hd; done) | simp [execOp, ha.op hx, Instr.makeInterface, h1]
theorem Ev_load {T b k : Nat} {x : Operand} {l : List Value} {T' : TypeId} {fz : Nat × Nat} {v : Value} [ho : One P T] (h : e.op x = some (.pointer (some ⟨b, k, none⟩)))
    (hf : Find L b (.cells l.toArray T' fz)) (hv : nth l k = some v) : Ev P w0 n e L ⟨dst, .load T x, ty, pos, af, g⟩ v :=
  fun a w ha hw => by
    have hc : w.cell? ⟨b, k, none⟩ = some v := by rw [heap_cell (hf.heap hw), ← nth_get]; exact hv
    have h1 := ho.agg w
    simp [execOp, ha.op h, Instr.loadAt, Instr.sureAddr, loadVar, h1, hc]
theorem Ev_loadAgg {T b k m : Nat} {x : Operand} {l cs : List Value} {T' : TypeId} {fz : Nat × Nat} [ho : Many P T m] (h : e.op x = some (.pointer (some ⟨b, k, none⟩)))
    (hf : Find L b (.cells l.toArray T' fz)) (hv : nths l k m = some cs) : Ev P w0 n e L ⟨dst, .load T x, ty, pos, af, g⟩ (.agg cs.toArray) :=
  fun a w ha hw => by
    obtain ⟨h1, h2⟩ := nths_get l m k cs hv
    have hc : (loadCells ⟨b, k, none⟩ m).run P w = .ok cs.toArray w := by
      have := run_loadCells_list (P := P) (w := w) ⟨b, k, none⟩ cs (fun j v hj => by
        rw [add_plain, heap_cell (hf.heap hw), h2 j (by rw [← h1]; exact (List.getElem?_eq_some_iff.1 hj).1)]; exact hj)
      rw [h1] at this
      exact this
    have h3 := ho.agg w
    have h4 := ho.size w
    simp [execOp, ha.op h, Instr.loadAt, Instr.sureAddr, loadVar, h3, h4, hc]
theorem Ef_store {T b k : Nat} {x y : Operand} {l : List Value} {T' : TypeId} {u v : Value} {L' : List Ent} [ho : One P T] (h : e.op x = some (.pointer (some ⟨b, k, none⟩))) (hy : e.op y = some v)
    (hu : Upd L b (.cells l.toArray T' (0, 0)) (.cells (setNth l k v).toArray T' (0, 0)) L') (hv : nth l k = some u) (h1 : v.oneCell' = true) : Ef P w0 n e L ⟨dst, .store T x y, ty, pos, af, g⟩ (fun _ L1 => L1 = L') :=
  fun a w ha hw => by
    have hh : w.heap[b]? = some (.cells l.toArray T' (0, 0)) := by
      obtain ⟨i, hi, _⟩ := hu.out
      exact (hw.mem i b _ hi).1
    have hc : w.cell? ⟨b, k, none⟩ = some u := by rw [heap_cell hh, ← nth_get]; exact hv
    have hfz := heap_free (k := k) hh
    have hcs : v.cells = #[v] := by cases v <;> first | rfl | (cases h1)
    have h4 := ho.size w
    have hst := run_store P w ⟨b, k, none⟩ v .plain h1
    rw [hc] at hst
    simp only [hfz, Bool.false_eq_true, if_false] at hst
    refine ⟨undef, w.setCell ⟨b, k, none⟩ v, L', .inr ⟨?_, rfl⟩, rfl, hw.setCell hu⟩
    simp [execOp, ha.op h, ha.op hy, Instr.storeAt, Instr.sureAddr, storeVar, hcs, h4, storeCells, add_plain, hst]
/-! ### Cuts of slices -/
theorem elem_of {T E : TypeId} (hu : P.underlying T = some (.slice E)) : P.underlying T = some (.slice (P.elem T)) ∧ P.elem T = E := by
  have : P.elem T = E := by simp [Program.elem, hu]
  exact ⟨by rw [this]; exact hu, this⟩
theorem EvF_sliceL {T E s m c : Nat} {x y : Operand} {p : Option Addr} {ik : IntKind} {i : Int} [hu : Und P T (.slice E)] [hs : SizeOf P E s] (hx : e.op x = some (.slice p m c)) (hy : e.op y = some (.int ik i)) (h0 : 0 ≤ i ∧ i ≤ m) :
    EvF P n e ⟨dst, .slice T x (some y) none none, ty, pos, af, g⟩ (.slice (if c = i.toNat then p else p.map (·.add (i.toNat * s))) (m - i.toNat) (c - i.toNat)) :=
  fun a w ha => by
    obtain ⟨h1, h2⟩ := elem_of hu.eq
    have h3 := run_slice_l w T p m c h1 ik i h0.1 h0.2
    have h4 := hs.run w
    have h5 := run_sliceAt_slice (P := P) w T (.slice p m c) (some (.int ik i)) none none h1
    simp [execOp, ha.op hx, ha.op hy, h5, h3, h2, h4, Result.andThen, sliced]
theorem EvF_sliceH {T E s m c : Nat} {x y : Operand} {p : Option Addr} {ik : IntKind} {i : Int} [hu : Und P T (.slice E)] [hs : SizeOf P E s] (hx : e.op x = some (.slice p m c)) (hy : e.op y = some (.int ik i)) (h0 : 0 ≤ i ∧ i ≤ c) :
    EvF P n e ⟨dst, .slice T x none (some y) none, ty, pos, af, g⟩ (.slice p i.toNat c) :=
  fun a w ha => by
    obtain ⟨h1, h2⟩ := elem_of hu.eq
    have h3 := run_slice_h w T p m c h1 ik i h0.1 h0.2
    have h4 := hs.run w
    have h5 := run_sliceAt_slice (P := P) w T (.slice p m c) none (some (.int ik i)) none h1
    have h6 : (if c = 0 then p else p.map (·.add 0)) = p := by cases p <;> simp [Addr.add]
    simp [execOp, ha.op hx, ha.op hy, h5, h3, h2, h4, Result.andThen, sliced]
    try (cases p <;> simp [Addr.add])
theorem EvF_sliceLH {T E s m c : Nat} {x y z : Operand} {p : Option Addr} {ik jk : IntKind} {i j : Int} [hu : Und P T (.slice E)] [hs : SizeOf P E s] (hx : e.op x = some (.slice p m c)) (hy : e.op y = some (.int ik i)) (hz : e.op z = some (.int jk j)) (h0 : 0 ≤ i ∧ i ≤ j ∧ j ≤ c) :
    EvF P n e ⟨dst, .slice T x (some y) (some z) none, ty, pos, af, g⟩ (.slice (if c = i.toNat then p else p.map (·.add (i.toNat * s))) (j.toNat - i.toNat) (c - i.toNat)) :=
  fun a w ha => by
    obtain ⟨h1, h2⟩ := elem_of hu.eq
    have h3 := run_slice_lh w T p m c h1 ik jk i j h0.1 h0.2.1 h0.2.2
    have h4 := hs.run w
    have h5 := run_sliceAt_slice (P := P) w T (.slice p m c) (some (.int ik i)) (some (.int jk j)) none h1
    simp [execOp, ha.op hx, ha.op hy, ha.op hz, h5, h3, h2, h4, Result.andThen, sliced]
theorem EvF_sliceLHM {T E s m c : Nat} {x y z t : Operand} {p : Option Addr} {ik jk mk : IntKind} {i j k : Int} [hu : Und P T (.slice E)] [hs : SizeOf P E s] (hx : e.op x = some (.slice p m c)) (hy : e.op y = some (.int ik i)) (hz : e.op z = some (.int jk j)) (ht : e.op t = some (.int mk k)) (h0 : 0 ≤ i ∧ i ≤ j ∧ j ≤ k ∧ k ≤ c) :
    EvF P n e ⟨dst, .slice T x (some y) (some z) (some t), ty, pos, af, g⟩ (.slice (if k.toNat = i.toNat then p else p.map (·.add (i.toNat * s))) (j.toNat - i.toNat) (k.toNat - i.toNat)) :=
  fun a w ha => by
    obtain ⟨h1, h2⟩ := elem_of hu.eq
    have h3 := run_slice_lhm w T p m c h1 ik jk mk i j k h0.1 h0.2.1 h0.2.2.1 h0.2.2.2
    have h4 := hs.run w
    have h5 := run_sliceAt_slice (P := P) w T (.slice p m c) (some (.int ik i)) (some (.int jk j)) (some (.int mk k)) h1
    simp [execOp, ha.op hx, ha.op hy, ha.op hz, ha.op ht, h5, h3, h2, h4, Result.andThen, sliced]
end
end Go.Sm
