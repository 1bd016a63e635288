/- Alignment, jams, outages, the counts of damaged units: plain data and what the functions do to them. -/
import Derived.Test.YtdfljbffomhchaaGreatMa
set_option linter.unusedVariables false
namespace Go.Sm

structure Aln where
  st : Int
  own : Bool
  their : Bool
  ph : Bool
  pn : Int
  pt : Int
def alnCells (s : Setup) (C : Nat) (a : Aln) : List Value := [.bool s.cyc, I64 s.n1, I64 s.n2, I64 s.hold, I64 s.octs, I64 s.t0, I64 s.t1, I64 s.t2, I64 s.t3, I64 s.t4, I64 s.t5, I64 s.t6, I64 s.t7, Ptr C, U8 a.st, .bool a.own, .bool a.their, .bool a.ph, I64 a.pn, I64 a.pt]
def alnObj (s : Setup) (C : Nat) (a : Aln) : Obj := .cells (alnCells s C a).toArray 215 (0, 0)
theorem alnObj_eq (s : Setup) (C : Nat) (st : Int) (own their ph : Bool) (pn pt : Int) : Obj.cells (List.toArray [.bool s.cyc, I64 s.n1, I64 s.n2, I64 s.hold, I64 s.octs, I64 s.t0, I64 s.t1, I64 s.t2, I64 s.t3, I64 s.t4, I64 s.t5, I64 s.t6, I64 s.t7, Ptr C, U8 st, .bool own, .bool their, .bool ph, I64 pn, I64 pt]) 215 (0, 0) = alnObj s C ⟨st, own, their, ph, pn, pt⟩ := rfl
def Aln.new : Aln := ⟨0, false, false, false, 0, 0⟩
def Aln.hurry (a : Aln) : Bool := a.own || a.their
def Aln.begin (s : Setup) (a : Aln) (c : Clk) : Aln × Clk := ({ a with st := 1, their := false, ph := false, pn := 0, pt := 0 }, (c.stop [0, 3, 4]).start 2 s.t2)
def Aln.fin (a : Aln) (c : Clk) : Aln × Clk := ({ a with st := 0, their := false }, c.stop [0, 2, 3, 4])
def Aln.prove (s : Setup) (a : Aln) (c : Clk) : Aln × Clk :=
  ({ a with st := 3, ph := a.hurry, pn := 0 }, if a.hurry then (c.stop [0, 2, 3, 4]).start 0 s.t0 else (c.stop [0, 2, 3, 4]).start 4 s.t4)
def Aln.near (s : Setup) (a : Aln) (c : Clk) : Aln × Clk := ({ a with st := 2 }, (c.stop [0, 2, 4]).start 3 s.t3)
def Aln.setHurry (s : Setup) (a : Aln) (c : Clk) (on : Bool) : Aln × Clk :=
  if a.st = 3 ∧ a.hurry = false ∧ on = true then Aln.prove s { a with own := on } c else ({ a with own := on }, c)
/-- A status came: why it fails then. -/
def Aln.heard1 (s : Setup) (a : Aln) (c : Clk) (t : Int) (was : Bool) : (Aln × Clk) × Int :=
  if t = 3 ∧ a.st ≠ 1 then ((a, c), 8)
  else if a.st = 1 ∧ ((t = 1 ∨ t = 2) ∨ t = 0) then (a.near s c, 0)
  else if a.st = 2 ∧ (t = 1 ∨ t = 2) then (Aln.prove s { a with ph := false, pn := 0, pt := 0 } c, 0)
  else if a.st = 3 ∧ t = 0 then (a.near s c, 0)
  else if (a.st = 3 ∧ ¬ was = true) ∧ a.hurry = true then (Aln.prove s a c, 0)
  else ((a, c), 0)
def Aln.heard (s : Setup) (a : Aln) (c : Clk) (t : Int) : (Aln × Clk) × Int :=
  if a.st = 0 then ((a, c), 0) else Aln.heard1 s (if t = 2 then { a with their := true } else a) c t a.hurry

/-- One more unit while it is proved. -/
abbrev w64 (n : Int) : Int := IntKind.i64.wrap n
def proofMost (h : Bool) : Int := if h = true then 1 else 4
def proofUnit1 (h : Bool) (n t : Int) : (Int × Int) × Bool × Bool :=
  if n < proofMost h then ((n, t), false, false) else ((0, w64 (t + 1)), true, decide (5 ≤ w64 (t + 1)))
def proofUnit (h : Bool) (n t : Int) (wrong : Bool) : (Int × Int) × Bool × Bool := proofUnit1 h (if wrong = true then w64 (n + 1) else n) t
def Aln.unit1 (s : Setup) (a : Aln) (c : Clk) (r : (Int × Int) × Bool × Bool) : (Aln × Clk) × Int :=
  if r.2.2 = true then (({ a with pn := r.1.1, pt := r.1.2 }, c), 5)
  else if r.2.1 = true then (Aln.prove s { a with pn := r.1.1, pt := r.1.2 } c, 0) else (({ a with pn := r.1.1, pt := r.1.2 }, c), 0)
def Aln.unit (s : Setup) (a : Aln) (c : Clk) (wrong : Bool) : (Aln × Clk) × Int :=
  if a.st ≠ 3 then ((a, c), 0) else Aln.unit1 s a c (proofUnit a.ph a.pn a.pt wrong)
/-- A timer ran out: is it proved? Why does it fail? -/
def Aln.out (a : Aln) (c : Clk) (i : Int) : (Aln × Clk) × Bool × Int :=
  if i = 2 ∧ a.st = 1 then ((a, c), false, 7)
  else if i = 3 ∧ a.st = 2 then ((a, c), false, 7)
  else if (i = 4 ∨ i = 0) ∧ a.st = 3 then (a.fin c, true, 0)
  else ((a, c), false, 0)
def Aln.sends (a : Aln) : Int := if a.st = 0 then 3 else if a.st = 1 then 0 else if a.own then 2 else 1

structure Jam where
  own : Bool
  their : Bool
  due : Bool
def jamCells (s : Setup) (C : Nat) (j : Jam) : List Value := [.bool s.cyc, I64 s.n1, I64 s.n2, I64 s.hold, I64 s.octs, I64 s.t0, I64 s.t1, I64 s.t2, I64 s.t3, I64 s.t4, I64 s.t5, I64 s.t6, I64 s.t7, Ptr C, .bool j.own, .bool j.their, .bool j.due]
def jamObj (s : Setup) (C : Nat) (j : Jam) : Obj := .cells (jamCells s C j).toArray 217 (0, 0)
theorem jamObj_eq (s : Setup) (C : Nat) (own their due : Bool) : Obj.cells (List.toArray [.bool s.cyc, I64 s.n1, I64 s.n2, I64 s.hold, I64 s.octs, I64 s.t0, I64 s.t1, I64 s.t2, I64 s.t3, I64 s.t4, I64 s.t5, I64 s.t6, I64 s.t7, Ptr C, .bool own, .bool their, .bool due]) 217 (0, 0) = jamObj s C ⟨own, their, due⟩ := rfl
def Jam.new : Jam := ⟨false, false, false⟩
def Jam.begin (s : Setup) (j : Jam) (c : Clk) : Jam × Clk := if ¬ j.own = true then ({ j with own := true, due := true }, c.start 5 s.t5) else (j, c)
def Jam.fin (j : Jam) (c : Clk) : Jam × Clk := ({ j with own := false, due := false }, c.stop [5])
def Jam.takeDue (j : Jam) : Jam × Bool := if ¬ j.due = true then (j, false) else ({ j with due := false }, true)
def Jam.heard1 (s : Setup) (j : Jam) (c : Clk) : (Jam × Clk) × Bool := if j.their = true then ((j, c), false) else (({ j with their := true }, c.start 6 s.t6), true)
def Jam.heard (s : Setup) (j : Jam) (c : Clk) (waits : Bool) : (Jam × Clk) × Bool := Jam.heard1 s j (if waits = true then c.start 7 s.t7 else c)
def Jam.answer (j : Jam) (c : Clk) : (Jam × Clk) × Bool := if ¬ j.their = true then ((j, c), false) else (({ j with their := false }, c.stop [6]), true)
def Jam.out (s : Setup) (j : Jam) (c : Clk) (i : Int) : (Jam × Clk) × Int :=
  if i = 5 ∧ j.own = true then (({ j with due := true }, c.start 5 s.t5), 0) else if i = 6 ∧ j.their = true then ((j, c), 3) else ((j, c), 0)
def Jam.clear (j : Jam) (c : Clk) : Jam × Clk := (⟨false, false, false⟩, c.stop [5, 6])

structure Otg where
  own : Bool
  their : Bool
  wait : Bool
def Otg.cells (o : Otg) : List Value := [.bool o.own, .bool o.their, .bool o.wait]
def Otg.is (o : Otg) : Bool := o.own || o.their || o.wait
def Otg.remote (o : Otg) (out : Bool) : Otg × Bool := (⟨o.own, out, o.wait || out⟩, !(o.their == out))
def Otg.goes (o : Otg) : Otg × Bool := if o.own = true ∨ o.their = true then (o, false) else (⟨o.own, o.their, false⟩, true)

def Setup.usual (cyc : Bool) : Setup := ⟨cyc, 8, 300, 16, 600, 600, 12000, 8000, 4000, 1200, 100, 4000, 6000⟩
def Setup.agg (s : Setup) : Value := .agg #[.bool s.cyc, I64 s.n1, I64 s.n2, I64 s.hold, I64 s.octs, I64 s.t0, I64 s.t1, I64 s.t2, I64 s.t3, I64 s.t4, I64 s.t5, I64 s.t6, I64 s.t7]
abbrev w8 (n : Int) : Int := IntKind.u8.wrap n
def ringGap (a b : Int) : Int := w64 ((w8 (b - a)).tmod 128)
def ringPrev (a : Int) : Int := (w8 (w8 (a + 128) - 1)).tmod 128
def ringNext (a : Int) : Int := (w8 (a + 1)).tmod 128
def ringAt (n : Int) : Int := w8 (w64 (BitVec.ofInt 64 n &&& BitVec.ofInt 64 127).toNat)
def unitLen (n : Int) : Int := w64 (w64 ((w64 (w64 (w64 (w64 ((if 0 > n then 0 else n) * 8) + w64 ((w64 ((if 0 > n then 0 else n) * 8)).tdiv 5)) + 8) + 7)).tdiv 8) + 1)
def within (x a b : Int) : Bool := decide (a ≤ x) && decide (x ≤ b)

structure Leak where
  n : Int
  seen : Int
def Leak.step (l : Leak) : Leak := if 0 < l.n then (if 256 ≤ w64 (l.seen + 1) then ⟨w64 (l.n - 1), 0⟩ else ⟨l.n, w64 (l.seen + 1)⟩) else l
def Leak.bad (l : Leak) (wrong : Bool) : Leak := if wrong = true then (if l.n = 0 then ⟨w64 (l.n + 1), 0⟩ else ⟨w64 (l.n + 1), l.seen⟩) else l
def Leak.unit (l : Leak) (wrong : Bool) : Leak × Bool := (l.step.bad wrong, decide (64 ≤ (l.step.bad wrong).n))
end Go.Sm
