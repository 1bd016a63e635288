/- The two methods as plain data: units, what is sent, what is answered, what is taken. -/
import Derived.Test.YtdfljbffomhchaaGreatMc
set_option linter.unusedVariables false
namespace Go.Sm

structure Unt where
  bsn : Int
  fsn : Int
  bib : Bool
  fib : Bool
  kind : Int
  status : Int
  wide : Bool
  info : Msg
def Unt.cells (u : Unt) (v : Value) : List Value := [U8 u.bsn, U8 u.fsn, .bool u.bib, .bool u.fib, U8 u.kind, U8 u.status, .bool u.wide, v]
structure Bas where
  fib : Bool
  bib : Bool
  last : Int
  asked : Bool
  again : Int
  b0 : Bool
  b1 : Bool
  i0 : Bool
  i1 : Bool
structure Cyc where
  n1 : Int
  n2 : Int
  last : Int
  at_ : Int
  force : Bool
  b0 : Bool
  b1 : Bool
def max1 (n : Int) : Int := if 1 > n then 1 else n
def Unt.zero : Unt := ⟨0, 0, false, false, 0, 0, false, []⟩
def Bas.new : Bas := ⟨true, true, 127, false, -1, false, false, false, false⟩
def Bas.head (b : Bas) (n : Int) : Unt := ⟨b.last, n, b.bib, b.fib, 0, 0, false, []⟩
def Bas.message (b : Bas) (n : Int) (p : Msg) : Unt := ⟨b.last, n, b.bib, b.fib, 2, 0, false, p⟩
def Bas.fill (b : Bas) (h : Hd) : Unt := b.head h.last
def Bas.next2 (b : Bas) (h : Hd) : (Bas × Hd) × Unt :=
  if h.send.2.2.2 = 0 then ((b, h.send.1), b.message h.send.2.1 h.send.2.2.1) else ((b, h.send.1), b.fill h.send.1)
def Bas.next (b : Bas) (h : Hd) : (Bas × Hd) × Unt :=
  if 0 ≤ b.again then
    if (h.at_ b.again).2.2 = 0 then
      if (h.sent.length : Int) ≤ w64 (b.again + 1) then (({ b with again := -1 }, h), b.message (h.at_ b.again).1 (h.at_ b.again).2.1)
      else (({ b with again := w64 (b.again + 1) }, h), b.message (h.at_ b.again).1 (h.at_ b.again).2.1)
    else Bas.next2 { b with again := -1 } h
  else b.next2 h
/-- More numbers that aren't right. -/
def Bas.seeB (b : Bas) (odd : Bool) : Bas × Bool := ({ b with b0 := b.b1, b1 := odd }, odd && (b.b0 || b.b1))
def Bas.seeI (b : Bas) (odd : Bool) : Bas × Bool := ({ b with i0 := b.i1, i1 := odd }, odd && (b.i0 || b.i1))
def max0 (n : Int) : Int := if n > 0 then n else 0
def Bas.back (b : Bas) (h : Hd) (k : Int) : Bas :=
  if 0 ≤ b.again then { b with again := max0 (w64 (b.again - k)) } else b
def Bas.over (b : Bas) (h : Hd) : Bas := if (h.sent.length : Int) ≤ b.again then { b with again := -1 } else b
def Bas.turn (b : Bas) (h : Hd) (bib : Bool) : Bas :=
  if ¬ bib = b.fib then { b with fib := bib, again := if 0 < (h.sent.length : Int) then 0 else -1 } else b
def Bas.answer1 (b : Bas) (h : Hd) (u : Unt) (r : Hd × Int × Int) : (Bas × Hd) × Int × Int := (((((b.back r.1 r.2.1).over r.1).turn r.1 u.bib), r.1), r.2.1, 0)
def Bas.answer (b : Bas) (h : Hd) (u : Unt) : (Bas × Hd) × Int × Int :=
  if (b.seeB (!h.knows u.bsn)).2 = true then (((b.seeB (!h.knows u.bsn)).1, h), 0, 10)
  else if ¬ h.knows u.bsn = true then (((b.seeB (!h.knows u.bsn)).1, h), 0, 0)
  else Bas.answer1 (b.seeB (!h.knows u.bsn)).1 h u (h.free u.bsn)
/-- What is taken: its octets, was it, an error. -/
def Bas.take1 (b : Bas) (u : Unt) : Bas × Msg × Bool × Int :=
  if u.kind = 2 ∧ u.fsn = ringNext b.last then ({ b with last := ringNext b.last, asked := false }, u.info, true, 0)
  else if u.fsn = b.last then ({ b with asked := false }, [], false, 0)
  else ({ b with bib := !b.bib, asked := true }, [], false, 0)
def Bas.take (b : Bas) (u : Unt) : Bas × Msg × Bool × Int :=
  if ¬ u.fib = b.bib then
    if (b.seeI (!b.asked)).2 = true then ((b.seeI (!b.asked)).1, [], false, 10) else ((b.seeI (!b.asked)).1, [], false, 0)
  else Bas.take1 (b.seeI false).1 u

def Cyc.new (n1 n2 : Int) : Cyc := ⟨max1 n1, max1 n2, 127, 0, false, false, false⟩
def Cyc.head (c : Cyc) (n : Int) : Unt := ⟨c.last, n, true, true, 0, 0, false, []⟩
def Cyc.message (c : Cyc) (n : Int) (p : Msg) : Unt := ⟨c.last, n, true, true, 2, 0, false, p⟩
def Cyc.fill (c : Cyc) (h : Hd) : Unt := c.head h.last
def Cyc.fits (c : Cyc) (h : Hd) : Bool := decide ((h.sent.length : Int) = 0) || (decide ((h.sent.length : Int) < c.n1) && decide (w64 (h.waiting + h.sizeN) ≤ c.n2))
def Cyc.full (c : Cyc) (h : Hd) : Bool := decide (0 < (h.next.length : Int)) && !c.fits h
def Cyc.next4 (c : Cyc) (h : Hd) : (Cyc × Hd) × Unt :=
  if ¬ (h.at_ c.at_).2.2 = 0 then ((c, h), c.fill h) else (({ c with at_ := w64 (c.at_ + 1) }, h), c.message (h.at_ c.at_).1 (h.at_ c.at_).2.1)
def Cyc.next3 (c : Cyc) (h : Hd) : (Cyc × Hd) × Unt := Cyc.next4 (if (h.sent.length : Int) ≤ c.at_ then { c with at_ := 0, force := c.full h } else c) h
def Cyc.next2 (c : Cyc) (h : Hd) : (Cyc × Hd) × Unt :=
  if ¬ c.force = true then
    if h.send.2.2.2 = 0 then ((c, h.send.1), c.message h.send.2.1 h.send.2.2.1) else Cyc.next3 c h.send.1
  else c.next3 h
def Cyc.next (c : Cyc) (h : Hd) : (Cyc × Hd) × Unt := Cyc.next2 (if 0 < (h.next.length : Int) ∧ ¬ c.fits h = true then { c with force := true } else c) h
def Cyc.see (c : Cyc) (odd : Bool) : Cyc × Bool := ({ c with b0 := c.b1, b1 := odd }, odd && (c.b0 || c.b1))
def Cyc.answer1 (c : Cyc) (h : Hd) (u : Unt) (r : Hd × Int × Int) : (Cyc × Hd) × Int × Int := (({ c with at_ := max0 (w64 (c.at_ - r.2.1)) }, r.1), r.2.1, 0)
def Cyc.answer (c : Cyc) (h : Hd) (u : Unt) : (Cyc × Hd) × Int × Int :=
  if (c.see (!h.knows u.bsn)).2 = true then (((c.see (!h.knows u.bsn)).1, h), 0, 10)
  else if ¬ h.knows u.bsn = true then (((c.see (!h.knows u.bsn)).1, h), 0, 0)
  else Cyc.answer1 (c.see (!h.knows u.bsn)).1 h u (h.free u.bsn)
def Cyc.take (c : Cyc) (u : Unt) : Cyc × Msg × Bool × Int :=
  if u.kind ≠ 2 ∨ u.fsn ≠ ringNext c.last then (c, [], false, 0) else ({ c with last := u.fsn }, u.info, true, 0)
def Cyc.reset (c : Cyc) : Cyc := ⟨c.n1, c.n2, 127, 0, false, false, false⟩

/-- A way: one of the two. -/
structure Wy where
  cyc : Bool
  b : Bas
  c : Cyc
def Wy.new (s : Setup) : Wy := ⟨s.cyc, Bas.new, Cyc.new s.n1 s.n2⟩
def Wy.last (w : Wy) : Int := cond w.cyc w.c.last w.b.last
def Wy.fill (w : Wy) (h : Hd) : Unt := cond w.cyc (w.c.fill h) (w.b.fill h)
def Wy.next (w : Wy) (h : Hd) : (Wy × Hd) × Unt :=
  ((⟨w.cyc, cond w.cyc w.b (w.b.next h).1.1, cond w.cyc (w.c.next h).1.1 w.c⟩, cond w.cyc (w.c.next h).1.2 (w.b.next h).1.2), cond w.cyc (w.c.next h).2 (w.b.next h).2)
def Wy.answer (w : Wy) (h : Hd) (u : Unt) : (Wy × Hd) × Int × Int :=
  ((⟨w.cyc, cond w.cyc w.b (w.b.answer h u).1.1, cond w.cyc (w.c.answer h u).1.1 w.c⟩, cond w.cyc (w.c.answer h u).1.2 (w.b.answer h u).1.2), cond w.cyc (w.c.answer h u).2 (w.b.answer h u).2)
def Wy.take (w : Wy) (u : Unt) : Wy × Msg × Bool × Int :=
  (⟨w.cyc, cond w.cyc w.b (w.b.take u).1, cond w.cyc (w.c.take u).1 w.c⟩, cond w.cyc (w.c.take u).2 (w.b.take u).2)
def Wy.reset (w : Wy) : Wy := ⟨w.cyc, cond w.cyc w.b Bas.new, cond w.cyc w.c.reset w.c⟩

instance HdOk.bnext {b : Bas} {h : Hd} [hk : HdOk h] : HdOk (b.next h).1.2 := by
  unfold Bas.next Bas.next2
  split
  · split
    · split <;> exact hk
    · split <;> exact HdOk.send
  · split <;> exact HdOk.send
theorem Cyc.next4_h (c : Cyc) (h : Hd) : (Cyc.next4 c h).1.2 = h := by unfold Cyc.next4; split <;> rfl
theorem Cyc.next3_h (c : Cyc) (h : Hd) : (Cyc.next3 c h).1.2 = h := by unfold Cyc.next3; exact Cyc.next4_h _ _
theorem Cyc.next2_h (c : Cyc) (h : Hd) : (Cyc.next2 c h).1.2 = h ∨ (Cyc.next2 c h).1.2 = h.send.1 := by
  unfold Cyc.next2
  split
  · split
    · exact .inr rfl
    · exact .inr (Cyc.next3_h _ _)
  · exact .inl (Cyc.next3_h _ _)
instance HdOk.cnext {c : Cyc} {h : Hd} [hk : HdOk h] : HdOk (c.next h).1.2 := by
  unfold Cyc.next
  rcases Cyc.next2_h (if 0 < (h.next.length : Int) ∧ ¬ c.fits h = true then { c with force := true } else c) h with e | e
  · rw [e]; exact hk
  · rw [e]; exact HdOk.send
instance HdOk.banswer {b : Bas} {h : Hd} {u : Unt} [hk : HdOk h] : HdOk (b.answer h u).1.2 := by
  unfold Bas.answer Bas.answer1
  split
  · exact hk
  · split
    · exact hk
    · exact HdOk.free
instance HdOk.canswer {c : Cyc} {h : Hd} {u : Unt} [hk : HdOk h] : HdOk (c.answer h u).1.2 := by
  unfold Cyc.answer Cyc.answer1
  split
  · exact hk
  · split
    · exact hk
    · exact HdOk.free
instance HdOk.next {w : Wy} {h : Hd} [hk : HdOk h] : HdOk (w.next h).1.2 := by
  unfold Wy.next
  cases w.cyc
  · exact HdOk.bnext
  · exact HdOk.cnext
instance HdOk.answer {w : Wy} {h : Hd} {u : Unt} [hk : HdOk h] : HdOk (w.answer h u).1.2 := by
  unfold Wy.answer
  cases w.cyc
  · exact HdOk.banswer
  · exact HdOk.canswer
end Go.Sm
