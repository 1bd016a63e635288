/- A link that serves, as the laws of package fetch make it: plain data. -/
import Derived.Test.YtdfljbffomhchaaGreatMg
set_option linter.unusedVariables false
namespace Go.Sm
namespace Lnk
variable {x : Lnk} [hx : LnkOk x]
instance okLocal {b : Bool} : LnkOk (x.local_ b) := by
  have h : LnkOk { x with o := ⟨b, x.o.their, x.o.wait⟩ } := ⟨hx.clk, hx.hd⟩
  unfold local_
  split
  · exact h
  · unfold local2
    repeat' split
    all_goals first | exact ⟨hx.clk, hx.hd⟩ | exact @okHalt _ h | exact @okResume _ h
instance okOrder {k : Int} {p : Msg} : LnkOk (x.order k p).1 := by
  unfold order
  repeat' split
  all_goals first
    | exact hx
    | exact okBegin
    | exact okFail
    | exact okA (x := x) (@ClkOk.setHurry _ _ _ hx.clk _)
    | exact ⟨hx.clk, @HdOk.put _ _ hx.hd⟩
    | exact okLocal
    | exact ⟨hx.clk, @HdOk.flush _ hx.hd⟩
    | exact okJ (x := x) (@ClkOk.jbegin _ _ _ hx.clk)
    | exact okJ (x := x) (@ClkOk.jfin _ _ hx.clk)
    | skip
  have h : LnkOk { x with o := x.o.goes.1 } := ⟨hx.clk, hx.hd⟩
  unfold goes
  split
  · exact @okResume _ h
  · exact h
end Lnk
instance okUsual {cyc : Bool} : LnkOk (Lnk.new (Setup.usual cyc)) := ⟨ClkOk.none, HdOk.new (show (16 : Int) ≤ 100000 by decide)⟩
def uLink : Unt := ⟨127, 127, true, true, 1, 1, false, []⟩
def uFill : Unt := ⟨127, 127, true, true, 0, 1, false, []⟩
def sv1 (cyc : Bool) : Lnk := ((Lnk.new (Setup.usual cyc)).order 1 []).1
def sv2 (cyc : Bool) : Lnk := (sv1 cyc).hear uLink
def sv3 (cyc : Bool) : Lnk := (sv2 cyc).hear uLink
def ticks : Nat → Lnk → Lnk
  | 0, x => x
  | k + 1, x => (ticks k x).tick
def sv4 (cyc : Bool) : Lnk := (ticks 1300 (sv3 cyc)).hear uFill
def pMsg (put : Int) (i : Nat) : Msg := [w8 i, put, 9]
def puts1 (put : Int) (i : Nat) (s : Lnk × List Msg) : Lnk × List Msg := ((s.1.order 5 (pMsg put i)).1, if (s.1.order 5 (pMsg put i)).2 = 0 then s.2 ++ [pMsg put i] else s.2)
def puts (put : Int) : Nat → Lnk × List Msg → Lnk × List Msg
  | 0, s => s
  | k + 1, s => puts1 put k (puts put k s)
def sends : Nat → Lnk → Lnk
  | 0, x => x
  | k + 1, x => (sends k x).next.1
def uTake (i : Int) : Unt := ⟨127, w8 i, true, true, 2, 1, false, [97, 98, 99]⟩
def takes : Nat → Lnk → Lnk
  | 0, x => x
  | k + 1, x => (takes k x).hear (uTake k)
def fAfter : Nat → Int
  | 0 => 127
  | k + 1 => w8 k
def kAfter : Nat → Int
  | 0 => 0
  | k + 1 => 2
def iAfter : Nat → Msg
  | 0 => []
  | k + 1 => [97, 98, 99]
def uAfter (k : Nat) : Unt := ⟨127, fAfter k, true, true, kAfter k, 1, false, iAfter k⟩
def uAns (u : Unt) (b f : Int) : Unt := { u with bsn := b, kind := 0, fsn := f }
def m12 (n : Int) : Nat := (n.tmod 12).toNat
def m9 (n : Int) : Nat := (n.tmod 9).toNat
def sv5 (cyc : Bool) (put : Int) : Lnk × List Msg := puts put (m12 put) (sv4 cyc, [])
def sv6 (cyc : Bool) (put send : Int) : Lnk := sends (m12 send) (sv5 cyc put).1
def sv7 (cyc : Bool) (put send take : Int) : Lnk := takes (m9 take) (sv6 cyc put send)
def ansB (x : Lnk) (answer : Int) : Int := w8 ((w64 answer).tmod x.h.sent.length)
def sv8 (cyc : Bool) (put send answer take : Int) (x : Lnk) : Lnk := x.hear (uAns (uAfter (m9 take)) (ansB x answer) x.w.last)
def cutL (l : List Msg) (b : Int) : List Msg := if w64 b < (l.length : Int) then l.drop (w8 (b + 1)).toNat else l
def serving (cyc : Bool) (put send answer take : Int) : Lnk × List Msg :=
  if 0 < ((sv7 cyc put send take).h.sent.length : Int) then (sv8 cyc put send answer take (sv7 cyc put send take), cutL (sv5 cyc put).2 (ansB (sv7 cyc put send take) answer)) else (sv7 cyc put send take, (sv5 cyc put).2)
instance okTicks : ∀ {k : Nat} {x : Lnk} [hx : LnkOk x], LnkOk (ticks k x)
  | 0, x, hx => hx
  | k + 1, x, hx => @Lnk.okTick _ (@okTicks k x hx)
instance okSends : ∀ {k : Nat} {x : Lnk} [hx : LnkOk x], LnkOk (sends k x)
  | 0, x, hx => hx
  | k + 1, x, hx => @Lnk.okNext _ (@okSends k x hx)
instance okTakes : ∀ {k : Nat} {x : Lnk} [hx : LnkOk x], LnkOk (takes k x)
  | 0, x, hx => hx
  | k + 1, x, hx => @Lnk.okHear _ (@okTakes k x hx) _
theorem okPuts {put : Int} : ∀ {k : Nat} {s : Lnk × List Msg}, LnkOk s.1 → LnkOk (puts put k s).1
  | 0, s, hx => hx
  | k + 1, s, hx => @Lnk.okOrder _ (okPuts (k := k) hx) _ _
theorem okPuts' {put : Int} {k : Nat} {x : Lnk} (hx : LnkOk x) : LnkOk (puts put k (x, [])).1 := okPuts hx
instance {cyc : Bool} : LnkOk (sv1 cyc) := Lnk.okOrder
instance {cyc : Bool} : LnkOk (sv2 cyc) := Lnk.okHear
instance {cyc : Bool} : LnkOk (sv3 cyc) := Lnk.okHear
instance {cyc : Bool} : LnkOk (sv4 cyc) := Lnk.okHear
instance {cyc : Bool} {put : Int} : LnkOk (sv5 cyc put).1 := by unfold sv5; exact okPuts' inferInstance
instance {cyc : Bool} {put send : Int} : LnkOk (sv6 cyc put send) := okSends
instance {cyc : Bool} {put send take : Int} : LnkOk (sv7 cyc put send take) := okTakes
theorem puts_len {put : Int} : ∀ (k : Nat) (s : Lnk × List Msg), (puts put k s).2.length ≤ s.2.length + k
  | 0, s => by simp [puts]
  | k + 1, s => by
    have := puts_len (put := put) k s
    simp only [puts, puts1]
    split
    · simp; omega
    · omega
end Go.Sm
