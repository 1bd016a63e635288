/- A link as plain data: package state. -/
import Derived.Test.YtdfljbffomhchaaGreatMd
set_option linter.unusedVariables false
namespace Go.Sm

structure Tld where
  kind : Int
  why : Int
  p : Msg
structure Lnk where
  S : Int
  s : Setup
  c : Clk
  a : Aln
  j : Jam
  w : Wy
  h : Hd
  o : Otg
  leak : Leak
  told : List Tld
  fails : Int
def Otg.same (a b : Otg) : Bool := (a.own == b.own) && ((a.their == b.their) && (a.wait == b.wait))
def Otg.none : Otg := ⟨false, false, false⟩
def Lnk.new (s : Setup) : Lnk := ⟨0, s, Clk.none, Aln.new, Jam.new, Wy.new s, Hd.new s.hold s.octs, Otg.none, ⟨0, 0⟩, [], 0⟩
namespace Lnk
def tell (x : Lnk) (t : Tld) : Lnk := { x with told := x.told ++ [t] }
def setA (x : Lnk) (r : Aln × Clk) : Lnk := { x with a := r.1, c := r.2 }
def setJ (x : Lnk) (r : Jam × Clk) : Lnk := { x with j := r.1, c := r.2 }
def setW (x : Lnk) (r : Wy × Hd) : Lnk := { x with w := r.1, h := r.2 }
def setC (x : Lnk) (c : Clk) : Lnk := { x with c := c }
def fail (x : Lnk) (why : Int) : Lnk :=
  if x.S = 0 then x
  else { x with a := (x.a.fin x.c).1, j := ⟨false, false, false⟩, c := Clk.none, S := 0, leak := ⟨0, 0⟩, o := ⟨x.o.own, false, false⟩, fails := w64 (x.fails + 1), told := x.told ++ [⟨2, why, []⟩] }
def fail1 (x : Lnk) : Lnk := { x with a := (x.a.fin x.c).1, j := ⟨false, false, false⟩, c := Clk.none, S := 0, leak := ⟨0, 0⟩, o := ⟨x.o.own, false, false⟩, fails := w64 (x.fails + 1) }
def begin_ (x : Lnk) : Lnk :=
  { x with w := x.w.reset, h := x.h.clear, S := 1, leak := ⟨0, 0⟩, o := ⟨x.o.own, false, false⟩, a := (x.a.begin x.s x.c).1, c := (x.a.begin x.s x.c).2 }
def halt (x : Lnk) : Lnk := { x with S := 5, j := (x.j.clear x.c).1, c := (x.j.clear x.c).2.stop [7] }
def wait (x : Lnk) (anew : Bool) : Lnk :=
  if (x.h.sent.length : Int) = 0 then x.setC (x.c.stop [7]) else if anew = true ∨ ¬ 0 < x.c.left 7 then x.setC (x.c.start 7 x.s.t7) else x
def resume (x : Lnk) : Lnk := if x.S ≠ 5 ∨ x.o.is = true then x else wait { x with S := 4 } false
def aligned (x : Lnk) : Lnk := if x.o.own = true then { x with S := 3, c := x.c.start 1 x.s.t1 } else { x with S := 2, c := x.c.start 1 x.s.t1 }
def serve1 (x : Lnk) : Lnk := { x with c := x.c.stop [1], S := 4, told := x.told ++ [⟨1, 0, []⟩] }
def serve (x : Lnk) : Lnk := if x.o.is = true then x.serve1.halt else x.serve1
def failIf (x : Lnk) (why : Int) : Lnk := if why ≠ 0 then x.fail why else x
def out1 (x : Lnk) (r : (Aln × Clk) × Bool × Int) : Lnk := if r.2.2 ≠ 0 then (x.setA r.1).fail r.2.2 else if r.2.1 = true then (x.setA r.1).aligned else x.setA r.1
def out2 (x : Lnk) (r : (Jam × Clk) × Int) : Lnk := if r.2 ≠ 0 then (x.setJ r.1).fail r.2 else x.setJ r.1
def out (x : Lnk) (i : Int) : Lnk :=
  if x.S = 0 then x
  else if x.S = 1 then x.out1 (x.a.out x.c i)
  else if i = 1 ∧ (x.S = 2 ∨ x.S = 3) then x.fail 6
  else if i = 7 ∧ x.S = 4 then x.fail 2
  else x.out2 (x.j.out x.s x.c i)
def tick (x : Lnk) : Lnk := x.c.due.foldl out (x.setC x.c.tick)
def count1 (x : Lnk) (r : (Aln × Clk) × Int) : Lnk := if r.2 ≠ 0 then (x.setA r.1).fail r.2 else x.setA r.1
def count2 (x : Lnk) (r : Leak × Bool) : Lnk := if r.2 = true then fail { x with leak := r.1 } 1 else { x with leak := r.1 }
def count (x : Lnk) (wrong : Bool) : Lnk :=
  if x.S = 0 then x else if x.S = 1 then x.count1 (x.a.unit x.s x.c wrong) else x.count2 (x.leak.unit wrong)
def remote3 (x : Lnk) : Lnk := if x.S = 4 then x.halt else x
def remote2 (x : Lnk) (out : Bool) (r : Otg × Bool) : Lnk :=
  if ¬ r.2 = true then { x with o := r.1 }
  else if out = true then remote3 { x with o := r.1, told := x.told ++ [⟨4, 0, []⟩] } else resume { x with o := r.1, told := x.told ++ [⟨5, 0, []⟩] }
def served (x : Lnk) : Lnk := if x.S = 2 ∨ x.S = 3 then x.serve else x
def remote (x : Lnk) (out : Bool) : Lnk := remote2 x.served out (x.served.o.remote out)
def status5 (x : Lnk) (r : (Jam × Clk) × Bool) : Lnk := if r.2 = true then (x.setJ r.1).tell ⟨6, 0, []⟩ else x.setJ r.1
def status (x : Lnk) (t : Int) : Lnk :=
  if x.S = 1 then x.count1 (x.a.heard x.s x.c t)
  else if t = 3 then x.fail 8
  else if t = 0 ∨ 4 ≤ x.S ∧ (t = 1 ∨ t = 2) then x.fail 9
  else if t = 4 then x.remote true
  else if t = 5 ∧ x.S = 4 then x.status5 (x.j.heard x.s x.c (decide (0 < (x.h.sent.length : Int))))
  else x
def take2 (x : Lnk) (r : Wy × Msg × Bool × Int) : Lnk :=
  if r.2.2.2 ≠ 0 then fail { x with w := r.1 } 4 else if r.2.2.1 = true then { x with w := r.1, told := x.told ++ [⟨3, 0, r.2.1⟩] } else { x with w := r.1 }
def take (x : Lnk) (u : Unt) : Lnk := if x.o.own = true ∨ x.j.own = true then x else x.take2 (x.w.take u)
def jc (x : Lnk) (k : Int) : Bool := x.j.their && (decide (0 < k) || decide ((x.h.sent.length : Int) = 0))
def ordJ (x : Lnk) (k : Int) : Lnk × Bool := bif x.jc k then (x.setJ (x.j.answer x.c).1, (x.j.answer x.c).2) else (x, false)
def ord3 (x : Lnk) (k : Int) : Lnk := if (x.ordJ k).2 = true then (x.ordJ k).1.tell ⟨7, 0, []⟩ else (x.ordJ k).1
def ord2 (x : Lnk) (k : Int) : Lnk := if 0 < k ∧ x.S = 4 then x.wait true else x
def ord1 (x : Lnk) (u : Unt) (r : (Wy × Hd) × Int × Int) : Lnk :=
  if r.2.2 ≠ 0 then (x.setW r.1).fail 4 else (((x.setW r.1).ord2 r.2.1).ord3 r.2.1).take u
def back (x : Lnk) : Lnk := if x.o.their = true then x.remote false else x
def ordinary (x : Lnk) (u : Unt) : Lnk := x.served.back.ord1 u (x.served.back.w.answer x.served.back.h u)
def hear1 (x : Lnk) (u : Unt) : Lnk := if x.S = 0 then x else if u.kind = 1 then x.status u.status else if x.S = 1 then x else x.ordinary u
def hear (x : Lnk) (u : Unt) : Lnk := (x.count false).hear1 u
def statusU (x : Lnk) (t : Int) : Unt := { x.w.fill x.h with kind := 1, status := t }
def next2 (x : Lnk) (r : (Wy × Hd) × Unt) : Lnk × Unt := ((x.setW r.1).wait false, r.2)
def next1 (x : Lnk) (r : Jam × Bool) : Lnk × Unt := if r.2 = true then ({ x with j := r.1 }, x.statusU 5) else next2 { x with j := r.1 } (x.w.next x.h)
def next (x : Lnk) : Lnk × Unt :=
  if x.S = 0 ∨ x.S = 1 then (x, x.statusU x.a.sends)
  else if x.S = 2 then (x, x.w.fill x.h)
  else if x.S = 4 then x.next1 x.j.takeDue
  else if x.o.own = true then (x, x.statusU 4) else (x, x.w.fill x.h)
def local2 (x : Lnk) (out : Bool) : Lnk :=
  if x.S = 4 ∧ out = true then x.halt
  else if x.S = 5 then x.resume
  else if x.S = 2 ∧ out = true then { x with S := 3 }
  else if x.S = 3 ∧ ¬ out = true then { x with S := 2 }
  else x
def local_ (x : Lnk) (out : Bool) : Lnk := if Otg.same ⟨out, x.o.their, x.o.wait⟩ x.o = true then { x with o := ⟨out, x.o.their, x.o.wait⟩ } else local2 { x with o := ⟨out, x.o.their, x.o.wait⟩ } out
def serves (x : Lnk) : Bool := decide (x.S = 4) || decide (x.S = 5)
def goes (x : Lnk) (r : Otg × Bool) : Lnk × Int := if r.2 = true then (resume { x with o := r.1 }, 0) else ({ x with o := r.1 }, 9)
def put (x : Lnk) (r : Hd × Int) : Lnk × Int := ({ x with h := r.1 }, r.2)
def order (x : Lnk) (k : Int) (p : Msg) : Lnk × Int :=
  if k = 1 then (if x.S ≠ 0 then (x, 9) else (x.begin_, 0))
  else if k = 2 then (if x.S = 0 then (x, 9) else (x.fail 10, 0))
  else if k = 3 ∨ k = 4 then (x.setA (x.a.setHurry x.s x.c (decide (k = 3))), 0)
  else if k = 5 then (if ¬ x.serves = true then (x, 12) else x.put (x.h.put p))
  else if k = 6 ∨ k = 7 then (x.local_ (decide (k = 6)), 0)
  else if k = 8 then ({ x with h := x.h.flush }, 0)
  else if k = 9 then x.goes x.o.goes
  else if k = 10 ∨ k = 11 then (if ¬ x.serves = true then (x, 9) else if k = 10 then (x.setJ (x.j.begin x.s x.c), 0) else (x.setJ (x.j.fin x.c), 0))
  else (x, 1)
end Lnk
end Go.Sm
