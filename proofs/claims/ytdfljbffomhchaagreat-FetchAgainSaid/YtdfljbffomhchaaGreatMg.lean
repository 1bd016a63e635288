/- Links stay well formed: timers, holds; how much is told. -/
import Derived.Test.YtdfljbffomhchaaGreatMf
set_option linter.unusedVariables false
namespace Go.Sm

section
variable {s : Setup} {a : Aln} {j : Jam} {c : Clk} [hc : ClkOk c]
instance ClkOk.fin : ClkOk (a.fin c).2 := by unfold Aln.fin; infer_instance
instance ClkOk.begin : ClkOk (a.begin s c).2 := by unfold Aln.begin; infer_instance
instance ClkOk.prove : ClkOk (a.prove s c).2 := by unfold Aln.prove; infer_instance
instance ClkOk.near : ClkOk (a.near s c).2 := by unfold Aln.near; infer_instance
instance ClkOk.setHurry {on : Bool} : ClkOk (a.setHurry s c on).2 := by unfold Aln.setHurry; split <;> infer_instance
instance ClkOk.heard1 {t : Int} {was : Bool} : ClkOk (a.heard1 s c t was).1.2 := by
  unfold Aln.heard1
  repeat' split
  all_goals (first | exact hc | exact ClkOk.near | exact ClkOk.prove)
instance ClkOk.heard {t : Int} : ClkOk (a.heard s c t).1.2 := by unfold Aln.heard; split <;> infer_instance
instance ClkOk.unit {b : Bool} : ClkOk (a.unit s c b).1.2 := by
  unfold Aln.unit Aln.unit1
  repeat' split
  all_goals (first | exact hc | exact ClkOk.prove)
instance ClkOk.out {i : Int} : ClkOk (a.out c i).1.2 := by
  unfold Aln.out
  repeat' split
  all_goals (first | exact hc | exact ClkOk.fin)
instance ClkOk.jbegin : ClkOk (j.begin s c).2 := by unfold Jam.begin; split <;> infer_instance
instance ClkOk.jfin : ClkOk (j.fin c).2 := by unfold Jam.fin; infer_instance
instance ClkOk.jheard {b : Bool} : ClkOk (j.heard s c b).1.2 := by unfold Jam.heard Jam.heard1; split <;> split <;> infer_instance
instance ClkOk.janswer : ClkOk (j.answer c).1.2 := by unfold Jam.answer; split <;> infer_instance
instance ClkOk.jout {i : Int} : ClkOk (j.out s c i).1.2 := by
  unfold Jam.out
  repeat' split
  all_goals infer_instance
instance ClkOk.jclear : ClkOk (j.clear c).2 := by unfold Jam.clear; infer_instance
end

class LnkOk (x : Lnk) : Prop where
  clk : ClkOk x.c
  hd : HdOk x.h
namespace Lnk
variable {x : Lnk} [hx : LnkOk x]
instance okTell {t : Tld} : LnkOk (x.tell t) := ⟨hx.clk, hx.hd⟩
theorem okC {c : Clk} (h : ClkOk c) : LnkOk (x.setC c) := ⟨h, hx.hd⟩
instance okC' {c : Clk} [h : ClkOk c] : LnkOk (x.setC c) := ⟨h, hx.hd⟩
instance okFail {why : Int} : LnkOk (x.fail why) := by
  unfold fail; split
  · exact hx
  · exact ⟨ClkOk.none, hx.hd⟩
instance okBegin : LnkOk x.begin_ := ⟨ClkOk.begin (hc := hx.clk) (s := x.s) (a := x.a), @HdOk.clear _ hx.hd⟩
instance okHalt : LnkOk x.halt := ⟨@ClkOk.stop _ (@ClkOk.jclear _ _ hx.clk) _, hx.hd⟩
instance okWait {b : Bool} : LnkOk (x.wait b) := by
  unfold wait; split
  · exact ⟨@ClkOk.stop _ hx.clk _, hx.hd⟩
  · split
    · exact ⟨@ClkOk.start _ hx.clk _ _, hx.hd⟩
    · exact hx
instance okResume : LnkOk x.resume := by
  unfold resume; split
  · exact hx
  · have : LnkOk { x with S := 4 } := ⟨hx.clk, hx.hd⟩
    infer_instance
instance okAligned : LnkOk x.aligned := by
  unfold aligned; split <;> exact ⟨@ClkOk.start _ hx.clk _ _, hx.hd⟩
instance okServe1 : LnkOk x.serve1 := ⟨@ClkOk.stop _ hx.clk _, hx.hd⟩
instance okServe : LnkOk x.serve := by unfold serve; split <;> infer_instance
theorem okA {r : Aln × Clk} (h : ClkOk r.2) : LnkOk (x.setA r) := ⟨h, hx.hd⟩
theorem okJ {r : Jam × Clk} (h : ClkOk r.2) : LnkOk (x.setJ r) := ⟨h, hx.hd⟩
theorem okW {r : Wy × Hd} (h : HdOk r.2) : LnkOk (x.setW r) := ⟨hx.clk, h⟩
theorem okOut1 {r : (Aln × Clk) × Bool × Int} (h : ClkOk r.1.2) : LnkOk (x.out1 r) := by
  have := okA (x := x) h
  unfold out1; split
  · infer_instance
  · split <;> infer_instance
theorem okOut2 {r : (Jam × Clk) × Int} (h : ClkOk r.1.2) : LnkOk (x.out2 r) := by
  have := okJ (x := x) h
  unfold out2; split <;> infer_instance
instance okOut {i : Int} : LnkOk (x.out i) := by
  unfold out
  split
  · exact hx
  · split
    · exact okOut1 (@ClkOk.out _ _ hx.clk _)
    · split
      · infer_instance
      · split
        · infer_instance
        · exact okOut2 (ClkOk.jout (hc := hx.clk))
theorem okFold : ∀ (l : List Int) (x : Lnk), LnkOk x → LnkOk (l.foldl out x)
  | [], x, h => h
  | i :: r, x, h => okFold r _ (@okOut x h i)
instance okTick : LnkOk x.tick := okFold _ _ ⟨@ClkOk.tick _ hx.clk, hx.hd⟩
theorem okCount1 {r : (Aln × Clk) × Int} (h : ClkOk r.1.2) : LnkOk (x.count1 r) := by
  have := okA (x := x) h
  unfold count1; split <;> infer_instance
theorem okLeak {k : Leak} : LnkOk { x with leak := k } := ⟨hx.clk, hx.hd⟩
instance okCount {b : Bool} : LnkOk (x.count b) := by
  unfold count
  split
  · exact hx
  · split
    · exact okCount1 (@ClkOk.unit _ _ _ hx.clk _)
    · unfold count2
      have : LnkOk { x with leak := (x.leak.unit b).1 } := okLeak
      split <;> infer_instance
instance okServed : LnkOk x.served := by unfold served; split <;> infer_instance
theorem okRemote2 {b : Bool} {r : Otg × Bool} : LnkOk (x.remote2 b r) := by
  unfold remote2
  split
  · exact ⟨hx.clk, hx.hd⟩
  · split
    · have : LnkOk { x with o := r.1, told := x.told ++ [⟨4, 0, []⟩] } := ⟨hx.clk, hx.hd⟩
      unfold remote3; split <;> infer_instance
    · have : LnkOk { x with o := r.1, told := x.told ++ [⟨5, 0, []⟩] } := ⟨hx.clk, hx.hd⟩
      infer_instance
instance okRemote {b : Bool} : LnkOk (x.remote b) := okRemote2
instance okStatus {t : Int} : LnkOk (x.status t) := by
  unfold status
  split
  · exact okCount1 (@ClkOk.heard _ _ _ hx.clk _)
  · split
    · infer_instance
    · split
      · infer_instance
      · split
        · infer_instance
        · split
          · have := okJ (x := x) (r := (x.j.heard x.s x.c (decide (0 < (x.h.sent.length : Int)))).1) (@ClkOk.jheard _ _ _ hx.clk _)
            unfold status5; split <;> infer_instance
          · exact hx
theorem okWy {w : Wy} : LnkOk { x with w := w } := ⟨hx.clk, hx.hd⟩
instance okTake {u : Unt} : LnkOk (x.take u) := by
  unfold take
  split
  · exact hx
  · unfold take2
    have : LnkOk { x with w := (x.w.take u).1 } := okWy
    split
    · infer_instance
    · split <;> exact ⟨hx.clk, hx.hd⟩
instance okOrdJ {k : Int} : LnkOk (x.ordJ k).1 := by
  unfold ordJ
  cases x.jc k
  · exact hx
  · exact okJ (x := x) (r := (x.j.answer x.c).1) (@ClkOk.janswer _ _ hx.clk)
instance okOrd3 {k : Int} : LnkOk (x.ord3 k) := by
  unfold ord3; split <;> infer_instance
instance okOrd2 {k : Int} : LnkOk (x.ord2 k) := by unfold ord2; split <;> infer_instance
instance okBack : LnkOk x.back := by unfold back; split <;> infer_instance
theorem okOrd1 {u : Unt} {r : (Wy × Hd) × Int × Int} (h : HdOk r.1.2) : LnkOk (x.ord1 u r) := by
  have := okW (x := x) h
  unfold ord1; split <;> infer_instance
instance okOrdinary {u : Unt} : LnkOk (x.ordinary u) := okOrd1 (@HdOk.answer _ _ _ (okBack (x := x.served)).hd)
instance okHear {u : Unt} : LnkOk (x.hear u) := by
  unfold hear hear1
  split
  · infer_instance
  · split
    · infer_instance
    · split <;> infer_instance
instance okNext : LnkOk x.next.1 := by
  unfold next next1 next2
  split
  · exact hx
  · split
    · exact hx
    · split
      · split
        · exact ⟨hx.clk, hx.hd⟩
        · have := okW (x := { x with j := x.j.takeDue.1 }) (hx := ⟨hx.clk, hx.hd⟩) (@HdOk.next x.w _ hx.hd)
          exact okWait
      · split <;> exact hx
end Lnk
end Go.Sm
