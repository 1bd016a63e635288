/- The closed facts of a row that look at the program alone: each by itself, once for all rows. -/
import Derived.Test.YtdfljbffomhchaaGreatRows
import Derived.JoinedOf
import Derived.KernelRfl
namespace Go.Proofs.YtdfljbffomhchaaGreat.facts
open Go
theorem and_mk {a b : Bool} (ha : a = true) (hb : b = true) : (a && b) = true := by rw [ha, hb]; rfl
theorem p1 : laidOutB Tryz.prog = true := by kernel_rfl
theorem p2 : mapsRowed Tryz.prog = true := by kernel_rfl
theorem p6 : (Tryz.prog.stops == []) = true := by kernel_rfl
theorem p8 : (Tryz.prog.stopKnobs == []) = true := by kernel_rfl
theorem p22 : (Rows.fetchNilRow.plainKeys == Tryz.prog.plainKeys) = true := by kernel_rfl
theorem p24 : Tryz.prog.stopsHeard = true := by kernel_rfl
theorem p25 : Tryz.prog.mayEnter = true := by kernel_rfl
theorem p26 : (Rows.fetchNilRow.lifted == Tryz.prog.liftsFinal) = true := by kernel_rfl
theorem p27 : (Tryz.prog.make == some Rows.fetchNilRow.make) = true := by kernel_rfl
end Go.Proofs.YtdfljbffomhchaaGreat.facts
