/- Outages, the ring of numbers, setups: what packages outage, ring and setup do. -/
import Derived.Test.YtdfljbffomhchaaGreatMb
import Derived.Test.YtdfljbffomhchaaGreatKa
set_option linter.unusedVariables false
set_option linter.unusedSectionVars false
set_option maxRecDepth 10000
namespace Go.Sm
open Go.RowKit Go.Proofs

section
variable {w0 w : World} {L : List Ent}

set_option maxHeartbeats 4000000 in
theorem setup_Usual {cyc : Bool} (hw : Own w0 w L) :
    Calls Tryz.prog 31 #[.bool cyc] w (Ret fun v w' => v = (Setup.usual cyc).agg ∧ Own w0 w' L) := by
  refine calls_of_GC' (vs := [.bool cyc]) [] Tryz.func31 rfl rfl rfl ?_ hw
  repeat' first
    | refine GC_seq ?_
    | refine GX_then ?_
    | refine GC_ret ?_
    | refine GX_then_ret ?_
    | ((first | (apply GC_regionK (id := 0) [0] (e' := [(0, _)]); exact rfl) | refine GC_region (id := 0) ?_); try (refine xv rfl (fun q => ?_); try (refine GL_nil ?_)))
    | ((first | (apply GC_regionK (id := 1) [0, 2] (e' := [(0, _), (2, _)]); exact rfl) | refine GC_region (id := 1) ?_); try (refine xm rfl rfl ?_; try (refine xb rfl rfl rfl ?_; try (refine xb rfl rfl rfl ?_; try ((first | (apply xs; exact rfl; exact rfl; (repeat (first | exact .here | apply Upd.there)); exact rfl; exact rfl) | (apply xS; exact rfl; exact rfl; (repeat (first | exact .here | apply Upd.there)); exact rfl; exact rfl; exact rfl)); try (refine GL_nil ?_))))))
  all_goals refine GX_end (.inl rfl) (resC1 rfl rfl (.agg (by repeat (first | exact .here | refine .there ?_)) rfl)) (fun w H => .intro ?_)
  all_goals (exact ⟨rfl, H.drop⟩)
end
end Go.Sm
