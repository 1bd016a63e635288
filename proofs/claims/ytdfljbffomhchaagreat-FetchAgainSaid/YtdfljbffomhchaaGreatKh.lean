/- Holds: the plain ones of package hold. -/
import Derived.Test.YtdfljbffomhchaaGreatMc
import Derived.Test.YtdfljbffomhchaaGreatKf
set_option linter.unusedVariables false
set_option linter.unusedSectionVars false
set_option maxRecDepth 10000
namespace Go.Sm
open Go.RowKit Go.Proofs

section
variable {w0 w : World} {L : List Ent}

variable {H ns cs nn cn : Nat} {most octs first : Int} {ps pn : Option Addr}

theorem hold_First (hw : Own w0 w (some (H, holdObj most octs (.slice ps ns cs) first (.slice pn nn cn)) :: L)) :
    Calls Tryz.prog 36 #[Ptr H] w (Ret fun v w' => v = U8 first ∧ Own w0 w' (some (H, holdObj most octs (.slice ps ns cs) first (.slice pn nn cn)) :: L)) := by
  refine calls_of_GC' (vs := [Ptr H]) [] Tryz.func36 rfl rfl rfl ?_ hw
  repeat' first
    | refine GC_seq ?_
    | refine GX_then ?_
    | refine GC_ret ?_
    | refine GX_then_ret ?_
    | refine GC_skip ?_
    | refine GC_true rfl ?_
    | refine GC_false rfl ?_
    | (apply GC_condT; exact rfl; (repeat (first | exact .dec | with_reducible apply Tell.or | with_reducible apply Tell.and | with_reducible apply Tell.not | exact .self)); all_goals (intro h; try contradiction))
    | ((first | (apply GC_regionK (id := 0) [0] (e' := [(0, _)]); exact rfl) | refine GC_region (id := 0) ?_); try (refine xa rfl rfl ?_; try (refine GL_nil ?_)))
    | ((first | (apply GC_regionK (id := 1) [0] (e' := [(0, _)]); exact rfl) | refine GC_region (id := 1) ?_); try (refine xm rfl rfl ?_; try ((first | refine xq rfl rfl rfl ?_ | refine xp rfl rfl rfl ?_ | refine xzq rfl rfl rfl ?_ | refine xbe rfl rfl rfl ?_ | refine xiq rfl rfl rfl ?_ | refine xse rfl rfl rfl ?_); try (refine GL_nil ?_))))
    | ((first | (apply GC_regionK (id := 2) [] (e' := []); exact rfl) | refine GC_region (id := 2) ?_); try (refine xa rfl rfl ?_; try (refine GL_nil ?_)))
    | ((first | (apply GC_regionK (id := 3) [0] (e' := [(0, _)]); exact rfl) | refine GC_region (id := 3) ?_); try (refine xm rfl rfl ?_; try (refine xn rfl rfl ?_; try (refine xf rfl rfl ?_; try ((first | (apply xl; exact rfl; (repeat (first | exact .here | refine .there ?_)); exact rfl; exact rfl) | (apply xL; exact rfl; (repeat (first | exact .here | refine .there ?_)); exact rfl; exact rfl)); try (refine xa rfl rfl ?_; try (refine GL_nil ?_)))))))
  all_goals refine GX_end (.inl rfl) (res1 rfl rfl) (fun w H => .intro ?_)
  all_goals (exact ⟨rfl, H⟩)

theorem hold_Sent (hw : Own w0 w (some (H, holdObj most octs (.slice ps ns cs) first (.slice pn nn cn)) :: L)) :
    Calls Tryz.prog 37 #[Ptr H] w (Ret fun v w' => v = I64 ns ∧ Own w0 w' (some (H, holdObj most octs (.slice ps ns cs) first (.slice pn nn cn)) :: L)) := by
  refine calls_of_GC' (vs := [Ptr H]) [] Tryz.func37 rfl rfl rfl ?_ hw
  repeat' first
    | refine GC_seq ?_
    | refine GX_then ?_
    | refine GC_ret ?_
    | refine GX_then_ret ?_
    | refine GC_skip ?_
    | refine GC_true rfl ?_
    | refine GC_false rfl ?_
    | (apply GC_condT; exact rfl; (repeat (first | exact .dec | with_reducible apply Tell.or | with_reducible apply Tell.and | with_reducible apply Tell.not | exact .self)); all_goals (intro h; try contradiction))
    | ((first | (apply GC_regionK (id := 0) [0] (e' := [(0, _)]); exact rfl) | refine GC_region (id := 0) ?_); try (refine xa rfl rfl ?_; try (refine GL_nil ?_)))
    | ((first | (apply GC_regionK (id := 1) [0] (e' := [(0, _)]); exact rfl) | refine GC_region (id := 1) ?_); try (refine xm rfl rfl ?_; try ((first | refine xq rfl rfl rfl ?_ | refine xp rfl rfl rfl ?_ | refine xzq rfl rfl rfl ?_ | refine xbe rfl rfl rfl ?_ | refine xiq rfl rfl rfl ?_ | refine xse rfl rfl rfl ?_); try (refine GL_nil ?_))))
    | ((first | (apply GC_regionK (id := 2) [] (e' := []); exact rfl) | refine GC_region (id := 2) ?_); try (refine xa rfl rfl ?_; try (refine GL_nil ?_)))
    | ((first | (apply GC_regionK (id := 3) [0] (e' := [(0, _)]); exact rfl) | refine GC_region (id := 3) ?_); try (refine xm rfl rfl ?_; try (refine xn rfl rfl ?_; try (refine xf rfl rfl ?_; try ((first | (apply xl; exact rfl; (repeat (first | exact .here | refine .there ?_)); exact rfl; exact rfl) | (apply xL; exact rfl; (repeat (first | exact .here | refine .there ?_)); exact rfl; exact rfl)); try (refine xy rfl rfl ?_; try (refine xa rfl rfl ?_; try (refine GL_nil ?_))))))))
  all_goals refine GX_end (.inl rfl) (res1 rfl rfl) (fun w H => .intro ?_)
  all_goals (exact ⟨rfl, H⟩)

theorem hold_Next (hw : Own w0 w (some (H, holdObj most octs (.slice ps ns cs) first (.slice pn nn cn)) :: L)) :
    Calls Tryz.prog 223 #[Ptr H] w (Ret fun v w' => v = I64 nn ∧ Own w0 w' (some (H, holdObj most octs (.slice ps ns cs) first (.slice pn nn cn)) :: L)) := by
  refine calls_of_GC' (vs := [Ptr H]) [] Tryz.func223 rfl rfl rfl ?_ hw
  repeat' first
    | refine GC_seq ?_
    | refine GX_then ?_
    | refine GC_ret ?_
    | refine GX_then_ret ?_
    | refine GC_skip ?_
    | refine GC_true rfl ?_
    | refine GC_false rfl ?_
    | (apply GC_condT; exact rfl; (repeat (first | exact .dec | with_reducible apply Tell.or | with_reducible apply Tell.and | with_reducible apply Tell.not | exact .self)); all_goals (intro h; try contradiction))
    | ((first | (apply GC_regionK (id := 0) [0] (e' := [(0, _)]); exact rfl) | refine GC_region (id := 0) ?_); try (refine xa rfl rfl ?_; try (refine GL_nil ?_)))
    | ((first | (apply GC_regionK (id := 1) [0] (e' := [(0, _)]); exact rfl) | refine GC_region (id := 1) ?_); try (refine xm rfl rfl ?_; try ((first | refine xq rfl rfl rfl ?_ | refine xp rfl rfl rfl ?_ | refine xzq rfl rfl rfl ?_ | refine xbe rfl rfl rfl ?_ | refine xiq rfl rfl rfl ?_ | refine xse rfl rfl rfl ?_); try (refine GL_nil ?_))))
    | ((first | (apply GC_regionK (id := 2) [] (e' := []); exact rfl) | refine GC_region (id := 2) ?_); try (refine xa rfl rfl ?_; try (refine GL_nil ?_)))
    | ((first | (apply GC_regionK (id := 3) [0] (e' := [(0, _)]); exact rfl) | refine GC_region (id := 3) ?_); try (refine xm rfl rfl ?_; try (refine xn rfl rfl ?_; try (refine xf rfl rfl ?_; try ((first | (apply xl; exact rfl; (repeat (first | exact .here | refine .there ?_)); exact rfl; exact rfl) | (apply xL; exact rfl; (repeat (first | exact .here | refine .there ?_)); exact rfl; exact rfl)); try (refine xy rfl rfl ?_; try (refine xa rfl rfl ?_; try (refine GL_nil ?_))))))))
  all_goals refine GX_end (.inl rfl) (res1 rfl rfl) (fun w H => .intro ?_)
  all_goals (exact ⟨rfl, H⟩)

theorem hold_New (hw : Own w0 w L) :
    Calls Tryz.prog 175 #[I64 most, I64 octs] w (Ret fun v w' => ∃ H, v = Ptr H ∧ Own w0 w' (some (H, holdObj most octs (.slice none 0 0) 0 (.slice none 0 0)) :: L)) := by
  refine calls_of_GC' (vs := [I64 most, I64 octs]) [] Tryz.func175 rfl rfl rfl ?_ hw
  repeat' first
    | refine GC_seq ?_
    | refine GX_then ?_
    | refine GC_ret ?_
    | refine GX_then_ret ?_
    | ((first | (apply GC_regionK (id := 0) [0, 1] (e' := [(0, _), (1, _)]); exact rfl) | refine GC_region (id := 0) ?_); try (refine xa rfl rfl ?_; try (refine GL_nil ?_)))
    | ((first | (apply GC_regionK (id := 1) [0, 1] (e' := [(0, _), (1, _)]); exact rfl) | refine GC_region (id := 1) ?_); try (refine xm rfl rfl ?_; try (refine xm rfl rfl ?_; try (refine xb rfl rfl rfl ?_; try (refine xx rfl rfl rfl (fun q => ?_); try (refine xa rfl rfl ?_; try (refine GL_nil ?_)))))))
  all_goals refine GX_end (.inl rfl) (res1 rfl rfl) (fun w H => .intro ⟨_, rfl, H⟩)
end
end Go.Sm
