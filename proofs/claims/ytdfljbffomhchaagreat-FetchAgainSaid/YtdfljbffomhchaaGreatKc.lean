/- Buckets: what package bucket's functions do. -/
import Derived.Test.YtdfljbffomhchaaGreatMb
import Derived.Test.YtdfljbffomhchaaGreatKa
set_option linter.unusedVariables false
set_option linter.unusedSectionVars false
set_option maxRecDepth 10000
namespace Go.Sm
open Go.RowKit Go.Proofs

section
variable {w0 w : World} {L : List Ent}

theorem proof_Most {h : Bool} {n t : Int} (hw : Own w0 w L) :
    Calls Tryz.prog 195 #[.agg #[.bool h, I64 n, I64 t]] w (Ret fun v w' => v = I64 (proofMost h) ∧ Own w0 w' L) := by
  refine calls_of_GC' (vs := [.agg #[.bool h, I64 n, I64 t]]) [] Tryz.func195 rfl rfl rfl ?_ hw
  repeat' first
    | refine GC_seq ?_
    | refine GX_then ?_
    | refine GC_ret ?_
    | refine GX_then_ret ?_
    | refine GC_skip ?_
    | refine GC_true rfl ?_
    | refine GC_false rfl ?_
    | (apply GC_condT; exact rfl; (repeat (first | exact .dec | with_reducible apply Tell.or | with_reducible apply Tell.and | with_reducible apply Tell.not | exact .self)); all_goals intro h)
    | ((first | (apply GC_regionK (id := 0) [0] (e' := [(0, _)]); exact rfl) | refine GC_region (id := 0) ?_); try (refine xx rfl rfl rfl (fun q => ?_); try (refine xa rfl rfl ?_; try (refine GL_nil ?_))))
    | ((first | (apply GC_regionK (id := 1) [1] (e' := [(1, _)]); exact rfl) | refine GC_region (id := 1) ?_); try (refine xf rfl rfl ?_; try ((first | (apply xl; exact rfl; (repeat (first | exact .here | refine .there ?_)); exact rfl; exact rfl) | (apply xL; exact rfl; (repeat (first | exact .here | refine .there ?_)); exact rfl; exact rfl)); try (refine GL_nil ?_))))
    | ((first | (apply GC_regionK (id := 2) [] (e' := []); exact rfl) | refine GC_region (id := 2) ?_); try (refine xa rfl rfl ?_; try (refine GL_nil ?_)))
    | ((first | (apply GC_regionK (id := 3) [] (e' := []); exact rfl) | refine GC_region (id := 3) ?_); try (refine xa rfl rfl ?_; try (refine GL_nil ?_)))
  all_goals refine GX_end (.inl rfl) (res1 rfl rfl) (fun w H => .intro ⟨?_, H.drop⟩)
  all_goals (unfold proofMost; (repeat (first | (rw [if_pos]; rotate_left; (solve | assumption)) | (rw [if_neg]; rotate_left; (solve | assumption)))))

theorem proof_Unit {h : Bool} {n t : Int} {wrong : Bool} (hw : Own w0 w L) :
    Calls Tryz.prog 186 #[.agg #[.bool h, I64 n, I64 t], .bool wrong] w (Ret fun v w' =>
      v = .tuple #[.agg #[.bool h, I64 (proofUnit h n t wrong).1.1, I64 (proofUnit h n t wrong).1.2], .bool (proofUnit h n t wrong).2.1, .bool (proofUnit h n t wrong).2.2] ∧ Own w0 w' L) := by
  refine calls_of_GC' (vs := [.agg #[.bool h, I64 n, I64 t], .bool wrong]) [] Tryz.func186 rfl rfl rfl ?_ hw
  repeat' first
    | refine GC_seq ?_
    | refine GX_then ?_
    | refine GC_ret ?_
    | refine GX_then_ret ?_
    | refine GC_skip ?_
    | refine GC_true rfl ?_
    | refine GC_false rfl ?_
    | (apply GC_condT; exact rfl; (repeat (first | exact .dec | with_reducible apply Tell.or | with_reducible apply Tell.and | with_reducible apply Tell.not | exact .self)); all_goals intro h)
    | ((first | (apply GC_regionK (id := 0) [0, 1] (e' := [(0, _), (1, _)]); exact rfl) | refine GC_region (id := 0) ?_); try (refine xx rfl rfl rfl (fun q => ?_); try (refine xv rfl (fun q => ?_); try (refine xa rfl rfl ?_; try (refine xa rfl rfl ?_; try (refine GL_nil ?_))))))
    | ((first | (apply GC_regionK (id := 1) [1, 2, 4] (e' := [(1, _), (2, _), (4, _)]); exact rfl) | refine GC_region (id := 1) ?_); try (refine xm rfl rfl ?_; try (refine GL_nil ?_)))
    | ((first | (apply GC_regionK (id := 2) [2, 4] (e' := [(2, _), (4, _)]); exact rfl) | refine GC_region (id := 2) ?_); try (refine xf rfl rfl ?_; try ((first | (apply xl; exact rfl; (repeat (first | exact .here | refine .there ?_)); exact rfl; exact rfl) | (apply xL; exact rfl; (repeat (first | exact .here | refine .there ?_)); exact rfl; exact rfl)); try (refine xA rfl rfl rfl ?_; try (refine xf rfl rfl ?_; try ((first | (apply xs; exact rfl; exact rfl; (repeat (first | exact .here | apply Upd.there)); exact rfl; exact rfl) | (apply xS; exact rfl; exact rfl; (repeat (first | exact .here | apply Upd.there)); exact rfl; exact rfl; exact rfl)); try (refine GL_nil ?_)))))))
    | ((first | (apply GC_drawK (id := 3) [2, 4] [(1, 0), (0, 1), (0, 2), (3, 3), (1, 4)] (e' := [(2, _), (4, _)]); exact rfl; exact mixed; kernel_rfl) | refine GC_draw (id := 3) [(1, 0), (0, 1), (0, 2), (3, 3), (1, 4)] mixed (by kernel_rfl) ?_); try (refine Ff rfl rfl ?_; try ((first | (apply Dl; exact rfl; (repeat (first | exact .here | refine .there ?_)); exact rfl; exact rfl) | (apply DL; exact rfl; (repeat (first | exact .here | refine .there ?_)); exact rfl; exact rfl)); try ((first | (apply Dl; exact rfl; (repeat (first | exact .here | refine .there ?_)); exact rfl; exact rfl) | (apply DL; exact rfl; (repeat (first | exact .here | refine .there ?_)); exact rfl; exact rfl)); try ((refine GD_callE rfl (fun w H => proof_Most H) rfl ?_; rintro v w' ⟨rfl, H⟩; refine ⟨_, H, fun w h => h, ?_⟩); try (refine Ft rfl rfl rfl ?_; try (refine GD_nil ?_)))))))
    | ((first | (apply GC_regionK (id := 4) [2, 4] (e' := [(2, _), (4, _)]); exact rfl) | refine GC_region (id := 4) ?_); try ((first | (apply xl; exact rfl; (repeat (first | exact .here | refine .there ?_)); exact rfl; exact rfl) | (apply xL; exact rfl; (repeat (first | exact .here | refine .there ?_)); exact rfl; exact rfl)); try ((first | (apply xs; exact rfl; exact rfl; (repeat (first | exact .here | apply Upd.there)); exact rfl; exact rfl) | (apply xS; exact rfl; exact rfl; (repeat (first | exact .here | apply Upd.there)); exact rfl; exact rfl; exact rfl)); try (refine xa rfl rfl ?_; try (refine xa rfl rfl ?_; try (refine GL_nil ?_))))))
    | ((first | (apply GC_regionK (id := 5) [2, 4] (e' := [(2, _), (4, _)]); exact rfl) | refine GC_region (id := 5) ?_); try (refine xf rfl rfl ?_; try ((first | (apply xl; exact rfl; (repeat (first | exact .here | refine .there ?_)); exact rfl; exact rfl) | (apply xL; exact rfl; (repeat (first | exact .here | refine .there ?_)); exact rfl; exact rfl)); try (refine xA rfl rfl rfl ?_; try (refine xf rfl rfl ?_; try ((first | (apply xs; exact rfl; exact rfl; (repeat (first | exact .here | apply Upd.there)); exact rfl; exact rfl) | (apply xS; exact rfl; exact rfl; (repeat (first | exact .here | apply Upd.there)); exact rfl; exact rfl; exact rfl)); try (refine xf rfl rfl ?_; try ((first | (apply xs; exact rfl; exact rfl; (repeat (first | exact .here | apply Upd.there)); exact rfl; exact rfl) | (apply xS; exact rfl; exact rfl; (repeat (first | exact .here | apply Upd.there)); exact rfl; exact rfl; exact rfl)); try (refine GL_nil ?_)))))))))
    | ((apply GC_drawT (id := 6) [2, 4] [(0, 0), (1, 1), (0, 2), (1, 3), (3, 4), (1, 5), (1, 6)] (e' := [(2, _), (4, _)]); exact rfl; exact mixed; kernel_rfl); try ((first | (apply Dl; exact rfl; (repeat (first | exact .here | refine .there ?_)); exact rfl; exact rfl) | (apply DL; exact rfl; (repeat (first | exact .here | refine .there ?_)); exact rfl; exact rfl)); try (refine Ff rfl rfl ?_; try ((first | (apply Dl; exact rfl; (repeat (first | exact .here | refine .there ?_)); exact rfl; exact rfl) | (apply DL; exact rfl; (repeat (first | exact .here | refine .there ?_)); exact rfl; exact rfl)); try (refine Fh rfl rfl rfl ?_; try ((first | (apply Es; exact rfl; exact rfl; (repeat (first | exact .here | apply Upd.there)); exact rfl; exact rfl; exact inferInstance) | (apply ES; exact rfl; exact rfl; (repeat (first | exact .here | apply Upd.there)); exact rfl; exact rfl; exact rfl; exact inferInstance)); try (refine Fa rfl rfl ?_; try (refine Fa rfl rfl ?_; try (refine GD_nil ?_)))))))))
  all_goals refine GX_end (.inl rfl) (resC3 rfl rfl (.agg (by repeat (first | exact .here | refine .there ?_)) rfl) rfl rfl) (fun w H => .intro ⟨?_, H.drop.drop⟩)
  all_goals (unfold proofUnit; (repeat (first | (rw [if_pos]; rotate_left; (solve | assumption)) | (rw [if_neg]; rotate_left; (solve | assumption)))); unfold proofUnit1; (repeat (first | (rw [if_pos]; rotate_left; (solve | assumption)) | (rw [if_neg]; rotate_left; (solve | assumption)))))

theorem leak_Unit {l : Leak} {wrong : Bool} (hw : Own w0 w L) :
    Calls Tryz.prog 165 #[.agg #[I64 l.n, I64 l.seen], .bool wrong] w (Ret fun v w' =>
      v = .tuple #[.agg #[I64 (l.unit wrong).1.n, I64 (l.unit wrong).1.seen], .bool (l.unit wrong).2] ∧ Own w0 w' L) := by
  refine calls_of_GC' (vs := [.agg #[I64 l.n, I64 l.seen], .bool wrong]) [] Tryz.func165 rfl rfl rfl ?_ hw
  repeat' first
    | refine GC_seq ?_
    | refine GX_then ?_
    | refine GC_ret ?_
    | refine GX_then_ret ?_
    | refine GC_skip ?_
    | refine GC_true rfl ?_
    | refine GC_false rfl ?_
    | (apply GC_condT; exact rfl; (repeat (first | exact .dec | with_reducible apply Tell.or | with_reducible apply Tell.and | with_reducible apply Tell.not | exact .self)); all_goals intro h)
    | ((first | (apply GC_regionK (id := 0) [0, 1] (e' := [(0, _), (1, _)]); exact rfl) | refine GC_region (id := 0) ?_); try (refine xx rfl rfl rfl (fun q => ?_); try (refine xv rfl (fun q => ?_); try (refine xa rfl rfl ?_; try (refine GL_nil ?_)))))
    | ((first | (apply GC_regionK (id := 1) [1, 2, 4] (e' := [(1, _), (2, _), (4, _)]); exact rfl) | refine GC_region (id := 1) ?_); try (refine xf rfl rfl ?_; try ((first | (apply xl; exact rfl; (repeat (first | exact .here | refine .there ?_)); exact rfl; exact rfl) | (apply xL; exact rfl; (repeat (first | exact .here | refine .there ?_)); exact rfl; exact rfl)); try (refine xg rfl rfl rfl ?_; try (refine GL_nil ?_)))))
    | ((first | (apply GC_regionK (id := 2) [1, 2, 4] (e' := [(1, _), (2, _), (4, _)]); exact rfl) | refine GC_region (id := 2) ?_); try (refine xf rfl rfl ?_; try ((first | (apply xl; exact rfl; (repeat (first | exact .here | refine .there ?_)); exact rfl; exact rfl) | (apply xL; exact rfl; (repeat (first | exact .here | refine .there ?_)); exact rfl; exact rfl)); try (refine xA rfl rfl rfl ?_; try (refine xf rfl rfl ?_; try ((first | (apply xs; exact rfl; exact rfl; (repeat (first | exact .here | apply Upd.there)); exact rfl; exact rfl) | (apply xS; exact rfl; exact rfl; (repeat (first | exact .here | apply Upd.there)); exact rfl; exact rfl; exact rfl)); try (refine GL_nil ?_)))))))
    | ((first | (apply GC_regionK (id := 3) [1, 2, 4] (e' := [(1, _), (2, _), (4, _)]); exact rfl) | refine GC_region (id := 3) ?_); try (refine xf rfl rfl ?_; try ((first | (apply xl; exact rfl; (repeat (first | exact .here | refine .there ?_)); exact rfl; exact rfl) | (apply xL; exact rfl; (repeat (first | exact .here | refine .there ?_)); exact rfl; exact rfl)); try (refine xh rfl rfl rfl ?_; try (refine GL_nil ?_)))))
    | ((first | (apply GC_regionK (id := 4) [1, 2, 4] (e' := [(1, _), (2, _), (4, _)]); exact rfl) | refine GC_region (id := 4) ?_); try (refine xf rfl rfl ?_; try ((first | (apply xl; exact rfl; (repeat (first | exact .here | refine .there ?_)); exact rfl; exact rfl) | (apply xL; exact rfl; (repeat (first | exact .here | refine .there ?_)); exact rfl; exact rfl)); try (refine xB rfl rfl rfl ?_; try (refine xf rfl rfl ?_; try ((first | (apply xs; exact rfl; exact rfl; (repeat (first | exact .here | apply Upd.there)); exact rfl; exact rfl) | (apply xS; exact rfl; exact rfl; (repeat (first | exact .here | apply Upd.there)); exact rfl; exact rfl; exact rfl)); try (refine xf rfl rfl ?_; try ((first | (apply xs; exact rfl; exact rfl; (repeat (first | exact .here | apply Upd.there)); exact rfl; exact rfl) | (apply xS; exact rfl; exact rfl; (repeat (first | exact .here | apply Upd.there)); exact rfl; exact rfl; exact rfl)); try (refine GL_nil ?_)))))))))
    | ((first | (apply GC_regionK (id := 5) [1, 2, 4] (e' := [(1, _), (2, _), (4, _)]); exact rfl) | refine GC_region (id := 5) ?_); try (refine xm rfl rfl ?_; try (refine GL_nil ?_)))
    | ((first | (apply GC_regionK (id := 6) [2, 4] (e' := [(2, _), (4, _)]); exact rfl) | refine GC_region (id := 6) ?_); try (refine xf rfl rfl ?_; try ((first | (apply xl; exact rfl; (repeat (first | exact .here | refine .there ?_)); exact rfl; exact rfl) | (apply xL; exact rfl; (repeat (first | exact .here | refine .there ?_)); exact rfl; exact rfl)); try ((first | refine xq rfl rfl rfl ?_ | refine xp rfl rfl rfl ?_); try (refine GL_nil ?_)))))
    | ((first | (apply GC_regionK (id := 7) [2, 4] (e' := [(2, _), (4, _)]); exact rfl) | refine GC_region (id := 7) ?_); try (refine xf rfl rfl ?_; try ((first | (apply xs; exact rfl; exact rfl; (repeat (first | exact .here | apply Upd.there)); exact rfl; exact rfl) | (apply xS; exact rfl; exact rfl; (repeat (first | exact .here | apply Upd.there)); exact rfl; exact rfl; exact rfl)); try (refine GL_nil ?_))))
    | ((first | (apply GC_regionK (id := 8) [2, 4] (e' := [(2, _), (4, _)]); exact rfl) | refine GC_region (id := 8) ?_); try (refine xf rfl rfl ?_; try ((first | (apply xl; exact rfl; (repeat (first | exact .here | refine .there ?_)); exact rfl; exact rfl) | (apply xL; exact rfl; (repeat (first | exact .here | refine .there ?_)); exact rfl; exact rfl)); try (refine xA rfl rfl rfl ?_; try (refine xf rfl rfl ?_; try ((first | (apply xs; exact rfl; exact rfl; (repeat (first | exact .here | apply Upd.there)); exact rfl; exact rfl) | (apply xS; exact rfl; exact rfl; (repeat (first | exact .here | apply Upd.there)); exact rfl; exact rfl; exact rfl)); try (refine GL_nil ?_)))))))
    | ((apply GC_drawT (id := 9) [2, 4] [(0, 0), (1, 1), (0, 2), (1, 3), (3, 4), (1, 5)] (e' := [(2, _), (4, _)]); exact rfl; exact mixed; kernel_rfl); try ((first | (apply Dl; exact rfl; (repeat (first | exact .here | refine .there ?_)); exact rfl; exact rfl) | (apply DL; exact rfl; (repeat (first | exact .here | refine .there ?_)); exact rfl; exact rfl)); try (refine Ff rfl rfl ?_; try ((first | (apply Dl; exact rfl; (repeat (first | exact .here | refine .there ?_)); exact rfl; exact rfl) | (apply DL; exact rfl; (repeat (first | exact .here | refine .there ?_)); exact rfl; exact rfl)); try (refine Fh rfl rfl rfl ?_; try ((first | (apply Es; exact rfl; exact rfl; (repeat (first | exact .here | apply Upd.there)); exact rfl; exact rfl; exact inferInstance) | (apply ES; exact rfl; exact rfl; (repeat (first | exact .here | apply Upd.there)); exact rfl; exact rfl; exact rfl; exact inferInstance)); try (refine Fa rfl rfl ?_; try (refine GD_nil ?_))))))))
  all_goals refine GX_end (.inl rfl) (resC2 rfl rfl (.agg (by repeat (first | exact .here | refine .there ?_)) rfl) rfl) (fun w H => .intro ⟨?_, H.drop.drop⟩)
  all_goals (unfold Leak.unit Leak.step; (repeat (first | (rw [if_pos]; rotate_left; (solve | assumption)) | (rw [if_neg]; rotate_left; (solve | assumption)))); unfold Leak.bad; (repeat (first | (rw [if_pos]; rotate_left; (solve | assumption)) | (rw [if_neg]; rotate_left; (solve | assumption)))))
end
end Go.Sm
