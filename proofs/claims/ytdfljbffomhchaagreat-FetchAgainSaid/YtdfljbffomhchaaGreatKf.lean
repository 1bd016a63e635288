/- Outages, the ring of numbers, setups: what packages outage, ring and setup do. -/
import Derived.Test.YtdfljbffomhchaaGreatMb
import Derived.Test.YtdfljbffomhchaaGreatKa
set_option linter.unusedVariables false
set_option linter.unusedSectionVars false
set_option maxRecDepth 10000
namespace Go.Sm
open Go.RowKit Go.Proofs

section
variable {w0 w : World} {L : List Ent}

theorem otg_Continue {o : Otg} (hw : Own w0 w L) :
    Calls Tryz.prog 100 #[.agg #[.bool o.own, .bool o.their, .bool o.wait]] w (Ret fun v w' => v = .tuple #[.agg #[.bool o.goes.1.own, .bool o.goes.1.their, .bool o.goes.1.wait], .bool o.goes.2] ∧ Own w0 w' L) := by
  refine calls_of_GC' (vs := [.agg #[.bool o.own, .bool o.their, .bool o.wait]]) [] Tryz.func100 rfl rfl rfl ?_ hw
  repeat' first
    | refine GC_seq ?_
    | refine GX_then ?_
    | refine GC_ret ?_
    | refine GX_then_ret ?_
    | refine GC_skip ?_
    | refine GC_true rfl ?_
    | refine GC_false rfl ?_
    | (apply GC_condT; exact rfl; (repeat (first | exact .dec | with_reducible apply Tell.or | with_reducible apply Tell.and | with_reducible apply Tell.not | exact .self)); all_goals (intro h; try contradiction))
    | ((first | (apply GC_regionK (id := 0) [0] (e' := [(0, _)]); exact rfl) | refine GC_region (id := 0) ?_); try (refine xx rfl rfl rfl (fun q => ?_); try (refine xv rfl (fun q => ?_); try (refine xa rfl rfl ?_; try (refine GL_nil ?_)))))
    | ((first | (apply GC_regionK (id := 1) [1, 2] (e' := [(1, _), (2, _)]); exact rfl) | refine GC_region (id := 1) ?_); try (refine xf rfl rfl ?_; try ((first | (apply xl; exact rfl; (repeat (first | exact .here | refine .there ?_)); exact rfl; exact rfl) | (apply xL; exact rfl; (repeat (first | exact .here | refine .there ?_)); exact rfl; exact rfl)); try (refine xm rfl rfl ?_; try ((first | (refine GL_on rfl rfl ?_; try (refine xf rfl rfl ?_; try (refine GL_on rfl rfl ?_; try ((first | (apply xl; exact rfl; (repeat (first | exact .here | refine .there ?_)); exact rfl; exact rfl) | (apply xL; exact rfl; (repeat (first | exact .here | refine .there ?_)); exact rfl; exact rfl)); try ((first | refine xk rfl rfl rfl ?_ | refine xK rfl rfl rfl ?_)))))) | (refine GL_off rfl rfl rfl ?_; try ((first | refine GL_off rfl rfl rfl ?_ | refine GL_offU rfl rfl rfl ?_); try ((first | refine xk rfl rfl rfl ?_ | refine xK rfl rfl rfl ?_)))) | (apply GL_or (d := 9); exact rfl; exact rfl; (repeat (first | exact .dec | with_reducible apply Tell.or | with_reducible apply Tell.and | with_reducible apply Tell.not | exact .self)); intro h K9; (refine GL_on rfl rfl ?_; try (refine xf rfl rfl ?_; try (refine GL_on rfl rfl ?_; try ((first | (apply xl; exact rfl; (repeat (first | exact .here | refine .there ?_)); exact rfl; exact rfl) | (apply xL; exact rfl; (repeat (first | exact .here | refine .there ?_)); exact rfl; exact rfl)); try ((first | refine xk rfl rfl rfl ?_ | refine xK rfl rfl rfl ?_); try (exact GL_close K9 (by repeat (first | exact .refl | refine .cons rfl ?_)))))))); intro h K9; ((first | refine GL_off rfl rfl rfl ?_ | refine GL_offU rfl rfl rfl ?_); try ((first | refine GL_off rfl rfl rfl ?_ | refine GL_offU rfl rfl rfl ?_); try ((first | refine xk rfl rfl rfl ?_ | refine xK rfl rfl rfl ?_); try (exact GL_close K9 (by repeat (first | exact .refl | refine .cons rfl ?_))))))) | refine ys rfl rfl (fun h => ?_) (fun h => ?_)); try (refine GL_nil ?_))))))
    | ((first | (apply GC_regionK (id := 2) [1, 2] (e' := [(1, _), (2, _)]); exact rfl) | refine GC_region (id := 2) ?_); try ((first | (apply xl; exact rfl; (repeat (first | exact .here | refine .there ?_)); exact rfl; exact rfl) | (apply xL; exact rfl; (repeat (first | exact .here | refine .there ?_)); exact rfl; exact rfl)); try ((first | (apply xs; exact rfl; exact rfl; (repeat (first | exact .here | apply Upd.there)); exact rfl; exact rfl) | (apply xS; exact rfl; exact rfl; (repeat (first | exact .here | apply Upd.there)); exact rfl; exact rfl; exact rfl)); try (refine xa rfl rfl ?_; try (refine GL_nil ?_)))))
    | ((first | (apply GC_regionK (id := 3) [1, 2] (e' := [(1, _), (2, _)]); exact rfl) | refine GC_region (id := 3) ?_); try (refine xf rfl rfl ?_; try ((first | (apply xs; exact rfl; exact rfl; (repeat (first | exact .here | apply Upd.there)); exact rfl; exact rfl) | (apply xS; exact rfl; exact rfl; (repeat (first | exact .here | apply Upd.there)); exact rfl; exact rfl; exact rfl)); try (refine GL_nil ?_))))
    | ((first | (apply GC_regionK (id := 4) [1, 2] (e' := [(1, _), (2, _)]); exact rfl) | refine GC_region (id := 4) ?_); try ((first | (apply xl; exact rfl; (repeat (first | exact .here | refine .there ?_)); exact rfl; exact rfl) | (apply xL; exact rfl; (repeat (first | exact .here | refine .there ?_)); exact rfl; exact rfl)); try ((first | (apply xs; exact rfl; exact rfl; (repeat (first | exact .here | apply Upd.there)); exact rfl; exact rfl) | (apply xS; exact rfl; exact rfl; (repeat (first | exact .here | apply Upd.there)); exact rfl; exact rfl; exact rfl)); try (refine xa rfl rfl ?_; try (refine GL_nil ?_)))))
  all_goals refine GX_end (.inl rfl) (resC2 rfl rfl (.agg (by repeat (first | exact .here | refine .there ?_)) rfl) rfl) (fun w H => .intro ?_)
  all_goals (unfold Otg.goes; (repeat (first | (rw [if_pos]; rotate_left; (solve | assumption)) | (rw [if_neg]; rotate_left; (solve | assumption)))); exact ⟨rfl, H.drop.drop⟩)

theorem otg_Local {o : Otg} {b : Bool} (hw : Own w0 w L) :
    Calls Tryz.prog 145 #[.agg #[.bool o.own, .bool o.their, .bool o.wait], .bool b] w (Ret fun v w' => v = .agg #[.bool (⟨b, o.their, o.wait⟩ : Otg).own, .bool (⟨b, o.their, o.wait⟩ : Otg).their, .bool (⟨b, o.their, o.wait⟩ : Otg).wait] ∧ Own w0 w' L) := by
  refine calls_of_GC' (vs := [.agg #[.bool o.own, .bool o.their, .bool o.wait], .bool b]) [] Tryz.func145 rfl rfl rfl ?_ hw
  repeat' first
    | refine GC_seq ?_
    | refine GX_then ?_
    | refine GC_ret ?_
    | refine GX_then_ret ?_
    | ((first | (apply GC_regionK (id := 0) [0, 1] (e' := [(0, _), (1, _)]); exact rfl) | refine GC_region (id := 0) ?_); try (refine xx rfl rfl rfl (fun q => ?_); try (refine xv rfl (fun q => ?_); try (refine GL_nil ?_))))
    | ((first | (apply GC_regionK (id := 1) [1, 2, 4] (e' := [(1, _), (2, _), (4, _)]); exact rfl) | refine GC_region (id := 1) ?_); try (refine xm rfl rfl ?_; try (refine xf rfl rfl ?_; try ((first | (apply xs; exact rfl; exact rfl; (repeat (first | exact .here | apply Upd.there)); exact rfl; exact rfl) | (apply xS; exact rfl; exact rfl; (repeat (first | exact .here | apply Upd.there)); exact rfl; exact rfl; exact rfl)); try (refine GL_nil ?_)))))
    | ((first | (apply GC_regionK (id := 2) [2, 4] (e' := [(2, _), (4, _)]); exact rfl) | refine GC_region (id := 2) ?_); try ((first | (apply xl; exact rfl; (repeat (first | exact .here | refine .there ?_)); exact rfl; exact rfl) | (apply xL; exact rfl; (repeat (first | exact .here | refine .there ?_)); exact rfl; exact rfl)); try ((first | (apply xs; exact rfl; exact rfl; (repeat (first | exact .here | apply Upd.there)); exact rfl; exact rfl) | (apply xS; exact rfl; exact rfl; (repeat (first | exact .here | apply Upd.there)); exact rfl; exact rfl; exact rfl)); try (refine GL_nil ?_))))
  all_goals refine GX_end (.inl rfl) (resC1 rfl rfl (.agg (by repeat (first | exact .here | refine .there ?_)) rfl)) (fun w H => .intro ?_)
  all_goals (skip; exact ⟨rfl, H.drop.drop⟩)

theorem otg_Is {o : Otg} (hw : Own w0 w L) :
    Calls Tryz.prog 147 #[.agg #[.bool o.own, .bool o.their, .bool o.wait]] w (Ret fun v w' => v = .bool o.is ∧ Own w0 w' L) := by
  refine calls_of_GC' (vs := [.agg #[.bool o.own, .bool o.their, .bool o.wait]]) [] Tryz.func147 rfl rfl rfl ?_ hw
  repeat' first
    | refine GC_seq ?_
    | refine GX_then ?_
    | refine GC_ret ?_
    | refine GX_then_ret ?_
    | ((first | (apply GC_regionK (id := 0) [0] (e' := [(0, _)]); exact rfl) | refine GC_region (id := 0) ?_); try (refine xx rfl rfl rfl (fun q => ?_); try (refine xa rfl rfl ?_; try (refine GL_nil ?_))))
    | ((first | (apply GC_regionK (id := 1) [1] (e' := [(1, _)]); exact rfl) | refine GC_region (id := 1) ?_); try (refine xf rfl rfl ?_; try ((first | (apply xl; exact rfl; (repeat (first | exact .here | refine .there ?_)); exact rfl; exact rfl) | (apply xL; exact rfl; (repeat (first | exact .here | refine .there ?_)); exact rfl; exact rfl)); try (refine xm rfl rfl ?_; try ((first | (refine GL_on rfl rfl ?_; try (refine xf rfl rfl ?_; try (refine GL_on rfl rfl ?_; try ((first | (apply xl; exact rfl; (repeat (first | exact .here | refine .there ?_)); exact rfl; exact rfl) | (apply xL; exact rfl; (repeat (first | exact .here | refine .there ?_)); exact rfl; exact rfl)); try ((first | refine xk rfl rfl rfl ?_ | refine xK rfl rfl rfl ?_)))))) | (refine GL_off rfl rfl rfl ?_; try ((first | refine GL_off rfl rfl rfl ?_ | refine GL_offU rfl rfl rfl ?_); try ((first | refine xk rfl rfl rfl ?_ | refine xK rfl rfl rfl ?_)))) | (apply GL_or (d := 8); exact rfl; exact rfl; (repeat (first | exact .dec | with_reducible apply Tell.or | with_reducible apply Tell.and | with_reducible apply Tell.not | exact .self)); intro h K8; (refine GL_on rfl rfl ?_; try (refine xf rfl rfl ?_; try (refine GL_on rfl rfl ?_; try ((first | (apply xl; exact rfl; (repeat (first | exact .here | refine .there ?_)); exact rfl; exact rfl) | (apply xL; exact rfl; (repeat (first | exact .here | refine .there ?_)); exact rfl; exact rfl)); try ((first | refine xk rfl rfl rfl ?_ | refine xK rfl rfl rfl ?_); try (exact GL_close K8 (by repeat (first | exact .refl | refine .cons rfl ?_)))))))); intro h K8; ((first | refine GL_off rfl rfl rfl ?_ | refine GL_offU rfl rfl rfl ?_); try ((first | refine GL_off rfl rfl rfl ?_ | refine GL_offU rfl rfl rfl ?_); try ((first | refine xk rfl rfl rfl ?_ | refine xK rfl rfl rfl ?_); try (exact GL_close K8 (by repeat (first | exact .refl | refine .cons rfl ?_))))))) | refine ys rfl rfl (fun h => ?_) (fun h => ?_)); try (refine xm rfl rfl ?_; try ((first | (refine GL_on rfl rfl ?_; try (refine xf rfl rfl ?_; try (refine GL_on rfl rfl ?_; try ((first | (apply xl; exact rfl; (repeat (first | exact .here | refine .there ?_)); exact rfl; exact rfl) | (apply xL; exact rfl; (repeat (first | exact .here | refine .there ?_)); exact rfl; exact rfl)); try ((first | refine xk rfl rfl rfl ?_ | refine xK rfl rfl rfl ?_)))))) | (refine GL_off rfl rfl rfl ?_; try ((first | refine GL_off rfl rfl rfl ?_ | refine GL_offU rfl rfl rfl ?_); try ((first | refine xk rfl rfl rfl ?_ | refine xK rfl rfl rfl ?_)))) | (apply GL_or (d := 12); exact rfl; exact rfl; (repeat (first | exact .dec | with_reducible apply Tell.or | with_reducible apply Tell.and | with_reducible apply Tell.not | exact .self)); intro h K12; (refine GL_on rfl rfl ?_; try (refine xf rfl rfl ?_; try (refine GL_on rfl rfl ?_; try ((first | (apply xl; exact rfl; (repeat (first | exact .here | refine .there ?_)); exact rfl; exact rfl) | (apply xL; exact rfl; (repeat (first | exact .here | refine .there ?_)); exact rfl; exact rfl)); try ((first | refine xk rfl rfl rfl ?_ | refine xK rfl rfl rfl ?_); try (exact GL_close K12 (by repeat (first | exact .refl | refine .cons rfl ?_)))))))); intro h K12; ((first | refine GL_off rfl rfl rfl ?_ | refine GL_offU rfl rfl rfl ?_); try ((first | refine GL_off rfl rfl rfl ?_ | refine GL_offU rfl rfl rfl ?_); try ((first | refine xk rfl rfl rfl ?_ | refine xK rfl rfl rfl ?_); try (exact GL_close K12 (by repeat (first | exact .refl | refine .cons rfl ?_))))))) | refine ys rfl rfl (fun h => ?_) (fun h => ?_)); try (refine xa rfl rfl ?_; try (refine GL_nil ?_)))))))))
  all_goals refine GX_end (.inl rfl) (res1 rfl rfl) (fun w H => .intro ?_)
  all_goals (unfold Otg.is; exact ⟨rfl, H.drop⟩)

theorem otg_Remote {o : Otg} {b : Bool} (hw : Own w0 w L) :
    Calls Tryz.prog 188 #[.agg #[.bool o.own, .bool o.their, .bool o.wait], .bool b] w (Ret fun v w' => v = .tuple #[.agg #[.bool (o.remote b).1.own, .bool (o.remote b).1.their, .bool (o.remote b).1.wait], .bool (o.remote b).2] ∧ Own w0 w' L) := by
  refine calls_of_GC' (vs := [.agg #[.bool o.own, .bool o.their, .bool o.wait], .bool b]) [] Tryz.func188 rfl rfl rfl ?_ hw
  repeat' first
    | refine GC_seq ?_
    | refine GX_then ?_
    | refine GC_ret ?_
    | refine GX_then_ret ?_
    | ((first | (apply GC_regionK (id := 0) [0, 1] (e' := [(0, _), (1, _)]); exact rfl) | refine GC_region (id := 0) ?_); try (refine xx rfl rfl rfl (fun q => ?_); try (refine xv rfl (fun q => ?_); try (refine xa rfl rfl ?_; try (refine GL_nil ?_)))))
    | ((first | (apply GC_regionK (id := 1) [1, 2, 4] (e' := [(1, _), (2, _), (4, _)]); exact rfl) | refine GC_region (id := 1) ?_); try (refine xf rfl rfl ?_; try ((first | (apply xl; exact rfl; (repeat (first | exact .here | refine .there ?_)); exact rfl; exact rfl) | (apply xL; exact rfl; (repeat (first | exact .here | refine .there ?_)); exact rfl; exact rfl)); try (refine xm rfl rfl ?_; try ((first | refine xQ rfl rfl rfl ?_ | refine xP rfl rfl rfl ?_ | refine xbn rfl rfl rfl ?_); try (refine xa rfl rfl ?_; try (refine GL_nil ?_)))))))
    | ((first | (apply GC_regionK (id := 2) [1, 2, 4, 6] (e' := [(1, _), (2, _), (4, _), (6, _)]); exact rfl) | refine GC_region (id := 2) ?_); try (refine xm rfl rfl ?_; try (refine xf rfl rfl ?_; try ((first | (apply xs; exact rfl; exact rfl; (repeat (first | exact .here | apply Upd.there)); exact rfl; exact rfl) | (apply xS; exact rfl; exact rfl; (repeat (first | exact .here | apply Upd.there)); exact rfl; exact rfl; exact rfl)); try (refine GL_nil ?_)))))
    | ((first | (apply GC_regionK (id := 3) [1, 2, 4, 6] (e' := [(1, _), (2, _), (4, _), (6, _)]); exact rfl) | refine GC_region (id := 3) ?_); try (refine xf rfl rfl ?_; try ((first | (apply xl; exact rfl; (repeat (first | exact .here | refine .there ?_)); exact rfl; exact rfl) | (apply xL; exact rfl; (repeat (first | exact .here | refine .there ?_)); exact rfl; exact rfl)); try (refine xm rfl rfl ?_; try ((first | (refine GL_on rfl rfl ?_; try (refine xm rfl rfl ?_; try ((first | refine xk rfl rfl rfl ?_ | refine xK rfl rfl rfl ?_)))) | (refine GL_off rfl rfl rfl ?_; try ((first | refine xk rfl rfl rfl ?_ | refine xK rfl rfl rfl ?_))) | (apply GL_or (d := 17); exact rfl; exact rfl; (repeat (first | exact .dec | with_reducible apply Tell.or | with_reducible apply Tell.and | with_reducible apply Tell.not | exact .self)); intro h K17; (refine GL_on rfl rfl ?_; try (refine xm rfl rfl ?_; try ((first | refine xk rfl rfl rfl ?_ | refine xK rfl rfl rfl ?_); try (exact GL_close K17 (by repeat (first | exact .refl | refine .cons rfl ?_)))))); intro h K17; ((first | refine GL_off rfl rfl rfl ?_ | refine GL_offU rfl rfl rfl ?_); try ((first | refine xk rfl rfl rfl ?_ | refine xK rfl rfl rfl ?_); try (exact GL_close K17 (by repeat (first | exact .refl | refine .cons rfl ?_)))))) | refine ys rfl rfl (fun h => ?_) (fun h => ?_)); try (refine xf rfl rfl ?_; try ((first | (apply xs; exact rfl; exact rfl; (repeat (first | exact .here | apply Upd.there)); exact rfl; exact rfl) | (apply xS; exact rfl; exact rfl; (repeat (first | exact .here | apply Upd.there)); exact rfl; exact rfl; exact rfl)); try (refine GL_nil ?_))))))))
    | ((first | (apply GC_regionK (id := 4) [2, 4, 6] (e' := [(2, _), (4, _), (6, _)]); exact rfl) | refine GC_region (id := 4) ?_); try ((first | (apply xl; exact rfl; (repeat (first | exact .here | refine .there ?_)); exact rfl; exact rfl) | (apply xL; exact rfl; (repeat (first | exact .here | refine .there ?_)); exact rfl; exact rfl)); try (refine xm rfl rfl ?_; try ((first | (apply xs; exact rfl; exact rfl; (repeat (first | exact .here | apply Upd.there)); exact rfl; exact rfl) | (apply xS; exact rfl; exact rfl; (repeat (first | exact .here | apply Upd.there)); exact rfl; exact rfl; exact rfl)); try (refine xa rfl rfl ?_; try (refine GL_nil ?_))))))
  all_goals refine GX_end (.inl rfl) (resC2 rfl rfl (.agg (by repeat (first | exact .here | refine .there ?_)) rfl) rfl) (fun w H => .intro ?_)
  all_goals (unfold Otg.remote; exact ⟨rfl, H.drop.drop⟩)

theorem ring_Gap {a : Int} {b : Int} (hw : Own w0 w L) :
    Calls Tryz.prog 134 #[U8 a, U8 b] w (Ret fun v w' => v = I64 (ringGap a b) ∧ Own w0 w' L) := by
  refine calls_of_GC' (vs := [U8 a, U8 b]) [] Tryz.func134 rfl rfl rfl ?_ hw
  repeat' first
    | refine GC_seq ?_
    | refine GX_then ?_
    | refine GC_ret ?_
    | refine GX_then_ret ?_
    | ((first | (apply GC_regionK (id := 0) [0, 1] (e' := [(0, _), (1, _)]); exact rfl) | refine GC_region (id := 0) ?_); try (refine xa rfl rfl ?_; try (refine GL_nil ?_)))
    | ((first | (apply GC_regionK (id := 1) [0, 1] (e' := [(0, _), (1, _)]); exact rfl) | refine GC_region (id := 1) ?_); try (refine xm rfl rfl ?_; try (refine xm rfl rfl ?_; try (refine xB rfl rfl rfl ?_; try (refine xr rfl rfl rfl rfl ?_; try (refine xc rfl rfl ?_; try (refine xa rfl rfl ?_; try (refine GL_nil ?_))))))))
  all_goals refine GX_end (.inl rfl) (res1 rfl rfl) (fun w H => .intro ?_)
  all_goals (unfold ringGap; exact ⟨rfl, H⟩)

theorem ring_Prev {a : Int} (hw : Own w0 w L) :
    Calls Tryz.prog 135 #[U8 a] w (Ret fun v w' => v = U8 (ringPrev a) ∧ Own w0 w' L) := by
  refine calls_of_GC' (vs := [U8 a]) [] Tryz.func135 rfl rfl rfl ?_ hw
  repeat' first
    | refine GC_seq ?_
    | refine GX_then ?_
    | refine GC_ret ?_
    | refine GX_then_ret ?_
    | ((first | (apply GC_regionK (id := 0) [0] (e' := [(0, _)]); exact rfl) | refine GC_region (id := 0) ?_); try (refine xa rfl rfl ?_; try (refine GL_nil ?_)))
    | ((first | (apply GC_regionK (id := 1) [0] (e' := [(0, _)]); exact rfl) | refine GC_region (id := 1) ?_); try (refine xm rfl rfl ?_; try (refine xA rfl rfl rfl ?_; try (refine xB rfl rfl rfl ?_; try (refine xr rfl rfl rfl rfl ?_; try (refine xa rfl rfl ?_; try (refine GL_nil ?_)))))))
  all_goals refine GX_end (.inl rfl) (res1 rfl rfl) (fun w H => .intro ?_)
  all_goals (unfold ringPrev; exact ⟨rfl, H⟩)

theorem ring_Within {a : Int} {b : Int} {c : Int} (hw : Own w0 w L) :
    Calls Tryz.prog 176 #[U8 a, U8 b, U8 c] w (Ret fun v w' => v = .bool (decide (ringGap b a ≤ ringGap b c)) ∧ Own w0 w' L) := by
  refine calls_of_GC' (vs := [U8 a, U8 b, U8 c]) [] Tryz.func176 rfl rfl rfl ?_ hw
  repeat' first
    | refine GC_seq ?_
    | refine GX_then ?_
    | refine GC_ret ?_
    | refine GX_then_ret ?_
    | ((first | (apply GC_regionK (id := 0) [0, 1, 2] (e' := [(0, _), (1, _), (2, _)]); exact rfl) | refine GC_region (id := 0) ?_); try (refine xa rfl rfl ?_; try (refine GL_nil ?_)))
    | ((first | (apply GC_regionK (id := 1) [0, 1, 2] (e' := [(0, _), (1, _), (2, _)]); exact rfl) | refine GC_region (id := 1) ?_); try (refine xm rfl rfl ?_; try (refine xm rfl rfl ?_; try ((refine GL_call rfl (fun w H => ring_Gap H) rfl ?_; rintro v w' ⟨rfl, H⟩; refine ⟨_, H, ?_⟩); try (refine xm rfl rfl ?_; try (refine xm rfl rfl ?_; try ((refine GL_call rfl (fun w H => ring_Gap H) rfl ?_; rintro v w' ⟨rfl, H⟩; refine ⟨_, H, ?_⟩); try (refine xu rfl rfl rfl ?_; try (refine xa rfl rfl ?_; try (refine GL_nil ?_))))))))))
  all_goals refine GX_end (.inl rfl) (res1 rfl rfl) (fun w H => .intro ?_)
  all_goals (skip; exact ⟨rfl, H⟩)

theorem ring_At {n : Int} (hw : Own w0 w L) :
    Calls Tryz.prog 190 #[I64 n] w (Ret fun v w' => v = U8 (ringAt n) ∧ Own w0 w' L) := by
  refine calls_of_GC' (vs := [I64 n]) [] Tryz.func190 rfl rfl rfl ?_ hw
  repeat' first
    | refine GC_seq ?_
    | refine GX_then ?_
    | refine GC_ret ?_
    | refine GX_then_ret ?_
    | ((first | (apply GC_regionK (id := 0) [0] (e' := [(0, _)]); exact rfl) | refine GC_region (id := 0) ?_); try (refine xa rfl rfl ?_; try (refine GL_nil ?_)))
    | ((first | (apply GC_regionK (id := 1) [0] (e' := [(0, _)]); exact rfl) | refine GC_region (id := 1) ?_); try (refine xm rfl rfl ?_; try (refine xba rfl rfl rfl ?_; try (refine xc rfl rfl ?_; try (refine xa rfl rfl ?_; try (refine GL_nil ?_))))))
  all_goals refine GX_end (.inl rfl) (res1 rfl rfl) (fun w H => .intro ?_)
  all_goals (unfold ringAt; exact ⟨rfl, H⟩)

theorem ring_Next {a : Int} (hw : Own w0 w L) :
    Calls Tryz.prog 242 #[U8 a] w (Ret fun v w' => v = U8 (ringNext a) ∧ Own w0 w' L) := by
  refine calls_of_GC' (vs := [U8 a]) [] Tryz.func242 rfl rfl rfl ?_ hw
  repeat' first
    | refine GC_seq ?_
    | refine GX_then ?_
    | refine GC_ret ?_
    | refine GX_then_ret ?_
    | ((first | (apply GC_regionK (id := 0) [0] (e' := [(0, _)]); exact rfl) | refine GC_region (id := 0) ?_); try (refine xa rfl rfl ?_; try (refine GL_nil ?_)))
    | ((first | (apply GC_regionK (id := 1) [0] (e' := [(0, _)]); exact rfl) | refine GC_region (id := 1) ?_); try (refine xm rfl rfl ?_; try (refine xA rfl rfl rfl ?_; try (refine xr rfl rfl rfl rfl ?_; try (refine xa rfl rfl ?_; try (refine GL_nil ?_))))))
  all_goals refine GX_end (.inl rfl) (res1 rfl rfl) (fun w H => .intro ?_)
  all_goals (unfold ringNext; exact ⟨rfl, H⟩)

theorem setup_Unit {n : Int} (hw : Own w0 w L) :
    Calls Tryz.prog 119 #[I64 n] w (Ret fun v w' => v = I64 (unitLen n) ∧ Own w0 w' L) := by
  refine calls_of_GC' (vs := [I64 n]) [] Tryz.func119 rfl rfl rfl ?_ hw
  repeat' first
    | refine GC_seq ?_
    | refine GX_then ?_
    | refine GC_ret ?_
    | refine GX_then_ret ?_
    | ((first | (apply GC_regionK (id := 0) [0] (e' := [(0, _)]); exact rfl) | refine GC_region (id := 0) ?_); try (refine xa rfl rfl ?_; try (refine GL_nil ?_)))
    | ((first | (apply GC_regionK (id := 1) [0] (e' := [(0, _)]); exact rfl) | refine GC_region (id := 1) ?_); try (refine xm rfl rfl ?_; try (refine xW rfl rfl rfl ?_; try (refine xC rfl rfl rfl ?_; try (refine xa rfl rfl ?_; try (refine GL_nil ?_))))))
    | ((first | (apply GC_regionK (id := 2) [3] (e' := [(3, _)]); exact rfl) | refine GC_region (id := 2) ?_); try (refine xm rfl rfl ?_; try (refine xm rfl rfl ?_; try (refine xd rfl rfl rfl rfl ?_; try (refine xA rfl rfl rfl ?_; try (refine xA rfl rfl rfl ?_; try (refine xA rfl rfl rfl ?_; try (refine xd rfl rfl rfl rfl ?_; try (refine xA rfl rfl rfl ?_; try (refine xa rfl rfl ?_; try (refine GL_nil ?_)))))))))))
  all_goals refine GX_end (.inl rfl) (res1 rfl rfl) (fun w H => .intro ?_)
  all_goals (unfold unitLen; exact ⟨rfl, H⟩)

theorem setup_within {x : Int} {a : Int} {b : Int} (hw : Own w0 w L) :
    Calls Tryz.prog 104 #[I64 x, I64 a, I64 b] w (Ret fun v w' => v = .bool (within x a b) ∧ Own w0 w' L) := by
  refine calls_of_GC' (vs := [I64 x, I64 a, I64 b]) [] Tryz.func104 rfl rfl rfl ?_ hw
  repeat' first
    | refine GC_seq ?_
    | refine GX_then ?_
    | refine GC_ret ?_
    | refine GX_then_ret ?_
    | ((first | (apply GC_regionK (id := 0) [0, 1, 2] (e' := [(0, _), (1, _), (2, _)]); exact rfl) | refine GC_region (id := 0) ?_); try (refine xa rfl rfl ?_; try (refine GL_nil ?_)))
    | ((first | (apply GC_regionK (id := 1) [0, 1, 2] (e' := [(0, _), (1, _), (2, _)]); exact rfl) | refine GC_region (id := 1) ?_); try (refine xm rfl rfl ?_; try (refine xm rfl rfl ?_; try (refine xh rfl rfl rfl ?_; try (refine xm rfl rfl ?_; try ((first | (refine GL_on rfl rfl ?_; try (refine xm rfl rfl ?_; try (refine GL_on rfl rfl ?_; try (refine xm rfl rfl ?_; try (refine GL_on rfl rfl ?_; try (refine xu rfl rfl rfl ?_; try ((first | refine xk rfl rfl rfl ?_ | refine xK rfl rfl rfl ?_)))))))) | (refine GL_off rfl rfl rfl ?_; try ((first | refine GL_off rfl rfl rfl ?_ | refine GL_offU rfl rfl rfl ?_); try ((first | refine GL_off rfl rfl rfl ?_ | refine GL_offU rfl rfl rfl ?_); try ((first | refine xk rfl rfl rfl ?_ | refine xK rfl rfl rfl ?_))))) | (apply GL_and (d := 14); exact rfl; exact rfl; (repeat (first | exact .dec | with_reducible apply Tell.or | with_reducible apply Tell.and | with_reducible apply Tell.not | exact .self)); intro h K14; (refine GL_on rfl rfl ?_; try (refine xm rfl rfl ?_; try (refine GL_on rfl rfl ?_; try (refine xm rfl rfl ?_; try (refine GL_on rfl rfl ?_; try (refine xu rfl rfl rfl ?_; try ((first | refine xk rfl rfl rfl ?_ | refine xK rfl rfl rfl ?_); try (exact GL_close K14 (by repeat (first | exact .refl | refine .cons rfl ?_)))))))))); intro h K14; ((first | refine GL_off rfl rfl rfl ?_ | refine GL_offU rfl rfl rfl ?_); try ((first | refine GL_off rfl rfl rfl ?_ | refine GL_offU rfl rfl rfl ?_); try ((first | refine GL_off rfl rfl rfl ?_ | refine GL_offU rfl rfl rfl ?_); try ((first | refine xk rfl rfl rfl ?_ | refine xK rfl rfl rfl ?_); try (exact GL_close K14 (by repeat (first | exact .refl | refine .cons rfl ?_)))))))) | refine ys rfl rfl (fun h => ?_) (fun h => ?_)); try (refine xa rfl rfl ?_; try (refine GL_nil ?_))))))))
  all_goals refine GX_end (.inl rfl) (res1 rfl rfl) (fun w H => .intro ?_)
  all_goals (unfold within; exact ⟨rfl, H⟩)

end
end Go.Sm
