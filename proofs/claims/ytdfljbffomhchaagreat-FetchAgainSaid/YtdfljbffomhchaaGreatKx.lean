/- Package signalmanref06: SameAll, of two lists that are one. -/
import Derived.Test.YtdfljbffomhchaaGreatKu
set_option linter.unusedVariables false
set_option linter.unusedSimpArgs false
set_option linter.unusedSectionVars false
set_option maxRecDepth 10000
namespace Go.Sm
open Go.RowKit Go.Proofs

attribute [local irreducible] Calls strOf
section
variable {w0 w : World} {L : List Ent}

theorem same_All {v1 v2 : Value} {us vs : List Value} {ps : List Msg} (hx : Look L 37 v1 us) (hp : Pays L us ps) (hy : Look L 37 v2 vs) (hq : Pays L vs ps) (hl : ps.length ≤ 1000000) (hw : Own w0 w L) :
    Calls Tryz.prog 38 #[v1, v2] w (Ret fun v w' => v = .bool true ∧ Own w0 w' L) := by
  have hlen := hp.len
  have hlen2 := hq.len
  obtain ⟨a, c, hv⟩ := hx.shape
  rw [hlen] at hv
  subst hv
  obtain ⟨a2, c2, hv⟩ := hy.shape
  rw [hlen2] at hv
  subst hv
  refine calls_of_GC' (vs := [.slice a ps.length c, .slice a2 ps.length c2]) [] Tryz.func38 rfl rfl rfl ?_ hw
  repeat' first
    | refine GC_seq ?_
    | refine GX_then ?_
    | refine GC_ret ?_
    | refine GX_then_ret ?_
    | refine GC_skip ?_
    | refine GC_block ?_
    | refine GX_block ?_
    | refine GX_block_ret ?_
    | refine GC_exit ?_
    | refine GX_then_exit ?_
    | refine GX_block_exit rfl ?_
    | refine GX_block_other rfl ?_
    | refine GC_true rfl ?_
    | refine GC_false rfl ?_
    | (apply GC_condT; exact rfl; (repeat (first | exact .dec | with_reducible apply Tell.or | with_reducible apply Tell.and | with_reducible apply Tell.not | exact .self)); all_goals (intro h; try contradiction))
    | ((first | (apply GC_regionK (id := 0) [0, 1] (e' := [(0, _), (1, _)]); exact rfl) | refine GC_region (id := 0) ?_); try (refine xa rfl rfl ?_; try (refine GL_nil ?_)))
    | ((first | (apply GC_regionK (id := 1) [0, 1] (e' := [(0, _), (1, _)]); exact rfl) | refine GC_region (id := 1) ?_); try (refine xm rfl rfl ?_; try (refine xy rfl rfl ?_; try (refine xm rfl rfl ?_; try (refine xy rfl rfl ?_; try (refine xQ rfl rfl rfl ?_; try (refine GL_nil ?_)))))))
    | ((first | (apply GC_regionK (id := 2) [] (e' := []); exact rfl) | refine GC_region (id := 2) ?_); try (refine xa rfl rfl ?_; try (refine GL_nil ?_)))
    | ((first | (apply GC_regionK (id := 3) [0, 1] (e' := [(0, _), (1, _)]); exact rfl) | refine GC_region (id := 3) ?_); try (refine xa rfl rfl ?_; try (refine GL_nil ?_)))
  refine GC_keep [5, 1, 0] (GC_loop (ι := Nat) (fun k e L' => k ≤ ps.length ∧ e = [(5, I64 k), (1, .slice a2 ps.length c2), (0, .slice a ps.length c)] ∧ L' = L) (fun k => ps.length - k) 0 ⟨by omega, rfl, rfl⟩ ?_)
  rintro k e L' ⟨hk, rfl, rfl⟩
  by_cases hlt : k < ps.length
  · obtain ⟨q, k0, c', pre, post, he, hk0, fz, hf⟩ := hx.find (fun e => by rw [e] at hlen; simp at hlen; omega)
    injection he with e1 e2 e3
    subst e1
    obtain ⟨q2, k2, c2', pre2, post2, he2, hk2, fz2, hf2⟩ := hy.find (fun e => by rw [e] at hlen2; simp at hlen2; omega)
    injection he2 with e1 e2 e3
    subst e1
    obtain ⟨u, hu, hpu⟩ := hp.get hlt
    obtain ⟨u2, hu2, hpu2⟩ := hq.get hlt
    repeat' first
      | (refine Dl rfl hf (nth_mid hk0 (show k0 + (k : Int).toNat * 1 = k0 + k by omega) hu) rfl ?_)
      | (refine Dl rfl hf2 (nth_mid hk2 (show k2 + (k : Int).toNat * 1 = k2 + k by omega) hu2) rfl ?_)
      | (refine Dstr rfl hpu rfl ?_)
      | (refine Dstr rfl hpu2 rfl ?_)
      | refine GC_seq ?_
      | refine GX_then ?_
      | refine GC_ret ?_
      | refine GX_then_ret ?_
      | refine GC_skip ?_
      | refine GC_block ?_
      | refine GX_block ?_
      | refine GX_block_ret ?_
      | refine GC_exit ?_
      | refine GX_then_exit ?_
      | refine GX_block_exit rfl ?_
      | refine GX_block_other rfl ?_
      | refine GC_true rfl ?_
      | refine GC_false rfl ?_
      | (apply GC_condT; exact rfl; (repeat (first | exact .dec | with_reducible apply Tell.or | with_reducible apply Tell.and | with_reducible apply Tell.not | exact .self)); all_goals (intro h; try contradiction))
      | ((first | (apply GC_regionK (id := 4) [0, 1, 5] (e' := [(0, _), (1, _), (5, _)]); exact rfl) | refine GC_region (id := 4) ?_); try (refine xm rfl rfl ?_; try (refine xm rfl rfl ?_; try (refine xy rfl rfl ?_; try (refine xt rfl rfl rfl ?_; try (refine GL_nil ?_))))))
      | ((first | (apply GC_drawK (id := 6) [0, 1, 5] [(1, 0), (1, 1), (1, 2), (0, 3), (0, 4), (1, 5), (1, 6), (1, 7), (0, 8), (0, 9), (1, 10)] (e' := [(0, _), (1, _), (5, _)]); exact rfl; exact mixed; kernel_rfl) | refine GC_draw (id := 6) [(1, 0), (1, 1), (1, 2), (0, 3), (0, 4), (1, 5), (1, 6), (1, 7), (0, 8), (0, 9), (1, 10)] mixed (by kernel_rfl) ?_); try (refine Fm rfl rfl ?_; try (refine Fm rfl rfl ?_; try ((first | refine Fj rfl rfl (by first | decide | omega) rfl ?_ | refine FJ rfl rfl (by first | decide | omega) rfl ?_); try ((first | (refine Dl rfl hf (nth_mid hk0 (show k0 + (k : Int).toNat * 1 = k0 + k by omega) hu) rfl ?_) | (refine Dl rfl hf2 (nth_mid hk2 (show k2 + (k : Int).toNat * 1 = k2 + k by omega) hu2) rfl ?_) | (apply Dl; exact rfl; (repeat (first | exact .here | refine .there ?_)); exact rfl; exact rfl)); try ((first | (refine Dstr rfl hpu rfl ?_) | (refine Dstr rfl hpu2 rfl ?_)); try (refine Fm rfl rfl ?_; try (refine Fm rfl rfl ?_; try ((first | refine Fj rfl rfl (by first | decide | omega) rfl ?_ | refine FJ rfl rfl (by first | decide | omega) rfl ?_); try ((first | (refine Dl rfl hf (nth_mid hk0 (show k0 + (k : Int).toNat * 1 = k0 + k by omega) hu) rfl ?_) | (refine Dl rfl hf2 (nth_mid hk2 (show k2 + (k : Int).toNat * 1 = k2 + k by omega) hu2) rfl ?_) | (apply Dl; exact rfl; (repeat (first | exact .here | refine .there ?_)); exact rfl; exact rfl)); try ((first | (refine Dstr rfl hpu rfl ?_) | (refine Dstr rfl hpu2 rfl ?_)); try ((first | refine FQ rfl rfl rfl ?_ | refine FP rfl rfl rfl ?_ | refine FzQ rfl rfl rfl ?_ | refine Fbn rfl rfl rfl ?_ | refine FiQ rfl rfl rfl ?_ | refine Fns rfl rfl rfl ?_); try (refine GD_nil ?_)))))))))))))
      | ((first | (apply GC_regionK (id := 7) [] (e' := []); exact rfl) | refine GC_region (id := 7) ?_); try (refine xa rfl rfl ?_; try (refine GL_nil ?_)))
      | ((first | (apply GC_regionK (id := 5) [0, 1, 5] (e' := [(0, _), (1, _), (5, _)]); exact rfl) | refine GC_region (id := 5) ?_); try (refine xm rfl rfl ?_; try (refine xA rfl rfl rfl ?_; try (refine xa rfl rfl ?_; try (refine GL_nil ?_)))))
    · exact absurd (beq_self_eq_true _) h
    · refine GX_keep [5, 1, 0] (GX_loop (k + 1) ⟨by omega, ?_, rfl⟩ (by omega))
      show [(5, I64 (IntKind.i64.wrap ((k : Int) + 1))), (1, _), (0, _)] = _
      rw [wrap_nat (by omega)]
    · omega
  · repeat' first
      | refine GC_seq ?_
      | refine GX_then ?_
      | refine GC_ret ?_
      | refine GX_then_ret ?_
      | refine GC_skip ?_
      | refine GC_block ?_
      | refine GX_block ?_
      | refine GX_block_ret ?_
      | refine GC_exit ?_
      | refine GX_then_exit ?_
      | refine GX_block_exit rfl ?_
      | refine GX_block_other rfl ?_
      | refine GC_true rfl ?_
      | refine GC_false rfl ?_
      | (apply GC_condT; exact rfl; (repeat (first | exact .dec | with_reducible apply Tell.or | with_reducible apply Tell.and | with_reducible apply Tell.not | exact .self)); all_goals (intro h; try contradiction))
      | ((first | (apply GC_regionK (id := 4) [0, 1, 5] (e' := [(0, _), (1, _), (5, _)]); exact rfl) | refine GC_region (id := 4) ?_); try (refine xm rfl rfl ?_; try (refine xm rfl rfl ?_; try (refine xy rfl rfl ?_; try (refine xt rfl rfl rfl ?_; try (refine GL_nil ?_))))))
      | ((first | (apply GC_regionK (id := 8) [] (e' := []); exact rfl) | refine GC_region (id := 8) ?_); try (refine xa rfl rfl ?_; try (refine GL_nil ?_)))
    · omega
    · refine GX_end (.inl rfl) (res1 rfl rfl) (fun w H => .intro ⟨rfl, H⟩)
end
end Go.Sm
