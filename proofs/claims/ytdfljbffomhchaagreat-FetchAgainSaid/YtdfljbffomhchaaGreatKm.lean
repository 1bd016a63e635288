/- Holds: what is left behind a number. -/
import Derived.Test.YtdfljbffomhchaaGreatKl
set_option linter.unusedVariables false
set_option linter.unusedSectionVars false
set_option maxRecDepth 10000
namespace Go.Sm
open Go.RowKit Go.Proofs

section
variable {w0 w : World} {R L : List Ent} {Hb : Nat} {g : Hd} {o : Obj} {es en : Ent} [hk : HdOk g]
include hk

theorem hold_Rest {n : Int} (hh : HdAt R g o es en) (hR : ∀ x, x ∈ R → x ∈ L) (hw : Own w0 w (some (Hb, o) :: es :: en :: L)) :
    Calls Tryz.prog 93 #[Ptr Hb, U8 n] w (Ret fun v w' => ∃ lv ys N, v = .tuple #[lv, I64 (g.rest n).2] ∧ Look (N ++ R) 37 lv ys ∧ Pays (N ++ R) ys (g.rest n).1 ∧ Own w0 w' (some (Hb, o) :: es :: en :: (N ++ L))) := by
  obtain ⟨vs, us, vn, un, rfl, hs, hps, hn, hpn⟩ := hh.out
  by_cases h0 : g.knows n = true
  · have hg : 0 ≤ ringGap (ringPrev g.first) n ∧ ringGap (ringPrev g.first) n ≤ g.sent.length := Hd.gap_le h0
    obtain ⟨pa, ca, rfl, hca, hma, hza⟩ := hs.cap
    obtain ⟨pb, cb, rfl, hcb, hmb, hzb⟩ := hn.cap
    have hk2 := hk.len; have hk5 := hk.pay
    have hul := hps.len; have hunl := hpn.len
    have hls : Look (some (Hb, holdObj g.most g.octs (.slice pa g.sent.length ca) g.first (.slice pb g.next.length cb)) :: es :: en :: L) 37 (.slice pa us.length ca) us := by rw [hul]; exact hs.look (by simp)
    have hln : Look (some (Hb, holdObj g.most g.octs (.slice pa g.sent.length ca) g.first (.slice pb g.next.length cb)) :: es :: en :: L) 37 _ un := hn.look (by simp)
    have hdl : (us.drop (ringGap (ringPrev g.first) n).toNat).length = g.sent.length - (ringGap (ringPrev g.first) n).toNat := by rw [List.length_drop]; omega
    have hcut := hls.cut (i := (ringGap (ringPrev g.first) n).toNat) (j := us.length) (m := g.sent.length) (c' := g.sent.length - (ringGap (ringPrev g.first) n).toNat) (by omega) (by omega) (by omega)
    rw [List.take_length] at hcut
    have hall : Pays R (us.drop (ringGap (ringPrev g.first) n).toNat ++ un) (g.sent.drop (ringGap (ringPrev g.first) n).toNat ++ g.next) := (hps.drop _).append hpn
    have hrest : g.rest n = (g.sent.drop (ringGap (ringPrev g.first) n).toNat ++ g.next, 0) := by unfold Hd.rest; rw [if_neg (by simpa using h0)]; rfl
    rw [hrest]
    generalize hM : g.sent.drop (ringGap (ringPrev g.first) n).toNat ++ g.next = M at *
    have hMl : ∀ p ∈ M, p.length ≤ 273 := fun p hp => by
      rw [← hM] at hp
      simp only [List.mem_append] at hp
      rcases hp with hp | hp
      · exact hk5 p (by simp [List.mem_of_mem_drop hp])
      · exact hk5 p (by simp [hp])
    have hMn : M.length ≤ 100000 := by rw [← hM]; simp only [List.length_append, List.length_drop]; omega
    have hal := hall.len
    refine calls_of_GC' (vs := [Ptr Hb, U8 n]) [] Tryz.func93 rfl rfl rfl ?_ hw
    repeat' first
      | (refine UaN (xs := us.drop (ringGap (ringPrev g.first) n).toNat) (p := if g.sent.length = (ringGap (ringPrev g.first) n).toNat then pa else pa.map (·.add ((ringGap (ringPrev g.first) n).toNat * 1))) (by rw [hdl]; rfl) rfl (by rw [hdl]; rw [hul] at hcut; exact hcut) (fun hp => ?_) hln (by rw [hdl]; omega) (by rw [hdl]; omega) rfl (fun v' N hl' => ?_); rotate_left; obtain ⟨pq, cq, rfl⟩ := hl'.shape; rw [hal] at hl')
      | refine GC_seq ?_
      | refine GX_then ?_
      | refine GC_ret ?_
      | refine GX_then_ret ?_
      | refine GC_skip ?_
      | refine GC_block ?_
      | refine GX_block ?_
      | refine GX_block_ret ?_
      | refine GC_exit ?_
      | refine GX_then_exit ?_
      | refine GX_block_exit rfl ?_
      | refine GX_block_other rfl ?_
      | refine GC_true rfl ?_
      | refine GC_false rfl ?_
      | (apply GC_condT; exact rfl; (repeat (first | exact .dec | with_reducible apply Tell.or | with_reducible apply Tell.and | with_reducible apply Tell.not | exact .self)); all_goals (intro h; try contradiction))
      | ((first | (apply GC_regionK (id := 0) [0, 1] (e' := [(0, _), (1, _)]); exact rfl) | refine GC_region (id := 0) ?_); try (refine xa rfl rfl ?_; try (refine xa rfl rfl ?_; try (refine GL_nil ?_))))
      | ((first | (apply GC_regionK (id := 1) [0, 1] (e' := [(0, _), (1, _)]); exact rfl) | refine GC_region (id := 1) ?_); try (refine xm rfl rfl ?_; try (refine xm rfl rfl ?_; try ((refine GL_call rfl (fun w H => hold_Knows hh hR H) rfl ?_; rintro v w' ⟨rfl, H⟩; refine ⟨_, H, ?_⟩); try ((first | refine xO rfl rfl ?_ | refine xo rfl rfl ?_); try (refine GL_nil ?_))))))
      | ((first | (apply GC_regionK (id := 2) [] (e' := []); exact rfl) | refine GC_region (id := 2) ?_); try (refine xa rfl rfl ?_; try (refine xa rfl rfl ?_; try (refine GL_nil ?_))))
      | ((first | (apply GC_regionK (id := 3) [0, 1] (e' := [(0, _), (1, _)]); exact rfl) | refine GC_region (id := 3) ?_); try (refine xa rfl rfl ?_; try (refine GL_nil ?_)))
      | ((first | (apply GC_regionK (id := 4) [0, 1, 6] (e' := [(0, _), (1, _), (6, _)]); exact rfl) | refine GC_region (id := 4) ?_); try (refine xm rfl rfl ?_; try (refine xn rfl rfl ?_; try (refine xf rfl rfl ?_; try ((apply xl; exact rfl; (repeat (first | exact .here | refine .there ?_)); exact rfl; exact rfl); try (refine xy rfl rfl ?_; try (refine xa rfl rfl ?_; try (refine GL_nil ?_))))))))
      | ((first | (apply GC_drawK (id := 5) [0, 1, 6, 7] [(1, 0), (1, 1), (1, 2), (0, 3), (1, 4), (1, 5), (1, 6), (0, 7), (1, 9), (1, 11), (1, 12), (1, 14), (1, 15), (1, 16), (0, 17), (1, 20), (3, 8), (3, 10), (1, 13), (2, 18), (1, 19)] (e' := [(0, _), (1, _), (6, _), (7, _)]); exact rfl; exact mixed; kernel_rfl) | refine GC_draw (id := 5) [(1, 0), (1, 1), (1, 2), (0, 3), (1, 4), (1, 5), (1, 6), (0, 7), (1, 9), (1, 11), (1, 12), (1, 14), (1, 15), (1, 16), (0, 17), (1, 20), (3, 8), (3, 10), (1, 13), (2, 18), (1, 19)] mixed (by kernel_rfl) ?_); try (refine Fm rfl rfl ?_; try (refine Fn rfl rfl ?_; try (refine Ff rfl rfl ?_; try ((apply Dl; exact rfl; (repeat (first | exact .here | refine .there ?_)); exact rfl; exact rfl); try (refine Fm rfl rfl ?_; try (refine Fn rfl rfl ?_; try (refine Ff rfl rfl ?_; try ((apply Dl; exact rfl; (repeat (first | exact .here | refine .there ?_)); exact rfl; exact rfl); try (refine Fm rfl rfl ?_; try (refine Fm rfl rfl ?_; try (refine Fm rfl rfl ?_; try (refine Fm rfl rfl ?_; try (refine Fn rfl rfl ?_; try (refine Ff rfl rfl ?_; try ((apply Dl; exact rfl; (repeat (first | exact .here | refine .there ?_)); exact rfl; exact rfl); try (refine Fm rfl rfl ?_; try ((refine GD_callE rfl (fun w H => ring_Prev H) rfl ?_; rintro v w' ⟨rfl, H⟩; refine ⟨_, H, fun w h => h, ?_⟩); try ((refine GD_callE rfl (fun w H => ring_Gap H) rfl ?_; rintro v w' ⟨rfl, H⟩; refine ⟨_, H, fun w h => h, ?_⟩); try (refine Fsm rfl rfl rfl rfl (by first | decide | omega) rfl ?_; try ((refine UaN (xs := us.drop (ringGap (ringPrev g.first) n).toNat) (p := if g.sent.length = (ringGap (ringPrev g.first) n).toNat then pa else pa.map (·.add ((ringGap (ringPrev g.first) n).toNat * 1))) (by rw [hdl]; rfl) rfl (by rw [hdl]; rw [hul] at hcut; exact hcut) (fun hp => ?_) hln (by rw [hdl]; omega) (by rw [hdl]; omega) rfl (fun v' N hl' => ?_); rotate_left; obtain ⟨pq, cq, rfl⟩ := hl'.shape; rw [hal] at hl'); try (refine Fy rfl rfl ?_; try (refine GD_nil ?_)))))))))))))))))))))))
      | ((first | (apply GC_regionK (id := 6) [6, 37, 38, 39] (e' := [(6, _), (37, _), (38, _), (39, _)]); exact rfl) | refine GC_region (id := 6) ?_); try (refine xt rfl rfl rfl ?_; try (refine GL_nil ?_)))
      | ((first | (apply GC_regionK (id := 7) [6, 37, 38, 39] (e' := [(6, _), (37, _), (38, _), (39, _)]); exact rfl) | refine GC_region (id := 7) ?_); try ((first | refine xj rfl rfl (by first | decide | omega) rfl ?_ | refine xJ rfl rfl (by first | decide | omega) rfl ?_); try ((apply xl; exact rfl; (repeat (first | exact .here | refine .there ?_)); exact rfl; exact rfl); try (refine xa rfl rfl ?_; try (refine GL_nil ?_)))))
      | ((first | (apply GC_regionK (id := 8) [6, 9, 37, 38, 39] (e' := [(6, _), (9, _), (37, _), (38, _), (39, _)]); exact rfl) | refine GC_region (id := 8) ?_); try (refine xm rfl rfl ?_; try (refine xm rfl rfl ?_; try (fail; try (refine xz rfl rfl rfl (fun q => ?_); try ((refine UaN (xs := us.drop (ringGap (ringPrev g.first) n).toNat) (p := if g.sent.length = (ringGap (ringPrev g.first) n).toNat then pa else pa.map (·.add ((ringGap (ringPrev g.first) n).toNat * 1))) (by rw [hdl]; rfl) rfl (by rw [hdl]; rw [hul] at hcut; exact hcut) (fun hp => ?_) hln (by rw [hdl]; omega) (by rw [hdl]; omega) rfl (fun v' N hl' => ?_); rotate_left; obtain ⟨pq, cq, rfl⟩ := hl'.shape; rw [hal] at hl'); try (refine xa rfl rfl ?_; try (refine GL_nil ?_))))))))
      | ((first | (apply GC_regionK (id := 9) [6, 37, 38, 39] (e' := [(6, _), (37, _), (38, _), (39, _)]); exact rfl) | refine GC_region (id := 9) ?_); try (refine xA rfl rfl rfl ?_; try (refine xm rfl rfl ?_; try (refine GL_nil ?_))))
      | ((first | (apply GC_regionK (id := 10) [6] (e' := [(6, _)]); exact rfl) | refine GC_region (id := 10) ?_); try (refine xm rfl rfl ?_; try (refine xa rfl rfl ?_; try (refine xa rfl rfl ?_; try (refine GL_nil ?_)))))
    · rw [hal]
      have hYM := hall
      generalize us.drop (ringGap (ringPrev g.first) n).toNat ++ un = Y at hYM hal hl'
      refine GC_sub (fun w h => h.nothing) ?_
      refine GC_keep [39, 38, 37, 6] (GC_loop (ι := Nat) (fun k e L' => k ≤ M.length ∧ ∃ vl ys el N', Slc 37 1 vl ys k el ∧ Pays N' ys (M.take k) ∧ e = [(39, I64 k), (38, I64 M.length), (37, .slice pq M.length cq), (6, vl)] ∧
        L' = el :: (N' ++ (N ++ some (Hb, holdObj g.most g.octs (.slice pa g.sent.length ca) g.first (.slice pb g.next.length cb)) :: es :: en :: L))) (fun k => M.length - k) 0 ⟨by omega, .slice none 0 0, [], none, [], .nil, .nil, rfl, rfl⟩ ?_)
      rintro k e L' ⟨hkM, vl, ys, el, N', hsl, hyl, rfl, rfl⟩
      by_cases hlt : k < M.length
      · obtain ⟨q, k0, c', pre, post, he, hk0, fz, hf⟩ := hl'.find (fun e => by rw [e] at hal; simp at hal; omega)
        injection he with e1 e2 e3
        subst e1
        obtain ⟨u, hu, hpu⟩ := hYM.get hlt
        obtain ⟨ua, uc, rfl⟩ := hpu.shape
        have hul9 : (M.getD k []).length ≤ 273 := hMl _ (by simp [List.getD_eq_getElem?_getD, hlt])
        have htk : M.take (k + 1) = M.take k ++ [M.getD k []] := by
          rw [List.take_succ_eq_append_getElem hlt]; simp [List.getD_eq_getElem?_getD, hlt]
        have hpu9 : Pay (el :: (N' ++ (N ++ some (Hb, holdObj g.most g.octs (.slice pa g.sent.length ca) g.first (.slice pb g.next.length cb)) :: es :: en :: L))) (.slice ua (M.getD k []).length uc) (M.getD k []) := hpu.sub (by
          intro x hx; have := hR x hx; simp [this])
        repeat' first
          | (refine xl rfl (Find.there (Find.append hf)) (nth_mid hk0 (show k0 + (k : Int).toNat * 1 = k0 + k by omega) hu) rfl ?_)
          | (refine xap (i := 2) rfl rfl hsl rfl .here rfl rfl (by omega) (by omega) (by omega) rfl (fun v' x' hs' => ?_))
          | refine GC_seq ?_
          | refine GX_then ?_
          | refine GC_ret ?_
          | refine GX_then_ret ?_
          | refine GC_skip ?_
          | refine GC_block ?_
          | refine GX_block ?_
          | refine GX_block_ret ?_
          | refine GC_exit ?_
          | refine GX_then_exit ?_
          | refine GX_block_exit rfl ?_
          | refine GX_block_other rfl ?_
          | refine GC_true rfl ?_
          | refine GC_false rfl ?_
          | (apply GC_condT; exact rfl; (repeat (first | exact .dec | with_reducible apply Tell.or | with_reducible apply Tell.and | with_reducible apply Tell.not | exact .self)); all_goals (intro h; try contradiction))
          | ((first | (apply GC_regionK (id := 0) [0, 1] (e' := [(0, _), (1, _)]); exact rfl) | refine GC_region (id := 0) ?_); try (refine xa rfl rfl ?_; try (refine xa rfl rfl ?_; try (refine GL_nil ?_))))
          | ((first | (apply GC_regionK (id := 1) [0, 1] (e' := [(0, _), (1, _)]); exact rfl) | refine GC_region (id := 1) ?_); try (refine xm rfl rfl ?_; try (refine xm rfl rfl ?_; try (fail; try ((first | refine xO rfl rfl ?_ | refine xo rfl rfl ?_); try (refine GL_nil ?_))))))
          | ((first | (apply GC_regionK (id := 2) [] (e' := []); exact rfl) | refine GC_region (id := 2) ?_); try (refine xa rfl rfl ?_; try (refine xa rfl rfl ?_; try (refine GL_nil ?_))))
          | ((first | (apply GC_regionK (id := 3) [0, 1] (e' := [(0, _), (1, _)]); exact rfl) | refine GC_region (id := 3) ?_); try (refine xa rfl rfl ?_; try (refine GL_nil ?_)))
          | ((first | (apply GC_regionK (id := 4) [0, 1, 6] (e' := [(0, _), (1, _), (6, _)]); exact rfl) | refine GC_region (id := 4) ?_); try (refine xm rfl rfl ?_; try (refine xn rfl rfl ?_; try (refine xf rfl rfl ?_; try ((first | (refine xl rfl (Find.there (Find.append hf)) (nth_mid hk0 (show k0 + (k : Int).toNat * 1 = k0 + k by omega) hu) rfl ?_) | (apply xl; exact rfl; (repeat (first | exact .here | refine .there ?_)); exact rfl; exact rfl)); try (refine xy rfl rfl ?_; try (refine xa rfl rfl ?_; try (refine GL_nil ?_))))))))
          | ((first | (apply GC_drawK (id := 5) [0, 1, 6, 7] [(1, 0), (1, 1), (1, 2), (0, 3), (1, 4), (1, 5), (1, 6), (0, 7), (1, 9), (1, 11), (1, 12), (1, 14), (1, 15), (1, 16), (0, 17), (1, 20), (3, 8), (3, 10), (1, 13), (2, 18), (1, 19)] (e' := [(0, _), (1, _), (6, _), (7, _)]); exact rfl; exact mixed; kernel_rfl) | refine GC_draw (id := 5) [(1, 0), (1, 1), (1, 2), (0, 3), (1, 4), (1, 5), (1, 6), (0, 7), (1, 9), (1, 11), (1, 12), (1, 14), (1, 15), (1, 16), (0, 17), (1, 20), (3, 8), (3, 10), (1, 13), (2, 18), (1, 19)] mixed (by kernel_rfl) ?_); try (refine Fm rfl rfl ?_; try (refine Fn rfl rfl ?_; try (refine Ff rfl rfl ?_; try ((first | (refine xl rfl (Find.there (Find.append hf)) (nth_mid hk0 (show k0 + (k : Int).toNat * 1 = k0 + k by omega) hu) rfl ?_) | (apply Dl; exact rfl; (repeat (first | exact .here | refine .there ?_)); exact rfl; exact rfl)); try (refine Fm rfl rfl ?_; try (refine Fn rfl rfl ?_; try (refine Ff rfl rfl ?_; try ((first | (refine xl rfl (Find.there (Find.append hf)) (nth_mid hk0 (show k0 + (k : Int).toNat * 1 = k0 + k by omega) hu) rfl ?_) | (apply Dl; exact rfl; (repeat (first | exact .here | refine .there ?_)); exact rfl; exact rfl)); try (refine Fm rfl rfl ?_; try (refine Fm rfl rfl ?_; try (refine Fm rfl rfl ?_; try (refine Fm rfl rfl ?_; try (refine Fn rfl rfl ?_; try (refine Ff rfl rfl ?_; try ((first | (refine xl rfl (Find.there (Find.append hf)) (nth_mid hk0 (show k0 + (k : Int).toNat * 1 = k0 + k by omega) hu) rfl ?_) | (apply Dl; exact rfl; (repeat (first | exact .here | refine .there ?_)); exact rfl; exact rfl)); try (refine Fm rfl rfl ?_; try (fail; try (fail; try (refine Fsm rfl rfl rfl rfl (by first | decide | omega) rfl ?_; try ((refine xap (i := 2) rfl rfl hsl rfl .here rfl rfl (by omega) (by omega) (by omega) rfl (fun v' x' hs' => ?_)); try (refine Fy rfl rfl ?_; try (refine GD_nil ?_)))))))))))))))))))))))
          | ((first | (apply GC_regionK (id := 6) [6, 37, 38, 39] (e' := [(6, _), (37, _), (38, _), (39, _)]); exact rfl) | refine GC_region (id := 6) ?_); try (refine xt rfl rfl rfl ?_; try (refine GL_nil ?_)))
          | ((first | (apply GC_regionK (id := 7) [6, 37, 38, 39] (e' := [(6, _), (37, _), (38, _), (39, _)]); exact rfl) | refine GC_region (id := 7) ?_); try ((first | refine xj rfl rfl (by first | decide | omega) rfl ?_ | refine xJ rfl rfl (by first | decide | omega) rfl ?_); try ((first | (refine xl rfl (Find.there (Find.append hf)) (nth_mid hk0 (show k0 + (k : Int).toNat * 1 = k0 + k by omega) hu) rfl ?_) | (apply xl; exact rfl; (repeat (first | exact .here | refine .there ?_)); exact rfl; exact rfl)); try (refine xa rfl rfl ?_; try (refine GL_nil ?_)))))
          | ((first | (apply GC_regionK (id := 8) [6, 9, 37, 38, 39] (e' := [(6, _), (9, _), (37, _), (38, _), (39, _)]); exact rfl) | refine GC_region (id := 8) ?_); try (refine xm rfl rfl ?_; try (refine xm rfl rfl ?_; try ((refine GL_call rfl (fun w H => clone_octets hpu9 (by omega) H) rfl ?_; rintro v w' ⟨e, qa, qc, rfl, hq, H⟩; refine ⟨_, H, ?_⟩); try (refine xz rfl rfl rfl (fun q => ?_); try ((refine xap (i := 2) rfl rfl hsl rfl .here rfl rfl (by omega) (by omega) (by omega) rfl (fun v' x' hs' => ?_)); try (refine xa rfl rfl ?_; try (refine GL_nil ?_))))))))
          | ((first | (apply GC_regionK (id := 9) [6, 37, 38, 39] (e' := [(6, _), (37, _), (38, _), (39, _)]); exact rfl) | refine GC_region (id := 9) ?_); try (refine xA rfl rfl rfl ?_; try (refine xm rfl rfl ?_; try (refine GL_nil ?_))))
          | ((first | (apply GC_regionK (id := 10) [6] (e' := [(6, _)]); exact rfl) | refine GC_region (id := 10) ?_); try (refine xm rfl rfl ?_; try (refine xa rfl rfl ?_; try (refine xa rfl rfl ?_; try (refine GL_nil ?_)))))
        · refine GX_sub (fun w h => h.drop.push 1 (by simp)) (GX_keep [39, 38, 37, 6] (GX_loop (k + 1) ⟨by omega, v', ys ++ [.slice qa (M.getD k []).length qc], x', e :: N', hs', ?_, ?_, rfl⟩ (by omega)))
          · rw [htk]; exact (hyl.mono (N := [e])).append (.cons (hq.sub (by simp)) .nil)
          · show [(39, I64 (IntKind.i64.wrap ((k : Int) + 1))), (38, _), (37, _), (6, _)] = _
            rw [wrap_nat (by omega)]
        · omega
      · repeat' first
          | refine GC_seq ?_
          | refine GX_then ?_
          | refine GC_ret ?_
          | refine GX_then_ret ?_
          | refine GC_skip ?_
          | refine GC_block ?_
          | refine GX_block ?_
          | refine GX_block_ret ?_
          | refine GC_exit ?_
          | refine GX_then_exit ?_
          | refine GX_block_exit rfl ?_
          | refine GX_block_other rfl ?_
          | refine GC_true rfl ?_
          | refine GC_false rfl ?_
          | (apply GC_condT; exact rfl; (repeat (first | exact .dec | with_reducible apply Tell.or | with_reducible apply Tell.and | with_reducible apply Tell.not | exact .self)); all_goals (intro h; try contradiction))
          | ((first | (apply GC_regionK (id := 0) [0, 1] (e' := [(0, _), (1, _)]); exact rfl) | refine GC_region (id := 0) ?_); try (refine xa rfl rfl ?_; try (refine xa rfl rfl ?_; try (refine GL_nil ?_))))
          | ((first | (apply GC_regionK (id := 1) [0, 1] (e' := [(0, _), (1, _)]); exact rfl) | refine GC_region (id := 1) ?_); try (refine xm rfl rfl ?_; try (refine xm rfl rfl ?_; try (fail; try ((first | refine xO rfl rfl ?_ | refine xo rfl rfl ?_); try (refine GL_nil ?_))))))
          | ((first | (apply GC_regionK (id := 2) [] (e' := []); exact rfl) | refine GC_region (id := 2) ?_); try (refine xa rfl rfl ?_; try (refine xa rfl rfl ?_; try (refine GL_nil ?_))))
          | ((first | (apply GC_regionK (id := 3) [0, 1] (e' := [(0, _), (1, _)]); exact rfl) | refine GC_region (id := 3) ?_); try (refine xa rfl rfl ?_; try (refine GL_nil ?_)))
          | ((first | (apply GC_regionK (id := 4) [0, 1, 6] (e' := [(0, _), (1, _), (6, _)]); exact rfl) | refine GC_region (id := 4) ?_); try (refine xm rfl rfl ?_; try (refine xn rfl rfl ?_; try (refine xf rfl rfl ?_; try ((apply xl; exact rfl; (repeat (first | exact .here | refine .there ?_)); exact rfl; exact rfl); try (refine xy rfl rfl ?_; try (refine xa rfl rfl ?_; try (refine GL_nil ?_))))))))
          | ((first | (apply GC_drawK (id := 5) [0, 1, 6, 7] [(1, 0), (1, 1), (1, 2), (0, 3), (1, 4), (1, 5), (1, 6), (0, 7), (1, 9), (1, 11), (1, 12), (1, 14), (1, 15), (1, 16), (0, 17), (1, 20), (3, 8), (3, 10), (1, 13), (2, 18), (1, 19)] (e' := [(0, _), (1, _), (6, _), (7, _)]); exact rfl; exact mixed; kernel_rfl) | refine GC_draw (id := 5) [(1, 0), (1, 1), (1, 2), (0, 3), (1, 4), (1, 5), (1, 6), (0, 7), (1, 9), (1, 11), (1, 12), (1, 14), (1, 15), (1, 16), (0, 17), (1, 20), (3, 8), (3, 10), (1, 13), (2, 18), (1, 19)] mixed (by kernel_rfl) ?_); try (refine Fm rfl rfl ?_; try (refine Fn rfl rfl ?_; try (refine Ff rfl rfl ?_; try ((apply Dl; exact rfl; (repeat (first | exact .here | refine .there ?_)); exact rfl; exact rfl); try (refine Fm rfl rfl ?_; try (refine Fn rfl rfl ?_; try (refine Ff rfl rfl ?_; try ((apply Dl; exact rfl; (repeat (first | exact .here | refine .there ?_)); exact rfl; exact rfl); try (refine Fm rfl rfl ?_; try (refine Fm rfl rfl ?_; try (refine Fm rfl rfl ?_; try (refine Fm rfl rfl ?_; try (refine Fn rfl rfl ?_; try (refine Ff rfl rfl ?_; try ((apply Dl; exact rfl; (repeat (first | exact .here | refine .there ?_)); exact rfl; exact rfl); try (refine Fm rfl rfl ?_; try (fail; try (fail; try (refine Fsm rfl rfl rfl rfl (by first | decide | omega) rfl ?_; try (fail; try (refine Fy rfl rfl ?_; try (refine GD_nil ?_)))))))))))))))))))))))
          | ((first | (apply GC_regionK (id := 6) [6, 37, 38, 39] (e' := [(6, _), (37, _), (38, _), (39, _)]); exact rfl) | refine GC_region (id := 6) ?_); try (refine xt rfl rfl rfl ?_; try (refine GL_nil ?_)))
          | ((first | (apply GC_regionK (id := 7) [6, 37, 38, 39] (e' := [(6, _), (37, _), (38, _), (39, _)]); exact rfl) | refine GC_region (id := 7) ?_); try ((first | refine xj rfl rfl (by first | decide | omega) rfl ?_ | refine xJ rfl rfl (by first | decide | omega) rfl ?_); try ((apply xl; exact rfl; (repeat (first | exact .here | refine .there ?_)); exact rfl; exact rfl); try (refine xa rfl rfl ?_; try (refine GL_nil ?_)))))
          | ((first | (apply GC_regionK (id := 8) [6, 9, 37, 38, 39] (e' := [(6, _), (9, _), (37, _), (38, _), (39, _)]); exact rfl) | refine GC_region (id := 8) ?_); try (refine xm rfl rfl ?_; try (refine xm rfl rfl ?_; try (fail; try (refine xz rfl rfl rfl (fun q => ?_); try (fail; try (refine xa rfl rfl ?_; try (refine GL_nil ?_))))))))
          | ((first | (apply GC_regionK (id := 9) [6, 37, 38, 39] (e' := [(6, _), (37, _), (38, _), (39, _)]); exact rfl) | refine GC_region (id := 9) ?_); try (refine xA rfl rfl rfl ?_; try (refine xm rfl rfl ?_; try (refine GL_nil ?_))))
          | ((first | (apply GC_regionK (id := 10) [6] (e' := [(6, _)]); exact rfl) | refine GC_region (id := 10) ?_); try (refine xm rfl rfl ?_; try (refine xa rfl rfl ?_; try (refine xa rfl rfl ?_; try (refine GL_nil ?_)))))
        · omega
        · refine GX_end (.inl rfl) (res2 rfl rfl rfl) (fun w H => .intro ⟨vl, ys, el :: (N' ++ N), rfl, ?_, ?_, ?_⟩)
          · have hkk : k = ys.length := by have := hsl.len; omega
            exact hsl.look (by simp)
          · rw [List.take_of_length_le (by omega)] at hyl
            exact hyl.sub (by intro x hx; simp [hx])
          · have := Own.swap (A := el :: (N' ++ N)) (B := [some (Hb, holdObj g.most g.octs (.slice pa g.sent.length ca) g.first (.slice pb g.next.length cb)), es, en]) (R := L) (by simpa [List.append_assoc] using H)
            simpa using this
    · have h9 : pa = none := by
        by_cases h7 : g.sent.length = (ringGap (ringPrev g.first) n).toNat
        · rw [if_pos h7] at hp; exact hp
        · rw [if_neg h7] at hp; simpa using hp
      have h8 := hza h9
      have h7 : us = [] := List.eq_nil_of_length_eq_zero (by omega)
      rw [h7]; simp
  · refine calls_of_GC' (vs := [Ptr Hb, U8 n]) [] Tryz.func93 rfl rfl rfl ?_ hw
    repeat' first
      | refine GC_seq ?_
      | refine GX_then ?_
      | refine GC_ret ?_
      | refine GX_then_ret ?_
      | refine GC_skip ?_
      | refine GC_block ?_
      | refine GX_block ?_
      | refine GX_block_ret ?_
      | refine GC_exit ?_
      | refine GX_then_exit ?_
      | refine GX_block_exit rfl ?_
      | refine GX_block_other rfl ?_
      | refine GC_true rfl ?_
      | refine GC_false rfl ?_
      | (apply GC_condT; exact rfl; (repeat (first | exact .dec | with_reducible apply Tell.or | with_reducible apply Tell.and | with_reducible apply Tell.not | exact .self)); all_goals (intro h; try contradiction))
      | ((first | (apply GC_regionK (id := 0) [0, 1] (e' := [(0, _), (1, _)]); exact rfl) | refine GC_region (id := 0) ?_); try (refine xa rfl rfl ?_; try (refine xa rfl rfl ?_; try (refine GL_nil ?_))))
      | ((first | (apply GC_regionK (id := 1) [0, 1] (e' := [(0, _), (1, _)]); exact rfl) | refine GC_region (id := 1) ?_); try (refine xm rfl rfl ?_; try (refine xm rfl rfl ?_; try ((refine GL_call rfl (fun w H => hold_Knows hh hR H) rfl ?_; rintro v w' ⟨rfl, H⟩; refine ⟨_, H, ?_⟩); try ((first | refine xO rfl rfl ?_ | refine xo rfl rfl ?_); try (refine GL_nil ?_))))))
      | ((first | (apply GC_regionK (id := 2) [] (e' := []); exact rfl) | refine GC_region (id := 2) ?_); try (refine xa rfl rfl ?_; try (refine xa rfl rfl ?_; try (refine GL_nil ?_))))
      | ((first | (apply GC_regionK (id := 3) [0, 1] (e' := [(0, _), (1, _)]); exact rfl) | refine GC_region (id := 3) ?_); try (refine xa rfl rfl ?_; try (refine GL_nil ?_)))
      | ((first | (apply GC_regionK (id := 4) [0, 1, 6] (e' := [(0, _), (1, _), (6, _)]); exact rfl) | refine GC_region (id := 4) ?_); try (refine xm rfl rfl ?_; try (refine xn rfl rfl ?_; try (refine xf rfl rfl ?_; try ((apply xl; exact rfl; (repeat (first | exact .here | refine .there ?_)); exact rfl; exact rfl); try (refine xy rfl rfl ?_; try (refine xa rfl rfl ?_; try (refine GL_nil ?_))))))))
      | ((first | (apply GC_drawK (id := 5) [0, 1, 6, 7] [(1, 0), (1, 1), (1, 2), (0, 3), (1, 4), (1, 5), (1, 6), (0, 7), (1, 9), (1, 11), (1, 12), (1, 14), (1, 15), (1, 16), (0, 17), (1, 20), (3, 8), (3, 10), (1, 13), (2, 18), (1, 19)] (e' := [(0, _), (1, _), (6, _), (7, _)]); exact rfl; exact mixed; kernel_rfl) | refine GC_draw (id := 5) [(1, 0), (1, 1), (1, 2), (0, 3), (1, 4), (1, 5), (1, 6), (0, 7), (1, 9), (1, 11), (1, 12), (1, 14), (1, 15), (1, 16), (0, 17), (1, 20), (3, 8), (3, 10), (1, 13), (2, 18), (1, 19)] mixed (by kernel_rfl) ?_); try (refine Fm rfl rfl ?_; try (refine Fn rfl rfl ?_; try (refine Ff rfl rfl ?_; try ((apply Dl; exact rfl; (repeat (first | exact .here | refine .there ?_)); exact rfl; exact rfl); try (refine Fm rfl rfl ?_; try (refine Fn rfl rfl ?_; try (refine Ff rfl rfl ?_; try ((apply Dl; exact rfl; (repeat (first | exact .here | refine .there ?_)); exact rfl; exact rfl); try (refine Fm rfl rfl ?_; try (refine Fm rfl rfl ?_; try (refine Fm rfl rfl ?_; try (refine Fm rfl rfl ?_; try (refine Fn rfl rfl ?_; try (refine Ff rfl rfl ?_; try ((apply Dl; exact rfl; (repeat (first | exact .here | refine .there ?_)); exact rfl; exact rfl); try (refine Fm rfl rfl ?_; try (fail; try (fail; try (refine Fsm rfl rfl rfl rfl (by first | decide | omega) rfl ?_; try (fail; try (refine Fy rfl rfl ?_; try (refine GD_nil ?_)))))))))))))))))))))))
      | ((first | (apply GC_regionK (id := 6) [6, 37, 38, 39] (e' := [(6, _), (37, _), (38, _), (39, _)]); exact rfl) | refine GC_region (id := 6) ?_); try (refine xt rfl rfl rfl ?_; try (refine GL_nil ?_)))
      | ((first | (apply GC_regionK (id := 7) [6, 37, 38, 39] (e' := [(6, _), (37, _), (38, _), (39, _)]); exact rfl) | refine GC_region (id := 7) ?_); try ((first | refine xj rfl rfl (by first | decide | omega) rfl ?_ | refine xJ rfl rfl (by first | decide | omega) rfl ?_); try ((apply xl; exact rfl; (repeat (first | exact .here | refine .there ?_)); exact rfl; exact rfl); try (refine xa rfl rfl ?_; try (refine GL_nil ?_)))))
      | ((first | (apply GC_regionK (id := 8) [6, 9, 37, 38, 39] (e' := [(6, _), (9, _), (37, _), (38, _), (39, _)]); exact rfl) | refine GC_region (id := 8) ?_); try (refine xm rfl rfl ?_; try (refine xm rfl rfl ?_; try (fail; try (refine xz rfl rfl rfl (fun q => ?_); try (fail; try (refine xa rfl rfl ?_; try (refine GL_nil ?_))))))))
      | ((first | (apply GC_regionK (id := 9) [6, 37, 38, 39] (e' := [(6, _), (37, _), (38, _), (39, _)]); exact rfl) | refine GC_region (id := 9) ?_); try (refine xA rfl rfl rfl ?_; try (refine xm rfl rfl ?_; try (refine GL_nil ?_))))
      | ((first | (apply GC_regionK (id := 10) [6] (e' := [(6, _)]); exact rfl) | refine GC_region (id := 10) ?_); try (refine xm rfl rfl ?_; try (refine xa rfl rfl ?_; try (refine xa rfl rfl ?_; try (refine GL_nil ?_)))))
    all_goals refine GX_end (.inl rfl) (res2 rfl rfl rfl) (fun w H => .intro ?_)
    all_goals (unfold Hd.rest; (repeat (first | (rw [if_pos]; rotate_left; (solve | assumption)) | (rw [if_neg]; rotate_left; (solve | assumption)))); exact ⟨_, [], [], rfl, .nil _ _, .nil, H⟩)
end
end Go.Sm
