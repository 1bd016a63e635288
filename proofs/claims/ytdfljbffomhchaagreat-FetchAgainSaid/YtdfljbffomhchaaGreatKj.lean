/- Holds: what package hold's methods do. -/
import Derived.Test.YtdfljbffomhchaaGreatKi
set_option linter.unusedVariables false
set_option linter.unusedSectionVars false
set_option maxRecDepth 10000
namespace Go.Sm
open Go.RowKit Go.Proofs

section
variable {w0 w : World} {L : List Ent}

theorem hold_size {v : Value} {us : List Value} {ps : List Msg} {R : List Ent} (hx : Look L 37 v us) (hp : Pays R us ps) (hl : ps.length ≤ 1000000) (hw : Own w0 w L) :
    Calls Tryz.prog 178 #[v] w (Ret fun v' w' => v' = I64 (szOf ps) ∧ Own w0 w' L) := by
  have hlen := hp.len
  obtain ⟨a, c, hv⟩ := hx.shape
  rw [hlen] at hv
  subst hv
  refine calls_of_GC' (vs := [.slice a ps.length c]) [] Tryz.func178 rfl rfl rfl ?_ hw
  repeat' first
    | refine GC_seq ?_
    | refine GX_then ?_
    | refine GC_ret ?_
    | refine GX_then_ret ?_
    | refine GC_skip ?_
    | refine GC_block ?_
    | refine GX_block ?_
    | refine GX_block_ret ?_
    | refine GC_exit ?_
    | refine GX_then_exit ?_
    | refine GX_block_exit rfl ?_
    | refine GX_block_other rfl ?_
    | refine GC_true rfl ?_
    | refine GC_false rfl ?_
    | (apply GC_condT; exact rfl; (repeat (first | exact .dec | with_reducible apply Tell.or | with_reducible apply Tell.and | with_reducible apply Tell.not | exact .self)); all_goals (intro h; try contradiction))
    | ((first | (apply GC_regionK (id := 0) [0] (e' := [(0, _)]); exact rfl) | refine GC_region (id := 0) ?_); try (refine xa rfl rfl ?_; try (refine GL_nil ?_)))
    | ((first | (apply GC_regionK (id := 1) [0] (e' := [(0, _)]); exact rfl) | refine GC_region (id := 1) ?_); try (refine xa rfl rfl ?_; try (refine GL_nil ?_)))
    | ((first | (apply GC_regionK (id := 2) [0, 3] (e' := [(0, _), (3, _)]); exact rfl) | refine GC_region (id := 2) ?_); try (refine xm rfl rfl ?_; try (refine xy rfl rfl ?_; try (refine xm rfl rfl ?_; try (refine GL_nil ?_)))))
    | ((first | (apply GC_regionK (id := 3) [3, 6, 7, 8] (e' := [(3, _), (6, _), (7, _), (8, _)]); exact rfl) | refine GC_region (id := 3) ?_); try (refine xt rfl rfl rfl ?_; try (refine GL_nil ?_)))
    | ((first | (apply GC_regionK (id := 4) [3, 6, 7, 8] (e' := [(3, _), (6, _), (7, _), (8, _)]); exact rfl) | refine GC_region (id := 4) ?_); try ((first | refine xj rfl rfl (by first | decide | omega) rfl ?_ | refine xJ rfl rfl (by first | decide | omega) rfl ?_); try ((first | (apply xl; exact rfl; (repeat (first | exact .here | refine .there ?_)); exact rfl; exact rfl) | (apply xL; exact rfl; (repeat (first | exact .here | refine .there ?_)); exact rfl; exact rfl)); try (refine xa rfl rfl ?_; try (refine GL_nil ?_)))))
    | ((first | (apply GC_regionK (id := 5) [3, 5, 6, 7, 8] (e' := [(3, _), (5, _), (6, _), (7, _), (8, _)]); exact rfl) | refine GC_region (id := 5) ?_); try (refine xm rfl rfl ?_; try (refine xm rfl rfl ?_; try (refine xy rfl rfl ?_; try (refine xA rfl rfl rfl ?_; try (refine xa rfl rfl ?_; try (refine GL_nil ?_)))))))
    | ((first | (apply GC_regionK (id := 6) [3, 6, 7, 8] (e' := [(3, _), (6, _), (7, _), (8, _)]); exact rfl) | refine GC_region (id := 6) ?_); try (refine xA rfl rfl rfl ?_; try (refine xm rfl rfl ?_; try (refine GL_nil ?_))))
    | ((first | (apply GC_regionK (id := 7) [3] (e' := [(3, _)]); exact rfl) | refine GC_region (id := 7) ?_); try (refine xm rfl rfl ?_; try (refine xa rfl rfl ?_; try (refine GL_nil ?_))))
  refine GC_keep [8, 7, 6, 3] (GC_loop (ι := Nat) (fun k e L' => k ≤ ps.length ∧ e = [(8, I64 k), (7, I64 ps.length), (6, .slice a ps.length c), (3, I64 (szOf (ps.take k)))] ∧ L' = L) (fun k => ps.length - k) 0 ⟨by omega, rfl, rfl⟩ ?_)
  rintro k e L' ⟨hk, rfl, rfl⟩
  by_cases hlt : k < ps.length
  · obtain ⟨q, k0, c', pre, post, he, hk0, fz, hf⟩ := hx.find (fun e => by rw [e] at hlen; simp at hlen; omega)
    injection he with e1 e2 e3
    subst e1
    obtain ⟨u, hu, hpu⟩ := hp.get hlt
    obtain ⟨ua, uc, rfl⟩ := hpu.shape
    repeat' first
      | (refine xl rfl hf (nth_mid hk0 (show k0 + (k : Int).toNat * 1 = k0 + k by omega) hu) rfl ?_)
      | refine GC_seq ?_
      | refine GX_then ?_
      | refine GC_ret ?_
      | refine GX_then_ret ?_
      | refine GC_skip ?_
      | refine GC_block ?_
      | refine GX_block ?_
      | refine GX_block_ret ?_
      | refine GC_exit ?_
      | refine GX_then_exit ?_
      | refine GX_block_exit rfl ?_
      | refine GX_block_other rfl ?_
      | refine GC_true rfl ?_
      | refine GC_false rfl ?_
      | (apply GC_condT; exact rfl; (repeat (first | exact .dec | with_reducible apply Tell.or | with_reducible apply Tell.and | with_reducible apply Tell.not | exact .self)); all_goals (intro h; try contradiction))
      | ((first | (apply GC_regionK (id := 0) [0] (e' := [(0, _)]); exact rfl) | refine GC_region (id := 0) ?_); try (refine xa rfl rfl ?_; try (refine GL_nil ?_)))
      | ((first | (apply GC_regionK (id := 1) [0] (e' := [(0, _)]); exact rfl) | refine GC_region (id := 1) ?_); try (refine xa rfl rfl ?_; try (refine GL_nil ?_)))
      | ((first | (apply GC_regionK (id := 2) [0, 3] (e' := [(0, _), (3, _)]); exact rfl) | refine GC_region (id := 2) ?_); try (refine xm rfl rfl ?_; try (refine xy rfl rfl ?_; try (refine xm rfl rfl ?_; try (refine GL_nil ?_)))))
      | ((first | (apply GC_regionK (id := 3) [3, 6, 7, 8] (e' := [(3, _), (6, _), (7, _), (8, _)]); exact rfl) | refine GC_region (id := 3) ?_); try (refine xt rfl rfl rfl ?_; try (refine GL_nil ?_)))
      | ((first | (apply GC_regionK (id := 4) [3, 6, 7, 8] (e' := [(3, _), (6, _), (7, _), (8, _)]); exact rfl) | refine GC_region (id := 4) ?_); try ((first | refine xj rfl rfl (by first | decide | omega) rfl ?_ | refine xJ rfl rfl (by first | decide | omega) rfl ?_); try ((first | (refine xl rfl hf (nth_mid hk0 (show k0 + (k : Int).toNat * 1 = k0 + k by omega) hu) rfl ?_) | (apply xl; exact rfl; (repeat (first | exact .here | refine .there ?_)); exact rfl; exact rfl) | (apply xL; exact rfl; (repeat (first | exact .here | refine .there ?_)); exact rfl; exact rfl)); try (refine xa rfl rfl ?_; try (refine GL_nil ?_)))))
      | ((first | (apply GC_regionK (id := 5) [3, 5, 6, 7, 8] (e' := [(3, _), (5, _), (6, _), (7, _), (8, _)]); exact rfl) | refine GC_region (id := 5) ?_); try (refine xm rfl rfl ?_; try (refine xm rfl rfl ?_; try (refine xy rfl rfl ?_; try (refine xA rfl rfl rfl ?_; try (refine xa rfl rfl ?_; try (refine GL_nil ?_)))))))
      | ((first | (apply GC_regionK (id := 6) [3, 6, 7, 8] (e' := [(3, _), (6, _), (7, _), (8, _)]); exact rfl) | refine GC_region (id := 6) ?_); try (refine xA rfl rfl rfl ?_; try (refine xm rfl rfl ?_; try (refine GL_nil ?_))))
      | ((first | (apply GC_regionK (id := 7) [3] (e' := [(3, _)]); exact rfl) | refine GC_region (id := 7) ?_); try (refine xm rfl rfl ?_; try (refine xa rfl rfl ?_; try (refine GL_nil ?_))))
    · refine GX_keep [8, 7, 6, 3] (GX_loop (k + 1) ⟨by omega, ?_, rfl⟩ (by omega))
      show [(8, I64 (IntKind.i64.wrap ((k : Int) + 1))), (7, _), (6, _), (3, I64 (w64 (szOf (ps.take k) + _)))] = _
      rw [wrap_nat (by omega), szOf_take hlt]
    · omega
  · repeat' first
      | refine GC_seq ?_
      | refine GX_then ?_
      | refine GC_ret ?_
      | refine GX_then_ret ?_
      | refine GC_skip ?_
      | refine GC_block ?_
      | refine GX_block ?_
      | refine GX_block_ret ?_
      | refine GC_exit ?_
      | refine GX_then_exit ?_
      | refine GX_block_exit rfl ?_
      | refine GX_block_other rfl ?_
      | refine GC_true rfl ?_
      | refine GC_false rfl ?_
      | (apply GC_condT; exact rfl; (repeat (first | exact .dec | with_reducible apply Tell.or | with_reducible apply Tell.and | with_reducible apply Tell.not | exact .self)); all_goals (intro h; try contradiction))
      | ((first | (apply GC_regionK (id := 0) [0] (e' := [(0, _)]); exact rfl) | refine GC_region (id := 0) ?_); try (refine xa rfl rfl ?_; try (refine GL_nil ?_)))
      | ((first | (apply GC_regionK (id := 1) [0] (e' := [(0, _)]); exact rfl) | refine GC_region (id := 1) ?_); try (refine xa rfl rfl ?_; try (refine GL_nil ?_)))
      | ((first | (apply GC_regionK (id := 2) [0, 3] (e' := [(0, _), (3, _)]); exact rfl) | refine GC_region (id := 2) ?_); try (refine xm rfl rfl ?_; try (refine xy rfl rfl ?_; try (refine xm rfl rfl ?_; try (refine GL_nil ?_)))))
      | ((first | (apply GC_regionK (id := 3) [3, 6, 7, 8] (e' := [(3, _), (6, _), (7, _), (8, _)]); exact rfl) | refine GC_region (id := 3) ?_); try (refine xt rfl rfl rfl ?_; try (refine GL_nil ?_)))
      | ((first | (apply GC_regionK (id := 4) [3, 6, 7, 8] (e' := [(3, _), (6, _), (7, _), (8, _)]); exact rfl) | refine GC_region (id := 4) ?_); try ((first | refine xj rfl rfl (by first | decide | omega) rfl ?_ | refine xJ rfl rfl (by first | decide | omega) rfl ?_); try ((first | (apply xl; exact rfl; (repeat (first | exact .here | refine .there ?_)); exact rfl; exact rfl) | (apply xL; exact rfl; (repeat (first | exact .here | refine .there ?_)); exact rfl; exact rfl)); try (refine xa rfl rfl ?_; try (refine GL_nil ?_)))))
      | ((first | (apply GC_regionK (id := 5) [3, 5, 6, 7, 8] (e' := [(3, _), (5, _), (6, _), (7, _), (8, _)]); exact rfl) | refine GC_region (id := 5) ?_); try (refine xm rfl rfl ?_; try (refine xm rfl rfl ?_; try (refine xy rfl rfl ?_; try (refine xA rfl rfl rfl ?_; try (refine xa rfl rfl ?_; try (refine GL_nil ?_)))))))
      | ((first | (apply GC_regionK (id := 6) [3, 6, 7, 8] (e' := [(3, _), (6, _), (7, _), (8, _)]); exact rfl) | refine GC_region (id := 6) ?_); try (refine xA rfl rfl rfl ?_; try (refine xm rfl rfl ?_; try (refine GL_nil ?_))))
      | ((first | (apply GC_regionK (id := 7) [3] (e' := [(3, _)]); exact rfl) | refine GC_region (id := 7) ?_); try (refine xm rfl rfl ?_; try (refine xa rfl rfl ?_; try (refine GL_nil ?_))))
    · omega
    · refine GX_end (.inl rfl) (res1 rfl rfl) (fun w H => .intro ⟨by rw [List.take_of_length_le (by omega)], H⟩)
end

section
variable {w0 w : World} {R L : List Ent} {H : Nat} {h : Hd} {o : Obj} {es en : Ent} [hk : HdOk h]
include hk

theorem hold_Octets (hh : HdAt R h o es en) (hR : ∀ x, x ∈ R → x ∈ L) (hw : Own w0 w (some (H, o) :: es :: en :: L)) :
    Calls Tryz.prog 144 #[Ptr H] w (Ret fun v w' => v = I64 h.size ∧ Own w0 w' (some (H, o) :: es :: en :: L)) := by
  obtain ⟨vs, us, vn, un, rfl, hs, hps, hn, hpn⟩ := hh.out
  obtain ⟨pa, ca, rfl, hca, hma, hza⟩ := hs.cap
  obtain ⟨pb, cb, rfl, hcb, hmb, hzb⟩ := hn.cap
  have hls : Look (some (H, holdObj h.most h.octs (.slice pa h.sent.length ca) h.first (.slice pb h.next.length cb)) :: es :: en :: L) 37 _ us := hs.look (by simp)
  have hln : Look (some (H, holdObj h.most h.octs (.slice pa h.sent.length ca) h.first (.slice pb h.next.length cb)) :: es :: en :: L) 37 _ un := hn.look (by simp)
  have hk1 := hk.most; have hk2 := hk.len; have hk3 := hk.win; have hk4 := hk.first; have hk5 := hk.pay
  refine calls_of_GC' (vs := [Ptr H]) [] Tryz.func144 rfl rfl rfl ?_ hw
  repeat' first
    | refine GC_seq ?_
    | refine GX_then ?_
    | refine GC_ret ?_
    | refine GX_then_ret ?_
    | refine GC_skip ?_
    | refine GC_true rfl ?_
    | refine GC_false rfl ?_
    | (apply GC_condT; exact rfl; (repeat (first | exact .dec | with_reducible apply Tell.or | with_reducible apply Tell.and | with_reducible apply Tell.not | exact .self)); all_goals (intro h; try contradiction))
    | ((first | (apply GC_regionK (id := 0) [0] (e' := [(0, _)]); exact rfl) | refine GC_region (id := 0) ?_); try (refine xa rfl rfl ?_; try (refine GL_nil ?_)))
    | ((first | (apply GC_regionK (id := 1) [0] (e' := [(0, _)]); exact rfl) | refine GC_region (id := 1) ?_); try (refine xm rfl rfl ?_; try ((first | refine xq rfl rfl rfl ?_ | refine xp rfl rfl rfl ?_ | refine xzq rfl rfl rfl ?_ | refine xbe rfl rfl rfl ?_ | refine xiq rfl rfl rfl ?_ | refine xse rfl rfl rfl ?_); try (refine GL_nil ?_))))
    | ((first | (apply GC_regionK (id := 2) [] (e' := []); exact rfl) | refine GC_region (id := 2) ?_); try (refine xa rfl rfl ?_; try (refine GL_nil ?_)))
    | ((first | (apply GC_drawK (id := 3) [0] [(1, 0), (1, 1), (1, 2), (0, 3), (1, 5), (1, 6), (1, 7), (0, 8), (3, 4), (2, 9), (1, 10), (1, 11)] (e' := [(0, _)]); exact rfl; exact mixed; kernel_rfl) | refine GC_draw (id := 3) [(1, 0), (1, 1), (1, 2), (0, 3), (1, 5), (1, 6), (1, 7), (0, 8), (3, 4), (2, 9), (1, 10), (1, 11)] mixed (by kernel_rfl) ?_); try (refine Fm rfl rfl ?_; try (refine Fn rfl rfl ?_; try (refine Ff rfl rfl ?_; try ((first | (apply Dl; exact rfl; (repeat (first | exact .here | refine .there ?_)); exact rfl; exact rfl) | (apply DL; exact rfl; (repeat (first | exact .here | refine .there ?_)); exact rfl; exact rfl)); try (refine Fm rfl rfl ?_; try (refine Fn rfl rfl ?_; try (refine Ff rfl rfl ?_; try ((first | (apply Dl; exact rfl; (repeat (first | exact .here | refine .there ?_)); exact rfl; exact rfl) | (apply DL; exact rfl; (repeat (first | exact .here | refine .there ?_)); exact rfl; exact rfl)); try ((first | (refine GD_callE rfl (fun w H => hold_size hls hps (by omega) H) rfl ?_; rintro v w' ⟨rfl, H⟩; refine ⟨_, H, fun w h => h, ?_⟩) | (refine GD_callE rfl (fun w H => hold_size hln hpn (by omega) H) rfl ?_; rintro v w' ⟨rfl, H⟩; refine ⟨_, H, fun w h => h, ?_⟩)); try ((refine GD_call rfl (fun w H => hold_size hln hpn (by omega) H) rfl ?_; rintro v w' ⟨rfl, H⟩; refine ⟨_, H, ?_⟩); try (refine FA rfl rfl rfl ?_; try (refine Fa rfl rfl ?_; try (refine GD_nil ?_))))))))))))))
  refine GX_end (.inl rfl) (res1 rfl rfl) (fun w H => .intro ⟨rfl, H⟩)

theorem hold_Waiting (hh : HdAt R h o es en) (hR : ∀ x, x ∈ R → x ∈ L) (hw : Own w0 w (some (H, o) :: es :: en :: L)) :
    Calls Tryz.prog 244 #[Ptr H] w (Ret fun v w' => v = I64 h.waiting ∧ Own w0 w' (some (H, o) :: es :: en :: L)) := by
  obtain ⟨vs, us, vn, un, rfl, hs, hps, hn, hpn⟩ := hh.out
  obtain ⟨pa, ca, rfl, hca, hma, hza⟩ := hs.cap
  obtain ⟨pb, cb, rfl, hcb, hmb, hzb⟩ := hn.cap
  have hls : Look (some (H, holdObj h.most h.octs (.slice pa h.sent.length ca) h.first (.slice pb h.next.length cb)) :: es :: en :: L) 37 _ us := hs.look (by simp)
  have hln : Look (some (H, holdObj h.most h.octs (.slice pa h.sent.length ca) h.first (.slice pb h.next.length cb)) :: es :: en :: L) 37 _ un := hn.look (by simp)
  have hk1 := hk.most; have hk2 := hk.len; have hk3 := hk.win; have hk4 := hk.first; have hk5 := hk.pay
  refine calls_of_GC' (vs := [Ptr H]) [] Tryz.func244 rfl rfl rfl ?_ hw
  repeat' first
    | refine GC_seq ?_
    | refine GX_then ?_
    | refine GC_ret ?_
    | refine GX_then_ret ?_
    | refine GC_skip ?_
    | refine GC_true rfl ?_
    | refine GC_false rfl ?_
    | (apply GC_condT; exact rfl; (repeat (first | exact .dec | with_reducible apply Tell.or | with_reducible apply Tell.and | with_reducible apply Tell.not | exact .self)); all_goals (intro h; try contradiction))
    | ((first | (apply GC_regionK (id := 0) [0] (e' := [(0, _)]); exact rfl) | refine GC_region (id := 0) ?_); try (refine xa rfl rfl ?_; try (refine GL_nil ?_)))
    | ((first | (apply GC_regionK (id := 1) [0] (e' := [(0, _)]); exact rfl) | refine GC_region (id := 1) ?_); try (refine xm rfl rfl ?_; try ((first | refine xq rfl rfl rfl ?_ | refine xp rfl rfl rfl ?_ | refine xzq rfl rfl rfl ?_ | refine xbe rfl rfl rfl ?_ | refine xiq rfl rfl rfl ?_ | refine xse rfl rfl rfl ?_); try (refine GL_nil ?_))))
    | ((first | (apply GC_regionK (id := 2) [] (e' := []); exact rfl) | refine GC_region (id := 2) ?_); try (refine xa rfl rfl ?_; try (refine GL_nil ?_)))
    | ((first | (apply GC_regionK (id := 3) [0] (e' := [(0, _)]); exact rfl) | refine GC_region (id := 3) ?_); try (refine xm rfl rfl ?_; try (refine xn rfl rfl ?_; try (refine xf rfl rfl ?_; try ((first | (apply xl; exact rfl; (repeat (first | exact .here | refine .there ?_)); exact rfl; exact rfl) | (apply xL; exact rfl; (repeat (first | exact .here | refine .there ?_)); exact rfl; exact rfl)); try ((refine GL_call rfl (fun w H => hold_size hls hps (by omega) H) rfl ?_; rintro v w' ⟨rfl, H⟩; refine ⟨_, H, ?_⟩); try (refine xa rfl rfl ?_; try (refine GL_nil ?_))))))))
  refine GX_end (.inl rfl) (res1 rfl rfl) (fun w H => .intro ⟨rfl, H⟩)

theorem hold_Last (hh : HdAt R h o es en) (hR : ∀ x, x ∈ R → x ∈ L) (hw : Own w0 w (some (H, o) :: es :: en :: L)) :
    Calls Tryz.prog 177 #[Ptr H] w (Ret fun v w' => v = U8 h.last ∧ Own w0 w' (some (H, o) :: es :: en :: L)) := by
  obtain ⟨vs, us, vn, un, rfl, hs, hps, hn, hpn⟩ := hh.out
  obtain ⟨pa, ca, rfl, hca, hma, hza⟩ := hs.cap
  obtain ⟨pb, cb, rfl, hcb, hmb, hzb⟩ := hn.cap
  have hls : Look (some (H, holdObj h.most h.octs (.slice pa h.sent.length ca) h.first (.slice pb h.next.length cb)) :: es :: en :: L) 37 _ us := hs.look (by simp)
  have hln : Look (some (H, holdObj h.most h.octs (.slice pa h.sent.length ca) h.first (.slice pb h.next.length cb)) :: es :: en :: L) 37 _ un := hn.look (by simp)
  have hk1 := hk.most; have hk2 := hk.len; have hk3 := hk.win; have hk4 := hk.first; have hk5 := hk.pay
  refine calls_of_GC' (vs := [Ptr H]) [] Tryz.func177 rfl rfl rfl ?_ hw
  repeat' first
    | refine GC_seq ?_
    | refine GX_then ?_
    | refine GC_ret ?_
    | refine GX_then_ret ?_
    | refine GC_skip ?_
    | refine GC_true rfl ?_
    | refine GC_false rfl ?_
    | (apply GC_condT; exact rfl; (repeat (first | exact .dec | with_reducible apply Tell.or | with_reducible apply Tell.and | with_reducible apply Tell.not | exact .self)); all_goals (intro h; try contradiction))
    | ((first | (apply GC_regionK (id := 0) [0] (e' := [(0, _)]); exact rfl) | refine GC_region (id := 0) ?_); try (refine xa rfl rfl ?_; try (refine GL_nil ?_)))
    | ((first | (apply GC_regionK (id := 1) [0] (e' := [(0, _)]); exact rfl) | refine GC_region (id := 1) ?_); try (refine xm rfl rfl ?_; try ((first | refine xq rfl rfl rfl ?_ | refine xp rfl rfl rfl ?_ | refine xzq rfl rfl rfl ?_ | refine xbe rfl rfl rfl ?_ | refine xiq rfl rfl rfl ?_ | refine xse rfl rfl rfl ?_); try (refine GL_nil ?_))))
    | ((first | (apply GC_regionK (id := 2) [] (e' := []); exact rfl) | refine GC_region (id := 2) ?_); try (refine xa rfl rfl ?_; try (refine GL_nil ?_)))
    | ((first | (apply GC_drawK (id := 3) [0] [(1, 0), (1, 1), (1, 2), (0, 3), (1, 4), (1, 5), (1, 6), (1, 7), (0, 8), (1, 9), (1, 10), (1, 11), (2, 12), (1, 13)] (e' := [(0, _)]); exact rfl; exact mixed; kernel_rfl) | refine GC_draw (id := 3) [(1, 0), (1, 1), (1, 2), (0, 3), (1, 4), (1, 5), (1, 6), (1, 7), (0, 8), (1, 9), (1, 10), (1, 11), (2, 12), (1, 13)] mixed (by kernel_rfl) ?_); try (refine Fm rfl rfl ?_; try (refine Fn rfl rfl ?_; try (refine Ff rfl rfl ?_; try ((first | (apply Dl; exact rfl; (repeat (first | exact .here | refine .there ?_)); exact rfl; exact rfl) | (apply DL; exact rfl; (repeat (first | exact .here | refine .there ?_)); exact rfl; exact rfl)); try (refine Fc rfl rfl ?_; try (refine Fm rfl rfl ?_; try (refine Fn rfl rfl ?_; try (refine Ff rfl rfl ?_; try ((first | (apply Dl; exact rfl; (repeat (first | exact .here | refine .there ?_)); exact rfl; exact rfl) | (apply DL; exact rfl; (repeat (first | exact .here | refine .there ?_)); exact rfl; exact rfl)); try (refine Fy rfl rfl ?_; try (refine FA rfl rfl rfl ?_; try (refine FB rfl rfl rfl ?_; try ((refine GD_call rfl (fun w H => ring_At H) rfl ?_; rintro v w' ⟨rfl, H⟩; refine ⟨_, H, ?_⟩); try (refine Fa rfl rfl ?_; try (refine GD_nil ?_))))))))))))))))
  refine GX_end (.inl rfl) (res1 rfl rfl) (fun w H => .intro ⟨?_, H⟩)
  unfold Hd.last
  show U8 (ringAt (w64 (w64 (w64 h.first + _) - 1))) = _
  rw [w64_id (n := h.first) (by omega)]

theorem hold_Size (hh : HdAt R h o es en) (hR : ∀ x, x ∈ R → x ∈ L) (hw : Own w0 w (some (H, o) :: es :: en :: L)) :
    Calls Tryz.prog 245 #[Ptr H] w (Ret fun v w' => v = I64 h.sizeN ∧ Own w0 w' (some (H, o) :: es :: en :: L)) := by
  obtain ⟨vs, us, vn, un, rfl, hs, hps, hn, hpn⟩ := hh.out
  obtain ⟨pa, ca, rfl, hca, hma, hza⟩ := hs.cap
  obtain ⟨pb, cb, rfl, hcb, hmb, hzb⟩ := hn.cap
  have hls : Look (some (H, holdObj h.most h.octs (.slice pa h.sent.length ca) h.first (.slice pb h.next.length cb)) :: es :: en :: L) 37 _ us := hs.look (by simp)
  have hln : Look (some (H, holdObj h.most h.octs (.slice pa h.sent.length ca) h.first (.slice pb h.next.length cb)) :: es :: en :: L) 37 _ un := hn.look (by simp)
  have hk1 := hk.most; have hk2 := hk.len; have hk3 := hk.win; have hk4 := hk.first; have hk5 := hk.pay
  by_cases h0 : (h.next.length : Int) = 0
  · refine calls_of_GC' (vs := [Ptr H]) [] Tryz.func245 rfl rfl rfl ?_ hw
    repeat' first
      | refine GC_seq ?_
      | refine GX_then ?_
      | refine GC_ret ?_
      | refine GX_then_ret ?_
      | refine GC_skip ?_
      | refine GC_true rfl ?_
      | refine GC_false rfl ?_
      | (apply GC_condT; exact rfl; (repeat (first | exact .dec | with_reducible apply Tell.or | with_reducible apply Tell.and | with_reducible apply Tell.not | exact .self)); all_goals (intro h; try contradiction))
      | ((first | (apply GC_regionK (id := 0) [0] (e' := [(0, _)]); exact rfl) | refine GC_region (id := 0) ?_); try (refine xa rfl rfl ?_; try (refine GL_nil ?_)))
      | ((first | (apply GC_regionK (id := 1) [0] (e' := [(0, _)]); exact rfl) | refine GC_region (id := 1) ?_); try (refine xm rfl rfl ?_; try ((refine GL_call rfl (fun w H => hold_Next H) rfl ?_; rintro v w' ⟨rfl, H⟩; refine ⟨_, H, ?_⟩); try ((first | refine xq rfl rfl rfl ?_ | refine xp rfl rfl rfl ?_ | refine xzq rfl rfl rfl ?_ | refine xbe rfl rfl rfl ?_ | refine xiq rfl rfl rfl ?_ | refine xse rfl rfl rfl ?_); try (refine GL_nil ?_)))))
      | ((first | (apply GC_regionK (id := 2) [] (e' := []); exact rfl) | refine GC_region (id := 2) ?_); try (refine xa rfl rfl ?_; try (refine GL_nil ?_)))
      | ((first | (apply GC_regionK (id := 3) [0] (e' := [(0, _)]); exact rfl) | refine GC_region (id := 3) ?_); try (refine xm rfl rfl ?_; try (refine xn rfl rfl ?_; try (refine xf rfl rfl ?_; try ((first | (apply xl; exact rfl; (repeat (first | exact .here | refine .there ?_)); exact rfl; exact rfl) | (apply xL; exact rfl; (repeat (first | exact .here | refine .there ?_)); exact rfl; exact rfl)); try ((first | refine xj rfl rfl (by first | decide | omega) rfl ?_ | refine xJ rfl rfl (by first | decide | omega) rfl ?_); try ((first | (apply xl; exact rfl; (repeat (first | exact .here | refine .there ?_)); exact rfl; exact rfl) | (apply xL; exact rfl; (repeat (first | exact .here | refine .there ?_)); exact rfl; exact rfl)); try (refine xy rfl rfl ?_; try (refine xa rfl rfl ?_; try (refine GL_nil ?_))))))))))
    all_goals refine GX_end (.inl rfl) (res1 rfl rfl) (fun w H => .intro ⟨?_, H⟩)
    all_goals (unfold Hd.sizeN; (repeat (first | (rw [if_pos]; rotate_left; (solve | assumption)) | (rw [if_neg]; rotate_left; (solve | assumption)))))
  · obtain ⟨q, k0, c', pre, post, he, hk0, fz, hf⟩ := hln.find (fun e => by have := hpn.len; rw [e] at this; simp at this; omega)
    injection he with e1 e2 e3
    subst e1
    obtain ⟨u, hu, hpu⟩ := hpn.get (k := 0) (by omega)
    obtain ⟨ua, uc, rfl⟩ := hpu.shape
    refine calls_of_GC' (vs := [Ptr H]) [] Tryz.func245 rfl rfl rfl ?_ hw
    repeat' first
      | (refine xl rfl hf (nth_mid hk0 rfl hu) rfl ?_)
      | refine GC_seq ?_
      | refine GX_then ?_
      | refine GC_ret ?_
      | refine GX_then_ret ?_
      | refine GC_skip ?_
      | refine GC_true rfl ?_
      | refine GC_false rfl ?_
      | (apply GC_condT; exact rfl; (repeat (first | exact .dec | with_reducible apply Tell.or | with_reducible apply Tell.and | with_reducible apply Tell.not | exact .self)); all_goals (intro h; try contradiction))
      | ((first | (apply GC_regionK (id := 0) [0] (e' := [(0, _)]); exact rfl) | refine GC_region (id := 0) ?_); try (refine xa rfl rfl ?_; try (refine GL_nil ?_)))
      | ((first | (apply GC_regionK (id := 1) [0] (e' := [(0, _)]); exact rfl) | refine GC_region (id := 1) ?_); try (refine xm rfl rfl ?_; try ((first | (refine GL_call rfl (fun w H => hold_Next H) rfl ?_; rintro v w' ⟨rfl, H⟩; refine ⟨_, H, ?_⟩) | (refine xl rfl hf (nth_mid hk0 rfl hu) rfl ?_)); try ((first | refine xq rfl rfl rfl ?_ | refine xp rfl rfl rfl ?_ | refine xzq rfl rfl rfl ?_ | refine xbe rfl rfl rfl ?_ | refine xiq rfl rfl rfl ?_ | refine xse rfl rfl rfl ?_); try (refine GL_nil ?_)))))
      | ((first | (apply GC_regionK (id := 2) [] (e' := []); exact rfl) | refine GC_region (id := 2) ?_); try (refine xa rfl rfl ?_; try (refine GL_nil ?_)))
      | ((first | (apply GC_regionK (id := 3) [0] (e' := [(0, _)]); exact rfl) | refine GC_region (id := 3) ?_); try (refine xm rfl rfl ?_; try (refine xn rfl rfl ?_; try (refine xf rfl rfl ?_; try ((first | (refine xl rfl hf (nth_mid hk0 rfl hu) rfl ?_) | (apply xl; exact rfl; (repeat (first | exact .here | refine .there ?_)); exact rfl; exact rfl) | (apply xL; exact rfl; (repeat (first | exact .here | refine .there ?_)); exact rfl; exact rfl)); try ((first | refine xj rfl rfl (by first | decide | omega) rfl ?_ | refine xJ rfl rfl (by first | decide | omega) rfl ?_); try ((first | (refine xl rfl hf (nth_mid hk0 rfl hu) rfl ?_) | (apply xl; exact rfl; (repeat (first | exact .here | refine .there ?_)); exact rfl; exact rfl) | (apply xL; exact rfl; (repeat (first | exact .here | refine .there ?_)); exact rfl; exact rfl)); try (refine xy rfl rfl ?_; try (refine xa rfl rfl ?_; try (refine GL_nil ?_))))))))))
    all_goals refine GX_end (.inl rfl) (res1 rfl rfl) (fun w H => .intro ⟨?_, H⟩)
    all_goals (unfold Hd.sizeN; (repeat (first | (rw [if_pos]; rotate_left; (solve | assumption)) | (rw [if_neg]; rotate_left; (solve | assumption)))))

theorem hold_Knows {n : Int} (hh : HdAt R h o es en) (hR : ∀ x, x ∈ R → x ∈ L) (hw : Own w0 w (some (H, o) :: es :: en :: L)) :
    Calls Tryz.prog 133 #[Ptr H, U8 n] w (Ret fun v w' => v = .bool (h.knows n) ∧ Own w0 w' (some (H, o) :: es :: en :: L)) := by
  obtain ⟨vs, us, vn, un, rfl, hs, hps, hn, hpn⟩ := hh.out
  obtain ⟨pa, ca, rfl, hca, hma, hza⟩ := hs.cap
  obtain ⟨pb, cb, rfl, hcb, hmb, hzb⟩ := hn.cap
  have hls : Look (some (H, holdObj h.most h.octs (.slice pa h.sent.length ca) h.first (.slice pb h.next.length cb)) :: es :: en :: L) 37 _ us := hs.look (by simp)
  have hln : Look (some (H, holdObj h.most h.octs (.slice pa h.sent.length ca) h.first (.slice pb h.next.length cb)) :: es :: en :: L) 37 _ un := hn.look (by simp)
  have hk1 := hk.most; have hk2 := hk.len; have hk3 := hk.win; have hk4 := hk.first; have hk5 := hk.pay
  refine calls_of_GC' (vs := [Ptr H, U8 n]) [] Tryz.func133 rfl rfl rfl ?_ hw
  repeat' first
    | refine GC_seq ?_
    | refine GX_then ?_
    | refine GC_ret ?_
    | refine GX_then_ret ?_
    | ((first | (apply GC_regionK (id := 0) [0, 1] (e' := [(0, _), (1, _)]); exact rfl) | refine GC_region (id := 0) ?_); try (refine xa rfl rfl ?_; try (refine GL_nil ?_)))
    | ((first | (apply GC_regionK (id := 1) [0, 1] (e' := [(0, _), (1, _)]); exact rfl) | refine GC_region (id := 1) ?_); try (refine xm rfl rfl ?_; try ((first | refine xQ rfl rfl rfl ?_ | refine xP rfl rfl rfl ?_ | refine xzQ rfl rfl rfl ?_ | refine xbn rfl rfl rfl ?_ | refine xiQ rfl rfl rfl ?_ | refine xns rfl rfl rfl ?_); try (refine xm rfl rfl ?_; try ((first | (refine GL_on rfl rfl ?_; try (refine xm rfl rfl ?_; try (refine GL_on rfl rfl ?_; try (refine xt rfl rfl rfl ?_; try ((first | refine xk rfl rfl rfl ?_ | refine xK rfl rfl rfl ?_)))))) | (refine GL_off rfl rfl rfl ?_; try ((first | refine GL_off rfl rfl rfl ?_ | refine GL_offU rfl rfl rfl ?_); try ((first | refine xk rfl rfl rfl ?_ | refine xK rfl rfl rfl ?_)))) | (apply GL_and (d := 10); exact rfl; exact rfl; (repeat (first | exact .dec | with_reducible apply Tell.or | with_reducible apply Tell.and | with_reducible apply Tell.not | exact .self)); intro h K10; (refine GL_on rfl rfl ?_; try (refine xm rfl rfl ?_; try (refine GL_on rfl rfl ?_; try (refine xt rfl rfl rfl ?_; try ((first | refine xk rfl rfl rfl ?_ | refine xK rfl rfl rfl ?_); try (exact GL_close K10 (by repeat (first | exact .refl | refine .cons rfl ?_)))))))); intro h K10; ((first | refine GL_off rfl rfl rfl ?_ | refine GL_offU rfl rfl rfl ?_); try ((first | refine GL_off rfl rfl rfl ?_ | refine GL_offU rfl rfl rfl ?_); try ((first | refine xk rfl rfl rfl ?_ | refine xK rfl rfl rfl ?_); try (exact GL_close K10 (by repeat (first | exact .refl | refine .cons rfl ?_))))))) | (refine ys rfl rfl (fun hG => ?_) (fun hG => ?_) <;> (first | (refine GL_on rfl rfl ?_; try (refine xm rfl rfl ?_; try (refine GL_on rfl rfl ?_; try (refine xt rfl rfl rfl ?_; try ((first | refine xk rfl rfl rfl ?_ | refine xK rfl rfl rfl ?_)))))) | (refine GL_off rfl rfl rfl ?_; try ((first | refine GL_off rfl rfl rfl ?_ | refine GL_offU rfl rfl rfl ?_); try ((first | refine xk rfl rfl rfl ?_ | refine xK rfl rfl rfl ?_))))))) <;> try (refine xm rfl rfl ?_; try ((first | (refine GL_on rfl rfl ?_; try (refine xm rfl rfl ?_; try (refine GL_on rfl rfl ?_; try (refine xm rfl rfl ?_; try (refine GL_on rfl rfl ?_; try (refine xn rfl rfl ?_; try (refine GL_on rfl rfl ?_; try (refine xf rfl rfl ?_; try (refine GL_on rfl rfl ?_; try ((first | (apply xl; exact rfl; (repeat (first | exact .here | refine .there ?_)); exact rfl; exact rfl) | (apply xL; exact rfl; (repeat (first | exact .here | refine .there ?_)); exact rfl; exact rfl)); try (refine GL_on rfl rfl ?_; try ((first | (refine GL_call rfl (fun w H => ring_Prev H) rfl ?_; rintro v w' ⟨rfl, H⟩; refine ⟨_, H, ?_⟩) | (refine GL_call rfl (fun w H => ring_Within H) rfl ?_; rintro v w' ⟨rfl, H⟩; refine ⟨_, H, ?_⟩) | (refine GL_call rfl (fun w H => hold_Last hh hR H) rfl ?_; rintro v w' ⟨rfl, H⟩; refine ⟨_, H, ?_⟩)); try (refine GL_on rfl rfl ?_; try (refine xm rfl rfl ?_; try (refine GL_on rfl rfl ?_; try ((first | (refine GL_call rfl (fun w H => ring_Prev H) rfl ?_; rintro v w' ⟨rfl, H⟩; refine ⟨_, H, ?_⟩) | (refine GL_call rfl (fun w H => ring_Within H) rfl ?_; rintro v w' ⟨rfl, H⟩; refine ⟨_, H, ?_⟩) | (refine GL_call rfl (fun w H => hold_Last hh hR H) rfl ?_; rintro v w' ⟨rfl, H⟩; refine ⟨_, H, ?_⟩)); try (refine GL_on rfl rfl ?_; try ((first | (refine GL_call rfl (fun w H => ring_Prev H) rfl ?_; rintro v w' ⟨rfl, H⟩; refine ⟨_, H, ?_⟩) | (refine GL_call rfl (fun w H => ring_Within H) rfl ?_; rintro v w' ⟨rfl, H⟩; refine ⟨_, H, ?_⟩) | (refine GL_call rfl (fun w H => hold_Last hh hR H) rfl ?_; rintro v w' ⟨rfl, H⟩; refine ⟨_, H, ?_⟩)); try ((first | refine xk rfl rfl rfl ?_ | refine xK rfl rfl rfl ?_)))))))))))))))))))) | (refine GL_off rfl rfl rfl ?_; try ((first | refine GL_off rfl rfl rfl ?_ | refine GL_offU rfl rfl rfl ?_); try ((first | refine GL_off rfl rfl rfl ?_ | refine GL_offU rfl rfl rfl ?_); try ((first | refine GL_off rfl rfl rfl ?_ | refine GL_offU rfl rfl rfl ?_); try ((first | refine GL_off rfl rfl rfl ?_ | refine GL_offU rfl rfl rfl ?_); try ((first | refine GL_off rfl rfl rfl ?_ | refine GL_offU rfl rfl rfl ?_); try ((first | refine GL_off rfl rfl rfl ?_ | refine GL_offU rfl rfl rfl ?_); try ((first | refine GL_off rfl rfl rfl ?_ | refine GL_offU rfl rfl rfl ?_); try ((first | refine GL_off rfl rfl rfl ?_ | refine GL_offU rfl rfl rfl ?_); try ((first | refine xk rfl rfl rfl ?_ | refine xK rfl rfl rfl ?_))))))))))) | (apply GL_and (d := 21); exact rfl; exact rfl; (repeat (first | exact .dec | with_reducible apply Tell.or | with_reducible apply Tell.and | with_reducible apply Tell.not | exact .self)); intro h K21; (refine GL_on rfl rfl ?_; try (refine xm rfl rfl ?_; try (refine GL_on rfl rfl ?_; try (refine xm rfl rfl ?_; try (refine GL_on rfl rfl ?_; try (refine xn rfl rfl ?_; try (refine GL_on rfl rfl ?_; try (refine xf rfl rfl ?_; try (refine GL_on rfl rfl ?_; try ((first | (apply xl; exact rfl; (repeat (first | exact .here | refine .there ?_)); exact rfl; exact rfl) | (apply xL; exact rfl; (repeat (first | exact .here | refine .there ?_)); exact rfl; exact rfl)); try (refine GL_on rfl rfl ?_; try ((first | (refine GL_call rfl (fun w H => ring_Prev H) rfl ?_; rintro v w' ⟨rfl, H⟩; refine ⟨_, H, ?_⟩) | (refine GL_call rfl (fun w H => ring_Within H) rfl ?_; rintro v w' ⟨rfl, H⟩; refine ⟨_, H, ?_⟩) | (refine GL_call rfl (fun w H => hold_Last hh hR H) rfl ?_; rintro v w' ⟨rfl, H⟩; refine ⟨_, H, ?_⟩)); try (refine GL_on rfl rfl ?_; try (refine xm rfl rfl ?_; try (refine GL_on rfl rfl ?_; try ((first | (refine GL_call rfl (fun w H => ring_Prev H) rfl ?_; rintro v w' ⟨rfl, H⟩; refine ⟨_, H, ?_⟩) | (refine GL_call rfl (fun w H => ring_Within H) rfl ?_; rintro v w' ⟨rfl, H⟩; refine ⟨_, H, ?_⟩) | (refine GL_call rfl (fun w H => hold_Last hh hR H) rfl ?_; rintro v w' ⟨rfl, H⟩; refine ⟨_, H, ?_⟩)); try (refine GL_on rfl rfl ?_; try ((first | (refine GL_call rfl (fun w H => ring_Prev H) rfl ?_; rintro v w' ⟨rfl, H⟩; refine ⟨_, H, ?_⟩) | (refine GL_call rfl (fun w H => ring_Within H) rfl ?_; rintro v w' ⟨rfl, H⟩; refine ⟨_, H, ?_⟩) | (refine GL_call rfl (fun w H => hold_Last hh hR H) rfl ?_; rintro v w' ⟨rfl, H⟩; refine ⟨_, H, ?_⟩)); try ((first | refine xk rfl rfl rfl ?_ | refine xK rfl rfl rfl ?_); try (exact GL_close K21 (by repeat (first | exact .refl | refine .cons rfl ?_)))))))))))))))))))))); intro h K21; ((first | refine GL_off rfl rfl rfl ?_ | refine GL_offU rfl rfl rfl ?_); try ((first | refine GL_off rfl rfl rfl ?_ | refine GL_offU rfl rfl rfl ?_); try ((first | refine GL_off rfl rfl rfl ?_ | refine GL_offU rfl rfl rfl ?_); try ((first | refine GL_off rfl rfl rfl ?_ | refine GL_offU rfl rfl rfl ?_); try ((first | refine GL_off rfl rfl rfl ?_ | refine GL_offU rfl rfl rfl ?_); try ((first | refine GL_off rfl rfl rfl ?_ | refine GL_offU rfl rfl rfl ?_); try ((first | refine GL_off rfl rfl rfl ?_ | refine GL_offU rfl rfl rfl ?_); try ((first | refine GL_off rfl rfl rfl ?_ | refine GL_offU rfl rfl rfl ?_); try ((first | refine GL_off rfl rfl rfl ?_ | refine GL_offU rfl rfl rfl ?_); try ((first | refine xk rfl rfl rfl ?_ | refine xK rfl rfl rfl ?_); try (exact GL_close K21 (by repeat (first | exact .refl | refine .cons rfl ?_)))))))))))))) | (refine ys rfl rfl (fun hG => ?_) (fun hG => ?_) <;> (first | (refine GL_on rfl rfl ?_; try (refine xm rfl rfl ?_; try (refine GL_on rfl rfl ?_; try (refine xm rfl rfl ?_; try (refine GL_on rfl rfl ?_; try (refine xn rfl rfl ?_; try (refine GL_on rfl rfl ?_; try (refine xf rfl rfl ?_; try (refine GL_on rfl rfl ?_; try ((first | (apply xl; exact rfl; (repeat (first | exact .here | refine .there ?_)); exact rfl; exact rfl) | (apply xL; exact rfl; (repeat (first | exact .here | refine .there ?_)); exact rfl; exact rfl)); try (refine GL_on rfl rfl ?_; try ((first | (refine GL_call rfl (fun w H => ring_Prev H) rfl ?_; rintro v w' ⟨rfl, H⟩; refine ⟨_, H, ?_⟩) | (refine GL_call rfl (fun w H => ring_Within H) rfl ?_; rintro v w' ⟨rfl, H⟩; refine ⟨_, H, ?_⟩) | (refine GL_call rfl (fun w H => hold_Last hh hR H) rfl ?_; rintro v w' ⟨rfl, H⟩; refine ⟨_, H, ?_⟩)); try (refine GL_on rfl rfl ?_; try (refine xm rfl rfl ?_; try (refine GL_on rfl rfl ?_; try ((first | (refine GL_call rfl (fun w H => ring_Prev H) rfl ?_; rintro v w' ⟨rfl, H⟩; refine ⟨_, H, ?_⟩) | (refine GL_call rfl (fun w H => ring_Within H) rfl ?_; rintro v w' ⟨rfl, H⟩; refine ⟨_, H, ?_⟩) | (refine GL_call rfl (fun w H => hold_Last hh hR H) rfl ?_; rintro v w' ⟨rfl, H⟩; refine ⟨_, H, ?_⟩)); try (refine GL_on rfl rfl ?_; try ((first | (refine GL_call rfl (fun w H => ring_Prev H) rfl ?_; rintro v w' ⟨rfl, H⟩; refine ⟨_, H, ?_⟩) | (refine GL_call rfl (fun w H => ring_Within H) rfl ?_; rintro v w' ⟨rfl, H⟩; refine ⟨_, H, ?_⟩) | (refine GL_call rfl (fun w H => hold_Last hh hR H) rfl ?_; rintro v w' ⟨rfl, H⟩; refine ⟨_, H, ?_⟩)); try ((first | refine xk rfl rfl rfl ?_ | refine xK rfl rfl rfl ?_)))))))))))))))))))) | (refine GL_off rfl rfl rfl ?_; try ((first | refine GL_off rfl rfl rfl ?_ | refine GL_offU rfl rfl rfl ?_); try ((first | refine GL_off rfl rfl rfl ?_ | refine GL_offU rfl rfl rfl ?_); try ((first | refine GL_off rfl rfl rfl ?_ | refine GL_offU rfl rfl rfl ?_); try ((first | refine GL_off rfl rfl rfl ?_ | refine GL_offU rfl rfl rfl ?_); try ((first | refine GL_off rfl rfl rfl ?_ | refine GL_offU rfl rfl rfl ?_); try ((first | refine GL_off rfl rfl rfl ?_ | refine GL_offU rfl rfl rfl ?_); try ((first | refine GL_off rfl rfl rfl ?_ | refine GL_offU rfl rfl rfl ?_); try ((first | refine GL_off rfl rfl rfl ?_ | refine GL_offU rfl rfl rfl ?_); try ((first | refine xk rfl rfl rfl ?_ | refine xK rfl rfl rfl ?_)))))))))))))) <;> try (refine xa rfl rfl ?_; try (refine GL_nil ?_)))))))))
  refine GX_end (.inl rfl) (res1 rfl rfl) (fun w H => .intro ⟨?_, H⟩)
  unfold Hd.knows
  rfl

theorem hold_Flush (hh : HdAt R h o es en) (hR : ∀ x, x ∈ R → x ∈ L) (hw : Own w0 w (some (H, o) :: es :: en :: L)) :
    Calls Tryz.prog 99 #[Ptr H] w (Ret fun v w' => v = I64 h.next.length ∧ ∃ o' en', HdAt R h.flush o' es en' ∧ Own w0 w' (some (H, o') :: es :: en' :: L)) := by
  obtain ⟨vs, us, vn, un, rfl, hs, hps, hn, hpn⟩ := hh.out
  obtain ⟨pa, ca, rfl, hca, hma, hza⟩ := hs.cap
  obtain ⟨pb, cb, rfl, hcb, hmb, hzb⟩ := hn.cap
  have hls : Look (some (H, holdObj h.most h.octs (.slice pa h.sent.length ca) h.first (.slice pb h.next.length cb)) :: es :: en :: L) 37 _ us := hs.look (by simp)
  have hln : Look (some (H, holdObj h.most h.octs (.slice pa h.sent.length ca) h.first (.slice pb h.next.length cb)) :: es :: en :: L) 37 _ un := hn.look (by simp)
  have hk1 := hk.most; have hk2 := hk.len; have hk3 := hk.win; have hk4 := hk.first; have hk5 := hk.pay
  refine calls_of_GC' (vs := [Ptr H]) [] Tryz.func99 rfl rfl rfl ?_ hw
  repeat' first
    | refine GC_seq ?_
    | refine GX_then ?_
    | refine GC_ret ?_
    | refine GX_then_ret ?_
    | refine GC_skip ?_
    | refine GC_true rfl ?_
    | refine GC_false rfl ?_
    | (apply GC_condT; exact rfl; (repeat (first | exact .dec | with_reducible apply Tell.or | with_reducible apply Tell.and | with_reducible apply Tell.not | exact .self)); all_goals (intro h; try contradiction))
    | ((first | (apply GC_regionK (id := 0) [0] (e' := [(0, _)]); exact rfl) | refine GC_region (id := 0) ?_); try (refine xa rfl rfl ?_; try (refine GL_nil ?_)))
    | ((first | (apply GC_regionK (id := 1) [0] (e' := [(0, _)]); exact rfl) | refine GC_region (id := 1) ?_); try (refine xm rfl rfl ?_; try ((first | refine xq rfl rfl rfl ?_ | refine xp rfl rfl rfl ?_ | refine xzq rfl rfl rfl ?_ | refine xbe rfl rfl rfl ?_ | refine xiq rfl rfl rfl ?_ | refine xse rfl rfl rfl ?_); try (refine GL_nil ?_))))
    | ((first | (apply GC_regionK (id := 2) [] (e' := []); exact rfl) | refine GC_region (id := 2) ?_); try (refine xa rfl rfl ?_; try (refine GL_nil ?_)))
    | ((first | (apply GC_regionK (id := 3) [0] (e' := [(0, _)]); exact rfl) | refine GC_region (id := 3) ?_); try (refine xm rfl rfl ?_; try (refine xn rfl rfl ?_; try (refine xf rfl rfl ?_; try ((first | (apply xl; exact rfl; (repeat (first | exact .here | refine .there ?_)); exact rfl; exact rfl) | (apply xL; exact rfl; (repeat (first | exact .here | refine .there ?_)); exact rfl; exact rfl)); try (refine xy rfl rfl ?_; try (refine xa rfl rfl ?_; try (refine GL_nil ?_))))))))
    | ((first | (apply GC_regionK (id := 4) [0, 3] (e' := [(0, _), (3, _)]); exact rfl) | refine GC_region (id := 4) ?_); try (refine xm rfl rfl ?_; try (refine xn rfl rfl ?_; try (refine xf rfl rfl ?_; try ((first | (apply xs; exact rfl; exact rfl; (repeat (first | exact .here | apply Upd.there)); exact rfl; exact rfl; apply GL_re (b := H) (holdObj_eq _ _ _ _ _); (repeat (first | exact .here | apply Upd.there)); exact rfl) | (apply xS; exact rfl; exact rfl; (repeat (first | exact .here | apply Upd.there)); exact rfl; exact rfl; exact rfl; apply GL_re (b := H) (holdObj_eq _ _ _ _ _); (repeat (first | exact .here | apply Upd.there)); exact rfl) | (apply xs; exact rfl; exact rfl; (repeat (first | exact .here | apply Upd.there)); exact rfl; exact rfl) | (apply xS; exact rfl; exact rfl; (repeat (first | exact .here | apply Upd.there)); exact rfl; exact rfl; exact rfl)); try (refine GL_nil ?_))))))
    | ((first | (apply GC_regionK (id := 5) [3] (e' := [(3, _)]); exact rfl) | refine GC_region (id := 5) ?_); try (refine xm rfl rfl ?_; try (refine xa rfl rfl ?_; try (refine GL_nil ?_))))
  refine GX_end (.inl rfl) (res1 rfl rfl) (fun w H => .intro ⟨rfl, _, none, ⟨⟨_, us, _, [], rfl, hs, hps, .nil, .nil⟩⟩, ?_⟩)
  exact (((H.pull 2 rfl).drop.nothing).push 2 (by simp))

theorem hold_Clear (hh : HdAt R h o es en) (hR : ∀ x, x ∈ R → x ∈ L) (hw : Own w0 w (some (H, o) :: es :: en :: L)) :
    Calls Tryz.prog 222 #[Ptr H] w (Ret fun v w' => v = .tuple #[] ∧ ∃ o', HdAt R h.clear o' none none ∧ Own w0 w' (some (H, o') :: none :: none :: L)) := by
  obtain ⟨vs, us, vn, un, rfl, hs, hps, hn, hpn⟩ := hh.out
  obtain ⟨pa, ca, rfl, hca, hma, hza⟩ := hs.cap
  obtain ⟨pb, cb, rfl, hcb, hmb, hzb⟩ := hn.cap
  have hls : Look (some (H, holdObj h.most h.octs (.slice pa h.sent.length ca) h.first (.slice pb h.next.length cb)) :: es :: en :: L) 37 _ us := hs.look (by simp)
  have hln : Look (some (H, holdObj h.most h.octs (.slice pa h.sent.length ca) h.first (.slice pb h.next.length cb)) :: es :: en :: L) 37 _ un := hn.look (by simp)
  have hk1 := hk.most; have hk2 := hk.len; have hk3 := hk.win; have hk4 := hk.first; have hk5 := hk.pay
  refine calls_of_GC' (vs := [Ptr H]) [] Tryz.func222 rfl rfl rfl ?_ hw
  repeat' first
    | refine GC_seq ?_
    | refine GX_then ?_
    | refine GC_skip ?_
    | refine GC_true rfl ?_
    | refine GC_false rfl ?_
    | (apply GC_condT; exact rfl; (repeat (first | exact .dec | with_reducible apply Tell.or | with_reducible apply Tell.and | with_reducible apply Tell.not | exact .self)); all_goals (intro h; try contradiction))
    | ((first | (apply GC_regionK (id := 0) [0] (e' := [(0, _)]); exact rfl) | refine GC_region (id := 0) ?_); try (refine xm rfl rfl ?_; try ((first | refine xQ rfl rfl rfl ?_ | refine xP rfl rfl rfl ?_ | refine xzQ rfl rfl rfl ?_ | refine xbn rfl rfl rfl ?_ | refine xiQ rfl rfl rfl ?_ | refine xns rfl rfl rfl ?_); try (refine GL_nil ?_))))
    | ((first | (apply GC_regionK (id := 1) [0] (e' := [(0, _)]); exact rfl) | refine GC_region (id := 1) ?_); try (refine xm rfl rfl ?_; try (refine xm rfl rfl ?_; try (refine xm rfl rfl ?_; try (refine xn rfl rfl ?_; try (refine xf rfl rfl ?_; try ((first | (apply xs; exact rfl; exact rfl; (repeat (first | exact .here | apply Upd.there)); exact rfl; exact rfl; apply GL_re (b := H) (holdObj_eq _ _ _ _ _); (repeat (first | exact .here | apply Upd.there)); exact rfl) | (apply xS; exact rfl; exact rfl; (repeat (first | exact .here | apply Upd.there)); exact rfl; exact rfl; exact rfl; apply GL_re (b := H) (holdObj_eq _ _ _ _ _); (repeat (first | exact .here | apply Upd.there)); exact rfl) | (apply xs; exact rfl; exact rfl; (repeat (first | exact .here | apply Upd.there)); exact rfl; exact rfl) | (apply xS; exact rfl; exact rfl; (repeat (first | exact .here | apply Upd.there)); exact rfl; exact rfl; exact rfl)); try (refine xn rfl rfl ?_; try (refine xf rfl rfl ?_; try ((first | (apply xs; exact rfl; exact rfl; (repeat (first | exact .here | apply Upd.there)); exact rfl; exact rfl; apply GL_re (b := H) (holdObj_eq _ _ _ _ _); (repeat (first | exact .here | apply Upd.there)); exact rfl) | (apply xS; exact rfl; exact rfl; (repeat (first | exact .here | apply Upd.there)); exact rfl; exact rfl; exact rfl; apply GL_re (b := H) (holdObj_eq _ _ _ _ _); (repeat (first | exact .here | apply Upd.there)); exact rfl) | (apply xs; exact rfl; exact rfl; (repeat (first | exact .here | apply Upd.there)); exact rfl; exact rfl) | (apply xS; exact rfl; exact rfl; (repeat (first | exact .here | apply Upd.there)); exact rfl; exact rfl; exact rfl)); try (refine xn rfl rfl ?_; try (refine xf rfl rfl ?_; try ((first | (apply xs; exact rfl; exact rfl; (repeat (first | exact .here | apply Upd.there)); exact rfl; exact rfl; apply GL_re (b := H) (holdObj_eq _ _ _ _ _); (repeat (first | exact .here | apply Upd.there)); exact rfl) | (apply xS; exact rfl; exact rfl; (repeat (first | exact .here | apply Upd.there)); exact rfl; exact rfl; exact rfl; apply GL_re (b := H) (holdObj_eq _ _ _ _ _); (repeat (first | exact .here | apply Upd.there)); exact rfl) | (apply xs; exact rfl; exact rfl; (repeat (first | exact .here | apply Upd.there)); exact rfl; exact rfl) | (apply xS; exact rfl; exact rfl; (repeat (first | exact .here | apply Upd.there)); exact rfl; exact rfl; exact rfl)); try (refine GL_nil ?_))))))))))))))
  refine GX_end (.inr rfl) (res0 rfl) (fun w H => .intro ⟨rfl, _, ⟨⟨_, [], _, [], rfl, .nil, .nil, .nil, .nil⟩⟩, ?_⟩)
  exact ((((H.pull 1 rfl).drop.pull 1 rfl).drop.nothing.nothing).pull 2 rfl)
end
end Go.Sm
