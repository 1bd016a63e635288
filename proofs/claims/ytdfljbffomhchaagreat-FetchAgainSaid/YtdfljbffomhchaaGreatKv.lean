/- The law's function serving: the walk. -/
import Derived.Test.YtdfljbffomhchaaGreatKu
import Derived.Test.YtdfljbffomhchaaGreatKg
import Derived.Test.YtdfljbffomhchaaGreatMh
set_option linter.unusedVariables false
set_option linter.unusedSimpArgs false
set_option linter.unusedSectionVars false
set_option maxRecDepth 10000
namespace Go.Sm
open Go.RowKit Go.Proofs

section
variable {w0 w : World} {X A C J B H es en tl q el : Ent} {N M L T : List Ent}
theorem Own.intro11 (h : Own w0 w (q :: X :: A :: C :: J :: B :: H :: es :: en :: tl :: T)) : Own w0 w (X :: A :: C :: J :: B :: H :: es :: en :: tl :: q :: none :: T) :=
  Own.tail9 (show Own w0 w (q :: X :: A :: C :: J :: B :: H :: es :: en :: tl :: none :: T) from h.nothing.push 10 (by simp))
theorem Own.q11 (h : Own w0 w (X :: A :: C :: J :: B :: H :: es :: en :: tl :: (N ++ q :: el :: (M ++ L)))) : Own w0 w (X :: A :: C :: J :: B :: H :: es :: en :: tl :: q :: el :: ((N ++ M) ++ L)) := by
  rw [List.append_assoc]
  have h1 := Own.rot (C := [X, A, C, J, B, H, es, en, tl]) (A := [q, el]) (R := M ++ L) h
  exact Own.swap (A := [q, el]) (B := [X, A, C, J, B, H, es, en, tl]) h1
end

/-- The link, the unit, the list that serving holds. -/
structure SvAt (L : List Ent) (n : Nat) (x : Lnk) (u : Unt) (l : List Msg) (p : Adr) (q : Nat) (lv : Value) (L' : List Ent) : Prop where
  out : ∃ tv o es en tl pv ys el M, LnkAt M n x tv o es en tl ∧ Pay M pv u.info ∧ Slc 37 1 lv ys l.length el ∧ Pays M ys l ∧ L' = lnkOwn x p tv o es en tl (some (q, untBox u pv) :: el :: (M ++ L))

theorem ticks0 (x : Lnk) : ticks 0 x = x := rfl
theorem ticksS (k : Nat) (x : Lnk) : ticks (k + 1) x = (ticks k x).tick := rfl
theorem sends0 (x : Lnk) : sends 0 x = x := rfl
theorem sendsS (k : Nat) (x : Lnk) : sends (k + 1) x = (sends k x).next.1 := rfl
theorem takes0 (x : Lnk) : takes 0 x = x := rfl
theorem takesS (k : Nat) (x : Lnk) : takes (k + 1) x = (takes k x).hear (uTake k) := rfl
theorem puts0 (put : Int) (s : Lnk × List Msg) : puts put 0 s = s := rfl
theorem putsS (put : Int) (k : Nat) (s : Lnk × List Msg) : puts put (k + 1) s = puts1 put k (puts put k s) := rfl
theorem w8_rng (n : Int) : 0 ≤ w8 n ∧ w8 n ≤ 255 := by
  have : w8 n = n % 256 := IntKind.wrap_u8 _
  omega
theorem Find.f11 {X A C J B H es en tl q el : Ent} {L : List Ent} {b : Nat} {o : Obj} : Find (X :: A :: C :: J :: B :: H :: es :: en :: tl :: q :: el :: some (b, o) :: L) b o := ⟨⟨11, rfl⟩⟩
theorem Own.in11 {w0 w : World} {X A C J B H es en tl q el y : Ent} {T : List Ent} (h : Own w0 w (y :: X :: A :: C :: J :: B :: H :: es :: en :: tl :: q :: el :: T)) : Own w0 w (X :: A :: C :: J :: B :: H :: es :: en :: tl :: q :: el :: y :: T) := h.push 11 (by simp)

attribute [local irreducible] Calls sv1 sv2 sv3 sv4 ticks puts sends takes Lnk.tick Lnk.hear Lnk.order Lnk.next
section
variable {w0 w : World} {L : List Ent} {cyc : Bool} {put send answer take : Int}

set_option maxHeartbeats 1000000 in
theorem law_serving (h0 : 0 ≤ put ∧ put < 256) (h1 : 0 ≤ send ∧ send < 256) (h2 : 0 ≤ answer ∧ answer < 256) (h3 : 0 ≤ take ∧ take < 256) (hw : Own w0 w L) :
    Calls Tryz.prog 29 #[.bool cyc, U8 put, U8 send, U8 answer, U8 take] w (Ret fun v w' => ∃ p tv o es en tl lv ys M, v = .tuple #[Ptr p.X, lv] ∧ LnkAt M 20000 (serving cyc put send answer take).1 tv o es en tl ∧
      Look M 37 lv ys ∧ Pays M ys (serving cyc put send answer take).2 ∧ Own w0 w' (lnkOwn (serving cyc put send answer take).1 p tv o es en tl (M ++ L))) := by
  refine calls_of_GC' (vs := [.bool cyc, U8 put, U8 send, U8 answer, U8 take]) [] Tryz.func29 rfl rfl rfl ?_ hw
  repeat' first
    | (refine xv rfl (fun q => ?_); refine GL_sub (fun w h => h.intro11) ?_)
    | refine GC_seq ?_
    | refine GX_then ?_
    | refine GC_ret ?_
    | refine GX_then_ret ?_
    | refine GC_skip ?_
    | refine GC_block ?_
    | refine GX_block ?_
    | refine GX_block_ret ?_
    | refine GC_exit ?_
    | refine GX_then_exit ?_
    | refine GX_block_exit rfl ?_
    | refine GX_block_other rfl ?_
    | refine GC_true rfl ?_
    | refine GC_false rfl ?_
    | (apply GC_condT; exact rfl; (repeat (first | exact .dec | with_reducible apply Tell.or | with_reducible apply Tell.and | with_reducible apply Tell.not | exact .self)); all_goals (intro h; try contradiction))
    | ((first | (apply GC_regionK (id := 0) [0, 1, 2, 3, 4] (e' := [(0, _), (1, _), (2, _), (3, _), (4, _)]); exact rfl) | refine GC_region (id := 0) ?_); try (refine xa rfl rfl ?_; try (refine xa rfl rfl ?_; try (refine GL_nil ?_))))
    | ((first | (apply GC_regionK (id := 1) [0, 1, 2, 3, 4] (e' := [(0, _), (1, _), (2, _), (3, _), (4, _)]); exact rfl) | refine GC_region (id := 1) ?_); try (refine xm rfl rfl ?_; try ((refine GL_call rfl (fun w H => setup_Usual H) rfl ?_; rintro v w' ⟨rfl, H⟩; refine ⟨_, H, ?_⟩); try ((refine GL_call rfl (fun w H => lnk_New (s := Setup.usual cyc) (R := []) H) rfl ?_; rintro v w' ⟨p, o, y, rfl, hx', H⟩; refine ⟨_, H, ?_⟩); try (refine xa rfl rfl ?_; try (refine GL_nil ?_))))))
    | ((first | (apply GC_regionK (id := 2) [1, 2, 3, 4, 12] (e' := [(1, _), (2, _), (3, _), (4, _), (12, _)]); exact rfl) | refine GC_region (id := 2) ?_); try (refine xm rfl rfl ?_; try (refine xp rfl rfl rfl ?_; try (refine xm rfl rfl ?_; try ((first | (refine GL_on rfl rfl ?_; try (refine xm rfl rfl ?_; try (refine GL_on rfl rfl ?_; try (refine xn rfl rfl ?_; try (refine GL_on rfl rfl ?_; try (refine xf rfl rfl ?_; try (refine GL_on rfl rfl ?_; try ((first | (apply xl; exact rfl; (repeat (first | exact .here | refine .there ?_)); exact rfl; exact rfl) | (apply xL; exact rfl; (repeat (first | exact .here | refine .there ?_)); exact rfl; exact rfl)); try (refine GL_on rfl rfl ?_; try ((first | refine xq rfl rfl rfl ?_ | refine xp rfl rfl rfl ?_ | refine xzq rfl rfl rfl ?_ | refine xbe rfl rfl rfl ?_ | refine xiq rfl rfl rfl ?_ | refine xse rfl rfl rfl ?_); try ((first | refine xk rfl rfl rfl ?_ | refine xK rfl rfl rfl ?_)))))))))))) | (refine GL_off rfl rfl rfl ?_; try ((first | refine GL_off rfl rfl rfl ?_ | refine GL_offU rfl rfl rfl ?_); try ((first | refine GL_off rfl rfl rfl ?_ | refine GL_offU rfl rfl rfl ?_); try ((first | refine GL_off rfl rfl rfl ?_ | refine GL_offU rfl rfl rfl ?_); try ((first | refine GL_off rfl rfl rfl ?_ | refine GL_offU rfl rfl rfl ?_); try ((first | refine xk rfl rfl rfl ?_ | refine xK rfl rfl rfl ?_))))))) | (apply GL_or (d := 31); exact rfl; exact rfl; (repeat (first | exact .dec | with_reducible apply Tell.or | with_reducible apply Tell.and | with_reducible apply Tell.not | exact .self)); intro h K31; (refine GL_on rfl rfl ?_; try (refine xm rfl rfl ?_; try (refine GL_on rfl rfl ?_; try (refine xn rfl rfl ?_; try (refine GL_on rfl rfl ?_; try (refine xf rfl rfl ?_; try (refine GL_on rfl rfl ?_; try ((first | (apply xl; exact rfl; (repeat (first | exact .here | refine .there ?_)); exact rfl; exact rfl) | (apply xL; exact rfl; (repeat (first | exact .here | refine .there ?_)); exact rfl; exact rfl)); try (refine GL_on rfl rfl ?_; try ((first | refine xq rfl rfl rfl ?_ | refine xp rfl rfl rfl ?_ | refine xzq rfl rfl rfl ?_ | refine xbe rfl rfl rfl ?_ | refine xiq rfl rfl rfl ?_ | refine xse rfl rfl rfl ?_); try ((first | refine xk rfl rfl rfl ?_ | refine xK rfl rfl rfl ?_); try (exact GL_close K31 (by repeat (first | exact .refl | refine .cons rfl ?_)))))))))))))); intro h K31; ((first | refine GL_off rfl rfl rfl ?_ | refine GL_offU rfl rfl rfl ?_); try ((first | refine GL_off rfl rfl rfl ?_ | refine GL_offU rfl rfl rfl ?_); try ((first | refine GL_off rfl rfl rfl ?_ | refine GL_offU rfl rfl rfl ?_); try ((first | refine GL_off rfl rfl rfl ?_ | refine GL_offU rfl rfl rfl ?_); try ((first | refine GL_off rfl rfl rfl ?_ | refine GL_offU rfl rfl rfl ?_); try ((first | refine xk rfl rfl rfl ?_ | refine xK rfl rfl rfl ?_); try (exact GL_close K31 (by repeat (first | exact .refl | refine .cons rfl ?_)))))))))) | (refine ys rfl rfl (fun hG => ?_) (fun hG => ?_) <;> (first | (refine GL_on rfl rfl ?_; try (refine xm rfl rfl ?_; try (refine GL_on rfl rfl ?_; try (refine xn rfl rfl ?_; try (refine GL_on rfl rfl ?_; try (refine xf rfl rfl ?_; try (refine GL_on rfl rfl ?_; try ((first | (apply xl; exact rfl; (repeat (first | exact .here | refine .there ?_)); exact rfl; exact rfl) | (apply xL; exact rfl; (repeat (first | exact .here | refine .there ?_)); exact rfl; exact rfl)); try (refine GL_on rfl rfl ?_; try ((first | refine xq rfl rfl rfl ?_ | refine xp rfl rfl rfl ?_ | refine xzq rfl rfl rfl ?_ | refine xbe rfl rfl rfl ?_ | refine xiq rfl rfl rfl ?_ | refine xse rfl rfl rfl ?_); try ((first | refine xk rfl rfl rfl ?_ | refine xK rfl rfl rfl ?_)))))))))))) | (refine GL_off rfl rfl rfl ?_; try ((first | refine GL_off rfl rfl rfl ?_ | refine GL_offU rfl rfl rfl ?_); try ((first | refine GL_off rfl rfl rfl ?_ | refine GL_offU rfl rfl rfl ?_); try ((first | refine GL_off rfl rfl rfl ?_ | refine GL_offU rfl rfl rfl ?_); try ((first | refine GL_off rfl rfl rfl ?_ | refine GL_offU rfl rfl rfl ?_); try ((first | refine xk rfl rfl rfl ?_ | refine xK rfl rfl rfl ?_)))))))))) <;> try (refine GL_nil ?_))))))
    | ((first | (apply GC_regionK (id := 3) [] (e' := []); exact rfl) | refine GC_region (id := 3) ?_); try (refine xa rfl rfl ?_; try (refine xa rfl rfl ?_; try (refine GL_nil ?_))))
    | ((first | (apply GC_regionK (id := 4) [1, 2, 3, 4, 12] (e' := [(1, _), (2, _), (3, _), (4, _), (12, _)]); exact rfl) | refine GC_region (id := 4) ?_); try (refine xm rfl rfl ?_; try (refine xb rfl rfl rfl ?_; try ((refine GL_call rfl (fun w H => lnk_Order (x := Lnk.new (Setup.usual cyc)) (p := p) (R := []) (n := 0) (m := []) (pv := .slice none 0 0) (kd := 1) (.nil _ _) hx' (by simp) (by omega) H) rfl ?_; rintro v w' ⟨rfl, tv, o, es, en, tl, N, hx', H⟩; have hx' : LnkAt (N ++ [y]) 1 (sv1 cyc) tv o es en tl := (by unfold sv1; exact hx'.sub (fun x hx => by simp at hx; simp [hx])); refine ⟨lnkOwn (sv1 cyc) p tv o es en tl ((N ++ [y]) ++ L), (by unfold sv1; rw [List.append_assoc]; exact H), ?_⟩); try (refine GL_nil ?_)))))
    | ((first | (apply GC_regionK (id := 5) [1, 2, 3, 4, 12] (e' := [(1, _), (2, _), (3, _), (4, _), (12, _)]); exact rfl) | refine GC_region (id := 5) ?_); try (refine xb rfl rfl rfl ?_; try ((first | (refine xv rfl (fun q => ?_); refine GL_sub (fun w h => h.intro11) ?_) | refine xv rfl (fun q => ?_)); try ((first | (apply xs; exact rfl; exact rfl; (repeat (first | exact .here | apply Upd.there)); exact rfl; exact rfl) | (apply xS; exact rfl; exact rfl; (repeat (first | exact .here | apply Upd.there)); exact rfl; exact rfl; exact rfl)); try (refine GL_nil ?_)))))
    | ((first | (apply GC_regionK (id := 6) [1, 2, 3, 4, 12, 13] (e' := [(1, _), (2, _), (3, _), (4, _), (12, _), (13, _)]); exact rfl) | refine GC_region (id := 6) ?_); try (refine xm rfl rfl ?_; try ((apply xL; exact rfl; (repeat (first | exact .here | refine .there ?_)); exact rfl; exact rfl); try ((first | (refine GL_call rfl (fun w H => lnk_Hear (x := sv1 cyc) (p := p) (u := uLink) (pv := .slice none 0 0) (R := N ++ [y]) (.nil _ _) (by decide) hx' (fun x hx => List.mem_cons_of_mem _ (List.mem_cons_of_mem _ (List.mem_append_left _ hx))) (by omega) H) rfl ?_; rintro v w' ⟨rfl, tv, o, es, en, tl, N1, hx', H⟩; have hx' : LnkAt (N1 ++ (N ++ [y])) 7 (sv2 cyc) tv o es en tl := (by unfold sv2; exact hx'); refine ⟨lnkOwn (sv2 cyc) p tv o es en tl (_ :: _ :: ((N1 ++ (N ++ [y])) ++ L)), (by unfold sv2; exact H.q11), ?_⟩) | (refine GL_call rfl (fun w H => lnk_Hear (x := sv2 cyc) (p := p) (u := uLink) (pv := .slice none 0 0) (R := N1 ++ (N ++ [y])) (.nil _ _) (by decide) hx' (fun x hx => List.mem_cons_of_mem _ (List.mem_cons_of_mem _ (List.mem_append_left _ hx))) (by omega) H) rfl ?_; rintro v w' ⟨rfl, tv, o, es, en, tl, N2, hx', H⟩; have hx' : LnkAt (N2 ++ (N1 ++ (N ++ [y]))) 13 (sv3 cyc) tv o es en tl := (by unfold sv3; exact hx'); refine ⟨lnkOwn (sv3 cyc) p tv o es en tl (_ :: _ :: ((N2 ++ (N1 ++ (N ++ [y]))) ++ L)), (by unfold sv3; exact H.q11), ?_⟩)); try (refine GL_nil ?_)))))
    | ((first | (apply GC_regionK (id := 7) [1, 2, 3, 4, 12, 13] (e' := [(1, _), (2, _), (3, _), (4, _), (12, _), (13, _)]); exact rfl) | refine GC_region (id := 7) ?_); try (refine xm rfl rfl ?_; try ((apply xL; exact rfl; (repeat (first | exact .here | refine .there ?_)); exact rfl; exact rfl); try ((first | (refine GL_call rfl (fun w H => lnk_Hear (x := sv1 cyc) (p := p) (u := uLink) (pv := .slice none 0 0) (R := N ++ [y]) (.nil _ _) (by decide) hx' (fun x hx => List.mem_cons_of_mem _ (List.mem_cons_of_mem _ (List.mem_append_left _ hx))) (by omega) H) rfl ?_; rintro v w' ⟨rfl, tv, o, es, en, tl, N1, hx', H⟩; have hx' : LnkAt (N1 ++ (N ++ [y])) 7 (sv2 cyc) tv o es en tl := (by unfold sv2; exact hx'); refine ⟨lnkOwn (sv2 cyc) p tv o es en tl (_ :: _ :: ((N1 ++ (N ++ [y])) ++ L)), (by unfold sv2; exact H.q11), ?_⟩) | (refine GL_call rfl (fun w H => lnk_Hear (x := sv2 cyc) (p := p) (u := uLink) (pv := .slice none 0 0) (R := N1 ++ (N ++ [y])) (.nil _ _) (by decide) hx' (fun x hx => List.mem_cons_of_mem _ (List.mem_cons_of_mem _ (List.mem_append_left _ hx))) (by omega) H) rfl ?_; rintro v w' ⟨rfl, tv, o, es, en, tl, N2, hx', H⟩; have hx' : LnkAt (N2 ++ (N1 ++ (N ++ [y]))) 13 (sv3 cyc) tv o es en tl := (by unfold sv3; exact hx'); refine ⟨lnkOwn (sv3 cyc) p tv o es en tl (_ :: _ :: ((N2 ++ (N1 ++ (N ++ [y]))) ++ L)), (by unfold sv3; exact H.q11), ?_⟩)); try (refine GL_nil ?_)))))
    | ((first | (apply GC_regionK (id := 8) [1, 2, 3, 4, 12, 13] (e' := [(1, _), (2, _), (3, _), (4, _), (12, _), (13, _)]); exact rfl) | refine GC_region (id := 8) ?_); try (refine xa rfl rfl ?_; try (refine GL_nil ?_)))
  generalize hM3 : N2 ++ (N1 ++ (N ++ [y])) = M3 at *
  refine GC_keep [14, 1, 2, 3, 4, 12, 13] (GC_loop (ι := Nat) (fun k e L' => k ≤ 1300 ∧ e = [(14, I64 k), (1, U8 put), (2, U8 send), (3, U8 answer), (4, U8 take), (12, Ptr p.X), (13, Ptr q)] ∧ SvAt L (13 + 8 * k) (ticks k (sv3 cyc)) uLink [] p q (.slice none 0 0) L') (fun k => 1300 - k) 0
    ⟨by omega, rfl, ⟨⟨_, _, _, _, _, .slice none 0 0, [], none, M3, by rw [ticks0]; exact hx', .nil _ _, .nil, .nil, by rw [ticks0]; rfl⟩⟩⟩ ?_)
  rintro k e L' ⟨hk, rfl, hsv⟩
  obtain ⟨tv, o, es, en, tl, pv, ys, el, M, hx', hu, hl, hy, rfl⟩ := hsv.out
  by_cases hlt : k < 1300
  · repeat' first
      | refine GC_seq ?_
      | refine GX_then ?_
      | refine GC_ret ?_
      | refine GX_then_ret ?_
      | refine GC_skip ?_
      | refine GC_block ?_
      | refine GX_block ?_
      | refine GX_block_ret ?_
      | refine GC_exit ?_
      | refine GX_then_exit ?_
      | refine GX_block_exit rfl ?_
      | refine GX_block_other rfl ?_
      | refine GC_true rfl ?_
      | refine GC_false rfl ?_
      | (apply GC_condT; exact rfl; (repeat (first | exact .dec | with_reducible apply Tell.or | with_reducible apply Tell.and | with_reducible apply Tell.not | exact .self)); all_goals (intro h; try contradiction))
      | ((first | (apply GC_regionK (id := 9) [1, 2, 3, 4, 12, 13, 14] (e' := [(1, _), (2, _), (3, _), (4, _), (12, _), (13, _), (14, _)]); exact rfl) | refine GC_region (id := 9) ?_); try (refine xm rfl rfl ?_; try (refine xt rfl rfl rfl ?_; try (refine GL_nil ?_))))
      | ((first | (apply GC_regionK (id := 11) [1, 2, 3, 4, 12, 13, 14] (e' := [(1, _), (2, _), (3, _), (4, _), (12, _), (13, _), (14, _)]); exact rfl) | refine GC_region (id := 11) ?_); try (refine xm rfl rfl ?_; try ((refine GL_call rfl (fun w H => lnk_Tick (x := ticks k (sv3 cyc)) (p := p) hx' (by omega) H) rfl ?_; rintro v w' ⟨rfl, tv', tl', hx', H⟩; refine ⟨_, H, ?_⟩); try (refine GL_nil ?_))))
      | ((first | (apply GC_regionK (id := 10) [1, 2, 3, 4, 12, 13, 14] (e' := [(1, _), (2, _), (3, _), (4, _), (12, _), (13, _), (14, _)]); exact rfl) | refine GC_region (id := 10) ?_); try (refine xm rfl rfl ?_; try (refine xA rfl rfl rfl ?_; try (refine xa rfl rfl ?_; try (refine GL_nil ?_)))))
    · refine GX_keep [14, 1, 2, 3, 4, 12, 13] (GX_loop (k + 1) ⟨by omega, ?_, ⟨⟨tv', o, es, en, tl', pv, ys, el, M, by rw [ticksS]; exact hx', hu, hl, hy, by rw [ticksS]⟩⟩⟩ (by omega))
      show [(14, I64 (IntKind.i64.wrap ((k : Int) + 1))), (1, _), (2, _), (3, _), (4, _), (12, _), (13, _)] = _
      rw [wrap_nat (by omega)]
    · omega
  · obtain rfl : k = 1300 := by omega
    obtain ⟨pa, pc, rfl⟩ := hu.shape
    repeat' first
      | refine GC_seq ?_
      | refine GX_then ?_
      | refine GC_ret ?_
      | refine GX_then_ret ?_
      | refine GC_skip ?_
      | refine GC_block ?_
      | refine GX_block ?_
      | refine GX_block_ret ?_
      | refine GC_exit ?_
      | refine GX_then_exit ?_
      | refine GX_block_exit rfl ?_
      | refine GX_block_other rfl ?_
      | refine GC_true rfl ?_
      | refine GC_false rfl ?_
      | (apply GC_condT; exact rfl; (repeat (first | exact .dec | with_reducible apply Tell.or | with_reducible apply Tell.and | with_reducible apply Tell.not | exact .self)); all_goals (intro h; try contradiction))
      | ((first | (apply GC_regionK (id := 9) [1, 2, 3, 4, 12, 13, 14] (e' := [(1, _), (2, _), (3, _), (4, _), (12, _), (13, _), (14, _)]); exact rfl) | refine GC_region (id := 9) ?_); try (refine xm rfl rfl ?_; try (refine xt rfl rfl rfl ?_; try (refine GL_nil ?_))))
      | ((first | (apply GC_regionK (id := 12) [1, 2, 3, 4, 12, 13] (e' := [(1, _), (2, _), (3, _), (4, _), (12, _), (13, _)]); exact rfl) | refine GC_region (id := 12) ?_); try (refine xf rfl rfl ?_; try ((first | (apply xs; exact rfl; exact rfl; (repeat (first | exact .here | apply Upd.there)); exact rfl; exact rfl) | (apply xS; exact rfl; exact rfl; (repeat (first | exact .here | apply Upd.there)); exact rfl; exact rfl; exact rfl)); try (refine GL_nil ?_))))
      | ((first | (apply GC_regionK (id := 13) [1, 2, 3, 4, 12, 13] (e' := [(1, _), (2, _), (3, _), (4, _), (12, _), (13, _)]); exact rfl) | refine GC_region (id := 13) ?_); try (refine xm rfl rfl ?_; try ((apply xL; exact rfl; (repeat (first | exact .here | refine .there ?_)); exact rfl; exact rfl); try ((refine GL_call rfl (fun w H => lnk_Hear (x := ticks 1300 (sv3 cyc)) (p := p) (u := uFill) (R := M) hu (by decide) hx' (fun x hx => List.mem_cons_of_mem _ (List.mem_cons_of_mem _ (List.mem_append_left _ hx))) (by omega) H) rfl ?_; rintro v w' ⟨rfl, tv, o, es, en, tl, N, hx', H⟩; have hx' : LnkAt (N ++ M) 10419 (sv4 cyc) tv o es en tl := (by unfold sv4; exact hx'.mono (by omega)); refine ⟨lnkOwn (sv4 cyc) p tv o es en tl (_ :: _ :: ((N ++ M) ++ L)), (by unfold sv4; exact H.q11), ?_⟩); try (refine GL_nil ?_)))))
      | ((first | (apply GC_regionK (id := 14) [1, 2, 3, 4, 12, 13] (e' := [(1, _), (2, _), (3, _), (4, _), (12, _), (13, _)]); exact rfl) | refine GC_region (id := 14) ?_); try (refine xa rfl rfl ?_; try (refine GL_nil ?_)))
      | ((first | (apply GC_regionK (id := 15) [1, 2, 3, 4, 12, 13, 15] (e' := [(1, _), (2, _), (3, _), (4, _), (12, _), (13, _), (15, _)]); exact rfl) | refine GC_region (id := 15) ?_); try (refine xa rfl rfl ?_; try (refine GL_nil ?_)))
    have hu4 : Pay (N ++ M) (.slice pa uLink.info.length pc) uFill.info := hu.mono
    have hy4 : Pays (N ++ M) ys [] := hy.mono
    generalize hM4 : N ++ M = M4 at *
    have hp12 : (IntKind.i64.wrap put).tmod 12 = (m12 put : Int) := by
      have : IntKind.i64.wrap put = put := w64_id (by omega)
      rw [this]
      unfold m12
      rw [Int.tmod_eq_emod_of_nonneg h0.1]
      omega
    have hm12 : m12 put < 12 := by
      unfold m12
      rw [Int.tmod_eq_emod_of_nonneg h0.1]
      omega
    refine GC_keep [16, 1, 2, 3, 4, 12, 13, 15] (GC_loop (ι := Nat) (fun k e L' => k ≤ m12 put ∧ ∃ lv, e = [(16, I64 k), (1, U8 put), (2, U8 send), (3, U8 answer), (4, U8 take), (12, Ptr p.X), (13, Ptr q), (15, lv)] ∧ SvAt L (10419 + k) (puts put k (sv4 cyc, [])).1 uFill (puts put k (sv4 cyc, [])).2 p q lv L') (fun k => m12 put - k) 0
      ⟨by omega, _, rfl, ⟨⟨tv, o, es, en, tl, .slice pa uLink.info.length pc, ys, el, M4, by rw [puts0]; exact hx', hu4, by rw [puts0]; exact hl, by rw [puts0]; exact hy4, by rw [puts0]; rfl⟩⟩⟩ ?_)
    rintro k e L' ⟨hk, lv, rfl, hsv⟩
    obtain ⟨tv, o, es, en, tl, pv, ys, el, M, hx', hu, hl, hy, rfl⟩ := hsv.out
    obtain ⟨pvl, cvl, rfl, hcl, _, _⟩ := hl.cap
    have hpl := puts_len (put := put) k (sv4 cyc, [])
    simp only [List.length_nil, Nat.zero_add] at hpl
    by_cases hlt : k < m12 put
    · have hok : LnkOk (puts put k (sv4 cyc, [])).1 := okPuts' inferInstance
      repeat' first
        | (refine xz rfl rfl rfl (fun qp => ?_); refine GL_sub (L' := lnkOwn (puts put k (sv4 cyc, [])).1 p tv o es en tl (some (q, untBox uFill pv) :: el :: some (qp, .cells (octets (pMsg put k)).toArray 5 (0, 0)) :: (M ++ L))) (fun w h => h.in11) ?_)
        | (refine xz rfl rfl rfl (fun qt => ?_); refine GL_sub (fun w h => h.in11) ?_)
        | (refine xap (i := 10) rfl rfl hl rfl Find.f11 rfl rfl (by omega) (by omega) (by omega) rfl (fun v' x' hs' => ?_))
        | refine GC_seq ?_
        | refine GX_then ?_
        | refine GC_ret ?_
        | refine GX_then_ret ?_
        | refine GC_skip ?_
        | refine GC_block ?_
        | refine GX_block ?_
        | refine GX_block_ret ?_
        | refine GC_exit ?_
        | refine GX_then_exit ?_
        | refine GX_block_exit rfl ?_
        | refine GX_block_other rfl ?_
        | refine GC_true rfl ?_
        | refine GC_false rfl ?_
        | (apply GC_condT; exact rfl; (repeat (first | exact .dec | with_reducible apply Tell.or | with_reducible apply Tell.and | with_reducible apply Tell.not | exact .self)); all_goals (intro h; try contradiction))
        | ((first | (apply GC_regionK (id := 16) [1, 2, 3, 4, 12, 13, 15, 16] (e' := [(1, _), (2, _), (3, _), (4, _), (12, _), (13, _), (15, _), (16, _)]); exact rfl) | refine GC_region (id := 16) ?_); try (refine xm rfl rfl ?_; try (refine xm rfl rfl ?_; try (refine xc rfl rfl ?_; try ((first | refine xr rfl rfl rfl rfl ?_ | refine xr rfl rfl (beq_false_of_ne (by omega)) rfl ?_); try (refine xt rfl rfl rfl ?_; try (refine GL_nil ?_)))))))
        | ((first | (apply GC_regionK (id := 18) [1, 2, 3, 4, 12, 13, 15, 16] (e' := [(1, _), (2, _), (3, _), (4, _), (12, _), (13, _), (15, _), (16, _)]); exact rfl) | refine GC_region (id := 18) ?_); try (refine xm rfl rfl ?_; try (refine xc rfl rfl ?_; try (refine xm rfl rfl ?_; try ((first | (refine xz rfl rfl rfl (fun qp => ?_); refine GL_sub (L' := lnkOwn (puts put k (sv4 cyc, [])).1 p tv o es en tl (some (q, untBox uFill pv) :: el :: some (qp, .cells (octets (pMsg put k)).toArray 5 (0, 0)) :: (M ++ L))) (fun w h => h.in11) ?_) | (refine xz rfl rfl rfl (fun qt => ?_); refine GL_sub (fun w h => h.in11) ?_) | refine xz rfl rfl rfl (fun q => ?_)); try (refine xa rfl rfl ?_; try (refine GL_nil ?_)))))))
        | ((first | (apply GC_regionK (id := 19) [1, 2, 3, 4, 12, 13, 15, 16, 17] (e' := [(1, _), (2, _), (3, _), (4, _), (12, _), (13, _), (15, _), (16, _), (17, _)]); exact rfl) | refine GC_region (id := 19) ?_); try (refine xm rfl rfl ?_; try (refine xm rfl rfl ?_; try (refine xb rfl rfl rfl ?_; try ((refine GL_call rfl (fun w H => lnk_Order (x := (puts put k (sv4 cyc, [])).1) (p := p) (R := some (qp, .cells (octets (pMsg put k)).toArray 5 (0, 0)) :: M) (n := 10419 + k) (m := pMsg put k) (kd := 5) (pv := .slice (some ⟨qp, 0, none⟩) 3 3) ⟨⟨some ⟨qp, 0, none⟩, 3, rfl, .inr ⟨qp, 0, [], [], rfl, rfl, (0, 0), by simp⟩⟩⟩ (hx'.sub (fun x hx => List.mem_cons_of_mem _ hx)) (fun x hx => List.mem_cons_of_mem _ (List.mem_cons_of_mem _ (List.mem_append_left L hx))) (by omega) H) rfl ?_; rintro v w' ⟨rfl, tv', o', es', en', tl', N, hx', H⟩; refine ⟨_, H.q11, ?_⟩); try (refine xq rfl rfl rfl ?_; try (refine GL_nil ?_)))))))
        | ((first | (apply GC_regionK (id := 20) [1, 2, 3, 4, 12, 13, 15, 16, 17] (e' := [(1, _), (2, _), (3, _), (4, _), (12, _), (13, _), (15, _), (16, _), (17, _)]); exact rfl) | refine GC_region (id := 20) ?_); try (refine xm rfl rfl ?_; try (refine xm rfl rfl ?_; try ((first | (refine xz rfl rfl rfl (fun qp => ?_); refine GL_sub (L' := lnkOwn (puts put k (sv4 cyc, [])).1 p tv o es en tl (some (q, untBox uFill pv) :: el :: some (qp, .cells (octets (pMsg put k)).toArray 5 (0, 0)) :: (M ++ L))) (fun w h => h.in11) ?_) | (refine xz rfl rfl rfl (fun qt => ?_); refine GL_sub (fun w h => h.in11) ?_) | refine xz rfl rfl rfl (fun q => ?_)); try ((refine xap (i := 10) rfl rfl hl rfl Find.f11 rfl rfl (by omega) (by omega) (by omega) rfl (fun v' x' hs' => ?_)); try (refine xa rfl rfl ?_; try (refine GL_nil ?_)))))))
        | ((first | (apply GC_regionK (id := 17) [1, 2, 3, 4, 12, 13, 15, 16] (e' := [(1, _), (2, _), (3, _), (4, _), (12, _), (13, _), (15, _), (16, _)]); exact rfl) | refine GC_region (id := 17) ?_); try (refine xm rfl rfl ?_; try (refine xA rfl rfl rfl ?_; try (refine xa rfl rfl ?_; try (refine GL_nil ?_)))))
      · refine GX_keep [16, 1, 2, 3, 4, 12, 13, 15] (GX_loop (k + 1) ⟨by omega, v', ?_, ⟨⟨tv', o', es', en', tl', pv, ys ++ [.slice (some ⟨qp, 0, none⟩) 3 3], x', some (qt, .cells (List.toArray [.slice (some ⟨qp, 0, none⟩) 3 3]) 37 (0, 0)) :: (N ++ (some (qp, .cells (octets (pMsg put k)).toArray 5 (0, 0)) :: M)), ?_, ?_, ?_, ?_, ?_⟩⟩⟩ (by omega))
        · show [(16, I64 (IntKind.i64.wrap ((k : Int) + 1))), (1, _), (2, _), (3, _), (4, _), (12, _), (13, _), (15, _)] = _
          rw [wrap_nat (by omega)]
        · rw [putsS]; exact (hx'.mono (by omega)).sub (fun x hx => List.mem_cons_of_mem _ hx)
        · exact hu.sub (fun x hx => by simp [hx])
        · rw [putsS]; unfold puts1; rw [if_pos h]; simpa using hs'
        · rw [putsS]; unfold puts1; rw [if_pos h]
          exact (hy.sub (fun x hx => by simp [hx])).append (.cons ⟨⟨some ⟨qp, 0, none⟩, 3, rfl, .inr ⟨qp, 0, [], [], rfl, rfl, (0, 0), by simp⟩⟩⟩ .nil)
        · rw [putsS]; rfl
      · refine GX_keep [16, 1, 2, 3, 4, 12, 13, 15] (GX_loop (k + 1) ⟨by omega, .slice pvl (puts put k (sv4 cyc, [])).2.length cvl, ?_, ⟨⟨tv', o', es', en', tl', pv, ys, el, (N ++ (some (qp, .cells (octets (pMsg put k)).toArray 5 (0, 0)) :: M)), ?_, ?_, ?_, ?_, ?_⟩⟩⟩ (by omega))
        · show [(16, I64 (IntKind.i64.wrap ((k : Int) + 1))), (1, _), (2, _), (3, _), (4, _), (12, _), (13, _), (15, _)] = _
          rw [wrap_nat (by omega)]
        · rw [putsS]; exact hx'.mono (by omega)
        · exact hu.sub (fun x hx => by simp [hx])
        · rw [putsS]; unfold puts1; rw [if_neg h]; exact hl
        · rw [putsS]; unfold puts1; rw [if_neg h]
          exact hy.sub (fun x hx => by simp [hx])
        · rw [putsS]; rfl
      · omega
    · obtain rfl : k = m12 put := by omega
      have e5 : puts put (m12 put) (sv4 cyc, []) = sv5 cyc put := rfl
      rw [e5] at hx' hl hy hcl hpl
      repeat' first
        | refine GC_seq ?_
        | refine GX_then ?_
        | refine GC_ret ?_
        | refine GX_then_ret ?_
        | refine GC_skip ?_
        | refine GC_block ?_
        | refine GX_block ?_
        | refine GX_block_ret ?_
        | refine GC_exit ?_
        | refine GX_then_exit ?_
        | refine GX_block_exit rfl ?_
        | refine GX_block_other rfl ?_
        | refine GC_true rfl ?_
        | refine GC_false rfl ?_
        | (apply GC_condT; exact rfl; (repeat (first | exact .dec | with_reducible apply Tell.or | with_reducible apply Tell.and | with_reducible apply Tell.not | exact .self)); all_goals (intro h; try contradiction))
        | ((first | (apply GC_regionK (id := 16) [1, 2, 3, 4, 12, 13, 15, 16] (e' := [(1, _), (2, _), (3, _), (4, _), (12, _), (13, _), (15, _), (16, _)]); exact rfl) | refine GC_region (id := 16) ?_); try (refine xm rfl rfl ?_; try (refine xm rfl rfl ?_; try (refine xc rfl rfl ?_; try ((first | refine xr rfl rfl rfl rfl ?_ | refine xr rfl rfl (beq_false_of_ne (by omega)) rfl ?_); try (refine xt rfl rfl rfl ?_; try (refine GL_nil ?_)))))))
        | ((first | (apply GC_regionK (id := 21) [2, 3, 4, 12, 13, 15] (e' := [(2, _), (3, _), (4, _), (12, _), (13, _), (15, _)]); exact rfl) | refine GC_region (id := 21) ?_); try (refine xa rfl rfl ?_; try (refine GL_nil ?_)))
      · omega
      rw [e5]
      clear hsv
      have hx' := hx'.mono (show 10419 + m12 put ≤ 10431 by omega)
      generalize hl5 : (sv5 cyc put).2 = l5 at *
      have hs12 : (IntKind.i64.wrap send).tmod 12 = (m12 send : Int) := by
        have : IntKind.i64.wrap send = send := w64_id (by omega)
        rw [this]
        unfold m12
        rw [Int.tmod_eq_emod_of_nonneg h1.1]
        omega
      have hm12s : m12 send < 12 := by
        unfold m12
        rw [Int.tmod_eq_emod_of_nonneg h1.1]
        omega
      refine GC_keep [18, 2, 3, 4, 12, 13, 15] (GC_loop (ι := Nat) (fun k e L' => k ≤ m12 send ∧ e = [(18, I64 k), (2, U8 send), (3, U8 answer), (4, U8 take), (12, Ptr p.X), (13, Ptr q), (15, .slice pvl l5.length cvl)] ∧ SvAt L 10431 (sends k (sv5 cyc put).1) uFill l5 p q (.slice pvl l5.length cvl) L') (fun k => m12 send - k) 0
        ⟨by omega, rfl, ⟨⟨tv, o, es, en, tl, pv, ys, el, M, by rw [sends0]; exact hx', hu, hl, hy, by rw [sends0]⟩⟩⟩ ?_)
      rintro k e L' ⟨hk, rfl, hsv⟩
      obtain ⟨tv, o, es, en, tl, pv, ys, el, M, hx', hu, hl, hy, rfl⟩ := hsv.out
      by_cases hlt : k < m12 send
      · repeat' first
          | refine GC_seq ?_
          | refine GX_then ?_
          | refine GC_ret ?_
          | refine GX_then_ret ?_
          | refine GC_skip ?_
          | refine GC_block ?_
          | refine GX_block ?_
          | refine GX_block_ret ?_
          | refine GC_exit ?_
          | refine GX_then_exit ?_
          | refine GX_block_exit rfl ?_
          | refine GX_block_other rfl ?_
          | refine GC_true rfl ?_
          | refine GC_false rfl ?_
          | (apply GC_condT; exact rfl; (repeat (first | exact .dec | with_reducible apply Tell.or | with_reducible apply Tell.and | with_reducible apply Tell.not | exact .self)); all_goals (intro h; try contradiction))
          | ((first | (apply GC_regionK (id := 22) [2, 3, 4, 12, 13, 15, 18] (e' := [(2, _), (3, _), (4, _), (12, _), (13, _), (15, _), (18, _)]); exact rfl) | refine GC_region (id := 22) ?_); try (refine xm rfl rfl ?_; try (refine xm rfl rfl ?_; try (refine xc rfl rfl ?_; try ((first | refine xr rfl rfl rfl rfl ?_ | refine xr rfl rfl (beq_false_of_ne (by omega)) rfl ?_); try (refine xt rfl rfl rfl ?_; try (refine GL_nil ?_)))))))
          | ((first | (apply GC_regionK (id := 24) [2, 3, 4, 12, 13, 15, 18] (e' := [(2, _), (3, _), (4, _), (12, _), (13, _), (15, _), (18, _)]); exact rfl) | refine GC_region (id := 24) ?_); try (refine xm rfl rfl ?_; try ((refine GL_call rfl (fun w H => lnk_Next (x := sends k (sv5 cyc put).1) (p := p) (R := M) hx' (fun x hx => List.mem_cons_of_mem _ (List.mem_cons_of_mem _ (List.mem_append_left _ hx))) H) rfl ?_; rintro v w' ⟨pv9, tv', o', es', en', tl', N, rfl, hq, hx', H⟩; refine ⟨_, H.q11, ?_⟩); try (refine GL_nil ?_))))
          | ((first | (apply GC_regionK (id := 23) [2, 3, 4, 12, 13, 15, 18] (e' := [(2, _), (3, _), (4, _), (12, _), (13, _), (15, _), (18, _)]); exact rfl) | refine GC_region (id := 23) ?_); try (refine xm rfl rfl ?_; try (refine xA rfl rfl rfl ?_; try (refine xa rfl rfl ?_; try (refine GL_nil ?_)))))
        · refine GX_keep [18, 2, 3, 4, 12, 13, 15] (GX_loop (k + 1) ⟨by omega, ?_, ⟨⟨tv', o', es', en', tl', pv, ys, el, N ++ M, by rw [sendsS]; exact hx', hu.mono, hl, hy.mono, by rw [sendsS]⟩⟩⟩ (by omega))
          show [(18, I64 (IntKind.i64.wrap ((k : Int) + 1))), (2, _), (3, _), (4, _), (12, _), (13, _), (15, _)] = _
          rw [wrap_nat (by omega)]
        · omega
      · obtain rfl : k = m12 send := by omega
        have e6 : sends (m12 send) (sv5 cyc put).1 = sv6 cyc put send := rfl
        rw [e6] at hx'
        repeat' first
          | refine GC_seq ?_
          | refine GX_then ?_
          | refine GC_ret ?_
          | refine GX_then_ret ?_
          | refine GC_skip ?_
          | refine GC_block ?_
          | refine GX_block ?_
          | refine GX_block_ret ?_
          | refine GC_exit ?_
          | refine GX_then_exit ?_
          | refine GX_block_exit rfl ?_
          | refine GX_block_other rfl ?_
          | refine GC_true rfl ?_
          | refine GC_false rfl ?_
          | (apply GC_condT; exact rfl; (repeat (first | exact .dec | with_reducible apply Tell.or | with_reducible apply Tell.and | with_reducible apply Tell.not | exact .self)); all_goals (intro h; try contradiction))
          | ((first | (apply GC_regionK (id := 22) [2, 3, 4, 12, 13, 15, 18] (e' := [(2, _), (3, _), (4, _), (12, _), (13, _), (15, _), (18, _)]); exact rfl) | refine GC_region (id := 22) ?_); try (refine xm rfl rfl ?_; try (refine xm rfl rfl ?_; try (refine xc rfl rfl ?_; try ((first | refine xr rfl rfl rfl rfl ?_ | refine xr rfl rfl (beq_false_of_ne (by omega)) rfl ?_); try (refine xt rfl rfl rfl ?_; try (refine GL_nil ?_)))))))
          | ((first | (apply GC_regionK (id := 25) [3, 4, 12, 13, 15] (e' := [(3, _), (4, _), (12, _), (13, _), (15, _)]); exact rfl) | refine GC_region (id := 25) ?_); try (refine xa rfl rfl ?_; try (refine GL_nil ?_)))
        · omega
        rw [e6]
        clear hsv
        have ht9 : (IntKind.i64.wrap take).tmod 9 = (m9 take : Int) := by
          have : IntKind.i64.wrap take = take := w64_id (by omega)
          rw [this]
          unfold m9
          rw [Int.tmod_eq_emod_of_nonneg h3.1]
          omega
        have hm9 : m9 take < 9 := by
          unfold m9
          rw [Int.tmod_eq_emod_of_nonneg h3.1]
          omega
        refine GC_keep [19, 3, 4, 12, 13, 15] (GC_loop (ι := Nat) (fun k e L' => k ≤ m9 take ∧ e = [(19, I64 k), (3, U8 answer), (4, U8 take), (12, Ptr p.X), (13, Ptr q), (15, .slice pvl l5.length cvl)] ∧ SvAt L (10431 + 6 * k) (takes k (sv6 cyc put send)) (uAfter k) l5 p q (.slice pvl l5.length cvl) L') (fun k => m9 take - k) 0
          ⟨by omega, rfl, ⟨⟨tv, o, es, en, tl, pv, ys, el, M, by rw [takes0]; exact hx', hu, hl, hy, by rw [takes0]; rfl⟩⟩⟩ ?_)
        rintro k e L' ⟨hk, rfl, hsv⟩
        obtain ⟨tv, o, es, en, tl, pv, ys, el, M, hx', hu, hl, hy, rfl⟩ := hsv.out
        obtain ⟨pa, pc, rfl⟩ := hu.shape
        by_cases hlt : k < m9 take
        · repeat' first
            | (refine xz rfl rfl rfl (fun qa => ?_); refine GL_sub (fun w h => h.in11) ?_)
            | (refine xcS rfl (i := 11) rfl rfl ?_)
            | refine GC_seq ?_
            | refine GX_then ?_
            | refine GC_ret ?_
            | refine GX_then_ret ?_
            | refine GC_skip ?_
            | refine GC_block ?_
            | refine GX_block ?_
            | refine GX_block_ret ?_
            | refine GC_exit ?_
            | refine GX_then_exit ?_
            | refine GX_block_exit rfl ?_
            | refine GX_block_other rfl ?_
            | refine GC_true rfl ?_
            | refine GC_false rfl ?_
            | (apply GC_condT; exact rfl; (repeat (first | exact .dec | with_reducible apply Tell.or | with_reducible apply Tell.and | with_reducible apply Tell.not | exact .self)); all_goals (intro h; try contradiction))
            | ((first | (apply GC_regionK (id := 26) [3, 4, 12, 13, 15, 19] (e' := [(3, _), (4, _), (12, _), (13, _), (15, _), (19, _)]); exact rfl) | refine GC_region (id := 26) ?_); try (refine xm rfl rfl ?_; try (refine xm rfl rfl ?_; try (refine xc rfl rfl ?_; try ((first | refine xr rfl rfl rfl rfl ?_ | refine xr rfl rfl (beq_false_of_ne (by omega)) rfl ?_); try (refine xt rfl rfl rfl ?_; try (refine GL_nil ?_)))))))
            | ((first | (apply GC_regionK (id := 28) [3, 4, 12, 13, 15, 19] (e' := [(3, _), (4, _), (12, _), (13, _), (15, _), (19, _)]); exact rfl) | refine GC_region (id := 28) ?_); try (refine xf rfl rfl ?_; try ((first | (apply xs; exact rfl; exact rfl; (repeat (first | exact .here | apply Upd.there)); exact rfl; exact rfl) | (apply xS; exact rfl; exact rfl; (repeat (first | exact .here | apply Upd.there)); exact rfl; exact rfl; exact rfl)); try (refine GL_nil ?_))))
            | ((first | (apply GC_regionK (id := 29) [3, 4, 12, 13, 15, 19] (e' := [(3, _), (4, _), (12, _), (13, _), (15, _), (19, _)]); exact rfl) | refine GC_region (id := 29) ?_); try (refine xm rfl rfl ?_; try (refine xc rfl rfl ?_; try (refine xf rfl rfl ?_; try ((first | (apply xs; exact rfl; exact rfl; (repeat (first | exact .here | apply Upd.there)); exact rfl; exact rfl) | (apply xS; exact rfl; exact rfl; (repeat (first | exact .here | apply Upd.there)); exact rfl; exact rfl; exact rfl)); try (refine GL_nil ?_))))))
            | ((first | (apply GC_regionK (id := 30) [3, 4, 12, 13, 15, 19] (e' := [(3, _), (4, _), (12, _), (13, _), (15, _), (19, _)]); exact rfl) | refine GC_region (id := 30) ?_); try ((first | (refine xz rfl rfl rfl (fun qa => ?_); refine GL_sub (fun w h => h.in11) ?_) | refine xz rfl rfl rfl (fun q => ?_)); try ((refine xcS rfl (i := 11) rfl rfl ?_); try (refine xf rfl rfl ?_; try ((first | (apply xs; exact rfl; exact rfl; (repeat (first | exact .here | apply Upd.there)); exact rfl; exact rfl) | (apply xS; exact rfl; exact rfl; (repeat (first | exact .here | apply Upd.there)); exact rfl; exact rfl; exact rfl)); try (refine GL_nil ?_))))))
            | ((first | (apply GC_regionK (id := 31) [3, 4, 12, 13, 15, 19] (e' := [(3, _), (4, _), (12, _), (13, _), (15, _), (19, _)]); exact rfl) | refine GC_region (id := 31) ?_); try (refine xm rfl rfl ?_; try ((apply xL; exact rfl; (repeat (first | exact .here | refine .there ?_)); exact rfl; exact rfl); try ((refine GL_call rfl (fun w H => lnk_Hear (x := takes k (sv6 cyc put send)) (p := p) (u := uTake k) (pv := .slice (some ⟨qa, 0, none⟩) 3 3) (R := some (qa, .cells (octets [97, 98, 99]).toArray 5 (3, 4)) :: M) ⟨⟨some ⟨qa, 0, none⟩, 3, rfl, .inr ⟨qa, 0, [], [], rfl, rfl, (3, 4), List.Mem.head _⟩⟩⟩ (show (3 : Nat) ≤ 1000000 by decide) (hx'.sub (fun x hx => List.mem_cons_of_mem _ hx)) (fun x hx => List.mem_cons_of_mem _ (List.mem_cons_of_mem _ (List.mem_append_left L hx))) (by omega) H) rfl ?_; rintro v w' ⟨rfl, tv', o', es', en', tl', N, hx', H⟩; refine ⟨_, H.q11, ?_⟩); try (refine GL_nil ?_)))))
            | ((first | (apply GC_regionK (id := 27) [3, 4, 12, 13, 15, 19] (e' := [(3, _), (4, _), (12, _), (13, _), (15, _), (19, _)]); exact rfl) | refine GC_region (id := 27) ?_); try (refine xm rfl rfl ?_; try (refine xA rfl rfl rfl ?_; try (refine xa rfl rfl ?_; try (refine GL_nil ?_)))))
          · refine GX_keep [19, 3, 4, 12, 13, 15] (GX_loop (k + 1) ⟨by omega, ?_, ⟨⟨tv', o', es', en', tl', .slice (some ⟨qa, 0, none⟩) 3 3, ys, el, N ++ (some (qa, .cells (octets [97, 98, 99]).toArray 5 (3, 4)) :: M), ?_, ?_, hl, ?_, ?_⟩⟩⟩ (by omega))
            · show [(19, I64 (IntKind.i64.wrap ((k : Int) + 1))), (3, _), (4, _), (12, _), (13, _), (15, _)] = _
              rw [wrap_nat (by omega)]
            · rw [takesS]; exact hx'.mono (by omega)
            · exact ⟨⟨some ⟨qa, 0, none⟩, 3, rfl, .inr ⟨qa, 0, [], [], rfl, rfl, (3, 4), List.mem_append_right _ (List.Mem.head _)⟩⟩⟩
            · exact hy.sub (fun x hx => by simp [hx])
            · rw [takesS]; rfl
          · omega
        · obtain rfl : k = m9 take := by omega
          have e7 : takes (m9 take) (sv6 cyc put send) = sv7 cyc put send take := rfl
          rw [e7] at hx'
          have hx' := hx'.mono (show 10431 + 6 * m9 take ≤ 10500 by omega)
          have hia : (iAfter (m9 take)).length ≤ 1000000 := by (cases m9 take <;> exact (show (_ : Nat) ≤ 1000000 from by simp [iAfter]))
          have hcut : ∀ n : Nat, IntKind.i64.wrap (ansB (sv7 cyc put send take) answer) < (n : Int) → 0 ≤ IntKind.u8.wrap (ansB (sv7 cyc put send take) answer + 1) ∧ IntKind.u8.wrap (ansB (sv7 cyc put send take) answer + 1) ≤ (n : Int) := fun n hn => by
            have hb := w8_rng ((w64 answer).tmod (sv7 cyc put send take).h.sent.length)
            change 0 ≤ ansB (sv7 cyc put send take) answer ∧ ansB (sv7 cyc put send take) answer ≤ 255 at hb
            have e1 : IntKind.i64.wrap (ansB (sv7 cyc put send take) answer) = ansB (sv7 cyc put send take) answer := w64_id (by omega)
            have e2 : IntKind.u8.wrap (ansB (sv7 cyc put send take) answer + 1) = (ansB (sv7 cyc put send take) answer + 1) % 256 := IntKind.wrap_u8 _
            rw [e1] at hn
            rw [e2]
            omega
          have hok7 : LnkOk (sv7 cyc put send take) := inferInstance
          rw [e7]
          generalize hy7 : sv7 cyc put send take = x7 at *
          repeat' first
            | refine GC_seq ?_
            | refine GX_then ?_
            | refine GC_ret ?_
            | refine GX_then_ret ?_
            | refine GC_skip ?_
            | refine GC_block ?_
            | refine GX_block ?_
            | refine GX_block_ret ?_
            | refine GC_exit ?_
            | refine GX_then_exit ?_
            | refine GX_block_exit rfl ?_
            | refine GX_block_other rfl ?_
            | refine GC_true rfl ?_
            | refine GC_false rfl ?_
            | (apply GC_condT; exact rfl; (repeat (first | exact .dec | with_reducible apply Tell.or | with_reducible apply Tell.and | with_reducible apply Tell.not | exact .self)); all_goals (intro h; try contradiction))
            | ((first | (apply GC_regionK (id := 26) [3, 4, 12, 13, 15, 19] (e' := [(3, _), (4, _), (12, _), (13, _), (15, _), (19, _)]); exact rfl) | refine GC_region (id := 26) ?_); try (refine xm rfl rfl ?_; try (refine xm rfl rfl ?_; try (refine xc rfl rfl ?_; try ((first | refine xr rfl rfl rfl rfl ?_ | refine xr rfl rfl (beq_false_of_ne (by omega)) rfl ?_); try (refine xt rfl rfl rfl ?_; try (refine GL_nil ?_)))))))
            | ((first | (apply GC_regionK (id := 32) [3, 12, 13, 15] (e' := [(3, _), (12, _), (13, _), (15, _)]); exact rfl) | refine GC_region (id := 32) ?_); try (refine xm rfl rfl ?_; try (refine xn rfl rfl ?_; try (refine xf rfl rfl ?_; try ((first | (apply xl; exact rfl; (repeat (first | exact .here | refine .there ?_)); exact rfl; exact rfl) | (apply xL; exact rfl; (repeat (first | exact .here | refine .there ?_)); exact rfl; exact rfl)); try ((refine GL_invoke rfl rfl (fun w H => wy_Hold (H.pull 4 rfl)) rfl ?_; rintro v w' ⟨rfl, H⟩; refine ⟨_, H.push 4 (by simp), ?_⟩); try ((refine GL_call rfl (fun w H => hold_SentA hx'.hd (H.pull 5 rfl)) rfl ?_; rintro v w' ⟨rfl, H⟩; refine ⟨_, H.push 5 (by simp), ?_⟩); try (refine xg rfl rfl rfl ?_; try (refine GL_nil ?_)))))))))
            | ((first | (apply GC_regionK (id := 33) [3, 12, 13, 15] (e' := [(3, _), (12, _), (13, _), (15, _)]); exact rfl) | refine GC_region (id := 33) ?_); try (refine xm rfl rfl ?_; try (refine xc rfl rfl ?_; try (refine xm rfl rfl ?_; try (refine xn rfl rfl ?_; try (refine xf rfl rfl ?_; try ((first | (apply xl; exact rfl; (repeat (first | exact .here | refine .there ?_)); exact rfl; exact rfl) | (apply xL; exact rfl; (repeat (first | exact .here | refine .there ?_)); exact rfl; exact rfl)); try ((refine GL_invoke rfl rfl (fun w H => wy_Hold (H.pull 4 rfl)) rfl ?_; rintro v w' ⟨rfl, H⟩; refine ⟨_, H.push 4 (by simp), ?_⟩); try ((refine GL_call rfl (fun w H => hold_SentA hx'.hd (H.pull 5 rfl)) rfl ?_; rintro v w' ⟨rfl, H⟩; refine ⟨_, H.push 5 (by simp), ?_⟩); try ((first | refine xr rfl rfl rfl rfl ?_ | refine xr rfl rfl (beq_false_of_ne (by omega)) rfl ?_); try (refine xc rfl rfl ?_; try (refine xf rfl rfl ?_; try ((first | (apply xs; exact rfl; exact rfl; (repeat (first | exact .here | apply Upd.there)); exact rfl; exact rfl) | (apply xS; exact rfl; exact rfl; (repeat (first | exact .here | apply Upd.there)); exact rfl; exact rfl; exact rfl)); try (refine GL_nil ?_))))))))))))))
            | ((first | (apply GC_regionK (id := 34) [12, 13, 15] (e' := [(12, _), (13, _), (15, _)]); exact rfl) | refine GC_region (id := 34) ?_); try (refine xf rfl rfl ?_; try ((first | (apply xs; exact rfl; exact rfl; (repeat (first | exact .here | apply Upd.there)); exact rfl; exact rfl) | (apply xS; exact rfl; exact rfl; (repeat (first | exact .here | apply Upd.there)); exact rfl; exact rfl; exact rfl)); try (refine GL_nil ?_))))
            | ((first | (apply GC_regionK (id := 35) [12, 13, 15] (e' := [(12, _), (13, _), (15, _)]); exact rfl) | refine GC_region (id := 35) ?_); try (refine xm rfl rfl ?_; try (refine xn rfl rfl ?_; try (refine xf rfl rfl ?_; try ((first | (apply xl; exact rfl; (repeat (first | exact .here | refine .there ?_)); exact rfl; exact rfl) | (apply xL; exact rfl; (repeat (first | exact .here | refine .there ?_)); exact rfl; exact rfl)); try ((refine GL_invoke rfl rfl (fun w H => wy_Taken (H.pull 4 rfl)) rfl ?_; rintro v w' ⟨rfl, H⟩; refine ⟨_, H.push 4 (by simp), ?_⟩); try (refine xf rfl rfl ?_; try ((first | (apply xs; exact rfl; exact rfl; (repeat (first | exact .here | apply Upd.there)); exact rfl; exact rfl) | (apply xS; exact rfl; exact rfl; (repeat (first | exact .here | apply Upd.there)); exact rfl; exact rfl; exact rfl)); try (refine GL_nil ?_)))))))))
            | ((first | (apply GC_regionK (id := 36) [12, 13, 15] (e' := [(12, _), (13, _), (15, _)]); exact rfl) | refine GC_region (id := 36) ?_); try (refine xm rfl rfl ?_; try ((apply xL; exact rfl; (repeat (first | exact .here | refine .there ?_)); exact rfl; exact rfl); try ((refine GL_call rfl (fun w H => lnk_Hear (x := x7) (p := p) (u := uAns (uAfter (m9 take)) (ansB x7 answer) x7.w.last) (R := M) hu hia hx' (fun x hx => List.mem_cons_of_mem _ (List.mem_cons_of_mem _ (List.mem_append_left _ hx))) (by omega) H) rfl ?_; rintro v w' ⟨rfl, tv', o', es', en', tl', N, hx', H⟩; refine ⟨_, H.q11, ?_⟩); try (refine GL_nil ?_)))))
            | ((first | (apply GC_regionK (id := 37) [12, 13, 15] (e' := [(12, _), (13, _), (15, _)]); exact rfl) | refine GC_region (id := 37) ?_); try (refine xm rfl rfl ?_; try (refine xy rfl rfl ?_; try (refine xf rfl rfl ?_; try ((apply xl; exact rfl; (repeat (first | exact .here | refine .there ?_)); exact rfl; exact rfl); try (refine xc rfl rfl ?_; try (refine xg rfl rfl rfl ?_; try (refine GL_nil ?_))))))))
            | ((first | (apply GC_regionK (id := 38) [12, 13, 15] (e' := [(12, _), (13, _), (15, _)]); exact rfl) | refine GC_region (id := 38) ?_); try (refine xm rfl rfl ?_; try (refine xf rfl rfl ?_; try ((apply xl; exact rfl; (repeat (first | exact .here | refine .there ?_)); exact rfl; exact rfl); try (refine xA rfl rfl rfl ?_; try (refine xsl rfl rfl (by first | decide | omega | exact hcut _ h) rfl ?_; try (refine xa rfl rfl ?_; try (refine GL_nil ?_))))))))
            | ((first | (apply GC_regionK (id := 39) [12, 15] (e' := [(12, _), (15, _)]); exact rfl) | refine GC_region (id := 39) ?_); try (refine xm rfl rfl ?_; try (refine xm rfl rfl ?_; try (refine xa rfl rfl ?_; try (refine xa rfl rfl ?_; try (refine GL_nil ?_))))))
          · omega
          · have hS : serving cyc put send answer take = (x7.hear (uAns (uAfter (m9 take)) (ansB x7 answer) x7.w.last), cutL l5 (ansB x7 answer)) := by
              unfold serving sv8
              rw [hy7, if_pos (by assumption), hl5]
            have hcu : 0 ≤ w8 (ansB x7 answer + 1) ∧ w8 (ansB x7 answer + 1) ≤ (l5.length : Int) := hcut l5.length h
            have hC : cutL l5 (ansB x7 answer) = l5.drop (w8 (ansB x7 answer + 1)).toNat := if_pos h
            rw [hS, hC]
            refine GX_end (.inl rfl) (res2 rfl rfl rfl) (fun w H => .intro ⟨p, tv', o', es', en', tl', _, ys.drop (w8 (ansB x7 answer + 1)).toNat, some (q, _) :: el :: (N ++ M), rfl, ?_, ?_, ?_, H⟩)
            · exact (hx'.mono (by omega)).sub (fun x hx => List.mem_cons_of_mem _ (List.mem_cons_of_mem _ hx))
            · exact (hl.cut (i := (w8 (ansB x7 answer + 1)).toNat) (Int.toNat_le.mpr hcu.2)).look (by simp)
            · exact (hy.drop _).sub (fun x hx => by simp [hx])
          · have hS : serving cyc put send answer take = (x7.hear (uAns (uAfter (m9 take)) (ansB x7 answer) x7.w.last), cutL l5 (ansB x7 answer)) := by
              unfold serving sv8
              rw [hy7, if_pos (by assumption), hl5]
            have hC : cutL l5 (ansB x7 answer) = l5 := if_neg h
            rw [hS, hC]
            refine GX_end (.inl rfl) (res2 rfl rfl rfl) (fun w H => .intro ⟨p, tv', o', es', en', tl', _, ys, some (q, _) :: el :: (N ++ M), rfl, ?_, ?_, ?_, H⟩)
            · exact (hx'.mono (by omega)).sub (fun x hx => List.mem_cons_of_mem _ (List.mem_cons_of_mem _ hx))
            · exact hl.look (by simp)
            · exact hy.sub (fun x hx => by simp [hx])
          · have hS : serving cyc put send answer take = (x7, l5) := by
              unfold serving
              rw [hy7, if_neg (by assumption), hl5]
            rw [hS]
            refine GX_end (.inl rfl) (res2 rfl rfl rfl) (fun w H => .intro ⟨p, tv, o, es, en, tl, _, ys, some (q, untBox (uAfter (m9 take)) (.slice pa (uAfter (m9 take)).info.length pc)) :: el :: M, rfl, ?_, ?_, ?_, H⟩)
            · exact (hx'.mono (by omega)).sub (fun x hx => List.mem_cons_of_mem _ (List.mem_cons_of_mem _ hx))
            · exact hl.look (by simp)
            · exact hy.sub (fun x hx => by simp [hx])
end
end Go.Sm
