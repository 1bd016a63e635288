/- Holds: what is answered is thrown away; what is left. -/
import Derived.Test.YtdfljbffomhchaaGreatKk
set_option linter.unusedVariables false
set_option linter.unusedSectionVars false
set_option maxRecDepth 10000
namespace Go.Sm
open Go.RowKit Go.Proofs

section
variable {w0 w : World} {L : List Ent}

theorem delete_front {v : Value} {us : List Value} {n : Nat} {x : Ent} {k : Nat} (hs : Slc 37 1 v us n x) (hk : k ≤ n) (hus : oneCells (us.drop k) = true) (hw : Own w0 w (x :: L)) :
    Calls Tryz.prog 243 #[v, I64 0, I64 k] w (Ret fun v' w' => ∃ x', Slc 37 1 v' (us.drop k) (n - k) x' ∧ Own w0 w' (x' :: L)) := by
  obtain ⟨pa, ca, rfl, hca, hma, hza⟩ := hs.cap
  by_cases h0 : k = 0
  · subst h0
    refine calls_of_GC' (vs := [.slice pa n ca, I64 0, I64 ((0 : Nat) : Int)]) [] Tryz.func243 rfl rfl rfl ?_ hw
    repeat' first
      | refine GC_seq ?_
      | refine GX_then ?_
      | refine GC_ret ?_
      | refine GX_then_ret ?_
      | refine GC_skip ?_
      | refine GC_true rfl ?_
      | refine GC_false rfl ?_
      | (apply GC_condT; exact rfl; (repeat (first | exact .dec | with_reducible apply Tell.or | with_reducible apply Tell.and | with_reducible apply Tell.not | exact .self)); all_goals (intro h; try contradiction))
      | ((first | (apply GC_regionK (id := 0) [0, 1, 2] (e' := [(0, _), (1, _), (2, _)]); exact rfl) | refine GC_region (id := 0) ?_); try (refine xa rfl rfl ?_; try (refine GL_nil ?_)))
      | ((first | (apply GC_regionK (id := 1) [0, 1, 2] (e' := [(0, _), (1, _), (2, _)]); exact rfl) | refine GC_region (id := 1) ?_); try (refine xm rfl rfl ?_; try (refine xm rfl rfl ?_; try (refine xm rfl rfl ?_; try (refine xm rfl rfl ?_; try (refine xy rfl rfl ?_; try (refine xsm rfl rfl rfl rfl (by first | decide | omega) rfl ?_; try (refine GL_nil ?_))))))))
      | ((first | (apply GC_regionK (id := 2) [0, 1, 2] (e' := [(0, _), (1, _), (2, _)]); exact rfl) | refine GC_region (id := 2) ?_); try (refine xm rfl rfl ?_; try (refine xm rfl rfl ?_; try ((first | refine xq rfl rfl rfl ?_ | refine xp rfl rfl rfl ?_ | refine xzq rfl rfl rfl ?_ | refine xbe rfl rfl rfl ?_ | refine xiq rfl rfl rfl ?_ | refine xse rfl rfl rfl ?_); try (refine GL_nil ?_)))))
      | ((first | (apply GC_regionK (id := 3) [0] (e' := [(0, _)]); exact rfl) | refine GC_region (id := 3) ?_); try (refine xm rfl rfl ?_; try (refine xa rfl rfl ?_; try (refine GL_nil ?_))))
      | ((first | (apply GC_regionK (id := 4) [0, 1, 2] (e' := [(0, _), (1, _), (2, _)]); exact rfl) | refine GC_region (id := 4) ?_); try (refine xm rfl rfl ?_; try (refine xy rfl rfl ?_; try (refine xa rfl rfl ?_; try (refine GL_nil ?_)))))
      | ((first | (apply GC_drawK (id := 5) [0, 1, 2, 7] [(1, 0), (1, 1), (1, 2), (1, 3), (1, 4), (1, 5), (2, 6), (1, 7)] (e' := [(0, _), (1, _), (2, _), (7, _)]); exact rfl; exact mixed; kernel_rfl) | refine GC_draw (id := 5) [(1, 0), (1, 1), (1, 2), (1, 3), (1, 4), (1, 5), (2, 6), (1, 7)] mixed (by kernel_rfl) ?_); try (refine Fm rfl rfl ?_; try (refine Fm rfl rfl ?_; try (refine Fsh rfl rfl (by first | decide | omega) rfl ?_; try (refine Fm rfl rfl ?_; try (refine Fm rfl rfl ?_; try (refine Fsl rfl rfl (by first | decide | omega | exact hcut _ h) rfl ?_; try (fail; try (refine Fa rfl rfl ?_; try (refine GD_nil ?_))))))))))
      | ((first | (apply GC_regionK (id := 6) [0, 7] (e' := [(0, _), (7, _)]); exact rfl) | refine GC_region (id := 6) ?_); try (refine xm rfl rfl ?_; try (refine xm rfl rfl ?_; try (refine xy rfl rfl ?_; try (refine xm rfl rfl ?_; try (refine xsb rfl rfl rfl (by first | decide | omega) rfl ?_; try (fail; try (refine GL_nil ?_))))))))
      | ((first | (apply GC_regionK (id := 7) [0] (e' := [(0, _)]); exact rfl) | refine GC_region (id := 7) ?_); try (refine xm rfl rfl ?_; try (refine xa rfl rfl ?_; try (refine GL_nil ?_))))
    refine GX_end (.inl rfl) (res1 rfl rfl) (fun w H => .intro ⟨x, by simpa using hs, H⟩)
  · have hcut := (hs.cut hk).look (L := x :: L) (by simp)
    have hl := hs.len
    cases hs with
    | nil => omega
    | «at» q k0 n c pre us post hk0 hx hp hn hc =>
      simp only [Nat.mul_one] at hx hp
      have hdl : (us.drop k).length = n - k := by rw [List.length_drop]; omega
      refine calls_of_GC' (vs := [.slice (some ⟨q, k0, none⟩) n ca, I64 0, I64 k]) [] Tryz.func243 rfl rfl rfl ?_ hw
      repeat' first
        | (refine UaR (i := 0) (xs := []) (ys := us.drop k) (post := us ++ post) rfl rfl hk0 rfl (by simp; omega) rfl hcut hus (by rw [hdl]; simp; omega) rfl ?_)
        | refine GC_seq ?_
        | refine GX_then ?_
        | refine GC_ret ?_
        | refine GX_then_ret ?_
        | refine GC_skip ?_
        | refine GC_true rfl ?_
        | refine GC_false rfl ?_
        | (apply GC_condT; exact rfl; (repeat (first | exact .dec | with_reducible apply Tell.or | with_reducible apply Tell.and | with_reducible apply Tell.not | exact .self)); all_goals (intro h; try contradiction))
        | ((first | (apply GC_regionK (id := 0) [0, 1, 2] (e' := [(0, _), (1, _), (2, _)]); exact rfl) | refine GC_region (id := 0) ?_); try (refine xa rfl rfl ?_; try (refine GL_nil ?_)))
        | ((first | (apply GC_regionK (id := 1) [0, 1, 2] (e' := [(0, _), (1, _), (2, _)]); exact rfl) | refine GC_region (id := 1) ?_); try (refine xm rfl rfl ?_; try (refine xm rfl rfl ?_; try (refine xm rfl rfl ?_; try (refine xm rfl rfl ?_; try (refine xy rfl rfl ?_; try (refine xsm rfl rfl rfl rfl (by first | decide | omega) rfl ?_; try (refine GL_nil ?_))))))))
        | ((first | (apply GC_regionK (id := 2) [0, 1, 2] (e' := [(0, _), (1, _), (2, _)]); exact rfl) | refine GC_region (id := 2) ?_); try (refine xm rfl rfl ?_; try (refine xm rfl rfl ?_; try ((first | refine xq rfl rfl rfl ?_ | refine xp rfl rfl rfl ?_ | refine xzq rfl rfl rfl ?_ | refine xbe rfl rfl rfl ?_ | refine xiq rfl rfl rfl ?_ | refine xse rfl rfl rfl ?_); try (refine GL_nil ?_)))))
        | ((first | (apply GC_regionK (id := 3) [0] (e' := [(0, _)]); exact rfl) | refine GC_region (id := 3) ?_); try (refine xm rfl rfl ?_; try (refine xa rfl rfl ?_; try (refine GL_nil ?_))))
        | ((first | (apply GC_regionK (id := 4) [0, 1, 2] (e' := [(0, _), (1, _), (2, _)]); exact rfl) | refine GC_region (id := 4) ?_); try (refine xm rfl rfl ?_; try (refine xy rfl rfl ?_; try (refine xa rfl rfl ?_; try (refine GL_nil ?_)))))
        | ((first | (apply GC_drawK (id := 5) [0, 1, 2, 7] [(1, 0), (1, 1), (1, 2), (1, 3), (1, 4), (1, 5), (2, 6), (1, 7)] (e' := [(0, _), (1, _), (2, _), (7, _)]); exact rfl; exact mixed; kernel_rfl) | refine GC_draw (id := 5) [(1, 0), (1, 1), (1, 2), (1, 3), (1, 4), (1, 5), (2, 6), (1, 7)] mixed (by kernel_rfl) ?_); try (refine Fm rfl rfl ?_; try (refine Fm rfl rfl ?_; try (refine Fsh rfl rfl (by first | decide | omega) rfl ?_; try (refine Fm rfl rfl ?_; try (refine Fm rfl rfl ?_; try (refine Fsl rfl rfl (by first | decide | omega | exact hcut _ h) rfl ?_; try ((refine UaR (i := 0) (xs := []) (ys := us.drop k) (post := us ++ post) rfl rfl hk0 rfl (by simp; omega) rfl hcut hus (by rw [hdl]; simp; omega) rfl ?_); try (refine Fa rfl rfl ?_; try (refine GD_nil ?_))))))))))
        | ((first | (apply GC_regionK (id := 6) [0, 7] (e' := [(0, _), (7, _)]); exact rfl) | refine GC_region (id := 6) ?_); try (refine xm rfl rfl ?_; try (refine xm rfl rfl ?_; try (refine xy rfl rfl ?_; try (refine xm rfl rfl ?_; try (refine xsb rfl rfl rfl (by first | decide | omega) rfl ?_; try ((refine UaR (i := 0) (xs := []) (ys := us.drop k) (post := us ++ post) rfl rfl hk0 rfl (by simp; omega) rfl hcut hus (by rw [hdl]; simp; omega) rfl ?_); try (refine GL_nil ?_))))))))
        | ((first | (apply GC_regionK (id := 7) [0] (e' := [(0, _)]); exact rfl) | refine GC_region (id := 7) ?_); try (refine xm rfl rfl ?_; try (refine xa rfl rfl ?_; try (refine GL_nil ?_))))
      · omega
      · have hne : ¬ ca = n - k := by omega
        refine xcl (i := 0) (q := q) (k := k0 + (n - k)) (m := n - (n - k)) (c := ca - (n - k)) rfl (by show some _ = some _; simp [hdl, hne, add_plain]) rfl (by simp; omega) ?_
        refine GL_nil ?_
        repeat' first
          | refine GC_seq ?_
          | refine GX_then ?_
          | refine GC_ret ?_
          | refine GX_then_ret ?_
          | refine GC_skip ?_
          | refine GC_true rfl ?_
          | refine GC_false rfl ?_
          | (apply GC_condT; exact rfl; (repeat (first | exact .dec | with_reducible apply Tell.or | with_reducible apply Tell.and | with_reducible apply Tell.not | exact .self)); all_goals (intro h; try contradiction))
          | ((first | (apply GC_regionK (id := 0) [0, 1, 2] (e' := [(0, _), (1, _), (2, _)]); exact rfl) | refine GC_region (id := 0) ?_); try (refine xa rfl rfl ?_; try (refine GL_nil ?_)))
          | ((first | (apply GC_regionK (id := 1) [0, 1, 2] (e' := [(0, _), (1, _), (2, _)]); exact rfl) | refine GC_region (id := 1) ?_); try (refine xm rfl rfl ?_; try (refine xm rfl rfl ?_; try (refine xm rfl rfl ?_; try (refine xm rfl rfl ?_; try (refine xy rfl rfl ?_; try (refine xsm rfl rfl rfl rfl (by first | decide | omega) rfl ?_; try (refine GL_nil ?_))))))))
          | ((first | (apply GC_regionK (id := 2) [0, 1, 2] (e' := [(0, _), (1, _), (2, _)]); exact rfl) | refine GC_region (id := 2) ?_); try (refine xm rfl rfl ?_; try (refine xm rfl rfl ?_; try ((first | refine xq rfl rfl rfl ?_ | refine xp rfl rfl rfl ?_ | refine xzq rfl rfl rfl ?_ | refine xbe rfl rfl rfl ?_ | refine xiq rfl rfl rfl ?_ | refine xse rfl rfl rfl ?_); try (refine GL_nil ?_)))))
          | ((first | (apply GC_regionK (id := 3) [0] (e' := [(0, _)]); exact rfl) | refine GC_region (id := 3) ?_); try (refine xm rfl rfl ?_; try (refine xa rfl rfl ?_; try (refine GL_nil ?_))))
          | ((first | (apply GC_regionK (id := 4) [0, 1, 2] (e' := [(0, _), (1, _), (2, _)]); exact rfl) | refine GC_region (id := 4) ?_); try (refine xm rfl rfl ?_; try (refine xy rfl rfl ?_; try (refine xa rfl rfl ?_; try (refine GL_nil ?_)))))
          | ((first | (apply GC_drawK (id := 5) [0, 1, 2, 7] [(1, 0), (1, 1), (1, 2), (1, 3), (1, 4), (1, 5), (2, 6), (1, 7)] (e' := [(0, _), (1, _), (2, _), (7, _)]); exact rfl; exact mixed; kernel_rfl) | refine GC_draw (id := 5) [(1, 0), (1, 1), (1, 2), (1, 3), (1, 4), (1, 5), (2, 6), (1, 7)] mixed (by kernel_rfl) ?_); try (refine Fm rfl rfl ?_; try (refine Fm rfl rfl ?_; try (refine Fsh rfl rfl (by first | decide | omega) rfl ?_; try (refine Fm rfl rfl ?_; try (refine Fm rfl rfl ?_; try (refine Fsl rfl rfl (by first | decide | omega | exact hcut _ h) rfl ?_; try (fail; try (refine Fa rfl rfl ?_; try (refine GD_nil ?_))))))))))
          | ((first | (apply GC_regionK (id := 6) [0, 7] (e' := [(0, _), (7, _)]); exact rfl) | refine GC_region (id := 6) ?_); try (refine xm rfl rfl ?_; try (refine xm rfl rfl ?_; try (refine xy rfl rfl ?_; try (refine xm rfl rfl ?_; try (refine xsb rfl rfl rfl (by first | decide | omega) rfl ?_; try (fail; try (refine GL_nil ?_))))))))
          | ((first | (apply GC_regionK (id := 7) [0] (e' := [(0, _)]); exact rfl) | refine GC_region (id := 7) ?_); try (refine xm rfl rfl ?_; try (refine xa rfl rfl ?_; try (refine GL_nil ?_))))
        refine GX_end (.inl rfl) (res1 rfl rfl) (fun w H => .intro ?_)
        have ht : (pre ++ ([] ++ us.drop k ++ List.drop (us.drop k).length (us ++ post))).take (k0 + (n - k)) = pre ++ us.drop k := by
          rw [List.nil_append, ← List.append_assoc, List.take_left' (by rw [List.length_append]; omega)]
        refine ⟨_, ?_, H⟩
        rw [ht]
        have h5 := Slc.at (E := 37) (sz := 1) q k0 (n - k) ca pre (us.drop k) (List.replicate (n - (n - k)) (.slice none 0 0) ++ List.drop (k0 + (n - k) + (n - (n - k))) (pre ++ ([] ++ us.drop k ++ List.drop (us.drop k).length (us ++ post)))) hk0 (by omega) (by simp; omega) (by omega) hc
        have h6 : Int.toNat 0 + (us.drop k).length = n - k := by rw [hdl]; simp
        rw [h6]
        simpa using h5
end

section
variable {w0 w : World} {R L : List Ent} {H : Nat} {g : Hd} {o : Obj} {es en : Ent} [hk : HdOk g]
include hk

theorem hold_Free {n : Int} (hh : HdAt R g o es en) (hR : ∀ x, x ∈ R → x ∈ L) (hw : Own w0 w (some (H, o) :: es :: en :: L)) :
    Calls Tryz.prog 236 #[Ptr H, U8 n] w (Ret fun v w' => v = .tuple #[I64 (g.free n).2.1, I64 (g.free n).2.2] ∧ ∃ o' es', HdAt R (g.free n).1 o' es' en ∧ Own w0 w' (some (H, o') :: es' :: en :: L)) := by
  obtain ⟨vs, us, vn, un, rfl, hs, hps, hn, hpn⟩ := hh.out
  by_cases h0 : g.knows n = true
  · have hg := Hd.gap_le h0
    have hgap : g.gap n = ((g.gap n).toNat : Int) := by omega
    have hd : ∀ w, Own w0 w (es :: some (H, holdObj g.most g.octs vs g.first vn) :: en :: L) → Calls Tryz.prog 243 #[vs, I64 0, I64 (ringGap (ringPrev g.first) n)] w (Ret fun v' w' => ∃ x', Slc 37 1 v' (us.drop (g.gap n).toNat) (g.sent.length - (g.gap n).toNat) x' ∧ Own w0 w' (x' :: some (H, holdObj g.most g.octs vs g.first vn) :: en :: L)) := fun w H => by
      rw [show ringGap (ringPrev g.first) n = ((g.gap n).toNat : Int) from hgap]
      exact delete_front (k := (g.gap n).toNat) hs (by omega) (hps.drop _).one H
    obtain ⟨pa, ca, rfl, hca, hma, hza⟩ := hs.cap
    obtain ⟨pb, cb, rfl, hcb, hmb, hzb⟩ := hn.cap
    refine calls_of_GC' (vs := [Ptr H, U8 n]) [] Tryz.func236 rfl rfl rfl ?_ hw
    repeat' first
      | refine GC_seq ?_
      | refine GX_then ?_
      | refine GC_ret ?_
      | refine GX_then_ret ?_
      | refine GC_skip ?_
      | refine GC_true rfl ?_
      | refine GC_false rfl ?_
      | (apply GC_condT; exact rfl; (repeat (first | exact .dec | with_reducible apply Tell.or | with_reducible apply Tell.and | with_reducible apply Tell.not | exact .self)); all_goals (intro h; try contradiction))
      | ((first | (apply GC_regionK (id := 0) [0, 1] (e' := [(0, _), (1, _)]); exact rfl) | refine GC_region (id := 0) ?_); try (refine xa rfl rfl ?_; try (refine xa rfl rfl ?_; try (refine GL_nil ?_))))
      | ((first | (apply GC_regionK (id := 1) [0, 1] (e' := [(0, _), (1, _)]); exact rfl) | refine GC_region (id := 1) ?_); try (refine xm rfl rfl ?_; try (refine xm rfl rfl ?_; try ((first | (refine GL_call rfl (fun w H => hold_Knows hh hR H) rfl ?_; rintro v w' ⟨rfl, H⟩; refine ⟨_, H, ?_⟩) | (refine GL_call rfl (fun w H => ring_Prev H) rfl ?_; rintro v w' ⟨rfl, H⟩; refine ⟨_, H, ?_⟩) | (refine GL_call rfl (fun w H => ring_Gap H) rfl ?_; rintro v w' ⟨rfl, H⟩; refine ⟨_, H, ?_⟩) | (refine GL_call rfl (fun w H => ring_Next H) rfl ?_; rintro v w' ⟨rfl, H⟩; refine ⟨_, H, ?_⟩) | (refine GL_call rfl (fun w H => hd w (H.pull 1 rfl)) rfl ?_; rintro v' w' ⟨x', hs', H⟩; obtain ⟨pq, cq, rfl, _, _, _⟩ := hs'.cap; refine ⟨_, H.push 1 (by simp), ?_⟩)); try ((first | refine xO rfl rfl ?_ | refine xo rfl rfl ?_); try (refine GL_nil ?_))))))
      | ((first | (apply GC_regionK (id := 2) [] (e' := []); exact rfl) | refine GC_region (id := 2) ?_); try (refine xa rfl rfl ?_; try (refine xa rfl rfl ?_; try (refine GL_nil ?_))))
      | ((first | (apply GC_regionK (id := 3) [0, 1] (e' := [(0, _), (1, _)]); exact rfl) | refine GC_region (id := 3) ?_); try (refine xm rfl rfl ?_; try (refine xn rfl rfl ?_; try (refine xf rfl rfl ?_; try ((first | (apply xl; exact rfl; (repeat (first | exact .here | refine .there ?_)); exact rfl; exact rfl) | (apply xL; exact rfl; (repeat (first | exact .here | refine .there ?_)); exact rfl; exact rfl)); try ((first | (refine GL_call rfl (fun w H => hold_Knows hh hR H) rfl ?_; rintro v w' ⟨rfl, H⟩; refine ⟨_, H, ?_⟩) | (refine GL_call rfl (fun w H => ring_Prev H) rfl ?_; rintro v w' ⟨rfl, H⟩; refine ⟨_, H, ?_⟩) | (refine GL_call rfl (fun w H => ring_Gap H) rfl ?_; rintro v w' ⟨rfl, H⟩; refine ⟨_, H, ?_⟩) | (refine GL_call rfl (fun w H => ring_Next H) rfl ?_; rintro v w' ⟨rfl, H⟩; refine ⟨_, H, ?_⟩) | (refine GL_call rfl (fun w H => hd w (H.pull 1 rfl)) rfl ?_; rintro v' w' ⟨x', hs', H⟩; obtain ⟨pq, cq, rfl, _, _, _⟩ := hs'.cap; refine ⟨_, H.push 1 (by simp), ?_⟩)); try (refine xm rfl rfl ?_; try ((first | (refine GL_call rfl (fun w H => hold_Knows hh hR H) rfl ?_; rintro v w' ⟨rfl, H⟩; refine ⟨_, H, ?_⟩) | (refine GL_call rfl (fun w H => ring_Prev H) rfl ?_; rintro v w' ⟨rfl, H⟩; refine ⟨_, H, ?_⟩) | (refine GL_call rfl (fun w H => ring_Gap H) rfl ?_; rintro v w' ⟨rfl, H⟩; refine ⟨_, H, ?_⟩) | (refine GL_call rfl (fun w H => ring_Next H) rfl ?_; rintro v w' ⟨rfl, H⟩; refine ⟨_, H, ?_⟩) | (refine GL_call rfl (fun w H => hd w (H.pull 1 rfl)) rfl ?_; rintro v' w' ⟨x', hs', H⟩; obtain ⟨pq, cq, rfl, _, _, _⟩ := hs'.cap; refine ⟨_, H.push 1 (by simp), ?_⟩)); try (refine xa rfl rfl ?_; try (refine GL_nil ?_))))))))))
      | ((first | (apply GC_regionK (id := 4) [0, 1, 6] (e' := [(0, _), (1, _), (6, _)]); exact rfl) | refine GC_region (id := 4) ?_); try (refine xm rfl rfl ?_; try (refine xm rfl rfl ?_; try (refine xm rfl rfl ?_; try (refine xn rfl rfl ?_; try (refine xf rfl rfl ?_; try ((first | (apply xl; exact rfl; (repeat (first | exact .here | refine .there ?_)); exact rfl; exact rfl) | (apply xL; exact rfl; (repeat (first | exact .here | refine .there ?_)); exact rfl; exact rfl)); try (refine xm rfl rfl ?_; try ((first | (refine GL_call rfl (fun w H => hold_Knows hh hR H) rfl ?_; rintro v w' ⟨rfl, H⟩; refine ⟨_, H, ?_⟩) | (refine GL_call rfl (fun w H => ring_Prev H) rfl ?_; rintro v w' ⟨rfl, H⟩; refine ⟨_, H, ?_⟩) | (refine GL_call rfl (fun w H => ring_Gap H) rfl ?_; rintro v w' ⟨rfl, H⟩; refine ⟨_, H, ?_⟩) | (refine GL_call rfl (fun w H => ring_Next H) rfl ?_; rintro v w' ⟨rfl, H⟩; refine ⟨_, H, ?_⟩) | (refine GL_call rfl (fun w H => hd w (H.pull 1 rfl)) rfl ?_; rintro v' w' ⟨x', hs', H⟩; obtain ⟨pq, cq, rfl, _, _, _⟩ := hs'.cap; refine ⟨_, H.push 1 (by simp), ?_⟩)); try (refine xm rfl rfl ?_; try ((first | (refine GL_call rfl (fun w H => hold_Knows hh hR H) rfl ?_; rintro v w' ⟨rfl, H⟩; refine ⟨_, H, ?_⟩) | (refine GL_call rfl (fun w H => ring_Prev H) rfl ?_; rintro v w' ⟨rfl, H⟩; refine ⟨_, H, ?_⟩) | (refine GL_call rfl (fun w H => ring_Gap H) rfl ?_; rintro v w' ⟨rfl, H⟩; refine ⟨_, H, ?_⟩) | (refine GL_call rfl (fun w H => ring_Next H) rfl ?_; rintro v w' ⟨rfl, H⟩; refine ⟨_, H, ?_⟩) | (refine GL_call rfl (fun w H => hd w (H.pull 1 rfl)) rfl ?_; rintro v' w' ⟨x', hs', H⟩; obtain ⟨pq, cq, rfl, _, _, _⟩ := hs'.cap; refine ⟨_, H.push 1 (by simp), ?_⟩)); try (refine xn rfl rfl ?_; try (refine xf rfl rfl ?_; try ((first | (apply xs; exact rfl; exact rfl; (repeat (first | exact .here | apply Upd.there)); exact rfl; exact rfl; apply GL_re (b := H) (holdObj_eq _ _ _ _ _); (repeat (first | exact .here | apply Upd.there)); exact rfl) | (apply xS; exact rfl; exact rfl; (repeat (first | exact .here | apply Upd.there)); exact rfl; exact rfl; exact rfl; apply GL_re (b := H) (holdObj_eq _ _ _ _ _); (repeat (first | exact .here | apply Upd.there)); exact rfl) | (apply xs; exact rfl; exact rfl; (repeat (first | exact .here | apply Upd.there)); exact rfl; exact rfl) | (apply xS; exact rfl; exact rfl; (repeat (first | exact .here | apply Upd.there)); exact rfl; exact rfl; exact rfl)); try (refine xn rfl rfl ?_; try (refine xf rfl rfl ?_; try ((first | (apply xs; exact rfl; exact rfl; (repeat (first | exact .here | apply Upd.there)); exact rfl; exact rfl; apply GL_re (b := H) (holdObj_eq _ _ _ _ _); (repeat (first | exact .here | apply Upd.there)); exact rfl) | (apply xS; exact rfl; exact rfl; (repeat (first | exact .here | apply Upd.there)); exact rfl; exact rfl; exact rfl; apply GL_re (b := H) (holdObj_eq _ _ _ _ _); (repeat (first | exact .here | apply Upd.there)); exact rfl) | (apply xs; exact rfl; exact rfl; (repeat (first | exact .here | apply Upd.there)); exact rfl; exact rfl) | (apply xS; exact rfl; exact rfl; (repeat (first | exact .here | apply Upd.there)); exact rfl; exact rfl; exact rfl)); try (refine GL_nil ?_))))))))))))))))))
      | ((first | (apply GC_regionK (id := 5) [6] (e' := [(6, _)]); exact rfl) | refine GC_region (id := 5) ?_); try (refine xm rfl rfl ?_; try (refine xa rfl rfl ?_; try (refine xa rfl rfl ?_; try (refine GL_nil ?_)))))
    all_goals refine GX_end (.inl rfl) (res2 rfl rfl rfl) (fun w H => .intro ?_)
    all_goals (unfold Hd.free; (repeat (first | (rw [if_pos]; rotate_left; (solve | assumption)) | (rw [if_neg]; rotate_left; (solve | assumption)))); refine ⟨rfl, _, x', ⟨⟨_, _, _, un, rfl, by simpa using hs', hps.drop _, hn, hpn⟩⟩, H⟩)
  · refine calls_of_GC' (vs := [Ptr H, U8 n]) [] Tryz.func236 rfl rfl rfl ?_ hw
    repeat' first
      | refine GC_seq ?_
      | refine GX_then ?_
      | refine GC_ret ?_
      | refine GX_then_ret ?_
      | refine GC_skip ?_
      | refine GC_true rfl ?_
      | refine GC_false rfl ?_
      | (apply GC_condT; exact rfl; (repeat (first | exact .dec | with_reducible apply Tell.or | with_reducible apply Tell.and | with_reducible apply Tell.not | exact .self)); all_goals (intro h; try contradiction))
      | ((first | (apply GC_regionK (id := 0) [0, 1] (e' := [(0, _), (1, _)]); exact rfl) | refine GC_region (id := 0) ?_); try (refine xa rfl rfl ?_; try (refine xa rfl rfl ?_; try (refine GL_nil ?_))))
      | ((first | (apply GC_regionK (id := 1) [0, 1] (e' := [(0, _), (1, _)]); exact rfl) | refine GC_region (id := 1) ?_); try (refine xm rfl rfl ?_; try (refine xm rfl rfl ?_; try ((refine GL_call rfl (fun w H => hold_Knows hh hR H) rfl ?_; rintro v w' ⟨rfl, H⟩; refine ⟨_, H, ?_⟩); try ((first | refine xO rfl rfl ?_ | refine xo rfl rfl ?_); try (refine GL_nil ?_))))))
      | ((first | (apply GC_regionK (id := 2) [] (e' := []); exact rfl) | refine GC_region (id := 2) ?_); try (refine xa rfl rfl ?_; try (refine xa rfl rfl ?_; try (refine GL_nil ?_))))
      | ((first | (apply GC_regionK (id := 3) [0, 1] (e' := [(0, _), (1, _)]); exact rfl) | refine GC_region (id := 3) ?_); try (refine xm rfl rfl ?_; try (refine xn rfl rfl ?_; try (refine xf rfl rfl ?_; try ((first | (apply xl; exact rfl; (repeat (first | exact .here | refine .there ?_)); exact rfl; exact rfl) | (apply xL; exact rfl; (repeat (first | exact .here | refine .there ?_)); exact rfl; exact rfl)); try ((refine GL_call rfl (fun w H => hold_Knows hh hR H) rfl ?_; rintro v w' ⟨rfl, H⟩; refine ⟨_, H, ?_⟩); try (refine xm rfl rfl ?_; try ((refine GL_call rfl (fun w H => hold_Knows hh hR H) rfl ?_; rintro v w' ⟨rfl, H⟩; refine ⟨_, H, ?_⟩); try (refine xa rfl rfl ?_; try (refine GL_nil ?_))))))))))
      | ((first | (apply GC_regionK (id := 4) [0, 1, 6] (e' := [(0, _), (1, _), (6, _)]); exact rfl) | refine GC_region (id := 4) ?_); try (refine xm rfl rfl ?_; try (refine xm rfl rfl ?_; try (refine xm rfl rfl ?_; try (refine xn rfl rfl ?_; try (refine xf rfl rfl ?_; try ((first | (apply xl; exact rfl; (repeat (first | exact .here | refine .there ?_)); exact rfl; exact rfl) | (apply xL; exact rfl; (repeat (first | exact .here | refine .there ?_)); exact rfl; exact rfl)); try (refine xm rfl rfl ?_; try ((refine GL_call rfl (fun w H => hold_Knows hh hR H) rfl ?_; rintro v w' ⟨rfl, H⟩; refine ⟨_, H, ?_⟩); try (refine xm rfl rfl ?_; try ((refine GL_call rfl (fun w H => hold_Knows hh hR H) rfl ?_; rintro v w' ⟨rfl, H⟩; refine ⟨_, H, ?_⟩); try (refine xn rfl rfl ?_; try (refine xf rfl rfl ?_; try ((first | (apply xs; exact rfl; exact rfl; (repeat (first | exact .here | apply Upd.there)); exact rfl; exact rfl) | (apply xS; exact rfl; exact rfl; (repeat (first | exact .here | apply Upd.there)); exact rfl; exact rfl; exact rfl)); try (refine xn rfl rfl ?_; try (refine xf rfl rfl ?_; try ((first | (apply xs; exact rfl; exact rfl; (repeat (first | exact .here | apply Upd.there)); exact rfl; exact rfl) | (apply xS; exact rfl; exact rfl; (repeat (first | exact .here | apply Upd.there)); exact rfl; exact rfl; exact rfl)); try (refine GL_nil ?_))))))))))))))))))
      | ((first | (apply GC_regionK (id := 5) [6] (e' := [(6, _)]); exact rfl) | refine GC_region (id := 5) ?_); try (refine xm rfl rfl ?_; try (refine xa rfl rfl ?_; try (refine xa rfl rfl ?_; try (refine GL_nil ?_)))))
    all_goals refine GX_end (.inl rfl) (res2 rfl rfl rfl) (fun w H => .intro ?_)
    all_goals (unfold Hd.free; (repeat (first | (rw [if_pos]; rotate_left; (solve | assumption)) | (rw [if_neg]; rotate_left; (solve | assumption)))); exact ⟨rfl, _, es, hh, H⟩)
end
end Go.Sm
