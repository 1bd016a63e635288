/- Links: new ones; package fetch. -/
import Derived.Test.YtdfljbffomhchaaGreatKt
set_option linter.unusedVariables false
set_option linter.unusedSimpArgs false
set_option linter.unusedSectionVars false
set_option maxRecDepth 10000
namespace Go.Sm
open Go.RowKit Go.Proofs
attribute [local irreducible] Calls

section
variable {w0 w : World} {R L : List Ent} {n : Nat} {x : Lnk} {p : Adr} {tv : Value} {o : Obj} {es en tl : Ent}

abbrev Setup.val (s : Setup) : Value := .agg (List.toArray [.bool s.cyc, I64 s.n1, I64 s.n2, I64 s.hold, I64 s.octs, I64 s.t0, I64 s.t1, I64 s.t2, I64 s.t3, I64 s.t4, I64 s.t5, I64 s.t6, I64 s.t7])
theorem Own.newL {w0 w : World} {X A C J B H y : Ent} {L : List Ent} (h : Own w0 w (X :: B :: H :: J :: A :: C :: y :: L)) : Own w0 w (X :: A :: C :: J :: B :: H :: none :: none :: none :: y :: L) :=
  ((((((h.nothing.nothing.nothing).pull 5 rfl).pull 5 rfl).pull 6 rfl).pull 8 rfl).pull 8 rfl).pull 8 rfl

theorem bld_lnk (s : Setup) (C A J B t : Nat) : bldL [(0, 1), (1, 13), (14, 1), (15, 1), (16, 1), (17, 1), (18, 3), (21, 2), (23, 1), (24, 1)] [.int .u8 0, .bool false, .int .i64 0, .int .i64 0, .int .i64 0, .int .i64 0, .int .i64 0, .int .i64 0, .int .i64 0, .int .i64 0, .int .i64 0, .int .i64 0, .int .i64 0, .int .i64 0, .pointer none, .pointer none, .pointer none, .nilIface, .bool false, .bool false, .bool false, .int .i64 0, .int .i64 0, .slice none 0 0, .int .i64 0] [(1, s.val), (2, Ptr C), (3, Ptr A), (4, Ptr J), (5, .iface t (Ptr B))] = some [.int .u8 0, .bool s.cyc, I64 s.n1, I64 s.n2, I64 s.hold, I64 s.octs, I64 s.t0, I64 s.t1, I64 s.t2, I64 s.t3, I64 s.t4, I64 s.t5, I64 s.t6, I64 s.t7, Ptr C, Ptr A, Ptr J, .iface t (Ptr B), .bool false, .bool false, .bool false, .int .i64 0, .int .i64 0, .slice none 0 0, .int .i64 0] := by kernel_rfl

theorem lnk_New {s : Setup} (hw : Own w0 w L) :
    Calls Tryz.prog 30 #[s.val] w (Ret fun v w' => ∃ p o y, v = Ptr p.X ∧ LnkAt R 0 (Lnk.new s) (.slice none 0 0) o none none none ∧ Own w0 w' (lnkOwn (Lnk.new s) p (.slice none 0 0) o none none none (y :: L))) := by
  refine calls_of_GC' (vs := [s.val]) [] Tryz.func30 rfl rfl rfl ?_ hw
  repeat' first
    | (skip; refine Fb rfl (bld_lnk _ _ _ _ _ _) rfl ?_)
    | refine GC_seq ?_
    | refine GX_then ?_
    | refine GC_ret ?_
    | refine GX_then_ret ?_
    | ((first | (apply GC_regionK (id := 0) [0] (e' := [(0, _)]); exact rfl) | refine GC_region (id := 0) ?_); try (refine xx rfl rfl rfl (fun q => ?_); try (refine xa rfl rfl ?_; try (refine GL_nil ?_))))
    | ((first | (apply GC_regionK (id := 1) [1] (e' := [(1, _)]); exact rfl) | refine GC_region (id := 1) ?_); try ((first | (skip; refine Fb rfl (bld_lnk _ _ _ _ _ _) rfl ?_) | refine xb rfl rfl rfl ?_); try (refine xx rfl rfl rfl (fun q => ?_); try (refine xa rfl rfl ?_; try (refine GL_nil ?_)))))
    | ((first | (apply GC_drawK (id := 2) [1, 3] [(0, 0), (1, 1), (0, 2), (1, 3), (0, 5), (1, 6), (0, 8), (3, 4), (3, 7), (3, 9), (1, 10), (2, 11), (1, 12)] (e' := [(1, _), (3, _)]); exact rfl; exact mixed; kernel_rfl) | refine GC_draw (id := 2) [(0, 0), (1, 1), (0, 2), (1, 3), (0, 5), (1, 6), (0, 8), (3, 4), (3, 7), (3, 9), (1, 10), (2, 11), (1, 12)] mixed (by kernel_rfl) ?_); try ((apply DL; exact rfl; (repeat (first | exact .here | refine .there ?_)); exact rfl; exact rfl); try (refine Fm rfl rfl ?_; try ((apply DL; exact rfl; (repeat (first | exact .here | refine .there ?_)); exact rfl; exact rfl); try (refine Fm rfl rfl ?_; try ((apply DL; exact rfl; (repeat (first | exact .here | refine .there ?_)); exact rfl; exact rfl); try (refine Fm rfl rfl ?_; try ((apply DL; exact rfl; (repeat (first | exact .here | refine .there ?_)); exact rfl; exact rfl); try ((refine GD_callE rfl (fun w H => aln_New H) rfl ?_; rintro v w' ⟨A, rfl, H⟩; refine ⟨_, H, fun w h => h.drop, ?_⟩); try ((refine GD_callE rfl (fun w H => jam_New H) rfl ?_; rintro v w' ⟨J, rfl, H⟩; refine ⟨_, H, fun w h => h.drop.drop, ?_⟩); try ((refine GD_callE rfl (fun w H => wy_New H) rfl ?_; rintro v w' ⟨B, Hb, rfl, H⟩; refine ⟨_, H, fun w h => h.drop.drop.drop.drop, ?_⟩); try ((first | (skip; refine Fb rfl (bld_lnk _ _ _ _ _ _) rfl ?_) | refine Fb rfl rfl rfl ?_); try (refine Ux rfl rfl rfl (fun q => ?_); try (refine Fa rfl rfl ?_; try (refine GD_nil ?_)))))))))))))))
  refine GX_end (.inl rfl) (res1 rfl rfl) (fun w H => .intro ⟨⟨_, _, _, _, _, _⟩, _, _, rfl, ?_, H.newL⟩)
  exact ⟨⟨⟨_, [], _, [], rfl, .nil, .nil, .nil, .nil⟩⟩, ⟨[], .nil, .nil⟩, Nat.le_refl _⟩

def fBsnt (x : Lnk) : Int × Int := if x.S ≠ 0 then (0, 9) else (x.w.last, 0)
def fMsgs (x : Lnk) (n : Int) : List Msg × Int := if x.S ≠ 0 then ([], 9) else x.h.rest n

theorem fetch_BSNT (hw : Own w0 w (lnkOwn x p tv o es en tl L)) :
    Calls Tryz.prog 32 #[Ptr p.X] w (Ret fun v w' => v = .tuple #[U8 (fBsnt x).1, I64 (fBsnt x).2] ∧ Own w0 w' (lnkOwn x p tv o es en tl L)) := by
  refine calls_of_GC' (vs := [Ptr p.X]) [] Tryz.func32 rfl rfl rfl ?_ hw
  repeat' first
    | refine GC_seq ?_
    | refine GX_then ?_
    | refine GC_ret ?_
    | refine GX_then_ret ?_
    | refine GC_skip ?_
    | refine GC_block ?_
    | refine GX_block ?_
    | refine GX_block_ret ?_
    | refine GC_true rfl ?_
    | refine GC_false rfl ?_
    | (apply GC_condT; exact rfl; (repeat (first | exact .dec | with_reducible apply Tell.or | with_reducible apply Tell.and | with_reducible apply Tell.not | exact .self)); all_goals (intro h; try contradiction))
    | ((first | (apply GC_regionK (id := 0) [0] (e' := [(0, _)]); exact rfl) | refine GC_region (id := 0) ?_); try (refine xa rfl rfl ?_; try (refine xa rfl rfl ?_; try (refine GL_nil ?_))))
    | ((first | (apply GC_regionK (id := 1) [0] (e' := [(0, _)]); exact rfl) | refine GC_region (id := 1) ?_); try (refine xm rfl rfl ?_; try (refine xp rfl rfl rfl ?_; try (refine xa rfl rfl ?_; try (refine GL_nil ?_)))))
    | ((first | (apply GC_regionK (id := 2) [] (e' := []); exact rfl) | refine GC_region (id := 2) ?_); try (refine xa rfl rfl ?_; try (refine xa rfl rfl ?_; try (refine GL_nil ?_))))
    | ((first | (apply GC_regionK (id := 3) [0] (e' := [(0, _)]); exact rfl) | refine GC_region (id := 3) ?_); try (refine xm rfl rfl ?_; try (refine xn rfl rfl ?_; try (refine xf rfl rfl ?_; try ((apply xl; exact rfl; (repeat (first | exact .here | refine .there ?_)); exact rfl; exact rfl); try (refine xQ rfl rfl rfl ?_; try (refine xa rfl rfl ?_; try (refine GL_nil ?_))))))))
    | ((first | (apply GC_regionK (id := 4) [] (e' := []); exact rfl) | refine GC_region (id := 4) ?_); try (refine xa rfl rfl ?_; try (refine xa rfl rfl ?_; try (refine GL_nil ?_))))
    | ((first | (apply GC_regionK (id := 5) [0] (e' := [(0, _)]); exact rfl) | refine GC_region (id := 5) ?_); try (refine xm rfl rfl ?_; try (refine xn rfl rfl ?_; try (refine xf rfl rfl ?_; try ((first | (apply xl; exact rfl; (repeat (first | exact .here | refine .there ?_)); exact rfl; exact rfl) | (apply xL; exact rfl; (repeat (first | exact .here | refine .there ?_)); exact rfl; exact rfl)); try ((refine GL_invoke rfl rfl (fun w H => wy_Taken (H.pull 4 rfl)) rfl ?_; rintro v w' ⟨rfl, H⟩; refine ⟨_, H.push 4 (by simp), ?_⟩); try (refine xa rfl rfl ?_; try (refine xa rfl rfl ?_; try (refine GL_nil ?_)))))))))
  all_goals refine GX_end (.inl rfl) (res2 rfl rfl rfl) (fun w H => .intro ?_)
  all_goals (unfold fBsnt; (repeat (first | (rw [if_pos]; rotate_left; (solve | assumption)) | (rw [if_neg]; rotate_left; (solve | assumption)))); exact ⟨rfl, H⟩)
theorem fetch_BSNT_nil (hw : Own w0 w L) :
    Calls Tryz.prog 32 #[.pointer none] w (Ret fun v w' => v = .tuple #[U8 0, I64 2] ∧ Own w0 w' L) := by
  refine calls_of_GC' (vs := [.pointer none]) [] Tryz.func32 rfl rfl rfl ?_ hw
  repeat' first
    | refine GC_seq ?_
    | refine GX_then ?_
    | refine GC_ret ?_
    | refine GX_then_ret ?_
    | refine GC_skip ?_
    | refine GC_block ?_
    | refine GX_block ?_
    | refine GX_block_ret ?_
    | refine GC_true rfl ?_
    | refine GC_false rfl ?_
    | (apply GC_condT; exact rfl; (repeat (first | exact .dec | with_reducible apply Tell.or | with_reducible apply Tell.and | with_reducible apply Tell.not | exact .self)); all_goals (intro h; try contradiction))
    | ((first | (apply GC_regionK (id := 0) [0] (e' := [(0, _)]); exact rfl) | refine GC_region (id := 0) ?_); try (refine xa rfl rfl ?_; try (refine xa rfl rfl ?_; try (refine GL_nil ?_))))
    | ((first | (apply GC_regionK (id := 1) [0] (e' := [(0, _)]); exact rfl) | refine GC_region (id := 1) ?_); try (refine xm rfl rfl ?_; try (refine xp rfl rfl rfl ?_; try (refine xa rfl rfl ?_; try (refine GL_nil ?_)))))
    | ((first | (apply GC_regionK (id := 2) [] (e' := []); exact rfl) | refine GC_region (id := 2) ?_); try (refine xa rfl rfl ?_; try (refine xa rfl rfl ?_; try (refine GL_nil ?_))))
    | ((first | (apply GC_regionK (id := 3) [0] (e' := [(0, _)]); exact rfl) | refine GC_region (id := 3) ?_); try (refine xm rfl rfl ?_; try (refine xn rfl rfl ?_; try (refine xf rfl rfl ?_; try ((apply xl; exact rfl; (repeat (first | exact .here | refine .there ?_)); exact rfl; exact rfl); try (refine xQ rfl rfl rfl ?_; try (refine xa rfl rfl ?_; try (refine GL_nil ?_))))))))
    | ((first | (apply GC_regionK (id := 4) [] (e' := []); exact rfl) | refine GC_region (id := 4) ?_); try (refine xa rfl rfl ?_; try (refine xa rfl rfl ?_; try (refine GL_nil ?_))))
    | ((first | (apply GC_regionK (id := 5) [0] (e' := [(0, _)]); exact rfl) | refine GC_region (id := 5) ?_); try (refine xm rfl rfl ?_; try (refine xn rfl rfl ?_; try (refine xf rfl rfl ?_; try ((first | (apply xl; exact rfl; (repeat (first | exact .here | refine .there ?_)); exact rfl; exact rfl) | (apply xL; exact rfl; (repeat (first | exact .here | refine .there ?_)); exact rfl; exact rfl)); try (fail; try (refine xa rfl rfl ?_; try (refine xa rfl rfl ?_; try (refine GL_nil ?_)))))))))
  all_goals refine GX_end (.inl rfl) (res2 rfl rfl rfl) (fun w H => .intro ⟨rfl, H⟩)
theorem fetch_Messages_nil {m : Int} (hw : Own w0 w L) :
    Calls Tryz.prog 33 #[.pointer none, U8 m] w (Ret fun v w' => v = .tuple #[.slice none 0 0, I64 2] ∧ Own w0 w' L) := by
  refine calls_of_GC' (vs := [.pointer none, U8 m]) [] Tryz.func33 rfl rfl rfl ?_ hw
  repeat' first
    | refine GC_seq ?_
    | refine GX_then ?_
    | refine GC_ret ?_
    | refine GX_then_ret ?_
    | refine GC_skip ?_
    | refine GC_block ?_
    | refine GX_block ?_
    | refine GX_block_ret ?_
    | refine GC_true rfl ?_
    | refine GC_false rfl ?_
    | (apply GC_condT; exact rfl; (repeat (first | exact .dec | with_reducible apply Tell.or | with_reducible apply Tell.and | with_reducible apply Tell.not | exact .self)); all_goals (intro h; try contradiction))
    | ((first | (apply GC_regionK (id := 0) [0, 1] (e' := [(0, _), (1, _)]); exact rfl) | refine GC_region (id := 0) ?_); try (refine xa rfl rfl ?_; try (refine xa rfl rfl ?_; try (refine GL_nil ?_))))
    | ((first | (apply GC_regionK (id := 1) [0, 1] (e' := [(0, _), (1, _)]); exact rfl) | refine GC_region (id := 1) ?_); try (refine xm rfl rfl ?_; try (refine xp rfl rfl rfl ?_; try (refine xa rfl rfl ?_; try (refine GL_nil ?_)))))
    | ((first | (apply GC_regionK (id := 2) [] (e' := []); exact rfl) | refine GC_region (id := 2) ?_); try (refine xa rfl rfl ?_; try (refine xa rfl rfl ?_; try (refine GL_nil ?_))))
    | ((first | (apply GC_regionK (id := 3) [0, 1] (e' := [(0, _), (1, _)]); exact rfl) | refine GC_region (id := 3) ?_); try (refine xm rfl rfl ?_; try (refine xn rfl rfl ?_; try (refine xf rfl rfl ?_; try ((apply xl; exact rfl; (repeat (first | exact .here | refine .there ?_)); exact rfl; exact rfl); try (refine xQ rfl rfl rfl ?_; try (refine xa rfl rfl ?_; try (refine GL_nil ?_))))))))
    | ((first | (apply GC_regionK (id := 4) [] (e' := []); exact rfl) | refine GC_region (id := 4) ?_); try (refine xa rfl rfl ?_; try (refine xa rfl rfl ?_; try (refine GL_nil ?_))))
    | ((first | (apply GC_regionK (id := 5) [0, 1] (e' := [(0, _), (1, _)]); exact rfl) | refine GC_region (id := 5) ?_); try (refine xm rfl rfl ?_; try (refine xn rfl rfl ?_; try (refine xf rfl rfl ?_; try ((first | (apply xl; exact rfl; (repeat (first | exact .here | refine .there ?_)); exact rfl; exact rfl) | (apply xL; exact rfl; (repeat (first | exact .here | refine .there ?_)); exact rfl; exact rfl)); try (fail; try (refine xm rfl rfl ?_; try (fail; try (refine xe rfl rfl rfl ?_; try (refine xe rfl rfl rfl ?_; try (refine xa rfl rfl ?_; try (refine xa rfl rfl ?_; try (refine GL_nil ?_)))))))))))))
  all_goals refine GX_end (.inl rfl) (res2 rfl rfl rfl) (fun w H => .intro ⟨rfl, H⟩)
theorem fetch_Messages {m : Int} [hk : LnkOk x] (hx : LnkAt R n x tv o es en tl) (hR : ∀ x, x ∈ R → x ∈ L) (hw : Own w0 w (lnkOwn x p tv o es en tl L)) :
    Calls Tryz.prog 33 #[Ptr p.X, U8 m] w (Ret fun v w' => ∃ lv ys N, v = .tuple #[lv, I64 (fMsgs x m).2] ∧ Look (N ++ R) 37 lv ys ∧ Pays (N ++ R) ys (fMsgs x m).1 ∧ Own w0 w' (lnkOwn x p tv o es en tl (N ++ L))) := by
  have hhd := hk.hd
  refine calls_of_GC' (vs := [Ptr p.X, U8 m]) [] Tryz.func33 rfl rfl rfl ?_ hw
  repeat' first
    | refine GC_seq ?_
    | refine GX_then ?_
    | refine GC_ret ?_
    | refine GX_then_ret ?_
    | refine GC_skip ?_
    | refine GC_block ?_
    | refine GX_block ?_
    | refine GX_block_ret ?_
    | refine GC_true rfl ?_
    | refine GC_false rfl ?_
    | (apply GC_condT; exact rfl; (repeat (first | exact .dec | with_reducible apply Tell.or | with_reducible apply Tell.and | with_reducible apply Tell.not | exact .self)); all_goals (intro h; try contradiction))
    | ((first | (apply GC_regionK (id := 0) [0, 1] (e' := [(0, _), (1, _)]); exact rfl) | refine GC_region (id := 0) ?_); try (refine xa rfl rfl ?_; try (refine xa rfl rfl ?_; try (refine GL_nil ?_))))
    | ((first | (apply GC_regionK (id := 1) [0, 1] (e' := [(0, _), (1, _)]); exact rfl) | refine GC_region (id := 1) ?_); try (refine xm rfl rfl ?_; try (refine xp rfl rfl rfl ?_; try (refine xa rfl rfl ?_; try (refine GL_nil ?_)))))
    | ((first | (apply GC_regionK (id := 2) [] (e' := []); exact rfl) | refine GC_region (id := 2) ?_); try (refine xa rfl rfl ?_; try (refine xa rfl rfl ?_; try (refine GL_nil ?_))))
    | ((first | (apply GC_regionK (id := 3) [0, 1] (e' := [(0, _), (1, _)]); exact rfl) | refine GC_region (id := 3) ?_); try (refine xm rfl rfl ?_; try (refine xn rfl rfl ?_; try (refine xf rfl rfl ?_; try ((apply xl; exact rfl; (repeat (first | exact .here | refine .there ?_)); exact rfl; exact rfl); try (refine xQ rfl rfl rfl ?_; try (refine xa rfl rfl ?_; try (refine GL_nil ?_))))))))
    | ((first | (apply GC_regionK (id := 4) [] (e' := []); exact rfl) | refine GC_region (id := 4) ?_); try (refine xa rfl rfl ?_; try (refine xa rfl rfl ?_; try (refine GL_nil ?_))))
    | ((first | (apply GC_regionK (id := 5) [0, 1] (e' := [(0, _), (1, _)]); exact rfl) | refine GC_region (id := 5) ?_); try (refine xm rfl rfl ?_; try (refine xn rfl rfl ?_; try (refine xf rfl rfl ?_; try ((first | (apply xl; exact rfl; (repeat (first | exact .here | refine .there ?_)); exact rfl; exact rfl) | (apply xL; exact rfl; (repeat (first | exact .here | refine .there ?_)); exact rfl; exact rfl)); try ((refine GL_invoke rfl rfl (fun w H => wy_Hold (H.pull 4 rfl)) rfl ?_; rintro v w' ⟨rfl, H⟩; refine ⟨_, H.push 4 (by simp), ?_⟩); try (refine xm rfl rfl ?_; try ((refine GL_call rfl (fun w H => hold_Rest hx.hd (fun x hx => by simp [hR x hx]) H.inH) rfl ?_; rintro v w' ⟨lv, ys, N, rfl, hl, hy, H⟩; refine ⟨_, H.outHN, ?_⟩); try (refine xe rfl rfl rfl ?_; try (refine xe rfl rfl rfl ?_; try (refine xa rfl rfl ?_; try (refine xa rfl rfl ?_; try (refine GL_nil ?_)))))))))))))
  all_goals refine GX_end (.inl rfl) (res2 rfl rfl rfl) (fun w H => .intro ?_)
  all_goals (unfold fMsgs; (repeat (first | (rw [if_pos]; rotate_left; (solve | assumption)) | (rw [if_neg]; rotate_left; (solve | assumption)))); first | exact ⟨_, _, _, rfl, hl, hy, H⟩ | exact ⟨_, [], [], rfl, .nil _ _, .nil, H⟩)

def maxE (e f : Int) : Int := if f > e then f else e
def fChange2 (a b : Lnk) (n m : Int) : List Msg × List Msg × Int :=
  if (fMsgs a m).2 ≠ 0 ∨ (fMsgs b n).2 ≠ 0 then ([], [], maxE (fMsgs a m).2 (fMsgs b n).2) else ((fMsgs a m).1, (fMsgs b n).1, 0)
def fChange (a b : Lnk) : List Msg × List Msg × Int :=
  if (fBsnt a).2 ≠ 0 ∨ (fBsnt b).2 ≠ 0 then ([], [], maxE (fBsnt a).2 (fBsnt b).2) else fChange2 a b (fBsnt a).1 (fBsnt b).1
theorem Own.two {w0 w : World} {A1 A2 A3 A4 A5 A6 A7 A8 A9 B1 B2 B3 B4 B5 B6 B7 B8 B9 : Ent} {L : List Ent} (h : Own w0 w (A1 :: A2 :: A3 :: A4 :: A5 :: A6 :: A7 :: A8 :: A9 :: B1 :: B2 :: B3 :: B4 :: B5 :: B6 :: B7 :: B8 :: B9 :: L)) :
    Own w0 w (B1 :: B2 :: B3 :: B4 :: B5 :: B6 :: B7 :: B8 :: B9 :: A1 :: A2 :: A3 :: A4 :: A5 :: A6 :: A7 :: A8 :: A9 :: L) := Own.swap (A := [A1, A2, A3, A4, A5, A6, A7, A8, A9]) (B := [B1, B2, B3, B4, B5, B6, B7, B8, B9]) h
theorem Own.twoN {w0 w : World} {A1 A2 A3 A4 A5 A6 A7 A8 A9 B1 B2 B3 B4 B5 B6 B7 B8 B9 : Ent} {N L : List Ent} (h : Own w0 w (A1 :: A2 :: A3 :: A4 :: A5 :: A6 :: A7 :: A8 :: A9 :: (N ++ B1 :: B2 :: B3 :: B4 :: B5 :: B6 :: B7 :: B8 :: B9 :: L))) :
    Own w0 w (B1 :: B2 :: B3 :: B4 :: B5 :: B6 :: B7 :: B8 :: B9 :: A1 :: A2 :: A3 :: A4 :: A5 :: A6 :: A7 :: A8 :: A9 :: (N ++ L)) := Own.rot (C := [A1, A2, A3, A4, A5, A6, A7, A8, A9]) (A := [B1, B2, B3, B4, B5, B6, B7, B8, B9]) h

theorem fetch_Change {a b : Lnk} {pa pb : Adr} {tva tvb : Value} {oa ob : Obj} {esa ena tla esb enb tlb : Ent} {na nb : Nat} [hka : LnkOk a] [hkb : LnkOk b] (ha : LnkAt R na a tva oa esa ena tla) (hb : LnkAt R nb b tvb ob esb enb tlb) (hR : ∀ x, x ∈ R → x ∈ L)
    (hw : Own w0 w (lnkOwn a pa tva oa esa ena tla (lnkOwn b pb tvb ob esb enb tlb L))) :
    Calls Tryz.prog 34 #[Ptr pa.X, Ptr pb.X] w (Ret fun v w' => ∃ lv ys lu us N, v = .tuple #[lv, lu, I64 (fChange a b).2.2] ∧ Look (N ++ R) 37 lv ys ∧ Pays (N ++ R) ys (fChange a b).1 ∧ Look (N ++ R) 37 lu us ∧ Pays (N ++ R) us (fChange a b).2.1 ∧
      Own w0 w' (lnkOwn a pa tva oa esa ena tla (lnkOwn b pb tvb ob esb enb tlb (N ++ L)))) := by
  refine calls_of_GC' (vs := [Ptr pa.X, Ptr pb.X]) [] Tryz.func34 rfl rfl rfl ?_ hw
  repeat' first
    | refine GC_seq ?_
    | refine GX_then ?_
    | refine GC_ret ?_
    | refine GX_then_ret ?_
    | refine GC_skip ?_
    | refine GC_true rfl ?_
    | refine GC_false rfl ?_
    | (apply GC_condT; exact rfl; (repeat (first | exact .dec | with_reducible apply Tell.or | with_reducible apply Tell.and | with_reducible apply Tell.not | exact .self)); all_goals (intro h; try contradiction))
    | ((first | (apply GC_regionK (id := 0) [0, 1] (e' := [(0, _), (1, _)]); exact rfl) | refine GC_region (id := 0) ?_); try (refine xa rfl rfl ?_; try (refine xa rfl rfl ?_; try (refine xa rfl rfl ?_; try (refine GL_nil ?_)))))
    | ((first | (apply GC_regionK (id := 1) [0, 1] (e' := [(0, _), (1, _)]); exact rfl) | refine GC_region (id := 1) ?_); try (refine xm rfl rfl ?_; try ((first | (refine GL_call rfl (fun w H => fetch_BSNT (x := a) (p := pa) H) rfl ?_; rintro v w' ⟨rfl, H⟩; refine ⟨_, H, ?_⟩) | (refine GL_call rfl (fun w H => fetch_BSNT (x := b) (p := pb) H.two) rfl ?_; rintro v w' ⟨rfl, H⟩; refine ⟨_, H.two, ?_⟩)); try (refine xm rfl rfl ?_; try (refine xe rfl rfl rfl ?_; try (refine xe rfl rfl rfl ?_; try (refine xa rfl rfl ?_; try (refine xa rfl rfl ?_; try (refine GL_nil ?_)))))))))
    | ((first | (apply GC_regionK (id := 2) [0, 1, 7, 8] (e' := [(0, _), (1, _), (7, _), (8, _)]); exact rfl) | refine GC_region (id := 2) ?_); try (refine xm rfl rfl ?_; try ((first | (refine GL_call rfl (fun w H => fetch_BSNT (x := a) (p := pa) H) rfl ?_; rintro v w' ⟨rfl, H⟩; refine ⟨_, H, ?_⟩) | (refine GL_call rfl (fun w H => fetch_BSNT (x := b) (p := pb) H.two) rfl ?_; rintro v w' ⟨rfl, H⟩; refine ⟨_, H.two, ?_⟩)); try (refine xm rfl rfl ?_; try (refine xe rfl rfl rfl ?_; try (refine xe rfl rfl rfl ?_; try (refine xa rfl rfl ?_; try (refine xa rfl rfl ?_; try (refine GL_nil ?_)))))))))
    | ((first | (apply GC_regionK (id := 3) [0, 1, 7, 8, 9, 10] (e' := [(0, _), (1, _), (7, _), (8, _), (9, _), (10, _)]); exact rfl) | refine GC_region (id := 3) ?_); try (refine xm rfl rfl ?_; try (refine xQ rfl rfl rfl ?_; try (refine xm rfl rfl ?_; try ((first | (refine GL_on rfl rfl ?_; try (refine xm rfl rfl ?_; try (refine GL_on rfl rfl ?_; try (refine xQ rfl rfl rfl ?_; try ((first | refine xk rfl rfl rfl ?_ | refine xK rfl rfl rfl ?_)))))) | (refine GL_off rfl rfl rfl ?_; try ((first | refine GL_off rfl rfl rfl ?_ | refine GL_offU rfl rfl rfl ?_); try ((first | refine xk rfl rfl rfl ?_ | refine xK rfl rfl rfl ?_)))) | (apply GL_or (d := 28); exact rfl; exact rfl; (repeat (first | exact .dec | with_reducible apply Tell.or | with_reducible apply Tell.and | with_reducible apply Tell.not | exact .self)); intro h K28; (refine GL_on rfl rfl ?_; try (refine xm rfl rfl ?_; try (refine GL_on rfl rfl ?_; try (refine xQ rfl rfl rfl ?_; try ((first | refine xk rfl rfl rfl ?_ | refine xK rfl rfl rfl ?_); try (exact GL_close K28 (by repeat (first | exact .refl | refine .cons rfl ?_)))))))); intro h K28; ((first | refine GL_off rfl rfl rfl ?_ | refine GL_offU rfl rfl rfl ?_); try ((first | refine GL_off rfl rfl rfl ?_ | refine GL_offU rfl rfl rfl ?_); try ((first | refine xk rfl rfl rfl ?_ | refine xK rfl rfl rfl ?_); try (exact GL_close K28 (by repeat (first | exact .refl | refine .cons rfl ?_))))))) | (refine ys rfl rfl (fun hG => ?_) (fun hG => ?_) <;> (first | (refine GL_on rfl rfl ?_; try (refine xm rfl rfl ?_; try (refine GL_on rfl rfl ?_; try (refine xQ rfl rfl rfl ?_; try ((first | refine xk rfl rfl rfl ?_ | refine xK rfl rfl rfl ?_)))))) | (refine GL_off rfl rfl rfl ?_; try ((first | refine GL_off rfl rfl rfl ?_ | refine GL_offU rfl rfl rfl ?_); try ((first | refine xk rfl rfl rfl ?_ | refine xK rfl rfl rfl ?_))))))) <;> try (refine GL_nil ?_))))))
    | ((first | (apply GC_regionK (id := 4) [8, 10] (e' := [(8, _), (10, _)]); exact rfl) | refine GC_region (id := 4) ?_); try (refine xm rfl rfl ?_; try (refine xm rfl rfl ?_; try (refine xW rfl rfl rfl ?_; try (refine xa rfl rfl ?_; try (refine xa rfl rfl ?_; try (refine xa rfl rfl ?_; try (refine GL_nil ?_))))))))
    | ((first | (apply GC_regionK (id := 5) [0, 1, 7, 9] (e' := [(0, _), (1, _), (7, _), (9, _)]); exact rfl) | refine GC_region (id := 5) ?_); try (refine xm rfl rfl ?_; try (refine xm rfl rfl ?_; try ((first | (refine GL_call rfl (fun w H => fetch_Messages (x := a) (p := pa) ha (fun x hx => by simp [hR x hx]) H) rfl ?_; rintro v w' ⟨lv, ys, N, rfl, hl, hy, H⟩; refine ⟨_, H.twoN, ?_⟩) | (refine GL_call rfl (fun w H => fetch_Messages (x := b) (p := pb) (R := N ++ R) (hb.sub (fun x hx => by simp [hx])) (fun x hx => by simp at hx; rcases hx with hx | hx <;> simp [hx, hR]) H) rfl ?_; rintro v w' ⟨lu, us, N', rfl, hl', hy', H⟩; refine ⟨_, H.twoN, ?_⟩)); try (refine xm rfl rfl ?_; try (refine xe rfl rfl rfl ?_; try (refine xe rfl rfl rfl ?_; try (refine xa rfl rfl ?_; try (refine xa rfl rfl ?_; try (refine GL_nil ?_))))))))))
    | ((first | (apply GC_regionK (id := 6) [1, 7, 8, 11] (e' := [(1, _), (7, _), (8, _), (11, _)]); exact rfl) | refine GC_region (id := 6) ?_); try (refine xm rfl rfl ?_; try (refine xm rfl rfl ?_; try ((first | (refine GL_call rfl (fun w H => fetch_Messages (x := a) (p := pa) ha (fun x hx => by simp [hR x hx]) H) rfl ?_; rintro v w' ⟨lv, ys, N, rfl, hl, hy, H⟩; refine ⟨_, H.twoN, ?_⟩) | (refine GL_call rfl (fun w H => fetch_Messages (x := b) (p := pb) (R := N ++ R) (hb.sub (fun x hx => by simp [hx])) (fun x hx => by simp at hx; rcases hx with hx | hx <;> simp [hx, hR]) H) rfl ?_; rintro v w' ⟨lu, us, N', rfl, hl', hy', H⟩; refine ⟨_, H.twoN, ?_⟩)); try (refine xm rfl rfl ?_; try (refine xe rfl rfl rfl ?_; try (refine xe rfl rfl rfl ?_; try (refine xa rfl rfl ?_; try (refine xa rfl rfl ?_; try (refine GL_nil ?_))))))))))
    | ((first | (apply GC_regionK (id := 7) [8, 10, 11, 12] (e' := [(8, _), (10, _), (11, _), (12, _)]); exact rfl) | refine GC_region (id := 7) ?_); try (refine xm rfl rfl ?_; try (refine xQ rfl rfl rfl ?_; try (refine xm rfl rfl ?_; try ((first | (refine GL_on rfl rfl ?_; try (refine xm rfl rfl ?_; try (refine GL_on rfl rfl ?_; try (refine xQ rfl rfl rfl ?_; try ((first | refine xk rfl rfl rfl ?_ | refine xK rfl rfl rfl ?_)))))) | (refine GL_off rfl rfl rfl ?_; try ((first | refine GL_off rfl rfl rfl ?_ | refine GL_offU rfl rfl rfl ?_); try ((first | refine xk rfl rfl rfl ?_ | refine xK rfl rfl rfl ?_)))) | (apply GL_or (d := 49); exact rfl; exact rfl; (repeat (first | exact .dec | with_reducible apply Tell.or | with_reducible apply Tell.and | with_reducible apply Tell.not | exact .self)); intro h K49; (refine GL_on rfl rfl ?_; try (refine xm rfl rfl ?_; try (refine GL_on rfl rfl ?_; try (refine xQ rfl rfl rfl ?_; try ((first | refine xk rfl rfl rfl ?_ | refine xK rfl rfl rfl ?_); try (exact GL_close K49 (by repeat (first | exact .refl | refine .cons rfl ?_)))))))); intro h K49; ((first | refine GL_off rfl rfl rfl ?_ | refine GL_offU rfl rfl rfl ?_); try ((first | refine GL_off rfl rfl rfl ?_ | refine GL_offU rfl rfl rfl ?_); try ((first | refine xk rfl rfl rfl ?_ | refine xK rfl rfl rfl ?_); try (exact GL_close K49 (by repeat (first | exact .refl | refine .cons rfl ?_))))))) | (refine ys rfl rfl (fun hG => ?_) (fun hG => ?_) <;> (first | (refine GL_on rfl rfl ?_; try (refine xm rfl rfl ?_; try (refine GL_on rfl rfl ?_; try (refine xQ rfl rfl rfl ?_; try ((first | refine xk rfl rfl rfl ?_ | refine xK rfl rfl rfl ?_)))))) | (refine GL_off rfl rfl rfl ?_; try ((first | refine GL_off rfl rfl rfl ?_ | refine GL_offU rfl rfl rfl ?_); try ((first | refine xk rfl rfl rfl ?_ | refine xK rfl rfl rfl ?_))))))) <;> try (refine GL_nil ?_))))))
    | ((first | (apply GC_regionK (id := 8) [8, 10] (e' := [(8, _), (10, _)]); exact rfl) | refine GC_region (id := 8) ?_); try (refine xm rfl rfl ?_; try (refine xm rfl rfl ?_; try (refine xW rfl rfl rfl ?_; try (refine xa rfl rfl ?_; try (refine xa rfl rfl ?_; try (refine xa rfl rfl ?_; try (refine GL_nil ?_))))))))
    | ((first | (apply GC_regionK (id := 9) [11, 12] (e' := [(11, _), (12, _)]); exact rfl) | refine GC_region (id := 9) ?_); try (refine xm rfl rfl ?_; try (refine xm rfl rfl ?_; try (refine xa rfl rfl ?_; try (refine xa rfl rfl ?_; try (refine xa rfl rfl ?_; try (refine GL_nil ?_)))))))
  all_goals refine GX_end (.inl rfl) (res3 rfl rfl rfl rfl) (fun w H => .intro ?_)
  · have hF : fChange a b = ([], [], maxE (fBsnt a).2 (fBsnt b).2) := by unfold fChange; (repeat (first | (rw [if_pos]; rotate_left; (solve | assumption)) | (rw [if_neg]; rotate_left; (solve | assumption))))
    rw [hF]
    exact ⟨_, [], _, [], [], rfl, .nil _ _, .nil, .nil _ _, .nil, H⟩
  · have hF : fChange a b = ([], [], maxE (fMsgs a (fBsnt b).1).2 (fMsgs b (fBsnt a).1).2) := by unfold fChange; (repeat (first | (rw [if_pos]; rotate_left; (solve | assumption)) | (rw [if_neg]; rotate_left; (solve | assumption)))); unfold fChange2; (repeat (first | (rw [if_pos]; rotate_left; (solve | assumption)) | (rw [if_neg]; rotate_left; (solve | assumption))))
    rw [hF]
    exact ⟨_, [], _, [], N' ++ N, rfl, .nil _ _, .nil, .nil _ _, .nil, by rw [List.append_assoc]; exact H⟩
  · have hF : fChange a b = ((fMsgs a (fBsnt b).1).1, (fMsgs b (fBsnt a).1).1, 0) := by unfold fChange; (repeat (first | (rw [if_pos]; rotate_left; (solve | assumption)) | (rw [if_neg]; rotate_left; (solve | assumption)))); unfold fChange2; (repeat (first | (rw [if_pos]; rotate_left; (solve | assumption)) | (rw [if_neg]; rotate_left; (solve | assumption))))
    rw [hF]
    exact ⟨lv, ys, lu, us, N' ++ N, rfl, hl.sub (fun x hx => by simp at hx; rcases hx with hx | hx <;> simp [hx]), hy.sub (fun x hx => by simp at hx; rcases hx with hx | hx <;> simp [hx]), by rw [List.append_assoc]; exact hl', by rw [List.append_assoc]; exact hy', by rw [List.append_assoc]; exact H⟩
end
end Go.Sm
