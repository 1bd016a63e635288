/- Ways: whichever it is. -/
import Derived.Test.YtdfljbffomhchaaGreatKo
set_option linter.unusedVariables false
set_option linter.unusedSectionVars false
set_option maxRecDepth 10000
namespace Go.Sm
open Go.RowKit Go.Proofs

instance : IsI Tryz.prog 62 := ⟨by kernel_rfl⟩
instance {w : Wy} : IsMethod Tryz.prog w.ty "Fill" (w.fn 247 228) := ⟨fun a args w' => by
  obtain ⟨cyc, b, c⟩ := w
  cases cyc
  · exact IsMethod.run (P := Tryz.prog) (t := 220) (name := "Fill") (f := 247) a args w'
  · exact IsMethod.run (P := Tryz.prog) (t := 218) (name := "Fill") (f := 228) a args w'⟩
instance {w : Wy} : IsMethod Tryz.prog w.ty "Hold" (w.fn 248 229) := ⟨fun a args w' => by
  obtain ⟨cyc, b, c⟩ := w
  cases cyc
  · exact IsMethod.run (P := Tryz.prog) (t := 220) (name := "Hold") (f := 248) a args w'
  · exact IsMethod.run (P := Tryz.prog) (t := 218) (name := "Hold") (f := 229) a args w'⟩
instance {w : Wy} : IsMethod Tryz.prog w.ty "Next" (w.fn 249 230) := ⟨fun a args w' => by
  obtain ⟨cyc, b, c⟩ := w
  cases cyc
  · exact IsMethod.run (P := Tryz.prog) (t := 220) (name := "Next") (f := 249) a args w'
  · exact IsMethod.run (P := Tryz.prog) (t := 218) (name := "Next") (f := 230) a args w'⟩
instance {w : Wy} : IsMethod Tryz.prog w.ty "Answer" (w.fn 246 227) := ⟨fun a args w' => by
  obtain ⟨cyc, b, c⟩ := w
  cases cyc
  · exact IsMethod.run (P := Tryz.prog) (t := 220) (name := "Answer") (f := 246) a args w'
  · exact IsMethod.run (P := Tryz.prog) (t := 218) (name := "Answer") (f := 227) a args w'⟩
instance {w : Wy} : IsMethod Tryz.prog w.ty "Take" (w.fn 252 233) := ⟨fun a args w' => by
  obtain ⟨cyc, b, c⟩ := w
  cases cyc
  · exact IsMethod.run (P := Tryz.prog) (t := 220) (name := "Take") (f := 252) a args w'
  · exact IsMethod.run (P := Tryz.prog) (t := 218) (name := "Take") (f := 233) a args w'⟩
instance {w : Wy} : IsMethod Tryz.prog w.ty "Taken" (w.fn 253 234) := ⟨fun a args w' => by
  obtain ⟨cyc, b, c⟩ := w
  cases cyc
  · exact IsMethod.run (P := Tryz.prog) (t := 220) (name := "Taken") (f := 253) a args w'
  · exact IsMethod.run (P := Tryz.prog) (t := 218) (name := "Taken") (f := 234) a args w'⟩
instance {w : Wy} : IsMethod Tryz.prog w.ty "Reset" (w.fn 251 232) := ⟨fun a args w' => by
  obtain ⟨cyc, b, c⟩ := w
  cases cyc
  · exact IsMethod.run (P := Tryz.prog) (t := 220) (name := "Reset") (f := 251) a args w'
  · exact IsMethod.run (P := Tryz.prog) (t := 218) (name := "Reset") (f := 232) a args w'⟩

section
variable {w0 w : World} {L : List Ent} {B Hb : Nat} {y : Wy}

theorem wy_Hold (hw : Own w0 w (some (B, y.obj Hb) :: L)) :
    Calls Tryz.prog (y.fn 248 229) #[Ptr B] w (Ret fun v w' => v = Ptr Hb ∧ Own w0 w' (some (B, y.obj Hb) :: L)) := by
  obtain ⟨cyc, b, c⟩ := y
  cases cyc
  · exact bas_Hold hw
  · exact cyc_Hold hw
theorem wy_Taken (hw : Own w0 w (some (B, y.obj Hb) :: L)) :
    Calls Tryz.prog (y.fn 253 234) #[Ptr B] w (Ret fun v w' => v = U8 y.last ∧ Own w0 w' (some (B, y.obj Hb) :: L)) := by
  obtain ⟨cyc, b, c⟩ := y
  cases cyc
  · exact bas_Taken hw
  · exact cyc_Taken hw

theorem wy_New {s : Setup} (hw : Own w0 w L) :
    Calls Tryz.prog 92 #[.agg (List.toArray [.bool s.cyc, I64 s.n1, I64 s.n2, I64 s.hold, I64 s.octs, I64 s.t0, I64 s.t1, I64 s.t2, I64 s.t3, I64 s.t4, I64 s.t5, I64 s.t6, I64 s.t7])] w
      (Ret fun v w' => ∃ B Hb, v = (Wy.new s).val B ∧ Own w0 w' (some (B, (Wy.new s).obj Hb) :: some (Hb, holdObj s.hold s.octs (.slice none 0 0) 0 (.slice none 0 0)) :: L)) := by
  cases hc : s.cyc with
  | false =>
    refine calls_of_GC' (vs := [.agg (List.toArray [.bool false, I64 s.n1, I64 s.n2, I64 s.hold, I64 s.octs, I64 s.t0, I64 s.t1, I64 s.t2, I64 s.t3, I64 s.t4, I64 s.t5, I64 s.t6, I64 s.t7])]) [] Tryz.func92 rfl rfl rfl ?_ hw
    repeat' first
      | refine GC_seq ?_
      | refine GX_then ?_
      | refine GC_ret ?_
      | refine GX_then_ret ?_
      | refine GC_skip ?_
      | refine GC_true rfl ?_
      | refine GC_false rfl ?_
      | (apply GC_condT; exact rfl; (repeat (first | exact .dec | with_reducible apply Tell.or | with_reducible apply Tell.and | with_reducible apply Tell.not | exact .self)); all_goals (intro h; try contradiction))
      | ((first | (apply GC_regionK (id := 0) [0] (e' := [(0, _)]); exact rfl) | refine GC_region (id := 0) ?_); try (refine xx rfl rfl rfl (fun q => ?_); try (refine xa rfl rfl ?_; try (refine GL_nil ?_))))
      | ((first | (apply GC_regionK (id := 1) [1] (e' := [(1, _)]); exact rfl) | refine GC_region (id := 1) ?_); try (refine xf rfl rfl ?_; try ((apply xl; exact rfl; (repeat (first | exact .here | refine .there ?_)); exact rfl; exact rfl); try (refine GL_nil ?_))))
      | ((first | (apply GC_regionK (id := 2) [1] (e' := [(1, _)]); exact rfl) | refine GC_region (id := 2) ?_); try (refine xf rfl rfl ?_; try ((apply xl; exact rfl; (repeat (first | exact .here | refine .there ?_)); exact rfl; exact rfl); try (refine xf rfl rfl ?_; try ((apply xl; exact rfl; (repeat (first | exact .here | refine .there ?_)); exact rfl; exact rfl); try (refine xf rfl rfl ?_; try ((apply xl; exact rfl; (repeat (first | exact .here | refine .there ?_)); exact rfl; exact rfl); try (refine xf rfl rfl ?_; try ((apply xl; exact rfl; (repeat (first | exact .here | refine .there ?_)); exact rfl; exact rfl); try (fail; try (refine xI rfl rfl rfl ?_; try (refine xa rfl rfl ?_; try (refine GL_nil ?_)))))))))))))
      | ((first | (apply GC_regionK (id := 3) [1] (e' := [(1, _)]); exact rfl) | refine GC_region (id := 3) ?_); try (refine xf rfl rfl ?_; try ((apply xl; exact rfl; (repeat (first | exact .here | refine .there ?_)); exact rfl; exact rfl); try (refine xf rfl rfl ?_; try ((apply xl; exact rfl; (repeat (first | exact .here | refine .there ?_)); exact rfl; exact rfl); try ((refine GL_call rfl (fun w H => bas_New H) rfl ?_; rintro v w' ⟨B, Hb, rfl, H⟩; refine ⟨_, H, ?_⟩); try (refine xI rfl rfl rfl ?_; try (refine xa rfl rfl ?_; try (refine GL_nil ?_)))))))))
    refine GX_end (.inl rfl) (res1 rfl rfl) (fun w H => .intro ⟨B, Hb, ?_, ?_⟩)
    · unfold Wy.new; rw [hc]; rfl
    · unfold Wy.new; rw [hc]; exact ((H.pull 1 rfl).pull 2 rfl).drop.pull 1 rfl
  | true =>
    refine calls_of_GC' (vs := [.agg (List.toArray [.bool true, I64 s.n1, I64 s.n2, I64 s.hold, I64 s.octs, I64 s.t0, I64 s.t1, I64 s.t2, I64 s.t3, I64 s.t4, I64 s.t5, I64 s.t6, I64 s.t7])]) [] Tryz.func92 rfl rfl rfl ?_ hw
    repeat' first
      | refine GC_seq ?_
      | refine GX_then ?_
      | refine GC_ret ?_
      | refine GX_then_ret ?_
      | refine GC_skip ?_
      | refine GC_true rfl ?_
      | refine GC_false rfl ?_
      | (apply GC_condT; exact rfl; (repeat (first | exact .dec | with_reducible apply Tell.or | with_reducible apply Tell.and | with_reducible apply Tell.not | exact .self)); all_goals (intro h; try contradiction))
      | ((first | (apply GC_regionK (id := 0) [0] (e' := [(0, _)]); exact rfl) | refine GC_region (id := 0) ?_); try (refine xx rfl rfl rfl (fun q => ?_); try (refine xa rfl rfl ?_; try (refine GL_nil ?_))))
      | ((first | (apply GC_regionK (id := 1) [1] (e' := [(1, _)]); exact rfl) | refine GC_region (id := 1) ?_); try (refine xf rfl rfl ?_; try ((apply xl; exact rfl; (repeat (first | exact .here | refine .there ?_)); exact rfl; exact rfl); try (refine GL_nil ?_))))
      | ((first | (apply GC_regionK (id := 2) [1] (e' := [(1, _)]); exact rfl) | refine GC_region (id := 2) ?_); try (refine xf rfl rfl ?_; try ((apply xl; exact rfl; (repeat (first | exact .here | refine .there ?_)); exact rfl; exact rfl); try (refine xf rfl rfl ?_; try ((apply xl; exact rfl; (repeat (first | exact .here | refine .there ?_)); exact rfl; exact rfl); try (refine xf rfl rfl ?_; try ((apply xl; exact rfl; (repeat (first | exact .here | refine .there ?_)); exact rfl; exact rfl); try (refine xf rfl rfl ?_; try ((apply xl; exact rfl; (repeat (first | exact .here | refine .there ?_)); exact rfl; exact rfl); try ((refine GL_call rfl (fun w H => cyc_New H) rfl ?_; rintro v w' ⟨B, Hb, rfl, H⟩; refine ⟨_, H, ?_⟩); try (refine xI rfl rfl rfl ?_; try (refine xa rfl rfl ?_; try (refine GL_nil ?_)))))))))))))
      | ((first | (apply GC_regionK (id := 3) [1] (e' := [(1, _)]); exact rfl) | refine GC_region (id := 3) ?_); try (refine xf rfl rfl ?_; try ((apply xl; exact rfl; (repeat (first | exact .here | refine .there ?_)); exact rfl; exact rfl); try (refine xf rfl rfl ?_; try ((apply xl; exact rfl; (repeat (first | exact .here | refine .there ?_)); exact rfl; exact rfl); try (fail; try (refine xI rfl rfl rfl ?_; try (refine xa rfl rfl ?_; try (refine GL_nil ?_)))))))))
    refine GX_end (.inl rfl) (res1 rfl rfl) (fun w H => .intro ⟨B, Hb, ?_, ?_⟩)
    · unfold Wy.new; rw [hc]; rfl
    · unfold Wy.new; rw [hc]; exact ((H.pull 1 rfl).pull 2 rfl).drop.pull 1 rfl
end

section
variable {w0 w : World} {R L : List Ent} {B Hb : Nat} {y : Wy} {g : Hd} {o : Obj} {es en : Ent} [hk : HdOk g]
include hk

theorem wy_Fill (hh : HdAt R g o es en) (hR : ∀ x, x ∈ R → x ∈ L) (hw : Own w0 w (some (B, y.obj Hb) :: some (Hb, o) :: es :: en :: L)) :
    Calls Tryz.prog (y.fn 247 228) #[Ptr B] w (Ret fun v w' => v = (y.fill g).val (.slice none 0 0) ∧ Own w0 w' (some (B, y.obj Hb) :: some (Hb, o) :: es :: en :: L)) := by
  obtain ⟨cyc, b, c⟩ := y
  cases cyc
  · exact bas_Fill hh hR hw
  · exact cyc_Fill hh hR hw
theorem wy_Next (hh : HdAt R g o es en) (hR : ∀ x, x ∈ R → x ∈ L) (hw : Own w0 w (some (B, y.obj Hb) :: some (Hb, o) :: es :: en :: L)) :
    Calls Tryz.prog (y.fn 249 230) #[Ptr B] w (Ret fun v w' => ∃ pv o' es' N, v = (y.next g).2.val pv ∧ Pay (N ++ R) pv (y.next g).2.info ∧ HdAt (N ++ R) (y.next g).1.2 o' es' en ∧
      Own w0 w' (some (B, (y.next g).1.1.obj Hb) :: some (Hb, o') :: es' :: en :: (N ++ L))) := by
  obtain ⟨cyc, b, c⟩ := y
  cases cyc
  · exact bas_Next hh hR hw
  · exact cyc_Next hh hR hw
theorem wy_Answer {u : Unt} {pv : Value} (hh : HdAt R g o es en) (hR : ∀ x, x ∈ R → x ∈ L) (hw : Own w0 w (some (B, y.obj Hb) :: some (Hb, o) :: es :: en :: L)) :
    Calls Tryz.prog (y.fn 246 227) #[Ptr B, u.val pv] w (Ret fun v w' => v = .tuple #[I64 (y.answer g u).2.1, I64 (y.answer g u).2.2] ∧ ∃ o' es', HdAt R (y.answer g u).1.2 o' es' en ∧
      Own w0 w' (some (B, (y.answer g u).1.1.obj Hb) :: some (Hb, o') :: es' :: en :: L)) := by
  obtain ⟨cyc, b, c⟩ := y
  cases cyc
  · exact bas_Answer hh hR hw
  · exact cyc_Answer hh hR hw
omit hk in
theorem wy_Take {u : Unt} {pv : Value} (hu : Pay L pv u.info) (hl : u.info.length ≤ 1000000) (hw : Own w0 w (some (B, y.obj Hb) :: L)) :
    Calls Tryz.prog (y.fn 252 233) #[Ptr B, u.val pv] w (Ret fun v w' => ∃ e a c, v = .tuple #[.slice a (y.take u).2.1.length c, .bool (y.take u).2.2.1, I64 (y.take u).2.2.2] ∧ Pay [e] (.slice a (y.take u).2.1.length c) (y.take u).2.1 ∧
      Own w0 w' (some (B, (y.take u).1.obj Hb) :: e :: L)) := by
  obtain ⟨cyc, b, c⟩ := y
  cases cyc
  · exact bas_Take (g := Hd.new 0 0) (hk := HdOk.new (by decide)) hu hl hw
  · exact cyc_Take (g := Hd.new 0 0) (hk := HdOk.new (by decide)) hu hl hw
theorem wy_Reset (hh : HdAt R g o es en) (hR : ∀ x, x ∈ R → x ∈ L) (hw : Own w0 w (some (B, y.obj Hb) :: some (Hb, o) :: es :: en :: L)) :
    Calls Tryz.prog (y.fn 251 232) #[Ptr B] w (Ret fun v w' => v = .tuple #[] ∧ ∃ o', HdAt R g.clear o' none none ∧ Own w0 w' (some (B, y.reset.obj Hb) :: some (Hb, o') :: none :: none :: L)) := by
  obtain ⟨cyc, b, c⟩ := y
  cases cyc
  · exact bas_Reset hh hR hw
  · exact cyc_Reset hh hR hw
end

theorem way_Status {w0 w : World} {R L : List Ent} {B Hb : Nat} {y : Wy} {g : Hd} {o : Obj} {es en : Ent} {t : Int} [hk : HdOk g] (hh : HdAt R g o es en) (hR : ∀ x, x ∈ R → x ∈ L) (hw : Own w0 w (some (B, y.obj Hb) :: some (Hb, o) :: es :: en :: L)) :
    Calls Tryz.prog 127 #[y.val B, U8 t] w (Ret fun v w' => v = ({ y.fill g with kind := 1, status := t } : Unt).val (.slice none 0 0) ∧ Own w0 w' (some (B, y.obj Hb) :: some (Hb, o) :: es :: en :: L)) := by
  refine calls_of_GC' (vs := [y.val B, U8 t]) [] Tryz.func127 rfl rfl rfl ?_ hw
  repeat' first
    | refine GC_seq ?_
    | refine GX_then ?_
    | refine GC_ret ?_
    | refine GX_then_ret ?_
    | refine GC_skip ?_
    | refine GC_true rfl ?_
    | refine GC_false rfl ?_
    | (apply GC_condT; exact rfl; (repeat (first | exact .dec | with_reducible apply Tell.or | with_reducible apply Tell.and | with_reducible apply Tell.not | exact .self)); all_goals (intro h; try contradiction))
    | ((first | (apply GC_regionK (id := 0) [0, 1] (e' := [(0, _), (1, _)]); exact rfl) | refine GC_region (id := 0) ?_); try (refine xv rfl (fun q => ?_); try (refine GL_nil ?_)))
    | ((first | (apply GC_regionK (id := 1) [0, 1, 4] (e' := [(0, _), (1, _), (4, _)]); exact rfl) | refine GC_region (id := 1) ?_); try (refine xm rfl rfl ?_; try ((first | refine xq rfl rfl rfl ?_ | refine xp rfl rfl rfl ?_ | refine xzq rfl rfl rfl ?_ | refine xbe rfl rfl rfl ?_ | refine xiq rfl rfl rfl ?_ | refine xse rfl rfl rfl ?_); try (refine GL_nil ?_))))
    | ((first | (apply GC_regionK (id := 2) [4] (e' := [(4, _)]); exact rfl) | refine GC_region (id := 2) ?_); try (refine xb rfl rfl rfl ?_; try ((first | (apply xs; exact rfl; exact rfl; (repeat (first | exact .here | apply Upd.there)); exact rfl; exact rfl) | (apply xS; exact rfl; exact rfl; (repeat (first | exact .here | apply Upd.there)); exact rfl; exact rfl; exact rfl)); try (refine GL_nil ?_))))
    | ((first | (apply GC_regionK (id := 3) [0, 1, 4] (e' := [(0, _), (1, _), (4, _)]); exact rfl) | refine GC_region (id := 3) ?_); try (refine xm rfl rfl ?_; try ((refine GL_invoke rfl rfl (fun w H => wy_Fill hh (fun x hx => by simp [hR x hx]) H.in14) rfl ?_; rintro v w' ⟨rfl, H⟩; refine ⟨_, H.out14, ?_⟩); try (refine xv rfl (fun q => ?_); try ((first | (apply xs; exact rfl; exact rfl; (repeat (first | exact .here | apply Upd.there)); exact rfl; exact rfl) | (apply xS; exact rfl; exact rfl; (repeat (first | exact .here | apply Upd.there)); exact rfl; exact rfl; exact rfl)); try (refine GL_nil ?_))))))
    | ((first | (apply GC_regionK (id := 4) [1, 4, 5] (e' := [(1, _), (4, _), (5, _)]); exact rfl) | refine GC_region (id := 4) ?_); try (refine xm rfl rfl ?_; try (refine xf rfl rfl ?_; try ((first | (apply xs; exact rfl; exact rfl; (repeat (first | exact .here | apply Upd.there)); exact rfl; exact rfl) | (apply xS; exact rfl; exact rfl; (repeat (first | exact .here | apply Upd.there)); exact rfl; exact rfl; exact rfl)); try (refine xf rfl rfl ?_; try ((first | (apply xs; exact rfl; exact rfl; (repeat (first | exact .here | apply Upd.there)); exact rfl; exact rfl) | (apply xS; exact rfl; exact rfl; (repeat (first | exact .here | apply Upd.there)); exact rfl; exact rfl; exact rfl)); try (refine GL_nil ?_)))))))
    | ((first | (apply GC_regionK (id := 5) [4, 5] (e' := [(4, _), (5, _)]); exact rfl) | refine GC_region (id := 5) ?_); try ((apply xL; exact rfl; (repeat (first | exact .here | refine .there ?_)); exact rfl; exact rfl); try ((first | (apply xs; exact rfl; exact rfl; (repeat (first | exact .here | apply Upd.there)); exact rfl; exact rfl) | (apply xS; exact rfl; exact rfl; (repeat (first | exact .here | apply Upd.there)); exact rfl; exact rfl; exact rfl)); try (refine GL_nil ?_))))
  refine GX_end (.inl rfl) (resC1 rfl rfl (.agg (by repeat (first | exact .here | refine .there ?_)) rfl)) (fun w H => .intro ⟨rfl, H.drop.drop⟩)
end Go.Sm
