/- Proved: signalmanlaw18.FetchAgain returns true for every input, and its arguments read as they did. No condition. (The shell was written by proof-skeleton.mjs.) -/
import Derived.Test.YtdfljbffomhchaaGreatRows
import Derived.Test.YtdfljbffomhchaaGreatFa
import Derived.Test.YtdfljbffomhchaaGreatKy
import Derived.WalkKit
import Derived.ProofKit
import Derived.OpenShut
namespace Go.Proofs.YtdfljbffomhchaaGreat.fetchAgain
open Go.ChangeShapes Go.WideShapes Go.ChangeAt Go.RowKit
set_option linter.unusedVariables false      -- a walk need not use every 'w<i>' (that an integer argument fits its kind)

theorem own : ownKnob Tryz.prog.godebug = none := by kernel_rfl

/-- A call that has no place among its arguments: what it marks in its own new blocks is nobody's. -/
theorem post_none {H : Type} {enc : TypeId × Value → H} {P : Program} {f : Func} {s : ChangeSpec} {apart fresh handsOn again : Bool} {W W' : World} {args : Array Value} {v : Value} {ds gs : List (DataW H)}
    (hW : DataW.Whole enc P f.params.toList s.vars apart W args.toList ds gs [])
    (hres : ∀ (b : Nat) (sp : Nat → Bool) (hd : Bool), DataW.TrodAll enc P W' b sp hd f.resultTypes.toList (v.resultList f.resultTypes.size) (s.fn H (ds ++ gs)).results [])
    (hargs : ∀ sp : Nat → Bool, DataW.TrodAll enc P W' 0 sp true f.params.toList args.toList (s.fn H (ds ++ gs)).args [])
    (hvars : ∀ sp : Nat → Bool, DataW.TrodVars enc P W' sp s.vars (s.fn H (ds ++ gs)).vars [])
    (hk : W.keptBut W' (fun _ => False))
    (hok : ∀ (j : Nat) (t : TypeId) (r : Value), f.resultTypes[j]? = some t → (v.resultList f.resultTypes.size)[j]? = some r → Value.okWide P W' .any 0 t r) :
    s.post enc P f apart fresh handsOn again W args v W' :=
  ⟨ds, gs, [], [], [], [], hW, hres _ _ _, hargs _, hvars _, World.keptBut_mono (fun _ hp => hp.elim) hk, fun _ =>
    ⟨hok, _, _, [], ⟨[], [], trodAll_append (hargs _) (hres _ _ _), hvars _, rfl, fun b off hp => (by cases hp), fun _ => (by simp)⟩, fun p hp _ => (by cases hp)⟩⟩

theorem u8of {n : Int} (h : (Lit.int .u8 n).wf = true) : 0 ≤ n ∧ n < 256 := by
  simp [Lit.wf, IntKind.min, IntKind.max, IntKind.signed, IntKind.bits] at h
  omega
theorem walk (a0 : Bool) (a1 : Int) (a2 : Int) (w1 : (Lit.int .u8 a1).wf = true) (w2 : (Lit.int .u8 a2).wf = true) (w : World) :
    Calls Tryz.prog 6 #[.bool a0, .int .u8 a1, .int .u8 a2] w fun e w' => e = .returned (.bool true) ∧ w.keptBut w' (fun _ => False) := by
  refine (Go.Sm.law_FetchAgain (a0 := a0) (a1 := a1) (a2 := a2) (u8of w1) (u8of w2) (Go.Sm.Own.start w)).mono fun e w' he => ?_
  obtain ⟨v, rfl, rfl, L', H⟩ := he.out
  exact ⟨rfl, H.below.frame _⟩

/-! ### THE ROW's STEP: WRITTEN OUT: LEAVE IT -/
set_option maxRecDepth 100000 in
theorem lifted (os : Os) (started : os.Started) (H : Type) (enc : TypeId × Value → H) :
    ReturnsInHanded {} Tryz.checked os 6 .any (Rows.fetchAgainSpec.pre6 enc Tryz.prog Tryz.f6 Rows.fetchAgainRow.domain false) (Rows.fetchAgainSpec.post enc Tryz.prog Tryz.f6 false true false false) := by
  refine returnsInHanded_of_change (C := Tryz.checked) own started (by kernel_rfl) Tryz.func6
    (ChangeSpec.witness6 (enc := enc) (C := Tryz.checked) false ⟨#[], #[.bool false, .int .u8 0, .int .u8 0], []⟩ 8 (by kernel_rfl) (by kernel_rfl) (by kernel_rfl) (by kernel_rfl)) ?_
  intro W base args ds gs before hval0 hW hcnd _
  have hval : ∀ (j : Nat) t v, Tryz.f6.params[j]? = some t → args[j]? = some v → Value.okWide Tryz.prog W .any base t v := hval0
  have hW' := hW
  obtain ⟨p, q, hA0, hV, rfl, hfz, hnd⟩ := hW
  have hA : DataW.TrodAll enc Tryz.prog W 0 (fun _ => true) true Tryz.f6.params.toList args.toList ds p := hA0
  rw [Tryz.params6] at hA hval
  obtain ⟨v0, vs0, d0, ds0, p0, q0, hargs, rfl, rfl, h0, r0⟩ := trodAll_cons hA
  obtain ⟨v1, vs1, d1, ds1, p1, q1, rfl, rfl, rfl, h1, r1⟩ := trodAll_cons r0
  obtain ⟨v2, vs2, d2, ds2, p2, q2, rfl, rfl, rfl, h2, r2⟩ := trodAll_cons r1
  obtain ⟨rfl, rfl, rfl⟩ := trodAll_nil r2
  obtain rfl : args = #[v0, v1, v2] := by cases args; simp_all
  obtain ⟨rfl, rfl⟩ := trodVars_none hV
  obtain ⟨a0, rfl, rfl, rfl⟩ := open_bool Tryz.underlying4 (hval 0 4 v0 rfl rfl) h0
  obtain ⟨a1, rfl, rfl, rfl, w1⟩ := open_int Tryz.underlying5 (hval 1 5 v1 rfl rfl) h1
  obtain ⟨a2, rfl, rfl, rfl, w2⟩ := open_int Tryz.underlying5 (hval 2 5 v2 rfl rfl) h2
  clear hA0 hval0
  simp only [List.append_nil] at hW'
  refine (walk a0 a1 a2 w1 w2 W).mono fun e W' ⟨he, hg⟩ => ?_
  subst he
  exact ⟨_, rfl, post_none hW' (fun _ _ _ => (trodAll_cons_mk (shut_bool Tryz.underlying4 _) trodAll_mk0)) (fun sp => (trodAll_cons_mk (shut_bool Tryz.underlying4 _) (trodAll_cons_mk (shut_int Tryz.underlying5 w1) (trodAll_cons_mk (shut_int Tryz.underlying5 w2) trodAll_mk0)))) (fun _ => rfl)
    hg (ok_one (by kernel_rfl) rfl (okWide_bool_mk Tryz.underlying4 _))⟩

/-- Each closed fact by itself (one declaration over all of them outgrows the lid on the memory). -/
theorem fact0 : (Rows.fetchAgainRow.wf (OpenSpec.ofChange Rows.fetchAgainSpec)) = true := by kernel_rfl
theorem fact3 : (Tryz.f6.params.all (Tryz.prog.readableRec ·)) = true := by kernel_rfl
theorem fact4 : (namedTie Tryz.prog Rows.fetchAgainRow.named Rows.fetchAgainSpec.vars) = true := by kernel_rfl
theorem fact5 : ((Rows.fetchAgainRow.stops == [])) = true := by kernel_rfl
theorem fact7 : ((Rows.fetchAgainRow.knobs == [])) = true := by kernel_rfl
theorem fact9 : ((Rows.fetchAgainRow.inPlace == Tryz.prog.inPlace 6)) = true := by kernel_rfl
theorem fact10 : ((Rows.fetchAgainRow.unfollowed == Tryz.prog.unfollowed 6)) = true := by kernel_rfl
theorem fact11 : ((Rows.fetchAgainRow.recurses == Tryz.prog.recurses 6)) = true := by kernel_rfl
theorem fact12 : ((Rows.fetchAgainRow.named == Tryz.prog.varsNamed 6)) = true := by kernel_rfl
theorem fact13 : ((Rows.fetchAgainRow.maps == (Tryz.f6.params.toList ++ Rows.fetchAgainSpec.plain.varTypes Tryz.prog).any (Tryz.prog.mapsRec ·))) = true := by kernel_rfl
theorem fact14 : ((Rows.fetchAgainRow.ifaces == (Tryz.f6.params.toList ++ Rows.fetchAgainSpec.plain.varTypes Tryz.prog).any (Tryz.prog.ifacesRec ·))) = true := by kernel_rfl
theorem fact15 : ((Rows.fetchAgainRow.mapsOut == Tryz.prog.mapsAmong Tryz.f6.resultTypes.toList)) = true := by kernel_rfl
theorem fact16 : ((Rows.fetchAgainRow.loops == (Tryz.f6.params.toList ++ Rows.fetchAgainSpec.plain.varTypes Tryz.prog).any (Tryz.prog.loopsFrom ·))) = true := by kernel_rfl
theorem fact17 : ((Rows.fetchAgainRow.wideKeys == (Tryz.f6.params.toList ++ Rows.fetchAgainSpec.plain.varTypes Tryz.prog ++ Tryz.f6.resultTypes.toList).any (Tryz.prog.wideKeysFrom ·))) = true := by kernel_rfl
theorem fact18 : (Rows.fetchAgainSpec.vars.all (Tryz.prog.varReadable ·)) = true := by kernel_rfl
theorem fact19 : (Tryz.f6.resultTypes.all (fun t => Tryz.prog.readableRec t && decide (t < Tryz.prog.types.size))) = true := by kernel_rfl
theorem fact20 : ((Rows.fetchAgainRow.ifacesOut == Tryz.f6.resultTypes.toList.any (Tryz.prog.ifacesRec ·))) = true := by kernel_rfl
theorem fact21 : ((Rows.fetchAgainRow.loopsOut == Tryz.f6.resultTypes.toList.any (Tryz.prog.loopsFrom ·))) = true := by kernel_rfl
theorem fact23 : (Rows.fetchAgainRow.shortTexts.isNone) = true := by kernel_rfl
theorem fact28 : ((Rows.fetchAgainRow.kinds == (if Rows.fetchAgainRow.domain.isEmpty then [] else Tryz.f6.params.toList.map fun t => match Tryz.prog.underlying t with | some (.int k) => some k | _ => none))) = true := by kernel_rfl
theorem fact29 : ((Rows.fetchAgainRow.pinned == Rows.fetchAgainRow.pinnedBy)) = true := by kernel_rfl
theorem fact30 : ((Rows.fetchAgainRow.veiled == (Tryz.f6.params.toList ++ Rows.fetchAgainSpec.plain.varTypes Tryz.prog ++ Tryz.f6.resultTypes.toList).any (Tryz.prog.veiledRec ·))) = true := by kernel_rfl
theorem fact31 : (Rows.fetchAgainRow.veiledFits Tryz.prog Tryz.f6.params.toList (Tryz.f6.params.toList ++ Rows.fetchAgainSpec.plain.varTypes Tryz.prog ++ Tryz.f6.resultTypes.toList)) = true := by kernel_rfl
theorem named : Tryz.prog.funcNamed Rows.fetchAgainRow.func = some 6 := by kernel_rfl
set_option maxRecDepth 100000 in
theorem closed : joinedFacts Tryz.prog 6 Tryz.f6 Rows.fetchAgainSpec Rows.fetchAgainRow = true := by
  unfold joinedFacts
  refine facts.and_mk ?_ fact31
  refine facts.and_mk ?_ fact30
  refine facts.and_mk ?_ fact29
  refine facts.and_mk ?_ fact28
  refine facts.and_mk ?_ facts.p27
  refine facts.and_mk ?_ facts.p26
  refine facts.and_mk ?_ facts.p25
  refine facts.and_mk ?_ facts.p24
  refine facts.and_mk ?_ fact23
  refine facts.and_mk ?_ facts.p22
  refine facts.and_mk ?_ fact21
  refine facts.and_mk ?_ fact20
  refine facts.and_mk ?_ fact19
  refine facts.and_mk ?_ fact18
  refine facts.and_mk ?_ fact17
  refine facts.and_mk ?_ fact16
  refine facts.and_mk ?_ fact15
  refine facts.and_mk ?_ fact14
  refine facts.and_mk ?_ fact13
  refine facts.and_mk ?_ fact12
  refine facts.and_mk ?_ fact11
  refine facts.and_mk ?_ fact10
  refine facts.and_mk ?_ fact9
  refine facts.and_mk ?_ facts.p8
  refine facts.and_mk ?_ fact7
  refine facts.and_mk ?_ facts.p6
  refine facts.and_mk ?_ fact5
  refine facts.and_mk ?_ fact4
  refine facts.and_mk ?_ fact3
  refine facts.and_mk ?_ facts.p2
  refine facts.and_mk ?_ facts.p1
  exact fact0

theorem over : Rows.fetchAgainRow.holds Tryz.pinned (OpenSpec.ofChange Rows.fetchAgainSpec) :=
  OpenClaim.holds_of_wide 6 Tryz.f6 rfl rfl rfl rfl rfl rfl rfl ⟨rfl, rfl, rfl, rfl, rfl⟩ rfl rfl rfl rfl rfl named Tryz.func6 closed
    (of_decide_eq_true (by kernel_rfl)) (by unfold Func.isWrapper; first | (rw [if_pos (by decide +kernel)]; kernel_rfl) | (rw [if_neg (by decide +kernel)]; exact ⟨rfl, rfl⟩))
    (fun os started H enc _ => lifted os started H enc)

/-- ████ THE STATEMENT ████ -/
theorem proved : Rows.FetchAgainSaid :=
  over
#print axioms proved
end Go.Proofs.YtdfljbffomhchaaGreat.fetchAgain
