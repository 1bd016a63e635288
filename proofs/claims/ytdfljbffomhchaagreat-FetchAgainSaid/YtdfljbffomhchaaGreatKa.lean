/- Timers: what package clock's functions do. -/
import Derived.Test.YtdfljbffomhchaaGreatMa
import Derived.Test.YtdfljbffomhchaaGreatSt
set_option linter.unusedVariables false
set_option maxRecDepth 10000
namespace Go.Sm
open Go.RowKit Go.Proofs

section
variable {w0 w : World} {L : List Ent}

theorem clock_right {i : Int} (hw : Own w0 w L) : Calls Tryz.prog 179 #[I64 i] w (Ret fun v w' => v = .bool (decide (okT i)) ∧ Own w0 w' L) := by
  refine calls_of_GC (vs := [I64 i]) Tryz.func179 rfl rfl ?_ hw
  repeat' first
    | refine GC_seq ?_
    | refine GX_then ?_
    | refine GC_region ?_
    | refine xa rfl rfl ?_
    | refine xm rfl rfl ?_
    | refine xh rfl rfl rfl ?_
    | refine xt rfl rfl rfl ?_
    | refine xk rfl rfl rfl ?_
    | refine xK rfl rfl rfl ?_
    | refine GL_on rfl rfl ?_
    | refine GL_off rfl rfl rfl ?_
    | refine ysP rfl rfl (fun h => ?_) (fun h => ?_)
    | refine ys rfl rfl (fun h => ?_) (fun h => ?_)
    | refine GL_nil ?_
    | refine GC_ret ?_
    | refine GX_then_ret ?_
  all_goals refine GX_end (.inl rfl) (res1 rfl rfl) (fun w H => .intro ⟨?_, H⟩)
  · simp [okT, h]
  · simp [okT, h]

theorem clock_Start {c : Clk} [hc : ClkOk c] {Cb : Nat} {i t : Int} (hw : Own w0 w (some (Cb, clkObj c) :: L)) :
    Calls Tryz.prog 148 #[Ptr Cb, I64 i, I64 t] w (Ret fun v w' => v = I64 (if okS i t then 0 else 1) ∧ Own w0 w' (some (Cb, clkObj (c.start i t)) :: L)) := by
  have hlen := hc.len
  refine calls_of_GC (vs := [Ptr Cb, I64 i, I64 t]) Tryz.func148 rfl rfl ?_ hw
  repeat' first
    | (refine GL_call rfl (fun w H => clock_right H) rfl ?_; rintro v w' ⟨rfl, H⟩; refine ⟨_, H, ?_⟩)
    | refine GC_seq ?_
    | refine GX_then ?_
    | refine GC_region ?_
    | refine xa rfl rfl ?_
    | refine xm rfl rfl ?_
    | refine xq rfl rfl rfl ?_
    | refine xp rfl rfl rfl ?_
    | refine xO rfl rfl ?_
    | refine xo rfl rfl ?_
    | refine xk rfl rfl rfl ?_
    | refine xK rfl rfl rfl ?_
    | refine xt rfl rfl rfl ?_
    | refine xg rfl rfl rfl ?_
    | refine xn rfl rfl ?_
    | refine xf rfl rfl ?_
    | refine xj rfl rfl (by first | decide | omega) rfl ?_
    | refine xJ rfl rfl (by first | decide | omega) rfl ?_
    | (apply xs; exact rfl; exact rfl; (repeat (first | exact .here | refine .there ?_)); exact rfl; exact rfl)
    | (apply xS; exact rfl; exact rfl; (repeat (first | exact .here | refine .there ?_)); exact rfl; exact rfl; exact rfl)
    | refine GL_on rfl rfl ?_
    | refine GL_off rfl rfl rfl ?_
    | refine ysP rfl rfl (fun h => ?_) (fun h => ?_)
    | refine ys rfl rfl (fun h => ?_) (fun h => ?_)
    | refine GL_nil ?_
    | refine GC_ret ?_
    | refine GX_then_ret ?_
    | refine GC_skip ?_
    | refine GC_true rfl ?_
    | refine GC_false rfl ?_
    | refine GC_condP rfl (fun h => ?_) (fun h => ?_)
    | refine GC_cond rfl (fun h => ?_) (fun h => ?_)
  case refine_2.refine_2.refine_2 =>
    rename_i h1 h2
    have hi : 0 ≤ i ∧ i < 8 := Decidable.not_not.mp h1
    have hs : okS i t := ⟨hi, by omega, by omega⟩
    repeat' first
      | refine xj rfl rfl hi rfl ?_
      | (refine xs rfl rfl .here (nth_clk (by omega)) rfl ?_)
      | refine GC_seq ?_
      | refine GX_then ?_
      | refine GC_region ?_
      | refine xa rfl rfl ?_
      | refine xm rfl rfl ?_
      | refine xq rfl rfl rfl ?_
      | refine xp rfl rfl rfl ?_
      | refine xO rfl rfl ?_
      | refine xo rfl rfl ?_
      | refine xk rfl rfl rfl ?_
      | refine xK rfl rfl rfl ?_
      | refine xt rfl rfl rfl ?_
      | refine xg rfl rfl rfl ?_
      | refine xn rfl rfl ?_
      | refine xf rfl rfl ?_
      | refine xj rfl rfl (by first | decide | omega) rfl ?_
      | refine xJ rfl rfl (by first | decide | omega) rfl ?_
      | (apply xs; exact rfl; exact rfl; (repeat (first | exact .here | refine .there ?_)); exact rfl; exact rfl)
      | (apply xS; exact rfl; exact rfl; (repeat (first | exact .here | refine .there ?_)); exact rfl; exact rfl; exact rfl)
      | refine GL_on rfl rfl ?_
      | refine GL_off rfl rfl rfl ?_
      | refine ysP rfl rfl (fun h => ?_) (fun h => ?_)
      | refine ys rfl rfl (fun h => ?_) (fun h => ?_)
      | refine GL_nil ?_
      | refine GC_ret ?_
      | refine GX_then_ret ?_
      | refine GC_skip ?_
      | refine GC_true rfl ?_
      | refine GC_false rfl ?_
      | refine GC_condP rfl (fun h => ?_) (fun h => ?_)
      | refine GC_cond rfl (fun h => ?_) (fun h => ?_)
    refine GX_end (.inl rfl) (res1 rfl rfl) (fun w H => .intro ⟨by rw [if_pos hs], ?_⟩)
    rw [show 0 + 0 + i.toNat * 1 = i.toNat by omega, setNth_clk] at H
    rw [Clk.start, if_pos hs]
    exact H
  all_goals
    refine GX_end (.inl rfl) (res1 rfl rfl) (fun w H => .intro ⟨?_, ?_⟩)
    · rw [if_neg (fun h' : okS i t => by unfold okS at h'; first | exact h h'.1 | omega)]
    · rw [Clk.start, if_neg (fun h' : okS i t => by unfold okS at h'; first | exact h h'.1 | omega)]; exact H

theorem clk8 {c : Clk} (hc : c.length = 8) : ∃ a0 a1 a2 a3 a4 a5 a6 a7, c = [a0, a1, a2, a3, a4, a5, a6, a7] := by
  match c, hc with
  | [a0, a1, a2, a3, a4, a5, a6, a7], _ => exact ⟨_, _, _, _, _, _, _, _, rfl⟩

theorem clock_Clear {c : Clk} [hc : ClkOk c] {Cb : Nat} (hw : Own w0 w (some (Cb, clkObj c) :: L)) :
    Calls Tryz.prog 140 #[Ptr Cb] w (Ret fun v w' => v = .tuple #[] ∧ Own w0 w' (some (Cb, clkObj Clk.none) :: L)) := by
  have hlen := hc.len
  obtain ⟨a0, a1, a2, a3, a4, a5, a6, a7, rfl⟩ := clk8 hc.len
  refine calls_of_GC (vs := [Ptr Cb]) Tryz.func140 rfl rfl ?_ hw
  repeat' first
    | refine GC_seq ?_
    | refine GX_then ?_
    | refine GC_region ?_
    | refine xm rfl rfl ?_
    | refine xQ rfl rfl rfl ?_
    | refine xP rfl rfl rfl ?_
    | refine xb rfl rfl rfl ?_
    | refine xn rfl rfl ?_
    | refine xf rfl rfl ?_
    | (apply xs; exact rfl; exact rfl; (repeat (first | exact .here | refine .there ?_)); exact rfl; exact rfl)
    | (apply xS; exact rfl; exact rfl; (repeat (first | exact .here | refine .there ?_)); exact rfl; exact rfl; exact rfl)
    | refine GL_nil ?_
    | refine GC_skip ?_
    | refine GC_true rfl ?_
    | refine GC_false rfl ?_
    | refine GC_condP rfl (fun h => ?_) (fun h => ?_)
    | refine GC_cond rfl (fun h => ?_) (fun h => ?_)
  all_goals refine GX_end (.inr rfl) (res0 rfl) (fun w H => .intro ⟨rfl, H⟩)

theorem clock_Left {c : Clk} [hc : ClkOk c] {Cb : Nat} {i : Int} (hw : Own w0 w (some (Cb, clkObj c) :: L)) :
    Calls Tryz.prog 189 #[Ptr Cb, I64 i] w (Ret fun v w' => v = I64 (c.left i) ∧ Own w0 w' (some (Cb, clkObj c) :: L)) := by
  have hlen := hc.len
  refine calls_of_GC (vs := [Ptr Cb, I64 i]) Tryz.func189 rfl rfl ?_ hw
  by_cases hi : okT i
  · have hi' : 0 ≤ i ∧ i < 8 := hi
    repeat' first
      | (refine GL_call rfl (fun w H => clock_right H) rfl ?_; rintro v w' ⟨rfl, H⟩; refine ⟨_, H, ?_⟩)
      | refine xj rfl rfl hi' rfl ?_
      | (refine xl rfl .here (nth_clk (by omega)) rfl ?_)
      | refine GC_seq ?_
      | refine GX_then ?_
      | refine GC_region ?_
      | refine xa rfl rfl ?_
      | refine xm rfl rfl ?_
      | refine xq rfl rfl rfl ?_
      | refine xp rfl rfl rfl ?_
      | refine xO rfl rfl ?_
      | refine xo rfl rfl ?_
      | refine xk rfl rfl rfl ?_
      | refine xK rfl rfl rfl ?_
      | refine xn rfl rfl ?_
      | refine xf rfl rfl ?_
      | refine xj rfl rfl (by first | decide | omega) rfl ?_
      | refine xJ rfl rfl (by first | decide | omega) rfl ?_
      | (apply xl; exact rfl; (repeat (first | exact .here | refine .there ?_)); exact rfl; exact rfl)
      | (apply xL; exact rfl; (repeat (first | exact .here | refine .there ?_)); exact rfl; exact rfl)
      | refine GL_on rfl rfl ?_
      | refine GL_off rfl rfl rfl ?_
      | refine ysP rfl rfl (fun h => ?_) (fun h => ?_)
      | refine ys rfl rfl (fun h => ?_) (fun h => ?_)
      | refine GL_nil ?_
      | refine GC_ret ?_
      | refine GX_then_ret ?_
      | refine GC_skip ?_
      | refine GC_true rfl ?_
      | refine GC_false rfl ?_
      | refine GC_condP rfl (fun h => ?_) (fun h => ?_)
      | refine GC_cond rfl (fun h => ?_) (fun h => ?_)
    · exact absurd hi ‹_›
    · refine GX_end (.inl rfl) (res1 rfl rfl) (fun w H => .intro ⟨?_, H⟩)
      rw [Clk.left, if_pos hi]; simp
  · repeat' first
      | (refine GL_call rfl (fun w H => clock_right H) rfl ?_; rintro v w' ⟨rfl, H⟩; refine ⟨_, H, ?_⟩)
      | refine GC_seq ?_
      | refine GX_then ?_
      | refine GC_region ?_
      | refine xa rfl rfl ?_
      | refine xm rfl rfl ?_
      | refine xq rfl rfl rfl ?_
      | refine xp rfl rfl rfl ?_
      | refine xO rfl rfl ?_
      | refine xo rfl rfl ?_
      | refine xk rfl rfl rfl ?_
      | refine xK rfl rfl rfl ?_
      | refine xn rfl rfl ?_
      | refine xf rfl rfl ?_
      | refine xj rfl rfl (by first | decide | omega) rfl ?_
      | refine xJ rfl rfl (by first | decide | omega) rfl ?_
      | (apply xl; exact rfl; (repeat (first | exact .here | refine .there ?_)); exact rfl; exact rfl)
      | (apply xL; exact rfl; (repeat (first | exact .here | refine .there ?_)); exact rfl; exact rfl)
      | refine GL_on rfl rfl ?_
      | refine GL_off rfl rfl rfl ?_
      | refine ysP rfl rfl (fun h => ?_) (fun h => ?_)
      | refine ys rfl rfl (fun h => ?_) (fun h => ?_)
      | refine GL_nil ?_
      | refine GC_ret ?_
      | refine GX_then_ret ?_
      | refine GC_skip ?_
      | refine GC_true rfl ?_
      | refine GC_false rfl ?_
      | refine GC_condP rfl (fun h => ?_) (fun h => ?_)
      | refine GC_cond rfl (fun h => ?_) (fun h => ?_)
    · refine GX_end (.inl rfl) (res1 rfl rfl) (fun w H => .intro ⟨?_, H⟩)
      rw [Clk.left, if_neg hi]
    · exact absurd (Decidable.not_not.mp h) hi

theorem clock_On {c : Clk} [hc : ClkOk c] {Cb : Nat} {i : Int} (hw : Own w0 w (some (Cb, clkObj c) :: L)) :
    Calls Tryz.prog 174 #[Ptr Cb, I64 i] w (Ret fun v w' => v = .bool (decide (0 < c.left i)) ∧ Own w0 w' (some (Cb, clkObj c) :: L)) := by
  refine calls_of_GC (vs := [Ptr Cb, I64 i]) Tryz.func174 rfl rfl ?_ hw
  repeat' first
    | (refine GL_call rfl (fun w H => clock_Left H) rfl ?_; rintro v w' ⟨rfl, H⟩; refine ⟨_, H, ?_⟩)
    | refine GC_seq ?_
    | refine GX_then ?_
    | refine GC_region ?_
    | refine xa rfl rfl ?_
    | refine xm rfl rfl ?_
    | refine xg rfl rfl rfl ?_
    | refine GL_nil ?_
    | refine GC_ret ?_
    | refine GX_then_ret ?_
  all_goals refine GX_end (.inl rfl) (res1 rfl rfl) (fun w H => .intro ⟨rfl, H⟩)

def intsObj (l : List Int) : Obj := .cells (l.map I64).toArray 3 (0, 0)
theorem take_one {α : Type} (l : List α) (d : α) {k : Nat} (h : k < l.length) : l.take (k + 1) = l.take k ++ [l.getD k d] := by
  rw [List.take_succ_eq_append_getElem h]; simp [List.getD_eq_getElem?_getD, h]
theorem Clk.stop_snoc (c : Clk) (l : List Int) (i : Int) : c.stop (l ++ [i]) = (c.stop l).stop1 i := by simp [Clk.stop]
theorem clock_Stop {c : Clk} [hc : ClkOk c] {Cb q : Nat} (l : List Int) (hl : l.length < 1000) (hw : Own w0 w (some (Cb, clkObj c) :: some (q, intsObj l) :: L)) :
    Calls Tryz.prog 149 #[Ptr Cb, .slice (some ⟨q, 0, none⟩) l.length l.length] w (Ret fun v w' => v = .tuple #[] ∧ Own w0 w' (some (Cb, clkObj (c.stop l)) :: L)) := by
  have hlen := hc.len
  refine calls_of_GC (vs := [Ptr Cb, .slice (some ⟨q, 0, none⟩) l.length l.length]) Tryz.func149 rfl rfl ?_ hw
  repeat' first
    | refine GC_seq ?_
    | refine GX_then ?_
    | refine GC_region ?_
    | refine xm rfl rfl ?_
    | refine xy rfl rfl ?_
    | refine xt rfl rfl rfl ?_
    | refine xj rfl rfl (by first | decide | omega) rfl ?_
    | refine xJ rfl rfl (by first | decide | omega) rfl ?_
    | (apply xl; exact rfl; (repeat (first | exact .here | refine .there ?_)); exact rfl; exact rfl)
    | (apply xL; exact rfl; (repeat (first | exact .here | refine .there ?_)); exact rfl; exact rfl)
    | refine xa rfl rfl ?_
    | refine xQ rfl rfl rfl ?_
    | refine xP rfl rfl rfl ?_
    | refine xk rfl rfl rfl ?_
    | refine xK rfl rfl rfl ?_
    | refine xn rfl rfl ?_
    | refine xf rfl rfl ?_
    | (apply xs; exact rfl; exact rfl; (repeat (first | exact .here | refine .there ?_)); exact rfl; exact rfl)
    | (apply xS; exact rfl; exact rfl; (repeat (first | exact .here | refine .there ?_)); exact rfl; exact rfl; exact rfl)
    | refine xA rfl rfl rfl ?_
    | refine GL_on rfl rfl ?_
    | refine GL_off rfl rfl rfl ?_
    | refine ysP rfl rfl (fun h => ?_) (fun h => ?_)
    | refine ys rfl rfl (fun h => ?_) (fun h => ?_)
    | refine GL_nil ?_
    | refine GC_skip ?_
    | refine GC_block ?_
    | refine GX_block ?_
    | refine GC_exit ?_
    | refine GX_then_exit ?_
    | refine GX_block_exit rfl ?_
    | refine GX_block_other rfl ?_
    | refine GC_true rfl ?_
    | refine GC_false rfl ?_
    | refine GC_condP rfl (fun h => ?_) (fun h => ?_)
    | refine GC_cond rfl (fun h => ?_) (fun h => ?_)
  refine GC_keep [8, 7, 6, 0] (GC_loop (ι := Nat) (fun k e L' => k ≤ l.length ∧ e = [(8, I64 k), (7, I64 l.length), (6, .slice (some ⟨q, 0, none⟩) l.length l.length), (0, Ptr Cb)] ∧
    L' = some (Cb, clkObj (c.stop (l.take k))) :: some (q, intsObj l) :: L) (fun k => l.length - k) 0 ⟨by omega, rfl, rfl⟩ ?_)
  rintro k e L' ⟨hk, rfl, rfl⟩
  by_cases hlt : k < l.length
  · have hk0 : 0 + (k : Int).toNat * 1 = k := by omega
    have hst : c.stop (l.take (k + 1)) = (c.stop (l.take k)).stop1 (l.getD k 0) := by rw [take_one l 0 hlt, Clk.stop_snoc]
    have hsl := Clk.stop_len (l.take k) c
    repeat' first
      | (refine xl rfl (Find.there .here) (nth_map I64 l 0 (show 0 + (k : Int).toNat * 1 < l.length by omega)) rfl ?_)
      | (refine GL_call rfl (fun w H => clock_right H) rfl ?_; rintro v w' ⟨rfl, H⟩; refine ⟨_, H, ?_⟩)
      | refine GC_seq ?_
      | refine GX_then ?_
      | refine GC_region ?_
      | refine xm rfl rfl ?_
      | refine xy rfl rfl ?_
      | refine xt rfl rfl rfl ?_
      | refine xj rfl rfl (by first | decide | omega) rfl ?_
      | refine xJ rfl rfl (by first | decide | omega) rfl ?_
      | (apply xl; exact rfl; (repeat (first | exact .here | refine .there ?_)); exact rfl; exact rfl)
      | (apply xL; exact rfl; (repeat (first | exact .here | refine .there ?_)); exact rfl; exact rfl)
      | refine xa rfl rfl ?_
      | refine xQ rfl rfl rfl ?_
      | refine xP rfl rfl rfl ?_
      | refine xk rfl rfl rfl ?_
      | refine xK rfl rfl rfl ?_
      | refine xn rfl rfl ?_
      | refine xf rfl rfl ?_
      | (apply xs; exact rfl; exact rfl; (repeat (first | exact .here | refine .there ?_)); exact rfl; exact rfl)
      | (apply xS; exact rfl; exact rfl; (repeat (first | exact .here | refine .there ?_)); exact rfl; exact rfl; exact rfl)
      | refine xA rfl rfl rfl ?_
      | refine GL_on rfl rfl ?_
      | refine GL_off rfl rfl rfl ?_
      | refine ysP rfl rfl (fun h => ?_) (fun h => ?_)
      | refine ys rfl rfl (fun h => ?_) (fun h => ?_)
      | refine GL_nil ?_
      | refine GC_skip ?_
      | refine GC_block ?_
      | refine GX_block ?_
      | refine GC_exit ?_
      | refine GX_then_exit ?_
      | refine GX_block_exit rfl ?_
      | refine GX_block_other rfl ?_
      | refine GC_true rfl ?_
      | refine GC_false rfl ?_
      | refine GC_condP rfl (fun h => ?_) (fun h => ?_)
      | refine GC_cond rfl (fun h => ?_) (fun h => ?_)
    · rw [hk0] at h
      have hi : 0 ≤ l.getD (0 + (k : Int).toNat * 1) 0 ∧ l.getD (0 + (k : Int).toNat * 1) 0 < 8 := by rw [hk0]; exact h
      repeat' first
        | refine xj rfl rfl hi rfl ?_
        | (refine xs rfl rfl .here (nth_clk (by omega)) rfl ?_)
        | refine GC_seq ?_
        | refine GX_then ?_
        | refine GC_region ?_
        | refine xm rfl rfl ?_
        | refine xy rfl rfl ?_
        | refine xt rfl rfl rfl ?_
        | refine xj rfl rfl (by first | decide | omega) rfl ?_
        | refine xJ rfl rfl (by first | decide | omega) rfl ?_
        | (apply xl; exact rfl; (repeat (first | exact .here | refine .there ?_)); exact rfl; exact rfl)
        | (apply xL; exact rfl; (repeat (first | exact .here | refine .there ?_)); exact rfl; exact rfl)
        | refine xa rfl rfl ?_
        | refine xQ rfl rfl rfl ?_
        | refine xP rfl rfl rfl ?_
        | refine xk rfl rfl rfl ?_
        | refine xK rfl rfl rfl ?_
        | refine xn rfl rfl ?_
        | refine xf rfl rfl ?_
        | (apply xs; exact rfl; exact rfl; (repeat (first | exact .here | refine .there ?_)); exact rfl; exact rfl)
        | (apply xS; exact rfl; exact rfl; (repeat (first | exact .here | refine .there ?_)); exact rfl; exact rfl; exact rfl)
        | refine xA rfl rfl rfl ?_
        | refine GL_on rfl rfl ?_
        | refine GL_off rfl rfl rfl ?_
        | refine ysP rfl rfl (fun h => ?_) (fun h => ?_)
        | refine ys rfl rfl (fun h => ?_) (fun h => ?_)
        | refine GL_nil ?_
        | refine GC_skip ?_
        | refine GC_block ?_
        | refine GX_block ?_
        | refine GC_exit ?_
        | refine GX_then_exit ?_
        | refine GX_block_exit rfl ?_
        | refine GX_block_other rfl ?_
        | refine GC_true rfl ?_
        | refine GC_false rfl ?_
        | refine GC_condP rfl (fun h => ?_) (fun h => ?_)
        | refine GC_cond rfl (fun h => ?_) (fun h => ?_)
      refine GX_keep [8, 7, 6, 0] (GX_loop (k + 1) ⟨by omega, ?_, ?_⟩ (by omega))
      · show [(8, I64 (IntKind.i64.wrap ((k : Int) + 1))), (7, _), (6, _), (0, _)] = _
        rw [wrap_nat (by omega)]
      · rw [setNth_clk, hst, hk0, Clk.stop1, if_pos h]; simp [clkObj]
    · rw [hk0] at h
      refine GX_keep [8, 7, 6, 0] (GX_loop (k + 1) ⟨by omega, ?_, ?_⟩ (by omega))
      · show [(8, I64 (IntKind.i64.wrap ((k : Int) + 1))), (7, _), (6, _), (0, _)] = _
        rw [wrap_nat (by omega)]
      · rw [hst, Clk.stop1, if_neg h]
    · omega
  · repeat' first
      | refine GC_seq ?_
      | refine GX_then ?_
      | refine GC_region ?_
      | refine xm rfl rfl ?_
      | refine xy rfl rfl ?_
      | refine xt rfl rfl rfl ?_
      | refine xj rfl rfl (by first | decide | omega) rfl ?_
      | refine xJ rfl rfl (by first | decide | omega) rfl ?_
      | (apply xl; exact rfl; (repeat (first | exact .here | refine .there ?_)); exact rfl; exact rfl)
      | (apply xL; exact rfl; (repeat (first | exact .here | refine .there ?_)); exact rfl; exact rfl)
      | refine xa rfl rfl ?_
      | refine xQ rfl rfl rfl ?_
      | refine xP rfl rfl rfl ?_
      | refine xk rfl rfl rfl ?_
      | refine xK rfl rfl rfl ?_
      | refine xn rfl rfl ?_
      | refine xf rfl rfl ?_
      | (apply xs; exact rfl; exact rfl; (repeat (first | exact .here | refine .there ?_)); exact rfl; exact rfl)
      | (apply xS; exact rfl; exact rfl; (repeat (first | exact .here | refine .there ?_)); exact rfl; exact rfl; exact rfl)
      | refine xA rfl rfl rfl ?_
      | refine GL_on rfl rfl ?_
      | refine GL_off rfl rfl rfl ?_
      | refine ysP rfl rfl (fun h => ?_) (fun h => ?_)
      | refine ys rfl rfl (fun h => ?_) (fun h => ?_)
      | refine GL_nil ?_
      | refine GC_skip ?_
      | refine GC_block ?_
      | refine GX_block ?_
      | refine GC_exit ?_
      | refine GX_then_exit ?_
      | refine GX_block_exit rfl ?_
      | refine GX_block_other rfl ?_
      | refine GC_true rfl ?_
      | refine GC_false rfl ?_
      | refine GC_condP rfl (fun h => ?_) (fun h => ?_)
      | refine GC_cond rfl (fun h => ?_) (fun h => ?_)
    · omega
    · refine GX_end (.inr rfl) (res0 rfl) (fun w H => .intro ⟨rfl, ?_⟩)
      rw [List.take_of_length_le (by omega)] at H
      exact (H.pull 1 rfl).drop

theorem clock_Tick {c : Clk} [hc : ClkOk c] {Cb : Nat} (hw : Own w0 w (some (Cb, clkObj c) :: L)) :
    Calls Tryz.prog 125 #[Ptr Cb] w (Ret fun v w' => ∃ x, Slc 3 1 v (c.due.map I64) c.due.length x ∧ Own w0 w' (some (Cb, clkObj c.tick) :: x :: L)) := by
  have hlen := hc.len
  refine calls_of_GC (vs := [Ptr Cb]) Tryz.func125 rfl rfl ?_ hw
  obtain ⟨a0, a1, a2, a3, a4, a5, a6, a7, e8⟩ := clk8 hlen
  have hagg : nths (clkCells c) (0 + 0) 8 = some (clkCells c) := by rw [e8]; rfl
  repeat' first
    | (apply xL; exact rfl; exact .here; exact hagg; exact rfl)
    | refine GC_seq ?_
    | refine GX_then ?_
    | refine GC_region ?_
    | refine xa rfl rfl ?_
    | refine xm rfl rfl ?_
    | refine xq rfl rfl rfl ?_
    | refine xp rfl rfl rfl ?_
    | refine xn rfl rfl ?_
    | refine xf rfl rfl ?_
    | (apply xl; exact rfl; (repeat (first | exact .here | refine .there ?_)); exact rfl; exact rfl)
    | (apply xL; exact rfl; (repeat (first | exact .here | refine .there ?_)); exact rfl; exact rfl)
    | refine xt rfl rfl rfl ?_
    | refine xg rfl rfl rfl ?_
    | refine xz rfl rfl rfl (fun q => ?_)
    | refine xA rfl rfl rfl ?_
    | refine GC_draw (id := 8) [(1, 0), (1, 1), (1, 2), (1, 3), (1, 4), (0, 5), (1, 6), (1, 7), (1, 8), (1, 9), (2, 10)] mixed (by kernel_rfl) ?_
    | refine Fm rfl rfl ?_
    | refine Fn rfl rfl ?_
    | refine Ff rfl rfl ?_
    | refine Fj rfl rfl (by first | decide | omega) rfl ?_
    | refine FJ rfl rfl (by first | decide | omega) rfl ?_
    | (apply Dl; exact rfl; (repeat (first | exact .here | refine .there ?_)); exact rfl; exact rfl)
    | (apply DL; exact rfl; (repeat (first | exact .here | refine .there ?_)); exact rfl; exact rfl)
    | refine FB rfl rfl rfl ?_
    | (apply Us; exact rfl; exact rfl; (repeat (first | exact .here | refine .there ?_)); exact rfl; exact rfl)
    | (apply US; exact rfl; exact rfl; (repeat (first | exact .here | refine .there ?_)); exact rfl; exact rfl; exact rfl)
    | refine GD_nil ?_
    | refine GL_nil ?_
    | refine GC_ret ?_
    | refine GX_then_ret ?_
    | refine GC_skip ?_
    | refine GC_block ?_
    | refine GX_block ?_
    | refine GX_block_ret ?_
    | refine GC_exit ?_
    | refine GX_then_exit ?_
    | refine GX_block_exit rfl ?_
    | refine GX_block_other rfl ?_
    | refine GC_true rfl ?_
    | refine GC_false rfl ?_
    | refine GC_condP rfl (fun h => ?_) (fun h => ?_)
    | refine GC_cond rfl (fun h => ?_) (fun h => ?_)
  clear e8 hagg
  refine GC_sub (fun w h => (h.nothing.pull 1 rfl)) ?_
  refine GC_keep [13, 12, 3, 0] (GC_loop (ι := Nat) (fun k e L' => k ≤ 8 ∧ ∃ v x, Slc 3 1 v ((c.dueTo k).map I64) (c.dueTo k).length x ∧ e = [(13, I64 k), (12, .agg (clkCells c).toArray), (3, v), (0, Ptr Cb)] ∧
    L' = some (Cb, clkObj (Clk.tickTo c k)) :: x :: L) (fun k => 8 - k) 0 ⟨by omega, .slice none 0 0, none, .nil, rfl, by simp [Clk.tickTo]⟩ ?_)
  rintro k e L' ⟨hk, v, x, hs, rfl, rfl⟩
  by_cases hlt : k < 8
  · have hg := hc.get k
    have htl := Clk.tickTo_len c k
    have htg := Clk.tickTo_get (c := c) (k := k) (by omega)
    have hts := Clk.tickTo_succ (c := c) (k := k) (by omega)
    have hi : 0 ≤ (k : Int) ∧ (k : Int) < (8 : Nat) := by omega
    have hk0 : 0 + 0 + (k : Int).toNat * 1 = k := by omega
    have hkk : (k : Int).toNat = k := by omega
    have hdl := Clk.dueTo_len c k
    have hdue : c.dueTo (k + 1) = if c.getD k 0 = 1 then c.dueTo k ++ [(k : Int)] else c.dueTo k := rfl
    have hst1 : 0 < c.getD k 0 → (Obj.cells (setNth (clkCells (Clk.tickTo c k)) (0 + 0 + (k : Int).toNat * 1) (I64 (IntKind.i64.wrap ((Clk.tickTo c k).getD (0 + 0 + (k : Int).toNat * 1) 0 - 1)))).toArray 170 (0, 0)) = clkObj (Clk.tickTo c (k + 1)) := fun h => by
      rw [hk0, htg, setNth_clk, hts, tick1, if_pos h, IntWalk.i64_in _ (by omega)]; rfl
    have hst0 : ¬ 0 < c.getD k 0 → clkObj (Clk.tickTo c k) = clkObj (Clk.tickTo c (k + 1)) := fun h => by
      rw [hts, tick1, if_neg h, ← htg, set_same]
      simp [List.getD_eq_getElem?_getD, htl, hlen, hlt]
    repeat' first
      | (refine xX rfl rfl hi (nth_clk (show (k : Int).toNat < c.length by omega)) rfl ?_)
      | (apply Dl; exact rfl; exact .here; exact nth_clk (show 0 + 0 + (k : Int).toNat * 1 < (Clk.tickTo c k).length by omega); exact rfl)
      | refine Fj rfl rfl hi rfl ?_
      | refine Us rfl rfl .here (nth_clk (show 0 + 0 + (k : Int).toNat * 1 < (Clk.tickTo c k).length by omega)) rfl ?_
      | refine GC_seq ?_
      | refine GX_then ?_
      | refine GC_region ?_
      | refine xa rfl rfl ?_
      | refine xm rfl rfl ?_
      | refine xq rfl rfl rfl ?_
      | refine xp rfl rfl rfl ?_
      | refine xn rfl rfl ?_
      | refine xf rfl rfl ?_
      | (apply xl; exact rfl; (repeat (first | exact .here | refine .there ?_)); exact rfl; exact rfl)
      | (apply xL; exact rfl; (repeat (first | exact .here | refine .there ?_)); exact rfl; exact rfl)
      | refine xt rfl rfl rfl ?_
      | refine xg rfl rfl rfl ?_
      | refine xz rfl rfl rfl (fun q => ?_)
      | refine xA rfl rfl rfl ?_
      | refine GC_draw (id := 8) [(1, 0), (1, 1), (1, 2), (1, 3), (1, 4), (0, 5), (1, 6), (1, 7), (1, 8), (1, 9), (2, 10)] mixed (by kernel_rfl) ?_
      | refine Fm rfl rfl ?_
      | refine Fn rfl rfl ?_
      | refine Ff rfl rfl ?_
      | refine Fj rfl rfl (by first | decide | omega) rfl ?_
      | refine FJ rfl rfl (by first | decide | omega) rfl ?_
      | (apply Dl; exact rfl; (repeat (first | exact .here | refine .there ?_)); exact rfl; exact rfl)
      | (apply DL; exact rfl; (repeat (first | exact .here | refine .there ?_)); exact rfl; exact rfl)
      | refine FB rfl rfl rfl ?_
      | (apply Us; exact rfl; exact rfl; (repeat (first | exact .here | refine .there ?_)); exact rfl; exact rfl)
      | (apply US; exact rfl; exact rfl; (repeat (first | exact .here | refine .there ?_)); exact rfl; exact rfl; exact rfl)
      | refine GD_nil ?_
      | refine GL_nil ?_
      | refine GC_ret ?_
      | refine GX_then_ret ?_
      | refine GC_skip ?_
      | refine GC_block ?_
      | refine GX_block ?_
      | refine GX_block_ret ?_
      | refine GC_exit ?_
      | refine GX_then_exit ?_
      | refine GX_block_exit rfl ?_
      | refine GX_block_other rfl ?_
      | refine GC_true rfl ?_
      | refine GC_false rfl ?_
      | refine GC_condP rfl (fun h => ?_) (fun h => ?_)
      | refine GC_cond rfl (fun h => ?_) (fun h => ?_)
    all_goals try rw [hkk] at *
    · refine xap rfl rfl hs (i := 2) rfl .here rfl rfl (by omega) (by omega) (by omega) rfl (fun v' x' hs' => ?_)
      repeat' first
        | refine GC_seq ?_
        | refine GX_then ?_
        | refine GC_region ?_
        | refine xa rfl rfl ?_
        | refine xm rfl rfl ?_
        | refine xq rfl rfl rfl ?_
        | refine xp rfl rfl rfl ?_
        | refine xn rfl rfl ?_
        | refine xf rfl rfl ?_
        | (apply xl; exact rfl; (repeat (first | exact .here | refine .there ?_)); exact rfl; exact rfl)
        | (apply xL; exact rfl; (repeat (first | exact .here | refine .there ?_)); exact rfl; exact rfl)
        | refine xt rfl rfl rfl ?_
        | refine xg rfl rfl rfl ?_
        | refine xz rfl rfl rfl (fun q => ?_)
        | refine xA rfl rfl rfl ?_
        | refine GC_draw (id := 8) [(1, 0), (1, 1), (1, 2), (1, 3), (1, 4), (0, 5), (1, 6), (1, 7), (1, 8), (1, 9), (2, 10)] mixed (by kernel_rfl) ?_
        | refine Fm rfl rfl ?_
        | refine Fn rfl rfl ?_
        | refine Ff rfl rfl ?_
        | refine Fj rfl rfl (by first | decide | omega) rfl ?_
        | refine FJ rfl rfl (by first | decide | omega) rfl ?_
        | (apply Dl; exact rfl; (repeat (first | exact .here | refine .there ?_)); exact rfl; exact rfl)
        | (apply DL; exact rfl; (repeat (first | exact .here | refine .there ?_)); exact rfl; exact rfl)
        | refine FB rfl rfl rfl ?_
        | (apply Us; exact rfl; exact rfl; (repeat (first | exact .here | refine .there ?_)); exact rfl; exact rfl)
        | (apply US; exact rfl; exact rfl; (repeat (first | exact .here | refine .there ?_)); exact rfl; exact rfl; exact rfl)
        | refine GD_nil ?_
        | refine GL_nil ?_
        | refine GC_ret ?_
        | refine GX_then_ret ?_
        | refine GC_skip ?_
        | refine GC_block ?_
        | refine GX_block ?_
        | refine GX_block_ret ?_
        | refine GC_exit ?_
        | refine GX_then_exit ?_
        | refine GX_block_exit rfl ?_
        | refine GX_block_other rfl ?_
        | refine GC_true rfl ?_
        | refine GC_false rfl ?_
        | refine GC_condP rfl (fun h => ?_) (fun h => ?_)
        | refine GC_cond rfl (fun h => ?_) (fun h => ?_)
      refine GX_sub (fun w h => h.drop) (GX_keep [13, 12, 3, 0] (GX_loop (k + 1) ⟨by omega, v', x', ?_, ?_, ?_⟩ (by omega)))
      · rw [hdue, if_pos h, List.map_append, List.length_append]; exact hs'
      · show [(13, I64 (IntKind.i64.wrap ((k : Int) + 1))), (12, _), (3, _), (0, _)] = _
        rw [wrap_nat (by omega)]
      · rw [← hst1 (by omega)]; try rfl
    · refine GX_keep [13, 12, 3, 0] (GX_loop (k + 1) ⟨by omega, v, x, ?_, ?_, ?_⟩ (by omega))
      · rw [hdue, if_neg h]; exact hs
      · show [(13, I64 (IntKind.i64.wrap ((k : Int) + 1))), (12, _), (3, _), (0, _)] = _
        rw [wrap_nat (by omega)]
      · rw [← hst1 (by omega)]; try rfl
    · omega
    · refine GX_keep [13, 12, 3, 0] (GX_loop (k + 1) ⟨by omega, v, x, ?_, ?_, ?_⟩ (by omega))
      · rw [hdue, if_neg h]; exact hs
      · show [(13, I64 (IntKind.i64.wrap ((k : Int) + 1))), (12, _), (3, _), (0, _)] = _
        rw [wrap_nat (by omega)]
      · have h9 := hst0 (by omega)
        rw [← h9]
    · omega
  · have hk8 : k = c.length := by omega
    subst hk8
    repeat' first
      | refine GC_seq ?_
      | refine GX_then ?_
      | refine GC_region ?_
      | refine xa rfl rfl ?_
      | refine xm rfl rfl ?_
      | refine xq rfl rfl rfl ?_
      | refine xp rfl rfl rfl ?_
      | refine xn rfl rfl ?_
      | refine xf rfl rfl ?_
      | (apply xl; exact rfl; (repeat (first | exact .here | refine .there ?_)); exact rfl; exact rfl)
      | (apply xL; exact rfl; (repeat (first | exact .here | refine .there ?_)); exact rfl; exact rfl)
      | refine xt rfl rfl rfl ?_
      | refine xg rfl rfl rfl ?_
      | refine xz rfl rfl rfl (fun q => ?_)
      | refine xA rfl rfl rfl ?_
      | refine GC_draw (id := 8) [(1, 0), (1, 1), (1, 2), (1, 3), (1, 4), (0, 5), (1, 6), (1, 7), (1, 8), (1, 9), (2, 10)] mixed (by kernel_rfl) ?_
      | refine Fm rfl rfl ?_
      | refine Fn rfl rfl ?_
      | refine Ff rfl rfl ?_
      | refine Fj rfl rfl (by first | decide | omega) rfl ?_
      | refine FJ rfl rfl (by first | decide | omega) rfl ?_
      | (apply Dl; exact rfl; (repeat (first | exact .here | refine .there ?_)); exact rfl; exact rfl)
      | (apply DL; exact rfl; (repeat (first | exact .here | refine .there ?_)); exact rfl; exact rfl)
      | refine FB rfl rfl rfl ?_
      | (apply Us; exact rfl; exact rfl; (repeat (first | exact .here | refine .there ?_)); exact rfl; exact rfl)
      | (apply US; exact rfl; exact rfl; (repeat (first | exact .here | refine .there ?_)); exact rfl; exact rfl; exact rfl)
      | refine GD_nil ?_
      | refine GL_nil ?_
      | refine GC_ret ?_
      | refine GX_then_ret ?_
      | refine GC_skip ?_
      | refine GC_block ?_
      | refine GX_block ?_
      | refine GX_block_ret ?_
      | refine GC_exit ?_
      | refine GX_then_exit ?_
      | refine GX_block_exit rfl ?_
      | refine GX_block_other rfl ?_
      | refine GC_true rfl ?_
      | refine GC_false rfl ?_
      | refine GC_condP rfl (fun h => ?_) (fun h => ?_)
      | refine GC_cond rfl (fun h => ?_) (fun h => ?_)
    · omega
    · refine GX_end (.inl rfl) (res1 rfl rfl) (fun w H => .intro ⟨x, ?_, ?_⟩)
      · rw [hlen] at hs; exact hs
      · rw [Clk.tickTo_all] at H; exact H
end
end Go.Sm
