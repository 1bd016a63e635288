/- A link that serves: what it is, by reckoning. -/
import Derived.Test.YtdfljbffomhchaaGreatMh
set_option linter.unusedVariables false
set_option maxRecDepth 100000
namespace Go.Sm
theorem ticks_add (j k : Nat) (x : Lnk) : ticks (j + k) x = ticks j (ticks k x) := by
  induction j with
  | zero => simp [ticks]
  | succ j ih => rw [Nat.succ_add]; simp only [ticks, ih]
theorem tickQ4 (x : Lnk) (m : Int) (h : 2 ≤ m) : (x.setC [0, 0, 0, 0, m, 0, 0, 0]).tick = x.setC [0, 0, 0, 0, m - 1, 0, 0, 0] := by
  have h1 : ¬ m = 1 := by omega
  have h2 : 0 < m := by omega
  have hd : Clk.due [0, 0, 0, 0, m, 0, 0, 0] = [] := by simp [Clk.due, Clk.dueTo, h1]
  have ht : Clk.tick [0, 0, 0, 0, m, 0, 0, 0] = [0, 0, 0, 0, m - 1, 0, 0, 0] := by simp [Clk.tick, tick1, h2]
  show (Clk.due [0, 0, 0, 0, m, 0, 0, 0]).foldl Lnk.out (x.setC (Clk.tick [0, 0, 0, 0, m, 0, 0, 0])) = _
  rw [hd, ht]
  rfl
theorem quiet4 (x : Lnk) (m : Int) : ∀ k : Nat, (k : Int) < m → ticks k (x.setC [0, 0, 0, 0, m, 0, 0, 0]) = x.setC [0, 0, 0, 0, m - k, 0, 0, 0]
  | 0, _ => by simp [ticks]
  | k + 1, h => by
    have ih := quiet4 x m k (by omega)
    show (ticks k (x.setC [0, 0, 0, 0, m, 0, 0, 0])).tick = _
    rw [ih, tickQ4 _ _ (by omega)]
    have e : m - (k : Int) - 1 = m - ((k + 1 : Nat) : Int) := by omega
    rw [e]
theorem tickQ1 (x : Lnk) (m : Int) (h : 2 ≤ m) : (x.setC [0, m, 0, 0, 0, 0, 0, 0]).tick = x.setC [0, m - 1, 0, 0, 0, 0, 0, 0] := by
  have h1 : ¬ m = 1 := by omega
  have h2 : 0 < m := by omega
  have hd : Clk.due [0, m, 0, 0, 0, 0, 0, 0] = [] := by simp [Clk.due, Clk.dueTo, h1]
  have ht : Clk.tick [0, m, 0, 0, 0, 0, 0, 0] = [0, m - 1, 0, 0, 0, 0, 0, 0] := by simp [Clk.tick, tick1, h2]
  show (Clk.due [0, m, 0, 0, 0, 0, 0, 0]).foldl Lnk.out (x.setC (Clk.tick [0, m, 0, 0, 0, 0, 0, 0])) = _
  rw [hd, ht]
  rfl
theorem quiet1 (x : Lnk) (m : Int) : ∀ k : Nat, (k : Int) < m → ticks k (x.setC [0, m, 0, 0, 0, 0, 0, 0]) = x.setC [0, m - k, 0, 0, 0, 0, 0, 0]
  | 0, _ => by simp [ticks]
  | k + 1, h => by
    have ih := quiet1 x m k (by omega)
    show (ticks k (x.setC [0, m, 0, 0, 0, 0, 0, 0])).tick = _
    rw [ih, tickQ1 _ _ (by omega)]
    have e : m - (k : Int) - 1 = m - ((k + 1 : Nat) : Int) := by omega
    rw [e]
theorem sv3_c (cyc : Bool) : (sv3 cyc).c = [0, 0, 0, 0, 1200, 0, 0, 0] := by cases cyc <;> decide
def t12 (cyc : Bool) : Lnk := ((sv3 cyc).setC [0, 0, 0, 0, 1, 0, 0, 0]).tick
theorem t12_c (cyc : Bool) : (t12 cyc).c = [0, 12000, 0, 0, 0, 0, 0, 0] := by cases cyc <;> decide
def sw4 (cyc : Bool) : Lnk := ((t12 cyc).setC [0, 11900, 0, 0, 0, 0, 0, 0]).hear uFill
theorem setC_same (x : Lnk) : x.setC x.c = x := rfl
theorem setC_of {x : Lnk} {c : Clk} (h : x.c = c) : x = x.setC c := by subst h; exact (setC_same x).symm
theorem run1200 {x : Lnk} (h : x.c = [0, 0, 0, 0, 1200, 0, 0, 0]) : ticks 1200 x = (x.setC [0, 0, 0, 0, 1, 0, 0, 0]).tick := by
  have h2 : ticks 1199 x = x.setC [0, 0, 0, 0, 1, 0, 0, 0] := by
    have h3 := quiet4 x 1200 1199 (by decide)
    rw [← setC_of h] at h3
    exact h3
  have h4 := ticks_add 1 1199 x
  rw [h2] at h4
  exact h4
theorem run100 {x : Lnk} (h : x.c = [0, 12000, 0, 0, 0, 0, 0, 0]) : ticks 100 x = x.setC [0, 11900, 0, 0, 0, 0, 0, 0] := by
  have h3 := quiet1 x 12000 100 (by decide)
  rw [← setC_of h] at h3
  exact h3
theorem run1300 {x y : Lnk} (h : x.c = [0, 0, 0, 0, 1200, 0, 0, 0]) (hy : (x.setC [0, 0, 0, 0, 1, 0, 0, 0]).tick = y) (h' : y.c = [0, 12000, 0, 0, 0, 0, 0, 0]) : ticks 1300 x = y.setC [0, 11900, 0, 0, 0, 0, 0, 0] := by
  have h4 := ticks_add 100 1200 x
  rw [run1200 h, hy, run100 h'] at h4
  exact h4
theorem sv4_eq (cyc : Bool) : sv4 cyc = sw4 cyc := by
  unfold sv4 sw4
  rw [run1300 (sv3_c cyc) (y := t12 cyc) rfl (t12_c cyc)]
theorem sw4_S (cyc : Bool) : (sw4 cyc).S = 4 := by cases cyc <;> decide
theorem awake_S : (serving false 3 1 0 0).1.S = 4 := by
  unfold serving sv8 sv7 sv6 sv5
  rw [sv4_eq]
  decide
theorem nil_S (cyc : Bool) : (serving cyc 2 1 0 0).1.S = 4 := by
  unfold serving sv8 sv7 sv6 sv5
  rw [sv4_eq]
  cases cyc <;> decide
end Go.Sm
