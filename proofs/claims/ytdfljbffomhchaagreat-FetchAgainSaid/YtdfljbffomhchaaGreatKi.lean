/- Holds: payloads are copied. -/
import Derived.Test.YtdfljbffomhchaaGreatKh
set_option linter.unusedVariables false
set_option linter.unusedSectionVars false
set_option maxRecDepth 10000
namespace Go.Sm
open Go.RowKit Go.Proofs

section
variable {w0 w : World} {L : List Ent}

theorem clone_octets {v : Value} {p : Msg} (hp : Pay L v p) (h1 : p.length ≤ 1000000) (hw : Own w0 w L) :
    Calls Tryz.prog 136 #[v] w (Ret fun v' w' => ∃ e a c, v' = .slice a p.length c ∧ Pay [e] (.slice a p.length c) p ∧ Own w0 w' (e :: L)) := by
  obtain ⟨a, c, h2, h3⟩ := hp.out
  rw [octets_len] at h2
  subst h2
  cases a with
  | none =>
    have h0 : p = [] := by
      rcases h3 with h3 | ⟨_, _, _, _, h3, _⟩
      · simpa [octets] using h3
      · cases h3
    subst h0
    refine calls_of_GC' (vs := [.slice none 0 c]) [] Tryz.func136 rfl rfl rfl ?_ hw
    repeat' first
      | refine GC_seq ?_
      | refine GX_then ?_
      | refine GC_ret ?_
      | refine GX_then_ret ?_
      | refine GC_skip ?_
      | refine GC_true rfl ?_
      | refine GC_false rfl ?_
      | (apply GC_condT; exact rfl; (repeat (first | exact .dec | with_reducible apply Tell.or | with_reducible apply Tell.and | with_reducible apply Tell.not | exact .self)); all_goals (intro h; try contradiction))
      | ((first | (apply GC_regionK (id := 0) [0] (e' := [(0, _)]); exact rfl) | refine GC_region (id := 0) ?_); try (refine xa rfl rfl ?_; try (refine GL_nil ?_)))
      | ((first | (apply GC_regionK (id := 1) [0] (e' := [(0, _)]); exact rfl) | refine GC_region (id := 1) ?_); try (refine xm rfl rfl ?_; try ((first | refine xq rfl rfl rfl ?_ | refine xp rfl rfl rfl ?_ | refine xzq rfl rfl rfl ?_ | refine xbe rfl rfl rfl ?_ | refine xiq rfl rfl rfl ?_ | refine xse rfl rfl rfl ?_); try (refine GL_nil ?_))))
      | ((first | (apply GC_regionK (id := 2) [] (e' := []); exact rfl) | refine GC_region (id := 2) ?_); try (refine xa rfl rfl ?_; try (refine GL_nil ?_)))
      | ((first | (apply GC_regionK (id := 3) [0] (e' := [(0, _)]); exact rfl) | refine GC_region (id := 3) ?_); try (refine xz rfl rfl rfl (fun q => ?_); try (refine xm rfl rfl ?_; try (fail; try (refine xa rfl rfl ?_; try (refine GL_nil ?_))))))
    refine GX_end (.inl rfl) (res1 rfl rfl) (fun w H => .intro ⟨none, none, 0, rfl, .nil _ _, H.nothing⟩)
  | some ad =>
    refine calls_of_GC' (vs := [.slice (some ad) p.length c]) [] Tryz.func136 rfl rfl rfl ?_ hw
    repeat' first
      | (refine xaS (i := 0) rfl rfl (.at _ 0 0 0 [] [] [] rfl rfl (by simp) (by omega) (by decide)) rfl hp.cons (octets_one p) (by rw [octets_len]; omega) (by rw [octets_len]; omega) rfl (fun v' x' hs => ?_))
      | refine GC_seq ?_
      | refine GX_then ?_
      | refine GC_ret ?_
      | refine GX_then_ret ?_
      | refine GC_skip ?_
      | refine GC_true rfl ?_
      | refine GC_false rfl ?_
      | (apply GC_condT; exact rfl; (repeat (first | exact .dec | with_reducible apply Tell.or | with_reducible apply Tell.and | with_reducible apply Tell.not | exact .self)); all_goals (intro h; try contradiction))
      | ((first | (apply GC_regionK (id := 0) [0] (e' := [(0, _)]); exact rfl) | refine GC_region (id := 0) ?_); try (refine xa rfl rfl ?_; try (refine GL_nil ?_)))
      | ((first | (apply GC_regionK (id := 1) [0] (e' := [(0, _)]); exact rfl) | refine GC_region (id := 1) ?_); try (refine xm rfl rfl ?_; try ((first | refine xq rfl rfl rfl ?_ | refine xp rfl rfl rfl ?_ | refine xzq rfl rfl rfl ?_ | refine xbe rfl rfl rfl ?_ | refine xiq rfl rfl rfl ?_ | refine xse rfl rfl rfl ?_); try (refine GL_nil ?_))))
      | ((first | (apply GC_regionK (id := 2) [] (e' := []); exact rfl) | refine GC_region (id := 2) ?_); try (refine xa rfl rfl ?_; try (refine GL_nil ?_)))
      | ((first | (apply GC_regionK (id := 3) [0] (e' := [(0, _)]); exact rfl) | refine GC_region (id := 3) ?_); try ((first | (refine xaS (i := 0) rfl rfl (.at _ 0 0 0 [] [] [] rfl rfl (by simp) (by omega) (by decide)) rfl hp.cons (octets_one p) (by rw [octets_len]; omega) (by rw [octets_len]; omega) rfl (fun v' x' hs => ?_)) | refine xz rfl rfl rfl (fun q => ?_)); try (refine xm rfl rfl ?_; try ((refine xaS (i := 0) rfl rfl (.at _ 0 0 0 [] [] [] rfl rfl (by simp) (by omega) (by decide)) rfl hp.cons (octets_one p) (by rw [octets_len]; omega) (by rw [octets_len]; omega) rfl (fun v' x' hs => ?_)); try (refine xa rfl rfl ?_; try (refine GL_nil ?_))))))
    refine GX_end (.inl rfl) (res1 rfl rfl) (fun w H => .intro ?_)
    have h4 : Pay [x'] v' p := hs.look (by simp)
    obtain ⟨a', c', rfl⟩ := h4.shape
    exact ⟨x', a', c', rfl, h4, H⟩
end
end Go.Sm
