/- The pure statement of SpanTells. -/
import Derived.Test.YtjibfhlacbgkgaaPSpanx13
import Derived.Test.YtjibfhlacbgkgaaPureSpanLib
import Derived.Test.YtjibfhlacbgkgaaHSpanRef17
namespace Go.Proofs.Ytjibfhlacbgkgaa.PSpan
open Go.RowKit Go.Proofs.YtjibfhlacbgkgaaW.PrintWords Go.Proofs.YtjibfhlacbgkgaaW.PrintMore
set_option linter.unusedVariables false
set_option linter.unusedSimpArgs false
theorem bulkB_ge (l : List S23) (j : Nat) : ∀ k, j < k → (gB l j).f1.size ≤ bulkB l k
  | 0, h => absurd h (Nat.not_lt_zero _)
  | k + 1, h => by
    rw [bulkB]
    by_cases e : j = k
    · subst e; omega
    · have := bulkB_ge l j k (by omega); omega
theorem rounds_bulk (l : List S23) {K : Nat} (hK : bulkB l l.length + 24 < K) : roundsB l K := fun k => by
  by_cases h : k < l.length
  · have := bulkB_ge l k l.length h; omega
  · rw [gB_ge (by omega)]; show 0 + 24 < K; omega
theorem _root_.Go.Proofs.Ytjibfhlacbgkgaa.Pure.SpanTells : copperplatelaw17_SpanTells.Pure := by
  intro s m t l i hs _ ht _ hw _
  obtain ⟨K, hK⟩ : ∃ K, K = bulkB l l.length + s.size + 4 * l.length + 100 := ⟨_, rfl⟩
  refine ⟨K + 1 + 1, ?_⟩
  have J : copperplatelaw17_SpanTells.j0 (K + 1 + 1) s l i true true m t = some true := rfl
  unfold copperplatelaw17_SpanTells.f copperplatelaw17_awake.f
  rw [Option.bind_some, if_pos rfl]
  by_cases c1 : (s.size : Int) > 600
  · rw [if_pos c1]; exact J
  rw [if_neg c1]
  by_cases c2 : (l.length : Int) > 300
  · rw [decide_eq_true c2]; exact J
  clear J
  have hsm := small_of hw
  rw [decide_eq_false c2, copperplatelaw17_SpanTells.j0, if_neg (by decide), flat_f, rflat_f, rbreaks_f, cols_f s (by omega) _ (by omega), rcols_f s (by omega) _ (by omega)]
  simp only [Option.bind_some, if_true, beq_self_eq_true]
  rw [breaks_f, match_f (by omega), rmatch_f (by omega) _ _ (by omega), need_f hsm (by omega), rneed_f hsm (by omega) (rounds_bulk l (K := bulkB l l.length + 25) (by omega)) _ _ (by omega)]
  simp
end Go.Proofs.Ytjibfhlacbgkgaa.PSpan
