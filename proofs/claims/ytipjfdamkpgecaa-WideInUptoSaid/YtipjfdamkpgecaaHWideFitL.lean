/- When a group fits: by the sums. -/
import Derived.Test.YtipjfdamkpgecaaHWideSumF
namespace Go.Proofs.Ytipjfdamkpgecaa.PWide
open Go.RowKit Go.Proofs.YtipjfdamkpgecaaW.PrintWords Go.Proofs.YtipjfdamkpgecaaW.PrintMore
set_option linter.unusedVariables false
set_option linter.unusedSimpArgs false
theorem hardB_gt (l : List S31) {m : Nat} (hm : m < l.length) : ∀ d k, k + d = l.length → (m < hardB l d k ↔ ∀ j, k ≤ j → j ≤ m → (gB l j).f0 ≠ 5)
  | 0, k, h => by
    rw [hardB]
    exact ⟨fun _ j h1 h2 => by omega, fun _ => by omega⟩
  | d + 1, k, h => by
    have ih := hardB_gt l hm d (k + 1) (by omega)
    rw [hardB]
    by_cases g : (gB l k).f0 = 5
    · rw [if_pos g]
      exact ⟨fun h1 j h2 h3 => by omega, fun h1 => Classical.byContradiction fun h2 => h1 k (Nat.le_refl _) (by omega) g⟩
    · rw [if_neg g, ih]
      refine ⟨fun h1 j h2 h3 => ?_, fun h1 j h2 h3 => h1 j (by omega) h3⟩
      by_cases e : j = k
      · subst e; exact g
      · exact h1 j (by omega) h3
theorem hardB_bd (l : List S31) : ∀ d k, k ≤ hardB l d k ∧ hardB l d k ≤ k + d
  | 0, k => by rw [hardB]; omega
  | d + 1, k => by
    have ih := hardB_bd l d (k + 1)
    rw [hardB]; split <;> omega
theorem fit_eq {l : List S31} (hm : MayB l) (hs : small33 l) {i m : Nat} (h : IsM l i m) (w col : Int) :
    fitP l w i col = (decide (m < hardB l (l.length - i) i) && decide (col + sumC l 0 m - sumC l 0 i + behB l (l.length - m) m ≤ w)) := by
  have hl := hm.len
  have lt := h.lt
  have le := h.len
  have c7 := h.close
  have op := h.op
  have n0 := h.need hs (by omega)
  have ci : colA l i = 0 := by unfold colA; rw [op]; exact cols_none
  have eb : behB l (l.length - m) m = behB l (l.length - (m + 1)) (m + 1) := by
    rw [show l.length - m = l.length - (m + 1) + 1 by omega, behB, c7, if_neg (by decide)]
    unfold tsB
    rw [c7, if_neg (by decide)]; omega
  have es : sumC l 0 m = sumC l 0 i + sumC l (i + 1) (m - (i + 1)) := by
    have e1 := sumC_add l 0 i (m - i)
    have e2 := sumC_cons l i (m - (i + 1))
    rw [show i + (m - i) = m by omega, Nat.zero_add, show m - i = m - (i + 1) + 1 by omega, e2, ci] at e1
    omega
  have s1 := sumC_nn l (i + 1) (m - (i + 1))
  have s2 := behB_nn l (l.length - (m + 1)) (m + 1)
  have hg := hardB_gt l le (l.length - i) i (by omega)
  have ha : m < hardB l (l.length - i) i ↔ allF l (i + 1) (m - (i + 1)) := by
    rw [hg]
    refine ⟨fun h1 j hj => ?_, fun h1 j h2 h3 h5 => ?_⟩
    · have q := h1 (i + 1 + j) (by omega) (by omega)
      cases hf : flA l (i + 1 + j) with
      | true => rfl
      | false => exact absurd ((flA_hard hm (by omega)).1 hf) q
    · by_cases e : j = i
      · subst e; omega
      · by_cases e2 : j = m
        · subst e2; omega
        · have q := h1 (j - (i + 1)) (by omega)
          rw [show i + 1 + (j - (i + 1)) = j by omega, (flA_hard hm (by omega)).2 h5] at q
          exact absurd q (by decide)
  unfold fitP
  rw [n0, eb, es]
  unfold needV
  by_cases g : allF l (i + 1) (m - (i + 1))
  · rw [if_pos g, decide_eq_true (ha.2 g), Bool.true_and]
    exact decide_eq_decide.2 ⟨fun ⟨_, h2⟩ => by omega, fun h2 => ⟨by omega, by omega⟩⟩
  · rw [if_neg g, decide_eq_false (fun q => g (ha.1 q)), Bool.false_and]
    exact decide_eq_false (fun q => by omega)
end Go.Proofs.Ytipjfdamkpgecaa.PWide
