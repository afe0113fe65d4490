/- The pure statement of MeterWithin: over whole numbers alone. -/
import Derived.Test.YtfpihmjdcneheaaPMeterx12
import Derived.Test.YtfpihmjdcneheaaPureMeterLib
namespace Go.Proofs.Ytfpihmjdcneheaa.Pure
open Go.RowKit Go.Proofs.Ytfpihmjdcneheaa.PMeter Go.Proofs.YtfpihmjdcneheaaW.PrintWords
set_option linter.unusedVariables false

theorem MeterWithin : copperplatelaw01_MeterWithin.Pure := by
  intro a b n s c k _ _ wn ws wc wk
  refine ⟨1, ?_⟩
  unfold copperplatelaw01_MeterWithin.f copperplatelaw01_awake.f
  have zero : ∀ (h1 : ¬ n < 0) (h2 : ¬ s < 0) (h3 : ¬ c < 0) (h4 : ¬ n > 524288) (h5 : ¬ s > 524288) (h6 : ¬ c > 524288), Wip 0 0 n s c := by
    intro h1 h2 h3 h4 h5 h6
    have b1 := mul_bd (s := s) (m := n + 1) (by omega) (by omega) (by omega) (by omega)
    have b2 := mul_bd (s := c) (m := n + 1) (by omega) (by omega) (by omega) (by omega)
    unfold Wip Mayp
    omega
  have other : copperplatelaw01_MeterWithin.j0 1 n s c k true true a b = some true := by
    simp only [copperplatelaw01_MeterWithin.j0, if_true]
    by_cases h1 : n < 0
    · rw [if_pos h1]
    rw [if_neg h1]
    by_cases h2 : s < 0
    · rw [if_pos h2]
    rw [if_neg h2]
    by_cases h3 : c < 0
    · rw [if_pos h3]
    rw [if_neg h3]
    by_cases h4 : n > 524288
    · rw [if_pos h4]
    rw [if_neg h4]
    by_cases h5 : s > 524288
    · rw [if_pos h5]
    rw [if_neg h5]
    by_cases h6 : c > 524288
    · rw [if_pos h6]
    rw [if_neg h6, within_f]
    simp [zero h1 h2 h3 h4 h5 h6]
  simp only [Option.bind_some, if_true, other]
  by_cases h1 : n < 0
  · rw [if_pos h1]
  rw [if_neg h1]
  by_cases h2 : s < 0
  · rw [if_pos h2]
  rw [if_neg h2]
  by_cases h3 : c < 0
  · rw [if_pos h3]
  rw [if_neg h3]
  by_cases h0 : k < 0
  · rw [if_pos h0]
  rw [if_neg h0]
  by_cases h4 : n > 524288
  · rw [if_pos h4]
  rw [if_neg h4]
  by_cases h5 : s > 524288
  · rw [if_pos h5]
  rw [if_neg h5]
  by_cases h6 : c > 524288
  · rw [if_pos h6]
  rw [if_neg h6]
  by_cases h7 : k > 524288
  · rw [if_pos h7]
  rw [if_neg h7, within_f]
  by_cases hw : Wip a b n s c
  · have e1 : wrap64 (n + k) = n + k := w64 (by omega) (by omega)
    have e2 : wrap64 (s + k) = s + k := w64 (by omega) (by omega)
    have e3 : wrap64 (c + k) = c + k := w64 (by omega) (by omega)
    have b0 := mul_bd (s := s) (m := n + 1) (by omega) (by omega) (by omega) (by omega)
    have e4 : wrap64 (s * wrap64 (n + 1)) = s * (n + 1) := by rw [w64 (x := n + 1) (by omega) (by omega), w64 (by omega) (by omega)]
    have e5 : wrap64 (Int.tdiv a 2) = a / 2 := by
      have : Int.tdiv a 2 = a / 2 := Int.tdiv_eq_ediv_of_nonneg hw.1.1
      rw [this]; exact w64 (by have h := hw.1; unfold Mayp at h; omega) (by have h := hw.1; unfold Mayp at h; omega)
    have m1 : s * (n + k + 1) = s * (n + 1) + s * k := by rw [← Int.mul_add]; congr 1; omega
    have m2 : c * (n + k + 1) = c * (n + 1) + c * k := by rw [← Int.mul_add]; congr 1; omega
    have m3 : (s + k) * (n + 1) = s * (n + 1) + k * (n + 1) := Int.add_mul ..
    have m4 : (c + k) * (n + 1) = c * (n + 1) + k * (n + 1) := Int.add_mul ..
    have p1 : 0 ≤ s * k := Int.mul_nonneg (by omega) (by omega)
    have p2 : 0 ≤ c * k := Int.mul_nonneg (by omega) (by omega)
    have p3 : 0 ≤ k * (n + 1) := Int.mul_nonneg (by omega) (by omega)
    obtain ⟨hm, hn, hs, hc, ha, hb⟩ := hw
    have w1 : Wip a b (n + k) s c := ⟨hm, by omega, hs, hc, by omega, by omega⟩
    have w2 : Wip a b n (s + k) c := ⟨hm, hn, by omega, hc, by omega, by omega⟩
    have w3 : Wip a b n s (c + k) := ⟨hm, hn, hs, by omega, by omega, by omega⟩
    have w4 : Wip (a / 2) b n s c := ⟨by unfold Mayp at *; omega, hn, hs, hc, by unfold Mayp at hm; omega, by omega⟩
    have w0 : Wip a b n s c := ⟨hm, hn, hs, hc, ha, hb⟩
    simp only [w0, decide_true, Option.bind_some, Bool.not_true, copperplatelaw01_MeterWithin.j0, Bool.false_eq_true, if_false, within_f, e1, e2, e3, e4, e5, w1, w2, w3, w4, if_true, ha]
  · have : decide (Wip a b n s c) = false := by simpa using hw
    rw [this]
    exact other
end Go.Proofs.Ytfpihmjdcneheaa.Pure
