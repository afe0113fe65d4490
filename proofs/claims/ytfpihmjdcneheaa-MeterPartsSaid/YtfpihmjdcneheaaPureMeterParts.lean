/- The pure statement of MeterParts: over whole numbers alone. -/
import Derived.Test.YtfpihmjdcneheaaPMeterx10
import Derived.Test.YtfpihmjdcneheaaPureMeterLib
namespace Go.Proofs.Ytfpihmjdcneheaa.Pure
open Go.RowKit Go.Proofs.Ytfpihmjdcneheaa.PMeter Go.Proofs.YtfpihmjdcneheaaW.PrintWords
set_option linter.unusedVariables false

theorem MeterParts : copperplatelaw01_MeterParts.Pure := by
  intro a b m n _ _ wm wn
  have wm := wf64 wm
  have wn := wf64 wn
  refine ⟨1, ?_⟩
  unfold copperplatelaw01_MeterParts.f copperplatelaw01_awake.f
  simp only [mayp_f, Option.bind_some, if_true]
  by_cases hm : Mayp a b
  · rw [if_pos (by simpa using hm)]
    by_cases h1 : m < 0
    · rw [if_pos h1]; rfl
    · rw [if_neg h1]
      by_cases h2 : n < 0
      · rw [if_pos h2]; rfl
      · rw [if_neg h2]
        by_cases h3 : m > 1152921504606846976
        · rw [if_pos h3]; rfl
        · rw [if_neg h3]
          by_cases h4 : n > 1152921504606846976
          · simp only [h4, decide_true, copperplatelaw01_MeterParts.j0, if_true]
          · have ew : wrap64 (m + n) = m + n := w64 (by omega) (by omega)
            have e0 := cnt_bd a b m hm
            have e1 : cnt a b m = if m ≤ 1099511627776 - a then a + m else 1099511627776 := cnt_yes hm (by omega)
            have e2 : cnt (cnt a b m) b n = cnt a b (m + n) := by
              rw [cnt_yes (a := cnt a b m) (b := b) (n := n) (by unfold Mayp at *; omega) (by omega), cnt_yes (n := m + n) hm (by omega), e1]
              split <;> split <;> split <;> omega
            have e3 : cnt b (cnt a b m) n = cnt b a n := by rw [cnt_yes (by unfold Mayp at *; omega) (by omega), cnt_yes (by unfold Mayp at *; omega) (by omega)]
            have e4 : cnt a (cnt b a n) m = cnt a b m := by
              have := cnt_bd b a n (by unfold Mayp at *; omega)
              rw [cnt_yes (by unfold Mayp at *; omega) (by omega), cnt_yes (by unfold Mayp at *; omega) (by omega)]
            have e5 := cnt_bd a b (m + n) hm
            have e6 := cnt_bd b a n (by unfold Mayp at *; omega)
            have mA : Mayp (cnt a b (m + n)) b := by unfold Mayp at hm ⊢; omega
            have mB : Mayp (cnt a b m) (cnt b a n) := by unfold Mayp; omega
            simp only [h4, decide_false, copperplatelaw01_MeterParts.j0, Bool.false_eq_true, if_false, meter_Step.f, meter_Cell.f, Option.bind_some, ew, e2, e3, e4, beq_self_eq_true, Bool.and_self, if_true, mayp_f, mA, mB, decide_true]
            rw [if_pos e5.2.2]
  · rw [if_neg (by simpa using hm)]; rfl
end Go.Proofs.Ytfpihmjdcneheaa.Pure
