/- The pure statement of MeterMost: over whole numbers alone. -/
import Derived.Test.YtfpihmjdcneheaaPMeterx12
import Derived.Test.YtfpihmjdcneheaaPureMeterLib
namespace Go.Proofs.Ytfpihmjdcneheaa.Pure
open Go.RowKit Go.Proofs.Ytfpihmjdcneheaa.PMeter Go.Proofs.YtfpihmjdcneheaaW.PrintWords
set_option linter.unusedVariables false

theorem MeterMost : copperplatelaw01_MeterMost.Pure := by
  intro a b n _ _ wn
  have wn := wf64 wn
  refine ⟨1, ?_⟩
  unfold copperplatelaw01_MeterMost.f copperplatelaw01_awake.f
  simp only [mayp_f, Option.bind_some, if_true]
  by_cases hm : Mayp a b
  · have e0 : cnt a b 9223372036854775807 = 1099511627776 := by rw [cnt_yes hm (by omega)]; unfold Mayp at hm; rw [if_neg (by omega)]
    have e1 := cnt_bd a b n hm
    have hm' : Mayp b a := by unfold Mayp at *; omega
    have e2 := cnt_bd b a n hm'
    simp only [hm, decide_true, Bool.not_true, copperplatelaw01_MeterMost.j0, Bool.false_eq_true, if_false, meter_Step.f, meter_Cell.f, Option.bind_some, e0]
    by_cases hn : n < 0
    · have f1 : cnt a b n = a := cnt_no (by omega)
      have f2 : cnt b a n = b := cnt_no (by omega)
      rw [if_pos hn, f1, f2]
      simp
    · have f1 := cnt_yes hm (n := n) (by omega)
      rw [if_neg hn, if_pos trivial, if_pos e1.2.1, if_pos e1.2.2, if_pos e2.2.1]
      by_cases h2 : n > 1099511627776
      · rw [if_pos h2]; simp
      · rw [if_neg h2, w64 (by unfold Mayp at hm; omega) (by unfold Mayp at hm; omega)]
        by_cases h3 : a + n > 1099511627776
        · rw [if_pos h3]; simp
        · rw [if_neg h3, if_pos (by rw [f1, if_pos (by omega)])]; simp
  · have f1 : cnt a b n = a := cnt_no (fun h => hm h.1)
    have f2 : cnt b a n = b := cnt_no (fun h => hm (by have := h.1; unfold Mayp at *; omega))
    have : decide (Mayp a b) = false := by simpa using hm
    show copperplatelaw01_MeterMost.j0 1 n true (!decide (Mayp a b)) a b = some true
    rw [this]
    simp [copperplatelaw01_MeterMost.j0, meter_Step.f, meter_Cell.f, f1, f2]
end Go.Proofs.Ytfpihmjdcneheaa.Pure
