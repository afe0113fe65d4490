/- The pure statement of MeterBoth: over whole numbers alone. -/
import Derived.Test.YtfpihmjdcneheaaPMeterx13
import Derived.Test.YtfpihmjdcneheaaPureMeterLib
namespace Go.Proofs.Ytfpihmjdcneheaa.Pure
open Go.RowKit Go.Proofs.Ytfpihmjdcneheaa.PMeter Go.Proofs.YtfpihmjdcneheaaW.PrintWords
set_option linter.unusedVariables false

theorem MeterBoth : copperplatelaw01_MeterBoth.Pure := by
  intro a b c d _ _ _ _
  refine ⟨2, ?_⟩
  unfold copperplatelaw01_MeterBoth.f copperplatelaw01_awake.f
  simp only [mayp_f, Option.bind_some, if_true]
  by_cases h1 : Mayp a b
  · by_cases h2 : Mayp c d
    · simp only [h1, h2, decide_true, if_true, Bool.not_true, copperplatelaw01_MeterBoth.j0, Bool.false_eq_true, if_false, sump_f 0, and_self, Option.bind_some, meter_Step.f, meter_Cell.f, beq_self_eq_true, Bool.and_self]
    · simp [h1, h2, copperplatelaw01_MeterBoth.j0]
  · simp [h1, copperplatelaw01_MeterBoth.j0]
end Go.Proofs.Ytfpihmjdcneheaa.Pure
