/- The pure statement of MeterTells: over whole numbers alone. -/
import Derived.Test.YtfpihmjdcneheaaPMeterx9
import Derived.Test.YtfpihmjdcneheaaPureMeterLib
namespace Go.Proofs.Ytfpihmjdcneheaa.Pure
open Go.RowKit Go.Proofs.Ytfpihmjdcneheaa.PMeter Go.Proofs.YtfpihmjdcneheaaW.PrintWords
set_option linter.unusedVariables false

theorem MeterTells : copperplatelaw01_MeterTells.Pure := by
  intro a b c d n s t _ _ _ _ _ _ _
  refine ⟨1, ?_⟩
  unfold copperplatelaw01_MeterTells.f copperplatelaw01_awake.f
  simp only [mayp_f, rmayp_f, within_f, rwithin_f, sump_f 0, rsum_f 0, meter_Step.f, meter_Cell.f, copperplateref01_Step.f, copperplateref01_Cell.f, Option.bind_some, beq_self_eq_true, Bool.and_self, if_true]
end Go.Proofs.Ytfpihmjdcneheaa.Pure
