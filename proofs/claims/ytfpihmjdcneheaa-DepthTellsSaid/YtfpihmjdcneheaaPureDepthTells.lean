/- The pure statement of DepthTells. -/
import Derived.Test.YtfpihmjdcneheaaPDepthx6
import Derived.Test.YtfpihmjdcneheaaPureDepthLib
namespace Go.Proofs.Ytfpihmjdcneheaa.PDepth
open Go.RowKit Go.Proofs.YtfpihmjdcneheaaW.PrintWords
set_option linter.unusedVariables false
set_option linter.unusedSimpArgs false

theorem _root_.Go.Proofs.Ytfpihmjdcneheaa.Pure.DepthTells : copperplatelaw15_DepthTells.Pure := by
  intro l d hl _ hd
  refine ⟨1000, ?_⟩
  unfold copperplatelaw15_DepthTells.f copperplatelaw15_awake.f
  rw [Option.bind_some, if_pos rfl, copperplatelaw15_DepthTells.j0]
  by_cases h3 : (l.length : Int) > 300
  · rw [decide_eq_true h3, if_pos rfl]
  rw [decide_eq_false h3, if_neg (by decide), depth_f (by omega), rdepth_f _ (by omega) _ (by omega), at_f (by omega), rat_f _ (by omega) _ _ (by omega), ends_f (by omega), rends_f _ (by omega) _ (by omega)]
  simp
end Go.Proofs.Ytfpihmjdcneheaa.PDepth
