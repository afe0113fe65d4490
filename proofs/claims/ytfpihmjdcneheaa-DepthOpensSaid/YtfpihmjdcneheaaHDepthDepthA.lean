import Derived.Test.YtfpihmjdcneheaaHDepthDepthAt
import Derived.Test.YtfpihmjdcneheaaPDepthx4
namespace Go.Proofs.Ytfpihmjdcneheaa.PDepth
open Go.RowKit Go.Proofs.YtfpihmjdcneheaaW.PrintWords
set_option linter.unusedVariables false
def copperplatelaw15_awake.f : Option Bool := some true
theorem copperplatelaw15_awake.calls (r : Bool) (w : World) (h : copperplatelaw15_awake.f = some r) :
    Calls Try.prog 25 #[] w fun e w' => e = .returned (.bool r) ∧ Below w.heap.size w w' := by
  obtain rfl : true = r := Option.some.inj h
  exact copperplatelaw15_awake_p.calls true w (by decide +kernel) rfl
end Go.Proofs.Ytfpihmjdcneheaa.PDepth
