-- Written by a program of the session (drive.py, over the kit's print.py with contracts by hand). Not trusted: Lean checks it.
import Derived.Test.YtfpihmjdcneheaaProg
import Derived.Below
import Derived.Deep.Draws
import Derived.Deep.AppendLies
import Derived.Maps.AppendAt
import Derived.OwnWalk
import Derived.Laws.BytesArg
import Derived.Laws.MakeOwn
import Derived.Laws.OwnMore
import Derived.Deep.OwnRows
import Derived.Tactics
import Derived.Lib.ConvBytes
import Derived.Laws.Slices
import Derived.WalkKit
import Derived.KernelRfl
import Derived.RowKit3
import Derived.Deep.LoopGhost
import Derived.Deep.QuietTactic
import Derived.BigQuiet
import Derived.WideLaws
import Derived.Deep.DeepCutAuto
import Derived.Deep.CutBlock
import Derived.Deep.RegionHeld3
import Derived.Laws.Rows
import Derived.Lib.AppendStr
import Derived.ArgAppend
import Derived.Laws.IdiomCopy
import Derived.OrdersHeld
import Derived.Laws.BitsLemmas
import Derived.RowKit
import Derived.Test.YtfpihmjdcneheaaWWords
import Derived.Test.YtfpihmjdcneheaaWLast
import Derived.Test.YtfpihmjdcneheaaWTab
import Derived.Test.YtfpihmjdcneheaaWFour
import Derived.Test.YtfpihmjdcneheaaWQPut
import Derived.Test.YtfpihmjdcneheaaWApart
import Derived.Test.YtfpihmjdcneheaaWArr
import Derived.Test.YtfpihmjdcneheaaWZeros
import Derived.Test.YtfpihmjdcneheaaWFoot
import Derived.Test.YtfpihmjdcneheaaWKept
import Derived.Test.YtfpihmjdcneheaaWShare
import Derived.Test.YtfpihmjdcneheaaWN
import Derived.Test.YtfpihmjdcneheaaWFootNe
import Derived.Test.YtfpihmjdcneheaaWAt
import Derived.Test.YtfpihmjdcneheaaWEqStruct
import Derived.Test.YtfpihmjdcneheaaWRepsOne
import Derived.Test.YtfpihmjdcneheaaWInv
import Derived.Test.YtfpihmjdcneheaaWInvWords
import Derived.Test.YtfpihmjdcneheaaWGuard
import Derived.Test.YtfpihmjdcneheaaWNEv
import Derived.Test.YtfpihmjdcneheaaWMore
namespace Go.Proofs.Ytfpihmjdcneheaa.PDepth
open Go.RowKit Go.Proofs.YtfpihmjdcneheaaW.PrintWords Go.Proofs.YtfpihmjdcneheaaW.PrintLast Go.Proofs.YtfpihmjdcneheaaW.PrintMore
attribute [local go_sem] max2_int min2_int max_two min_two max_three min_three max_four min_four   -- for this text's walks alone
set_option linter.unusedVariables false
set_option linter.unusedSimpArgs false



def errW : Option Int → Value
  | none => .nilIface
  | some c => .iface 0 (.int .i64 c)
theorem errW_none : errW none = .nilIface := rfl
theorem errW_some (c : Int) : errW (some c) = .iface 0 (.int .i64 c) := rfl

theorem info3 : (Try.prog.info? 3).map (fun i => (i.zero, i.size, i.bytes)) = some (some (.int .i64 0), 1, 8) := by kernel_rfl
-- the values' own types

end Go.Proofs.Ytfpihmjdcneheaa.PDepth
