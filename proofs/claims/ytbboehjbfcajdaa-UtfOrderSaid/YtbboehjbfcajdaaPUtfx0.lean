-- Written by a program of the session (drive.py, over the kit's print.py with contracts by hand). Not trusted: Lean checks it.
import Derived.Test.YtbboehjbfcajdaaProg
import Derived.Below
import Derived.Deep.Draws
import Derived.Deep.AppendLies
import Derived.Maps.AppendAt
import Derived.OwnWalk
import Derived.Laws.BytesArg
import Derived.Laws.MakeOwn
import Derived.Laws.OwnMore
import Derived.Deep.OwnRows
import Derived.Tactics
import Derived.Lib.ConvBytes
import Derived.Laws.Slices
import Derived.WalkKit
import Derived.KernelRfl
import Derived.RowKit3
import Derived.Deep.LoopGhost
import Derived.Deep.QuietTactic
import Derived.BigQuiet
import Derived.WideLaws
import Derived.Deep.DeepCutAuto
import Derived.Deep.CutBlock
import Derived.Deep.RegionHeld3
import Derived.Laws.Rows
import Derived.Lib.AppendStr
import Derived.ArgAppend
import Derived.Laws.IdiomCopy
import Derived.OrdersHeld
import Derived.Laws.BitsLemmas
import Derived.RowKit
import Derived.Test.YtbboehjbfcajdaaWWords
import Derived.Test.YtbboehjbfcajdaaWLast
import Derived.Test.YtbboehjbfcajdaaWTab
import Derived.Test.YtbboehjbfcajdaaWFour
import Derived.Test.YtbboehjbfcajdaaWQPut
import Derived.Test.YtbboehjbfcajdaaWApart
import Derived.Test.YtbboehjbfcajdaaWArr
import Derived.Test.YtbboehjbfcajdaaWZeros
import Derived.Test.YtbboehjbfcajdaaWFoot
import Derived.Test.YtbboehjbfcajdaaWKept
import Derived.Test.YtbboehjbfcajdaaWShare
import Derived.Test.YtbboehjbfcajdaaWN
import Derived.Test.YtbboehjbfcajdaaWFootNe
import Derived.Test.YtbboehjbfcajdaaWAt
import Derived.Test.YtbboehjbfcajdaaWEqStruct
import Derived.Test.YtbboehjbfcajdaaWRepsOne
import Derived.Test.YtbboehjbfcajdaaWInv
import Derived.Test.YtbboehjbfcajdaaWInvWords
import Derived.Test.YtbboehjbfcajdaaWGuard
import Derived.Test.YtbboehjbfcajdaaWNEv
import Derived.Test.YtbboehjbfcajdaaWMore
namespace Go.Proofs.Ytbboehjbfcajdaa.PUtf
open Go.RowKit Go.Proofs.YtbboehjbfcajdaaW.PrintWords Go.Proofs.YtbboehjbfcajdaaW.PrintLast Go.Proofs.YtbboehjbfcajdaaW.PrintMore
attribute [local go_sem] max2_int min2_int max_two min_two max_three min_three max_four min_four   -- for this text's walks alone
set_option linter.unusedVariables false
set_option linter.unusedSimpArgs false



def errW : Option Int → Value
  | none => .nilIface
  | some c => .iface 0 (.int .i64 c)
theorem errW_none : errW none = .nilIface := rfl
theorem errW_some (c : Int) : errW (some c) = .iface 0 (.int .i64 c) := rfl

theorem info5 : (Try.prog.info? 5).map (fun i => (i.zero, i.size, i.bytes)) = some (some (.int .u8 0), 1, 1) := by kernel_rfl
-- the values' own types

end Go.Proofs.Ytbboehjbfcajdaa.PUtf
