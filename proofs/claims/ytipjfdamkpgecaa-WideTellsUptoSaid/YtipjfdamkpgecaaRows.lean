/-
  No cell of these rows narrows 'for every input' (looked for: loops, veiled, ifaces, maps, wideKeys, modest, calm, conditions, laid).
  DERIVED. THE GIVEN ROWS OF THIS SEAT. 7 by the template 'for every input the law returns true; each argument reads behind the call as it read before'; 0 by the template 'total and deterministic' (their statements: YtipjfdamkpgecaaTotals.lean).
  GIVEN WITH THE SEED: the statements are not yours to turn. If you find one false, say at which input.
  Laid BY PROGRAM, IN A SANDBOX (cutbox-rows.mjs): the forced cells as the released guide's own fill.sh prints them over the translation 6a42a9daf08ced34… (all of the seat's roots in one cut). By AI agents, Wed Nov 11 2026. No macro, syntax, notation, axiom, sorry.
-/
import Derived.Test.YtipjfdamkpgecaaChecked
import GoSem.Claim
import GoSem.ClaimJoined
import GoSem.ClaimMapViews
import Derived.JoinedTies
import Derived.KernelRfl
namespace Go.Proofs.Ytipjfdamkpgecaa
/- THE CELL 'sum', in the pinned program and in every row, IS THE sha256 OF THE DUMP (.gsa) THAT YtipjfdamkpgecaaProg.lean LOADS. Nothing in Lean hashes anything: it is a label: what it is worth is what the hold of that sum in a sandbox is worth. -/
noncomputable def Try.pinned : Pinned := { name := "ytipjfdamkpgecaa", sum := "6a42a9daf08ced3426402ce678e7c114e24733a83186dc7e9405f3662cf37262", checked := Try.checked }
namespace Rows
def none {H : Type} : Left H := { results := [], args := [] }

/-- 'copperplatelaw18.WideTells': WHATEVER THE INPUT: true; the input reads as it did. -/
def wideTellsSpec : ChangeSpec := { name := "wideTells", fn := fun _ => fun
  | [d1, d2, d3] => { results := [.lit (.bool true)], args := [d1, d2, d3] }
  | _ => none }
def wideTellsRow : OpenClaim := { program := "ytipjfdamkpgecaa", sum := "6a42a9daf08ced3426402ce678e7c114e24733a83186dc7e9405f3662cf37262", func := "copperplate/copperplatelaw18.WideTells", spec := "wideTells", inPlace := ["internal/abi.NoEscape", "internal/bytealg.MakeNoZero"], unfollowed := true, recurses := true, apart := false }
def WideTellsSaid : Prop := wideTellsRow.holds Try.pinned (OpenSpec.ofChange wideTellsSpec)

/-- ITS FALSE NEIGHBOUR: 'it returns false'. Refute it at one input. -/
def wideTellsWrong : ChangeSpec := { name := "wideTells", fn := fun _ => fun
  | [d1, d2, d3] => { results := [.lit (.bool false)], args := [d1, d2, d3] }
  | _ => none }
def WideTellsWrongFalsely : Prop := wideTellsRow.holds Try.pinned (OpenSpec.ofChange wideTellsWrong)

/-- 'copperplatelaw18.WideFits': WHATEVER THE INPUT: true; the input reads as it did. -/
def wideFitsSpec : ChangeSpec := { name := "wideFits", fn := fun _ => fun
  | [d1, d2] => { results := [.lit (.bool true)], args := [d1, d2] }
  | _ => none }
def wideFitsRow : OpenClaim := { program := "ytipjfdamkpgecaa", sum := "6a42a9daf08ced3426402ce678e7c114e24733a83186dc7e9405f3662cf37262", func := "copperplate/copperplatelaw18.WideFits", spec := "wideFits", inPlace := ["internal/abi.NoEscape", "internal/bytealg.MakeNoZero"], unfollowed := true, recurses := true, apart := false }
def WideFitsSaid : Prop := wideFitsRow.holds Try.pinned (OpenSpec.ofChange wideFitsSpec)

/-- ITS FALSE NEIGHBOUR: 'it returns false'. Refute it at one input. -/
def wideFitsWrong : ChangeSpec := { name := "wideFits", fn := fun _ => fun
  | [d1, d2] => { results := [.lit (.bool false)], args := [d1, d2] }
  | _ => none }
def WideFitsWrongFalsely : Prop := wideFitsRow.holds Try.pinned (OpenSpec.ofChange wideFitsWrong)

/-- 'copperplatelaw18.WideWidth': WHATEVER THE INPUT: true; the input reads as it did. -/
def wideWidthSpec : ChangeSpec := { name := "wideWidth", fn := fun _ => fun
  | [d1, d2, d3] => { results := [.lit (.bool true)], args := [d1, d2, d3] }
  | _ => none }
def wideWidthRow : OpenClaim := { program := "ytipjfdamkpgecaa", sum := "6a42a9daf08ced3426402ce678e7c114e24733a83186dc7e9405f3662cf37262", func := "copperplate/copperplatelaw18.WideWidth", spec := "wideWidth", inPlace := ["internal/abi.NoEscape", "internal/bytealg.MakeNoZero"], unfollowed := true, recurses := true, apart := false }
def WideWidthSaid : Prop := wideWidthRow.holds Try.pinned (OpenSpec.ofChange wideWidthSpec)

/-- ITS FALSE NEIGHBOUR: 'it returns false'. Refute it at one input. -/
def wideWidthWrong : ChangeSpec := { name := "wideWidth", fn := fun _ => fun
  | [d1, d2, d3] => { results := [.lit (.bool false)], args := [d1, d2, d3] }
  | _ => none }
def WideWidthWrongFalsely : Prop := wideWidthRow.holds Try.pinned (OpenSpec.ofChange wideWidthWrong)

/-- 'copperplatelaw18.WideTexts': WHATEVER THE INPUT: true; the input reads as it did. -/
def wideTextsSpec : ChangeSpec := { name := "wideTexts", fn := fun _ => fun
  | [d1, d2] => { results := [.lit (.bool true)], args := [d1, d2] }
  | _ => none }
def wideTextsRow : OpenClaim := { program := "ytipjfdamkpgecaa", sum := "6a42a9daf08ced3426402ce678e7c114e24733a83186dc7e9405f3662cf37262", func := "copperplate/copperplatelaw18.WideTexts", spec := "wideTexts", inPlace := ["internal/abi.NoEscape", "internal/bytealg.MakeNoZero"], unfollowed := true, recurses := true, apart := false }
def WideTextsSaid : Prop := wideTextsRow.holds Try.pinned (OpenSpec.ofChange wideTextsSpec)

/-- ITS FALSE NEIGHBOUR: 'it returns false'. Refute it at one input. -/
def wideTextsWrong : ChangeSpec := { name := "wideTexts", fn := fun _ => fun
  | [d1, d2] => { results := [.lit (.bool false)], args := [d1, d2] }
  | _ => none }
def WideTextsWrongFalsely : Prop := wideTextsRow.holds Try.pinned (OpenSpec.ofChange wideTextsWrong)

/-- 'copperplatelaw18.WideIn': WHATEVER THE INPUT: true; the input reads as it did. -/
def wideInSpec : ChangeSpec := { name := "wideIn", fn := fun _ => fun
  | [d1, d2] => { results := [.lit (.bool true)], args := [d1, d2] }
  | _ => none }
def wideInRow : OpenClaim := { program := "ytipjfdamkpgecaa", sum := "6a42a9daf08ced3426402ce678e7c114e24733a83186dc7e9405f3662cf37262", func := "copperplate/copperplatelaw18.WideIn", spec := "wideIn", inPlace := ["internal/abi.NoEscape", "internal/bytealg.MakeNoZero"], unfollowed := true, recurses := true, apart := false }
def WideInSaid : Prop := wideInRow.holds Try.pinned (OpenSpec.ofChange wideInSpec)

/-- ITS FALSE NEIGHBOUR: 'it returns false'. Refute it at one input. -/
def wideInWrong : ChangeSpec := { name := "wideIn", fn := fun _ => fun
  | [d1, d2] => { results := [.lit (.bool false)], args := [d1, d2] }
  | _ => none }
def WideInWrongFalsely : Prop := wideInRow.holds Try.pinned (OpenSpec.ofChange wideInWrong)

/-- 'copperplatelaw18.WideCol': WHATEVER THE INPUT: true; the input reads as it did. -/
def wideColSpec : ChangeSpec := { name := "wideCol", fn := fun _ => fun
  | [d1, d2, d3] => { results := [.lit (.bool true)], args := [d1, d2, d3] }
  | _ => none }
def wideColRow : OpenClaim := { program := "ytipjfdamkpgecaa", sum := "6a42a9daf08ced3426402ce678e7c114e24733a83186dc7e9405f3662cf37262", func := "copperplate/copperplatelaw18.WideCol", spec := "wideCol", inPlace := ["internal/abi.NoEscape", "internal/bytealg.MakeNoZero"], unfollowed := true, recurses := true, apart := false }
def WideColSaid : Prop := wideColRow.holds Try.pinned (OpenSpec.ofChange wideColSpec)

/-- ITS FALSE NEIGHBOUR: 'it returns false'. Refute it at one input. -/
def wideColWrong : ChangeSpec := { name := "wideCol", fn := fun _ => fun
  | [d1, d2, d3] => { results := [.lit (.bool false)], args := [d1, d2, d3] }
  | _ => none }
def WideColWrongFalsely : Prop := wideColRow.holds Try.pinned (OpenSpec.ofChange wideColWrong)

/-- 'copperplatelaw18.WideFirst': WHATEVER THE INPUT: true; the input reads as it did. -/
def wideFirstSpec : ChangeSpec := { name := "wideFirst", fn := fun _ => fun
  | [d1, d2, d3] => { results := [.lit (.bool true)], args := [d1, d2, d3] }
  | _ => none }
def wideFirstRow : OpenClaim := { program := "ytipjfdamkpgecaa", sum := "6a42a9daf08ced3426402ce678e7c114e24733a83186dc7e9405f3662cf37262", func := "copperplate/copperplatelaw18.WideFirst", spec := "wideFirst", inPlace := ["internal/abi.NoEscape", "internal/bytealg.MakeNoZero"], unfollowed := true, recurses := true, apart := false }
def WideFirstSaid : Prop := wideFirstRow.holds Try.pinned (OpenSpec.ofChange wideFirstSpec)

/-- ITS FALSE NEIGHBOUR: 'it returns false'. Refute it at one input. -/
def wideFirstWrong : ChangeSpec := { name := "wideFirst", fn := fun _ => fun
  | [d1, d2, d3] => { results := [.lit (.bool false)], args := [d1, d2, d3] }
  | _ => none }
def WideFirstWrongFalsely : Prop := wideFirstRow.holds Try.pinned (OpenSpec.ofChange wideFirstWrong)

/- THE SECOND FORM. 'bulk': how many values and letters a reading holds, each counted each time it is reached (what is shared counts as often as it is met; a slice's spare places count too). A statement '..UptoSaid' is the law's where the arguments, and the package variables that the reading takes, are together of bulk at most 1048576: NARROWER than '..Said'. Prove '..Said' where nothing that the law and all that it calls make is longer than what came in: it says more and counts as full. Else prove '..UptoSaid'. A law counts once. -/
mutual
def uptoBulk {H : Type} : DataW H → Nat
  | .lit (.string bytes) => bytes.length + 1
  | .lit _ => 1
  | .nil => 1
  | .ptr d => uptoBulk d + 1
  | .slice elems spare => uptoBulkAll elems + uptoBulkAll spare + 1
  | .agg parts => uptoBulkAll parts + 1
  | .iface _ d => uptoBulk d + 1
  | .map entries => uptoBulkEntries entries + 1
  | .held _ => 1
def uptoBulkAll {H : Type} : List (DataW H) → Nat
  | [] => 0
  | d :: r => uptoBulk d + uptoBulkAll r
def uptoBulkEntries {H : Type} : List (Lit × DataW H) → Nat
  | [] => 0
  | x :: r => uptoBulkEntry x + uptoBulkEntries r
def uptoBulkEntry {H : Type} : Lit × DataW H → Nat
  | (.string bytes, d) => bytes.length + uptoBulk d + 1
  | (_, d) => uptoBulk d + 1
 end
def uptoSmall : (H : Type) → List (DataW H) → Bool := fun _ ds => decide (uptoBulkAll ds ≤ 1048576)
def OpenSpec.upto (s : _root_.Go.ChangeSpec) : _root_.Go.OpenSpec := { _root_.Go.OpenSpec.ofChange s with cond := some uptoSmall }

/-- 'copperplatelaw18.WideTells', WHERE WHAT IT READS IS OF BULK AT MOST 1048576: true; the input reads as it did. -/
def wideTellsUptoRow : OpenClaim := { program := "ytipjfdamkpgecaa", sum := "6a42a9daf08ced3426402ce678e7c114e24733a83186dc7e9405f3662cf37262", func := "copperplate/copperplatelaw18.WideTells", spec := "wideTells", inPlace := ["internal/abi.NoEscape", "internal/bytealg.MakeNoZero"], unfollowed := true, recurses := true, apart := false, narrowed := true }
def WideTellsUptoSaid : Prop := wideTellsUptoRow.holds Try.pinned (OpenSpec.upto wideTellsSpec)

/-- 'copperplatelaw18.WideFits', WHERE WHAT IT READS IS OF BULK AT MOST 1048576: true; the input reads as it did. -/
def wideFitsUptoRow : OpenClaim := { program := "ytipjfdamkpgecaa", sum := "6a42a9daf08ced3426402ce678e7c114e24733a83186dc7e9405f3662cf37262", func := "copperplate/copperplatelaw18.WideFits", spec := "wideFits", inPlace := ["internal/abi.NoEscape", "internal/bytealg.MakeNoZero"], unfollowed := true, recurses := true, apart := false, narrowed := true }
def WideFitsUptoSaid : Prop := wideFitsUptoRow.holds Try.pinned (OpenSpec.upto wideFitsSpec)

/-- 'copperplatelaw18.WideWidth', WHERE WHAT IT READS IS OF BULK AT MOST 1048576: true; the input reads as it did. -/
def wideWidthUptoRow : OpenClaim := { program := "ytipjfdamkpgecaa", sum := "6a42a9daf08ced3426402ce678e7c114e24733a83186dc7e9405f3662cf37262", func := "copperplate/copperplatelaw18.WideWidth", spec := "wideWidth", inPlace := ["internal/abi.NoEscape", "internal/bytealg.MakeNoZero"], unfollowed := true, recurses := true, apart := false, narrowed := true }
def WideWidthUptoSaid : Prop := wideWidthUptoRow.holds Try.pinned (OpenSpec.upto wideWidthSpec)

/-- 'copperplatelaw18.WideTexts', WHERE WHAT IT READS IS OF BULK AT MOST 1048576: true; the input reads as it did. -/
def wideTextsUptoRow : OpenClaim := { program := "ytipjfdamkpgecaa", sum := "6a42a9daf08ced3426402ce678e7c114e24733a83186dc7e9405f3662cf37262", func := "copperplate/copperplatelaw18.WideTexts", spec := "wideTexts", inPlace := ["internal/abi.NoEscape", "internal/bytealg.MakeNoZero"], unfollowed := true, recurses := true, apart := false, narrowed := true }
def WideTextsUptoSaid : Prop := wideTextsUptoRow.holds Try.pinned (OpenSpec.upto wideTextsSpec)

/-- 'copperplatelaw18.WideIn', WHERE WHAT IT READS IS OF BULK AT MOST 1048576: true; the input reads as it did. -/
def wideInUptoRow : OpenClaim := { program := "ytipjfdamkpgecaa", sum := "6a42a9daf08ced3426402ce678e7c114e24733a83186dc7e9405f3662cf37262", func := "copperplate/copperplatelaw18.WideIn", spec := "wideIn", inPlace := ["internal/abi.NoEscape", "internal/bytealg.MakeNoZero"], unfollowed := true, recurses := true, apart := false, narrowed := true }
def WideInUptoSaid : Prop := wideInUptoRow.holds Try.pinned (OpenSpec.upto wideInSpec)

/-- 'copperplatelaw18.WideCol', WHERE WHAT IT READS IS OF BULK AT MOST 1048576: true; the input reads as it did. -/
def wideColUptoRow : OpenClaim := { program := "ytipjfdamkpgecaa", sum := "6a42a9daf08ced3426402ce678e7c114e24733a83186dc7e9405f3662cf37262", func := "copperplate/copperplatelaw18.WideCol", spec := "wideCol", inPlace := ["internal/abi.NoEscape", "internal/bytealg.MakeNoZero"], unfollowed := true, recurses := true, apart := false, narrowed := true }
def WideColUptoSaid : Prop := wideColUptoRow.holds Try.pinned (OpenSpec.upto wideColSpec)

/-- 'copperplatelaw18.WideFirst', WHERE WHAT IT READS IS OF BULK AT MOST 1048576: true; the input reads as it did. -/
def wideFirstUptoRow : OpenClaim := { program := "ytipjfdamkpgecaa", sum := "6a42a9daf08ced3426402ce678e7c114e24733a83186dc7e9405f3662cf37262", func := "copperplate/copperplatelaw18.WideFirst", spec := "wideFirst", inPlace := ["internal/abi.NoEscape", "internal/bytealg.MakeNoZero"], unfollowed := true, recurses := true, apart := false, narrowed := true }
def WideFirstUptoSaid : Prop := wideFirstUptoRow.holds Try.pinned (OpenSpec.upto wideFirstSpec)

end Rows
end Go.Proofs.Ytipjfdamkpgecaa
