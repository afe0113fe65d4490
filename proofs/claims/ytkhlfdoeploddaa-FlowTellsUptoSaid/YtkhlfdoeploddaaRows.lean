/-
  No cell of these rows narrows 'for every input' (looked for: loops, veiled, ifaces, maps, wideKeys, modest, calm, conditions, laid).
  DERIVED. THE GIVEN ROWS OF THIS SEAT. 6 by the template 'for every input the law returns true; each argument reads behind the call as it read before'; 0 by the template 'total and deterministic' (their statements: YtkhlfdoeploddaaTotals.lean).
  GIVEN WITH THE SEED: the statements are not yours to turn. If you find one false, say at which input.
  Laid BY PROGRAM, IN A SANDBOX (cutbox-rows.mjs): the forced cells as the released guide's own fill.sh prints them over the translation 580ecb7729931e22… (all of the seat's roots in one cut). By AI agents, Wed Nov 11 2026. No macro, syntax, notation, axiom, sorry.
-/
import Derived.Test.YtkhlfdoeploddaaChecked
import GoSem.Claim
import GoSem.ClaimJoined
import GoSem.ClaimMapViews
import Derived.JoinedTies
import Derived.KernelRfl
namespace Go.Proofs.Ytkhlfdoeploddaa
/- THE CELL 'sum', in the pinned program and in every row, IS THE sha256 OF THE DUMP (.gsa) THAT YtkhlfdoeploddaaProg.lean LOADS. Nothing in Lean hashes anything: it is a label: what it is worth is what the hold of that sum in a sandbox is worth. -/
noncomputable def Try.pinned : Pinned := { name := "ytkhlfdoeploddaa", sum := "580ecb7729931e22b2b64827c700a43a92cfba22e90dd1c482832a2a5b7e36c9", checked := Try.checked }
namespace Rows
def none {H : Type} : Left H := { results := [], args := [] }

/-- 'copperplatelaw19.FlowMore': WHATEVER THE INPUT: true; the input reads as it did. -/
def flowMoreSpec : ChangeSpec := { name := "flowMore", fn := fun _ => fun
  | [d1, d2, d3] => { results := [.lit (.bool true)], args := [d1, d2, d3] }
  | _ => none }
def flowMoreRow : OpenClaim := { program := "ytkhlfdoeploddaa", sum := "580ecb7729931e22b2b64827c700a43a92cfba22e90dd1c482832a2a5b7e36c9", func := "copperplate/copperplatelaw19.FlowMore", spec := "flowMore", inPlace := ["internal/abi.NoEscape", "internal/bytealg.MakeNoZero"], unfollowed := true, recurses := true, apart := false }
def FlowMoreSaid : Prop := flowMoreRow.holds Try.pinned (OpenSpec.ofChange flowMoreSpec)

/-- ITS FALSE NEIGHBOUR: 'it returns false'. Refute it at one input. -/
def flowMoreWrong : ChangeSpec := { name := "flowMore", fn := fun _ => fun
  | [d1, d2, d3] => { results := [.lit (.bool false)], args := [d1, d2, d3] }
  | _ => none }
def FlowMoreWrongFalsely : Prop := flowMoreRow.holds Try.pinned (OpenSpec.ofChange flowMoreWrong)

/-- 'copperplatelaw19.FlowLay': WHATEVER THE INPUT: true; the input reads as it did. -/
def flowLaySpec : ChangeSpec := { name := "flowLay", fn := fun _ => fun
  | [d1, d2, d3, d4] => { results := [.lit (.bool true)], args := [d1, d2, d3, d4] }
  | _ => none }
def flowLayRow : OpenClaim := { program := "ytkhlfdoeploddaa", sum := "580ecb7729931e22b2b64827c700a43a92cfba22e90dd1c482832a2a5b7e36c9", func := "copperplate/copperplatelaw19.FlowLay", spec := "flowLay", inPlace := ["internal/abi.NoEscape", "internal/bytealg.MakeNoZero"], unfollowed := true, recurses := true, apart := false }
def FlowLaySaid : Prop := flowLayRow.holds Try.pinned (OpenSpec.ofChange flowLaySpec)

/-- ITS FALSE NEIGHBOUR: 'it returns false'. Refute it at one input. -/
def flowLayWrong : ChangeSpec := { name := "flowLay", fn := fun _ => fun
  | [d1, d2, d3, d4] => { results := [.lit (.bool false)], args := [d1, d2, d3, d4] }
  | _ => none }
def FlowLayWrongFalsely : Prop := flowLayRow.holds Try.pinned (OpenSpec.ofChange flowLayWrong)

/-- 'copperplatelaw19.FlowTells': WHATEVER THE INPUT: true; the input reads as it did. -/
def flowTellsSpec : ChangeSpec := { name := "flowTells", fn := fun _ => fun
  | [d1, d2, d3] => { results := [.lit (.bool true)], args := [d1, d2, d3] }
  | _ => none }
def flowTellsRow : OpenClaim := { program := "ytkhlfdoeploddaa", sum := "580ecb7729931e22b2b64827c700a43a92cfba22e90dd1c482832a2a5b7e36c9", func := "copperplate/copperplatelaw19.FlowTells", spec := "flowTells", inPlace := ["internal/abi.NoEscape", "internal/bytealg.MakeNoZero"], unfollowed := true, recurses := true, apart := false }
def FlowTellsSaid : Prop := flowTellsRow.holds Try.pinned (OpenSpec.ofChange flowTellsSpec)

/-- ITS FALSE NEIGHBOUR: 'it returns false'. Refute it at one input. -/
def flowTellsWrong : ChangeSpec := { name := "flowTells", fn := fun _ => fun
  | [d1, d2, d3] => { results := [.lit (.bool false)], args := [d1, d2, d3] }
  | _ => none }
def FlowTellsWrongFalsely : Prop := flowTellsRow.holds Try.pinned (OpenSpec.ofChange flowTellsWrong)

/-- 'copperplatelaw19.FlowHeld': WHATEVER THE INPUT: true; the input reads as it did. -/
def flowHeldSpec : ChangeSpec := { name := "flowHeld", fn := fun _ => fun
  | [d1, d2, d3] => { results := [.lit (.bool true)], args := [d1, d2, d3] }
  | _ => none }
def flowHeldRow : OpenClaim := { program := "ytkhlfdoeploddaa", sum := "580ecb7729931e22b2b64827c700a43a92cfba22e90dd1c482832a2a5b7e36c9", func := "copperplate/copperplatelaw19.FlowHeld", spec := "flowHeld", inPlace := ["internal/abi.NoEscape", "internal/bytealg.MakeNoZero"], unfollowed := true, recurses := true, apart := false }
def FlowHeldSaid : Prop := flowHeldRow.holds Try.pinned (OpenSpec.ofChange flowHeldSpec)

/-- ITS FALSE NEIGHBOUR: 'it returns false'. Refute it at one input. -/
def flowHeldWrong : ChangeSpec := { name := "flowHeld", fn := fun _ => fun
  | [d1, d2, d3] => { results := [.lit (.bool false)], args := [d1, d2, d3] }
  | _ => none }
def FlowHeldWrongFalsely : Prop := flowHeldRow.holds Try.pinned (OpenSpec.ofChange flowHeldWrong)

/-- 'copperplatelaw19.FlowBreaks': WHATEVER THE INPUT: true; the input reads as it did. -/
def flowBreaksSpec : ChangeSpec := { name := "flowBreaks", fn := fun _ => fun
  | [d1, d2, d3] => { results := [.lit (.bool true)], args := [d1, d2, d3] }
  | _ => none }
def flowBreaksRow : OpenClaim := { program := "ytkhlfdoeploddaa", sum := "580ecb7729931e22b2b64827c700a43a92cfba22e90dd1c482832a2a5b7e36c9", func := "copperplate/copperplatelaw19.FlowBreaks", spec := "flowBreaks", inPlace := ["internal/abi.NoEscape", "internal/bytealg.MakeNoZero"], unfollowed := true, recurses := true, apart := false }
def FlowBreaksSaid : Prop := flowBreaksRow.holds Try.pinned (OpenSpec.ofChange flowBreaksSpec)

/-- ITS FALSE NEIGHBOUR: 'it returns false'. Refute it at one input. -/
def flowBreaksWrong : ChangeSpec := { name := "flowBreaks", fn := fun _ => fun
  | [d1, d2, d3] => { results := [.lit (.bool false)], args := [d1, d2, d3] }
  | _ => none }
def FlowBreaksWrongFalsely : Prop := flowBreaksRow.holds Try.pinned (OpenSpec.ofChange flowBreaksWrong)

/-- 'copperplatelaw19.FlowNone': WHATEVER THE INPUT: true; the input reads as it did. -/
def flowNoneSpec : ChangeSpec := { name := "flowNone", fn := fun _ => fun
  | [d1, d2, d3] => { results := [.lit (.bool true)], args := [d1, d2, d3] }
  | _ => none }
def flowNoneRow : OpenClaim := { program := "ytkhlfdoeploddaa", sum := "580ecb7729931e22b2b64827c700a43a92cfba22e90dd1c482832a2a5b7e36c9", func := "copperplate/copperplatelaw19.FlowNone", spec := "flowNone", inPlace := ["internal/abi.NoEscape", "internal/bytealg.MakeNoZero"], unfollowed := true, recurses := true, apart := false }
def FlowNoneSaid : Prop := flowNoneRow.holds Try.pinned (OpenSpec.ofChange flowNoneSpec)

/-- ITS FALSE NEIGHBOUR: 'it returns false'. Refute it at one input. -/
def flowNoneWrong : ChangeSpec := { name := "flowNone", fn := fun _ => fun
  | [d1, d2, d3] => { results := [.lit (.bool false)], args := [d1, d2, d3] }
  | _ => none }
def FlowNoneWrongFalsely : Prop := flowNoneRow.holds Try.pinned (OpenSpec.ofChange flowNoneWrong)

/- THE SECOND FORM. 'bulk': how many values and letters a reading holds, each counted each time it is reached (what is shared counts as often as it is met; a slice's spare places count too). A statement '..UptoSaid' is the law's where the arguments, and the package variables that the reading takes, are together of bulk at most 1048576: NARROWER than '..Said'. Prove '..Said' where nothing that the law and all that it calls make is longer than what came in: it says more and counts as full. Else prove '..UptoSaid'. A law counts once. -/
mutual
def uptoBulk {H : Type} : DataW H → Nat
  | .lit (.string bytes) => bytes.length + 1
  | .lit _ => 1
  | .nil => 1
  | .ptr d => uptoBulk d + 1
  | .slice elems spare => uptoBulkAll elems + uptoBulkAll spare + 1
  | .agg parts => uptoBulkAll parts + 1
  | .iface _ d => uptoBulk d + 1
  | .map entries => uptoBulkEntries entries + 1
  | .held _ => 1
def uptoBulkAll {H : Type} : List (DataW H) → Nat
  | [] => 0
  | d :: r => uptoBulk d + uptoBulkAll r
def uptoBulkEntries {H : Type} : List (Lit × DataW H) → Nat
  | [] => 0
  | x :: r => uptoBulkEntry x + uptoBulkEntries r
def uptoBulkEntry {H : Type} : Lit × DataW H → Nat
  | (.string bytes, d) => bytes.length + uptoBulk d + 1
  | (_, d) => uptoBulk d + 1
 end
def uptoSmall : (H : Type) → List (DataW H) → Bool := fun _ ds => decide (uptoBulkAll ds ≤ 1048576)
def OpenSpec.upto (s : _root_.Go.ChangeSpec) : _root_.Go.OpenSpec := { _root_.Go.OpenSpec.ofChange s with cond := some uptoSmall }

/-- 'copperplatelaw19.FlowMore', WHERE WHAT IT READS IS OF BULK AT MOST 1048576: true; the input reads as it did. -/
def flowMoreUptoRow : OpenClaim := { program := "ytkhlfdoeploddaa", sum := "580ecb7729931e22b2b64827c700a43a92cfba22e90dd1c482832a2a5b7e36c9", func := "copperplate/copperplatelaw19.FlowMore", spec := "flowMore", inPlace := ["internal/abi.NoEscape", "internal/bytealg.MakeNoZero"], unfollowed := true, recurses := true, apart := false, narrowed := true }
def FlowMoreUptoSaid : Prop := flowMoreUptoRow.holds Try.pinned (OpenSpec.upto flowMoreSpec)

/-- 'copperplatelaw19.FlowLay', WHERE WHAT IT READS IS OF BULK AT MOST 1048576: true; the input reads as it did. -/
def flowLayUptoRow : OpenClaim := { program := "ytkhlfdoeploddaa", sum := "580ecb7729931e22b2b64827c700a43a92cfba22e90dd1c482832a2a5b7e36c9", func := "copperplate/copperplatelaw19.FlowLay", spec := "flowLay", inPlace := ["internal/abi.NoEscape", "internal/bytealg.MakeNoZero"], unfollowed := true, recurses := true, apart := false, narrowed := true }
def FlowLayUptoSaid : Prop := flowLayUptoRow.holds Try.pinned (OpenSpec.upto flowLaySpec)

/-- 'copperplatelaw19.FlowTells', WHERE WHAT IT READS IS OF BULK AT MOST 1048576: true; the input reads as it did. -/
def flowTellsUptoRow : OpenClaim := { program := "ytkhlfdoeploddaa", sum := "580ecb7729931e22b2b64827c700a43a92cfba22e90dd1c482832a2a5b7e36c9", func := "copperplate/copperplatelaw19.FlowTells", spec := "flowTells", inPlace := ["internal/abi.NoEscape", "internal/bytealg.MakeNoZero"], unfollowed := true, recurses := true, apart := false, narrowed := true }
def FlowTellsUptoSaid : Prop := flowTellsUptoRow.holds Try.pinned (OpenSpec.upto flowTellsSpec)

/-- 'copperplatelaw19.FlowHeld', WHERE WHAT IT READS IS OF BULK AT MOST 1048576: true; the input reads as it did. -/
def flowHeldUptoRow : OpenClaim := { program := "ytkhlfdoeploddaa", sum := "580ecb7729931e22b2b64827c700a43a92cfba22e90dd1c482832a2a5b7e36c9", func := "copperplate/copperplatelaw19.FlowHeld", spec := "flowHeld", inPlace := ["internal/abi.NoEscape", "internal/bytealg.MakeNoZero"], unfollowed := true, recurses := true, apart := false, narrowed := true }
def FlowHeldUptoSaid : Prop := flowHeldUptoRow.holds Try.pinned (OpenSpec.upto flowHeldSpec)

/-- 'copperplatelaw19.FlowBreaks', WHERE WHAT IT READS IS OF BULK AT MOST 1048576: true; the input reads as it did. -/
def flowBreaksUptoRow : OpenClaim := { program := "ytkhlfdoeploddaa", sum := "580ecb7729931e22b2b64827c700a43a92cfba22e90dd1c482832a2a5b7e36c9", func := "copperplate/copperplatelaw19.FlowBreaks", spec := "flowBreaks", inPlace := ["internal/abi.NoEscape", "internal/bytealg.MakeNoZero"], unfollowed := true, recurses := true, apart := false, narrowed := true }
def FlowBreaksUptoSaid : Prop := flowBreaksUptoRow.holds Try.pinned (OpenSpec.upto flowBreaksSpec)

/-- 'copperplatelaw19.FlowNone', WHERE WHAT IT READS IS OF BULK AT MOST 1048576: true; the input reads as it did. -/
def flowNoneUptoRow : OpenClaim := { program := "ytkhlfdoeploddaa", sum := "580ecb7729931e22b2b64827c700a43a92cfba22e90dd1c482832a2a5b7e36c9", func := "copperplate/copperplatelaw19.FlowNone", spec := "flowNone", inPlace := ["internal/abi.NoEscape", "internal/bytealg.MakeNoZero"], unfollowed := true, recurses := true, apart := false, narrowed := true }
def FlowNoneUptoSaid : Prop := flowNoneUptoRow.holds Try.pinned (OpenSpec.upto flowNoneSpec)

end Rows
end Go.Proofs.Ytkhlfdoeploddaa
