/-
  No cell of these rows narrows 'for every input' (looked for: loops, veiled, ifaces, maps, wideKeys, modest, calm, conditions, laid).
  DERIVED. THE GIVEN ROWS OF THIS SEAT. 11 by the template 'for every input the law returns true; each argument reads behind the call as it read before'; 0 by the template 'total and deterministic' (their statements: YtfpihmjdcneheaaTotals.lean).
  GIVEN WITH THE SEED: the statements are not yours to turn. If you find one false, say at which input.
  Laid BY PROGRAM, IN A SANDBOX (cutbox-rows.mjs): the forced cells as the released guide's own fill.sh prints them over the translation 52626a888363ee44… (all of the seat's roots in one cut). By AI agents, Wed Nov 11 2026. No macro, syntax, notation, axiom, sorry.
-/
import Derived.Test.YtfpihmjdcneheaaChecked
import GoSem.Claim
import GoSem.ClaimJoined
import GoSem.ClaimMapViews
import Derived.JoinedTies
import Derived.KernelRfl
namespace Go.Proofs.Ytfpihmjdcneheaa
/- THE CELL 'sum', in the pinned program and in every row, IS THE sha256 OF THE DUMP (.gsa) THAT YtfpihmjdcneheaaProg.lean LOADS. Nothing in Lean hashes anything: it is a label: what it is worth is what the hold of that sum in a sandbox is worth. -/
noncomputable def Try.pinned : Pinned := { name := "ytfpihmjdcneheaa", sum := "52626a888363ee448cd904cc4d01d397e5c79719683be93ef18c433d2703fe7a", checked := Try.checked }
namespace Rows
def none {H : Type} : Left H := { results := [], args := [] }

/-- 'copperplatelaw01.MeterTells': WHATEVER THE INPUT: true; the input reads as it did. -/
def meterTellsSpec : ChangeSpec := { name := "meterTells", fn := fun _ => fun
  | [d1, d2, d3, d4, d5] => { results := [.lit (.bool true)], args := [d1, d2, d3, d4, d5] }
  | _ => none }
def meterTellsRow : OpenClaim := { program := "ytfpihmjdcneheaa", sum := "52626a888363ee448cd904cc4d01d397e5c79719683be93ef18c433d2703fe7a", func := "copperplate/copperplatelaw01.MeterTells", spec := "meterTells", unfollowed := true, recurses := true, apart := false }
def MeterTellsSaid : Prop := meterTellsRow.holds Try.pinned (OpenSpec.ofChange meterTellsSpec)

/-- ITS FALSE NEIGHBOUR: 'it returns false'. Refute it at one input. -/
def meterTellsWrong : ChangeSpec := { name := "meterTells", fn := fun _ => fun
  | [d1, d2, d3, d4, d5] => { results := [.lit (.bool false)], args := [d1, d2, d3, d4, d5] }
  | _ => none }
def MeterTellsWrongFalsely : Prop := meterTellsRow.holds Try.pinned (OpenSpec.ofChange meterTellsWrong)

/-- 'copperplatelaw01.MeterParts': WHATEVER THE INPUT: true; the input reads as it did. -/
def meterPartsSpec : ChangeSpec := { name := "meterParts", fn := fun _ => fun
  | [d1, d2, d3] => { results := [.lit (.bool true)], args := [d1, d2, d3] }
  | _ => none }
def meterPartsRow : OpenClaim := { program := "ytfpihmjdcneheaa", sum := "52626a888363ee448cd904cc4d01d397e5c79719683be93ef18c433d2703fe7a", func := "copperplate/copperplatelaw01.MeterParts", spec := "meterParts", unfollowed := true, recurses := true, apart := false }
def MeterPartsSaid : Prop := meterPartsRow.holds Try.pinned (OpenSpec.ofChange meterPartsSpec)

/-- ITS FALSE NEIGHBOUR: 'it returns false'. Refute it at one input. -/
def meterPartsWrong : ChangeSpec := { name := "meterParts", fn := fun _ => fun
  | [d1, d2, d3] => { results := [.lit (.bool false)], args := [d1, d2, d3] }
  | _ => none }
def MeterPartsWrongFalsely : Prop := meterPartsRow.holds Try.pinned (OpenSpec.ofChange meterPartsWrong)

/-- 'copperplatelaw01.MeterSum': WHATEVER THE INPUT: true; the input reads as it did. -/
def meterSumSpec : ChangeSpec := { name := "meterSum", fn := fun _ => fun
  | [d1, d2, d3] => { results := [.lit (.bool true)], args := [d1, d2, d3] }
  | _ => none }
def meterSumRow : OpenClaim := { program := "ytfpihmjdcneheaa", sum := "52626a888363ee448cd904cc4d01d397e5c79719683be93ef18c433d2703fe7a", func := "copperplate/copperplatelaw01.MeterSum", spec := "meterSum", unfollowed := true, recurses := true, apart := false }
def MeterSumSaid : Prop := meterSumRow.holds Try.pinned (OpenSpec.ofChange meterSumSpec)

/-- ITS FALSE NEIGHBOUR: 'it returns false'. Refute it at one input. -/
def meterSumWrong : ChangeSpec := { name := "meterSum", fn := fun _ => fun
  | [d1, d2, d3] => { results := [.lit (.bool false)], args := [d1, d2, d3] }
  | _ => none }
def MeterSumWrongFalsely : Prop := meterSumRow.holds Try.pinned (OpenSpec.ofChange meterSumWrong)

/-- 'copperplatelaw01.MeterWithin': WHATEVER THE INPUT: true; the input reads as it did. -/
def meterWithinSpec : ChangeSpec := { name := "meterWithin", fn := fun _ => fun
  | [d1, d2, d3, d4, d5] => { results := [.lit (.bool true)], args := [d1, d2, d3, d4, d5] }
  | _ => none }
def meterWithinRow : OpenClaim := { program := "ytfpihmjdcneheaa", sum := "52626a888363ee448cd904cc4d01d397e5c79719683be93ef18c433d2703fe7a", func := "copperplate/copperplatelaw01.MeterWithin", spec := "meterWithin", unfollowed := true, recurses := true, apart := false }
def MeterWithinSaid : Prop := meterWithinRow.holds Try.pinned (OpenSpec.ofChange meterWithinSpec)

/-- ITS FALSE NEIGHBOUR: 'it returns false'. Refute it at one input. -/
def meterWithinWrong : ChangeSpec := { name := "meterWithin", fn := fun _ => fun
  | [d1, d2, d3, d4, d5] => { results := [.lit (.bool false)], args := [d1, d2, d3, d4, d5] }
  | _ => none }
def MeterWithinWrongFalsely : Prop := meterWithinRow.holds Try.pinned (OpenSpec.ofChange meterWithinWrong)

/-- 'copperplatelaw01.MeterMost': WHATEVER THE INPUT: true; the input reads as it did. -/
def meterMostSpec : ChangeSpec := { name := "meterMost", fn := fun _ => fun
  | [d1, d2] => { results := [.lit (.bool true)], args := [d1, d2] }
  | _ => none }
def meterMostRow : OpenClaim := { program := "ytfpihmjdcneheaa", sum := "52626a888363ee448cd904cc4d01d397e5c79719683be93ef18c433d2703fe7a", func := "copperplate/copperplatelaw01.MeterMost", spec := "meterMost", unfollowed := true, recurses := true, apart := false }
def MeterMostSaid : Prop := meterMostRow.holds Try.pinned (OpenSpec.ofChange meterMostSpec)

/-- ITS FALSE NEIGHBOUR: 'it returns false'. Refute it at one input. -/
def meterMostWrong : ChangeSpec := { name := "meterMost", fn := fun _ => fun
  | [d1, d2] => { results := [.lit (.bool false)], args := [d1, d2] }
  | _ => none }
def MeterMostWrongFalsely : Prop := meterMostRow.holds Try.pinned (OpenSpec.ofChange meterMostWrong)

/-- 'copperplatelaw01.MeterBoth': WHATEVER THE INPUT: true; the input reads as it did. -/
def meterBothSpec : ChangeSpec := { name := "meterBoth", fn := fun _ => fun
  | [d1, d2] => { results := [.lit (.bool true)], args := [d1, d2] }
  | _ => none }
def meterBothRow : OpenClaim := { program := "ytfpihmjdcneheaa", sum := "52626a888363ee448cd904cc4d01d397e5c79719683be93ef18c433d2703fe7a", func := "copperplate/copperplatelaw01.MeterBoth", spec := "meterBoth", unfollowed := true, recurses := true, apart := false }
def MeterBothSaid : Prop := meterBothRow.holds Try.pinned (OpenSpec.ofChange meterBothSpec)

/-- ITS FALSE NEIGHBOUR: 'it returns false'. Refute it at one input. -/
def meterBothWrong : ChangeSpec := { name := "meterBoth", fn := fun _ => fun
  | [d1, d2] => { results := [.lit (.bool false)], args := [d1, d2] }
  | _ => none }
def MeterBothWrongFalsely : Prop := meterBothRow.holds Try.pinned (OpenSpec.ofChange meterBothWrong)

/-- 'copperplatelaw15.DepthTells': WHATEVER THE INPUT: true; the input reads as it did. -/
def depthTellsSpec : ChangeSpec := { name := "depthTells", fn := fun _ => fun
  | [d1, d2] => { results := [.lit (.bool true)], args := [d1, d2] }
  | _ => none }
def depthTellsRow : OpenClaim := { program := "ytfpihmjdcneheaa", sum := "52626a888363ee448cd904cc4d01d397e5c79719683be93ef18c433d2703fe7a", func := "copperplate/copperplatelaw15.DepthTells", spec := "depthTells", unfollowed := true, recurses := true, apart := false }
def DepthTellsSaid : Prop := depthTellsRow.holds Try.pinned (OpenSpec.ofChange depthTellsSpec)

/-- ITS FALSE NEIGHBOUR: 'it returns false'. Refute it at one input. -/
def depthTellsWrong : ChangeSpec := { name := "depthTells", fn := fun _ => fun
  | [d1, d2] => { results := [.lit (.bool false)], args := [d1, d2] }
  | _ => none }
def DepthTellsWrongFalsely : Prop := depthTellsRow.holds Try.pinned (OpenSpec.ofChange depthTellsWrong)

/-- 'copperplatelaw15.DepthAt': WHATEVER THE INPUT: true; the input reads as it did. -/
def depthAtSpec : ChangeSpec := { name := "depthAt", fn := fun _ => fun
  | [d1, d2] => { results := [.lit (.bool true)], args := [d1, d2] }
  | _ => none }
def depthAtRow : OpenClaim := { program := "ytfpihmjdcneheaa", sum := "52626a888363ee448cd904cc4d01d397e5c79719683be93ef18c433d2703fe7a", func := "copperplate/copperplatelaw15.DepthAt", spec := "depthAt", unfollowed := true, recurses := true, apart := false }
def DepthAtSaid : Prop := depthAtRow.holds Try.pinned (OpenSpec.ofChange depthAtSpec)

/-- ITS FALSE NEIGHBOUR: 'it returns false'. Refute it at one input. -/
def depthAtWrong : ChangeSpec := { name := "depthAt", fn := fun _ => fun
  | [d1, d2] => { results := [.lit (.bool false)], args := [d1, d2] }
  | _ => none }
def DepthAtWrongFalsely : Prop := depthAtRow.holds Try.pinned (OpenSpec.ofChange depthAtWrong)

/-- 'copperplatelaw15.DepthJoins': WHATEVER THE INPUT: true; the input reads as it did. -/
def depthJoinsSpec : ChangeSpec := { name := "depthJoins", fn := fun _ => fun
  | [d1, d2] => { results := [.lit (.bool true)], args := [d1, d2] }
  | _ => none }
def depthJoinsRow : OpenClaim := { program := "ytfpihmjdcneheaa", sum := "52626a888363ee448cd904cc4d01d397e5c79719683be93ef18c433d2703fe7a", func := "copperplate/copperplatelaw15.DepthJoins", spec := "depthJoins", unfollowed := true, recurses := true, apart := false }
def DepthJoinsSaid : Prop := depthJoinsRow.holds Try.pinned (OpenSpec.ofChange depthJoinsSpec)

/-- ITS FALSE NEIGHBOUR: 'it returns false'. Refute it at one input. -/
def depthJoinsWrong : ChangeSpec := { name := "depthJoins", fn := fun _ => fun
  | [d1, d2] => { results := [.lit (.bool false)], args := [d1, d2] }
  | _ => none }
def DepthJoinsWrongFalsely : Prop := depthJoinsRow.holds Try.pinned (OpenSpec.ofChange depthJoinsWrong)

/-- 'copperplatelaw15.DepthWrap': WHATEVER THE INPUT: true; the input reads as it did. -/
def depthWrapSpec : ChangeSpec := { name := "depthWrap", fn := fun _ => fun
  | [d1, d2] => { results := [.lit (.bool true)], args := [d1, d2] }
  | _ => none }
def depthWrapRow : OpenClaim := { program := "ytfpihmjdcneheaa", sum := "52626a888363ee448cd904cc4d01d397e5c79719683be93ef18c433d2703fe7a", func := "copperplate/copperplatelaw15.DepthWrap", spec := "depthWrap", unfollowed := true, recurses := true, apart := false }
def DepthWrapSaid : Prop := depthWrapRow.holds Try.pinned (OpenSpec.ofChange depthWrapSpec)

/-- ITS FALSE NEIGHBOUR: 'it returns false'. Refute it at one input. -/
def depthWrapWrong : ChangeSpec := { name := "depthWrap", fn := fun _ => fun
  | [d1, d2] => { results := [.lit (.bool false)], args := [d1, d2] }
  | _ => none }
def DepthWrapWrongFalsely : Prop := depthWrapRow.holds Try.pinned (OpenSpec.ofChange depthWrapWrong)

/-- 'copperplatelaw15.DepthOpens': WHATEVER THE INPUT: true; the input reads as it did. -/
def depthOpensSpec : ChangeSpec := { name := "depthOpens", fn := fun _ => fun
  | [d1, d2] => { results := [.lit (.bool true)], args := [d1, d2] }
  | _ => none }
def depthOpensRow : OpenClaim := { program := "ytfpihmjdcneheaa", sum := "52626a888363ee448cd904cc4d01d397e5c79719683be93ef18c433d2703fe7a", func := "copperplate/copperplatelaw15.DepthOpens", spec := "depthOpens", unfollowed := true, recurses := true, apart := false }
def DepthOpensSaid : Prop := depthOpensRow.holds Try.pinned (OpenSpec.ofChange depthOpensSpec)

/-- ITS FALSE NEIGHBOUR: 'it returns false'. Refute it at one input. -/
def depthOpensWrong : ChangeSpec := { name := "depthOpens", fn := fun _ => fun
  | [d1, d2] => { results := [.lit (.bool false)], args := [d1, d2] }
  | _ => none }
def DepthOpensWrongFalsely : Prop := depthOpensRow.holds Try.pinned (OpenSpec.ofChange depthOpensWrong)

/- THE SECOND FORM. 'bulk': how many values and letters a reading holds, each counted each time it is reached (what is shared counts as often as it is met; a slice's spare places count too). A statement '..UptoSaid' is the law's where the arguments, and the package variables that the reading takes, are together of bulk at most 1048576: NARROWER than '..Said'. Prove '..Said' where nothing that the law and all that it calls make is longer than what came in: it says more and counts as full. Else prove '..UptoSaid'. A law counts once. -/
mutual
def uptoBulk {H : Type} : DataW H → Nat
  | .lit (.string bytes) => bytes.length + 1
  | .lit _ => 1
  | .nil => 1
  | .ptr d => uptoBulk d + 1
  | .slice elems spare => uptoBulkAll elems + uptoBulkAll spare + 1
  | .agg parts => uptoBulkAll parts + 1
  | .iface _ d => uptoBulk d + 1
  | .map entries => uptoBulkEntries entries + 1
  | .held _ => 1
def uptoBulkAll {H : Type} : List (DataW H) → Nat
  | [] => 0
  | d :: r => uptoBulk d + uptoBulkAll r
def uptoBulkEntries {H : Type} : List (Lit × DataW H) → Nat
  | [] => 0
  | x :: r => uptoBulkEntry x + uptoBulkEntries r
def uptoBulkEntry {H : Type} : Lit × DataW H → Nat
  | (.string bytes, d) => bytes.length + uptoBulk d + 1
  | (_, d) => uptoBulk d + 1
 end
def uptoSmall : (H : Type) → List (DataW H) → Bool := fun _ ds => decide (uptoBulkAll ds ≤ 1048576)
def OpenSpec.upto (s : _root_.Go.ChangeSpec) : _root_.Go.OpenSpec := { _root_.Go.OpenSpec.ofChange s with cond := some uptoSmall }

/-- 'copperplatelaw01.MeterTells', WHERE WHAT IT READS IS OF BULK AT MOST 1048576: true; the input reads as it did. -/
def meterTellsUptoRow : OpenClaim := { program := "ytfpihmjdcneheaa", sum := "52626a888363ee448cd904cc4d01d397e5c79719683be93ef18c433d2703fe7a", func := "copperplate/copperplatelaw01.MeterTells", spec := "meterTells", unfollowed := true, recurses := true, apart := false, narrowed := true }
def MeterTellsUptoSaid : Prop := meterTellsUptoRow.holds Try.pinned (OpenSpec.upto meterTellsSpec)

/-- 'copperplatelaw01.MeterParts', WHERE WHAT IT READS IS OF BULK AT MOST 1048576: true; the input reads as it did. -/
def meterPartsUptoRow : OpenClaim := { program := "ytfpihmjdcneheaa", sum := "52626a888363ee448cd904cc4d01d397e5c79719683be93ef18c433d2703fe7a", func := "copperplate/copperplatelaw01.MeterParts", spec := "meterParts", unfollowed := true, recurses := true, apart := false, narrowed := true }
def MeterPartsUptoSaid : Prop := meterPartsUptoRow.holds Try.pinned (OpenSpec.upto meterPartsSpec)

/-- 'copperplatelaw01.MeterSum', WHERE WHAT IT READS IS OF BULK AT MOST 1048576: true; the input reads as it did. -/
def meterSumUptoRow : OpenClaim := { program := "ytfpihmjdcneheaa", sum := "52626a888363ee448cd904cc4d01d397e5c79719683be93ef18c433d2703fe7a", func := "copperplate/copperplatelaw01.MeterSum", spec := "meterSum", unfollowed := true, recurses := true, apart := false, narrowed := true }
def MeterSumUptoSaid : Prop := meterSumUptoRow.holds Try.pinned (OpenSpec.upto meterSumSpec)

/-- 'copperplatelaw01.MeterWithin', WHERE WHAT IT READS IS OF BULK AT MOST 1048576: true; the input reads as it did. -/
def meterWithinUptoRow : OpenClaim := { program := "ytfpihmjdcneheaa", sum := "52626a888363ee448cd904cc4d01d397e5c79719683be93ef18c433d2703fe7a", func := "copperplate/copperplatelaw01.MeterWithin", spec := "meterWithin", unfollowed := true, recurses := true, apart := false, narrowed := true }
def MeterWithinUptoSaid : Prop := meterWithinUptoRow.holds Try.pinned (OpenSpec.upto meterWithinSpec)

/-- 'copperplatelaw01.MeterMost', WHERE WHAT IT READS IS OF BULK AT MOST 1048576: true; the input reads as it did. -/
def meterMostUptoRow : OpenClaim := { program := "ytfpihmjdcneheaa", sum := "52626a888363ee448cd904cc4d01d397e5c79719683be93ef18c433d2703fe7a", func := "copperplate/copperplatelaw01.MeterMost", spec := "meterMost", unfollowed := true, recurses := true, apart := false, narrowed := true }
def MeterMostUptoSaid : Prop := meterMostUptoRow.holds Try.pinned (OpenSpec.upto meterMostSpec)

/-- 'copperplatelaw01.MeterBoth', WHERE WHAT IT READS IS OF BULK AT MOST 1048576: true; the input reads as it did. -/
def meterBothUptoRow : OpenClaim := { program := "ytfpihmjdcneheaa", sum := "52626a888363ee448cd904cc4d01d397e5c79719683be93ef18c433d2703fe7a", func := "copperplate/copperplatelaw01.MeterBoth", spec := "meterBoth", unfollowed := true, recurses := true, apart := false, narrowed := true }
def MeterBothUptoSaid : Prop := meterBothUptoRow.holds Try.pinned (OpenSpec.upto meterBothSpec)

/-- 'copperplatelaw15.DepthTells', WHERE WHAT IT READS IS OF BULK AT MOST 1048576: true; the input reads as it did. -/
def depthTellsUptoRow : OpenClaim := { program := "ytfpihmjdcneheaa", sum := "52626a888363ee448cd904cc4d01d397e5c79719683be93ef18c433d2703fe7a", func := "copperplate/copperplatelaw15.DepthTells", spec := "depthTells", unfollowed := true, recurses := true, apart := false, narrowed := true }
def DepthTellsUptoSaid : Prop := depthTellsUptoRow.holds Try.pinned (OpenSpec.upto depthTellsSpec)

/-- 'copperplatelaw15.DepthAt', WHERE WHAT IT READS IS OF BULK AT MOST 1048576: true; the input reads as it did. -/
def depthAtUptoRow : OpenClaim := { program := "ytfpihmjdcneheaa", sum := "52626a888363ee448cd904cc4d01d397e5c79719683be93ef18c433d2703fe7a", func := "copperplate/copperplatelaw15.DepthAt", spec := "depthAt", unfollowed := true, recurses := true, apart := false, narrowed := true }
def DepthAtUptoSaid : Prop := depthAtUptoRow.holds Try.pinned (OpenSpec.upto depthAtSpec)

/-- 'copperplatelaw15.DepthJoins', WHERE WHAT IT READS IS OF BULK AT MOST 1048576: true; the input reads as it did. -/
def depthJoinsUptoRow : OpenClaim := { program := "ytfpihmjdcneheaa", sum := "52626a888363ee448cd904cc4d01d397e5c79719683be93ef18c433d2703fe7a", func := "copperplate/copperplatelaw15.DepthJoins", spec := "depthJoins", unfollowed := true, recurses := true, apart := false, narrowed := true }
def DepthJoinsUptoSaid : Prop := depthJoinsUptoRow.holds Try.pinned (OpenSpec.upto depthJoinsSpec)

/-- 'copperplatelaw15.DepthWrap', WHERE WHAT IT READS IS OF BULK AT MOST 1048576: true; the input reads as it did. -/
def depthWrapUptoRow : OpenClaim := { program := "ytfpihmjdcneheaa", sum := "52626a888363ee448cd904cc4d01d397e5c79719683be93ef18c433d2703fe7a", func := "copperplate/copperplatelaw15.DepthWrap", spec := "depthWrap", unfollowed := true, recurses := true, apart := false, narrowed := true }
def DepthWrapUptoSaid : Prop := depthWrapUptoRow.holds Try.pinned (OpenSpec.upto depthWrapSpec)

/-- 'copperplatelaw15.DepthOpens', WHERE WHAT IT READS IS OF BULK AT MOST 1048576: true; the input reads as it did. -/
def depthOpensUptoRow : OpenClaim := { program := "ytfpihmjdcneheaa", sum := "52626a888363ee448cd904cc4d01d397e5c79719683be93ef18c433d2703fe7a", func := "copperplate/copperplatelaw15.DepthOpens", spec := "depthOpens", unfollowed := true, recurses := true, apart := false, narrowed := true }
def DepthOpensUptoSaid : Prop := depthOpensUptoRow.holds Try.pinned (OpenSpec.upto depthOpensSpec)

end Rows
end Go.Proofs.Ytfpihmjdcneheaa
