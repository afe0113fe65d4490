/-
  No cell of these rows narrows 'for every input' (looked for: loops, veiled, ifaces, maps, wideKeys, modest, calm, conditions, laid).
  DERIVED. THE GIVEN ROWS OF THIS SEAT. 7 by the template 'for every input the law returns true; each argument reads behind the call as it read before'; 0 by the template 'total and deterministic' (their statements: YtjibfhlacbgkgaaTotals.lean).
  GIVEN WITH THE SEED: the statements are not yours to turn. If you find one false, say at which input.
  Laid BY PROGRAM, IN A SANDBOX (cutbox-rows.mjs): the forced cells as the released guide's own fill.sh prints them over the translation 3b2f513706816f78… (all of the seat's roots in one cut). By AI agents, Wed Nov 11 2026. No macro, syntax, notation, axiom, sorry.
-/
import Derived.Test.YtjibfhlacbgkgaaChecked
import GoSem.Claim
import GoSem.ClaimJoined
import GoSem.ClaimMapViews
import Derived.JoinedTies
import Derived.KernelRfl
namespace Go.Proofs.Ytjibfhlacbgkgaa
/- THE CELL 'sum', in the pinned program and in every row, IS THE sha256 OF THE DUMP (.gsa) THAT YtjibfhlacbgkgaaProg.lean LOADS. Nothing in Lean hashes anything: it is a label: what it is worth is what the hold of that sum in a sandbox is worth. -/
noncomputable def Try.pinned : Pinned := { name := "ytjibfhlacbgkgaa", sum := "3b2f513706816f78938ccc51340976f22039723420108a1d98b46928cb738570", checked := Try.checked }
namespace Rows
def none {H : Type} : Left H := { results := [], args := [] }

/-- 'copperplatelaw17.SpanTells': WHATEVER THE INPUT: true; the input reads as it did. -/
def spanTellsSpec : ChangeSpec := { name := "spanTells", fn := fun _ => fun
  | [d1, d2, d3, d4] => { results := [.lit (.bool true)], args := [d1, d2, d3, d4] }
  | _ => none }
def spanTellsRow : OpenClaim := { program := "ytjibfhlacbgkgaa", sum := "3b2f513706816f78938ccc51340976f22039723420108a1d98b46928cb738570", func := "copperplate/copperplatelaw17.SpanTells", spec := "spanTells", unfollowed := true, recurses := true, apart := false }
def SpanTellsSaid : Prop := spanTellsRow.holds Try.pinned (OpenSpec.ofChange spanTellsSpec)

/-- ITS FALSE NEIGHBOUR: 'it returns false'. Refute it at one input. -/
def spanTellsWrong : ChangeSpec := { name := "spanTells", fn := fun _ => fun
  | [d1, d2, d3, d4] => { results := [.lit (.bool false)], args := [d1, d2, d3, d4] }
  | _ => none }
def SpanTellsWrongFalsely : Prop := spanTellsRow.holds Try.pinned (OpenSpec.ofChange spanTellsWrong)

/-- 'copperplatelaw17.SpanHard': WHATEVER THE INPUT: true; the input reads as it did. -/
def spanHardSpec : ChangeSpec := { name := "spanHard", fn := fun _ => fun
  | [d1, d2, d3, d4] => { results := [.lit (.bool true)], args := [d1, d2, d3, d4] }
  | _ => none }
def spanHardRow : OpenClaim := { program := "ytjibfhlacbgkgaa", sum := "3b2f513706816f78938ccc51340976f22039723420108a1d98b46928cb738570", func := "copperplate/copperplatelaw17.SpanHard", spec := "spanHard", unfollowed := true, recurses := true, apart := false }
def SpanHardSaid : Prop := spanHardRow.holds Try.pinned (OpenSpec.ofChange spanHardSpec)

/-- ITS FALSE NEIGHBOUR: 'it returns false'. Refute it at one input. -/
def spanHardWrong : ChangeSpec := { name := "spanHard", fn := fun _ => fun
  | [d1, d2, d3, d4] => { results := [.lit (.bool false)], args := [d1, d2, d3, d4] }
  | _ => none }
def SpanHardWrongFalsely : Prop := spanHardRow.holds Try.pinned (OpenSpec.ofChange spanHardWrong)

/-- 'copperplatelaw17.SpanFlat': WHATEVER THE INPUT: true; the input reads as it did. -/
def spanFlatSpec : ChangeSpec := { name := "spanFlat", fn := fun _ => fun
  | [d1, d2] => { results := [.lit (.bool true)], args := [d1, d2] }
  | _ => none }
def spanFlatRow : OpenClaim := { program := "ytjibfhlacbgkgaa", sum := "3b2f513706816f78938ccc51340976f22039723420108a1d98b46928cb738570", func := "copperplate/copperplatelaw17.SpanFlat", spec := "spanFlat", unfollowed := true, recurses := true, apart := false }
def SpanFlatSaid : Prop := spanFlatRow.holds Try.pinned (OpenSpec.ofChange spanFlatSpec)

/-- ITS FALSE NEIGHBOUR: 'it returns false'. Refute it at one input. -/
def spanFlatWrong : ChangeSpec := { name := "spanFlat", fn := fun _ => fun
  | [d1, d2] => { results := [.lit (.bool false)], args := [d1, d2] }
  | _ => none }
def SpanFlatWrongFalsely : Prop := spanFlatRow.holds Try.pinned (OpenSpec.ofChange spanFlatWrong)

/-- 'copperplatelaw17.SpanBehind': WHATEVER THE INPUT: true; the input reads as it did. -/
def spanBehindSpec : ChangeSpec := { name := "spanBehind", fn := fun _ => fun
  | [d1, d2, d3, d4, d5] => { results := [.lit (.bool true)], args := [d1, d2, d3, d4, d5] }
  | _ => none }
def spanBehindRow : OpenClaim := { program := "ytjibfhlacbgkgaa", sum := "3b2f513706816f78938ccc51340976f22039723420108a1d98b46928cb738570", func := "copperplate/copperplatelaw17.SpanBehind", spec := "spanBehind", unfollowed := true, recurses := true, apart := false }
def SpanBehindSaid : Prop := spanBehindRow.holds Try.pinned (OpenSpec.ofChange spanBehindSpec)

/-- ITS FALSE NEIGHBOUR: 'it returns false'. Refute it at one input. -/
def spanBehindWrong : ChangeSpec := { name := "spanBehind", fn := fun _ => fun
  | [d1, d2, d3, d4, d5] => { results := [.lit (.bool false)], args := [d1, d2, d3, d4, d5] }
  | _ => none }
def SpanBehindWrongFalsely : Prop := spanBehindRow.holds Try.pinned (OpenSpec.ofChange spanBehindWrong)

/-- 'copperplatelaw17.SpanMatch': WHATEVER THE INPUT: true; the input reads as it did. -/
def spanMatchSpec : ChangeSpec := { name := "spanMatch", fn := fun _ => fun
  | [d1, d2, d3] => { results := [.lit (.bool true)], args := [d1, d2, d3] }
  | _ => none }
def spanMatchRow : OpenClaim := { program := "ytjibfhlacbgkgaa", sum := "3b2f513706816f78938ccc51340976f22039723420108a1d98b46928cb738570", func := "copperplate/copperplatelaw17.SpanMatch", spec := "spanMatch", unfollowed := true, recurses := true, apart := false }
def SpanMatchSaid : Prop := spanMatchRow.holds Try.pinned (OpenSpec.ofChange spanMatchSpec)

/-- ITS FALSE NEIGHBOUR: 'it returns false'. Refute it at one input. -/
def spanMatchWrong : ChangeSpec := { name := "spanMatch", fn := fun _ => fun
  | [d1, d2, d3] => { results := [.lit (.bool false)], args := [d1, d2, d3] }
  | _ => none }
def SpanMatchWrongFalsely : Prop := spanMatchRow.holds Try.pinned (OpenSpec.ofChange spanMatchWrong)

/-- 'copperplatelaw17.SpanNeed': WHATEVER THE INPUT: true; the input reads as it did. -/
def spanNeedSpec : ChangeSpec := { name := "spanNeed", fn := fun _ => fun
  | [d1, d2, d3, d4] => { results := [.lit (.bool true)], args := [d1, d2, d3, d4] }
  | _ => none }
def spanNeedRow : OpenClaim := { program := "ytjibfhlacbgkgaa", sum := "3b2f513706816f78938ccc51340976f22039723420108a1d98b46928cb738570", func := "copperplate/copperplatelaw17.SpanNeed", spec := "spanNeed", unfollowed := true, recurses := true, apart := false }
def SpanNeedSaid : Prop := spanNeedRow.holds Try.pinned (OpenSpec.ofChange spanNeedSpec)

/-- ITS FALSE NEIGHBOUR: 'it returns false'. Refute it at one input. -/
def spanNeedWrong : ChangeSpec := { name := "spanNeed", fn := fun _ => fun
  | [d1, d2, d3, d4] => { results := [.lit (.bool false)], args := [d1, d2, d3, d4] }
  | _ => none }
def SpanNeedWrongFalsely : Prop := spanNeedRow.holds Try.pinned (OpenSpec.ofChange spanNeedWrong)

/-- 'copperplatelaw17.SpanCols': WHATEVER THE INPUT: true; the input reads as it did. -/
def spanColsSpec : ChangeSpec := { name := "spanCols", fn := fun _ => fun
  | [d1, d2, d3] => { results := [.lit (.bool true)], args := [d1, d2, d3] }
  | _ => none }
def spanColsRow : OpenClaim := { program := "ytjibfhlacbgkgaa", sum := "3b2f513706816f78938ccc51340976f22039723420108a1d98b46928cb738570", func := "copperplate/copperplatelaw17.SpanCols", spec := "spanCols", unfollowed := true, recurses := true, apart := false }
def SpanColsSaid : Prop := spanColsRow.holds Try.pinned (OpenSpec.ofChange spanColsSpec)

/-- ITS FALSE NEIGHBOUR: 'it returns false'. Refute it at one input. -/
def spanColsWrong : ChangeSpec := { name := "spanCols", fn := fun _ => fun
  | [d1, d2, d3] => { results := [.lit (.bool false)], args := [d1, d2, d3] }
  | _ => none }
def SpanColsWrongFalsely : Prop := spanColsRow.holds Try.pinned (OpenSpec.ofChange spanColsWrong)

/- THE SECOND FORM. 'bulk': how many values and letters a reading holds, each counted each time it is reached (what is shared counts as often as it is met; a slice's spare places count too). A statement '..UptoSaid' is the law's where the arguments, and the package variables that the reading takes, are together of bulk at most 1048576: NARROWER than '..Said'. Prove '..Said' where nothing that the law and all that it calls make is longer than what came in: it says more and counts as full. Else prove '..UptoSaid'. A law counts once. -/
mutual
def uptoBulk {H : Type} : DataW H → Nat
  | .lit (.string bytes) => bytes.length + 1
  | .lit _ => 1
  | .nil => 1
  | .ptr d => uptoBulk d + 1
  | .slice elems spare => uptoBulkAll elems + uptoBulkAll spare + 1
  | .agg parts => uptoBulkAll parts + 1
  | .iface _ d => uptoBulk d + 1
  | .map entries => uptoBulkEntries entries + 1
  | .held _ => 1
def uptoBulkAll {H : Type} : List (DataW H) → Nat
  | [] => 0
  | d :: r => uptoBulk d + uptoBulkAll r
def uptoBulkEntries {H : Type} : List (Lit × DataW H) → Nat
  | [] => 0
  | x :: r => uptoBulkEntry x + uptoBulkEntries r
def uptoBulkEntry {H : Type} : Lit × DataW H → Nat
  | (.string bytes, d) => bytes.length + uptoBulk d + 1
  | (_, d) => uptoBulk d + 1
 end
def uptoSmall : (H : Type) → List (DataW H) → Bool := fun _ ds => decide (uptoBulkAll ds ≤ 1048576)
def OpenSpec.upto (s : _root_.Go.ChangeSpec) : _root_.Go.OpenSpec := { _root_.Go.OpenSpec.ofChange s with cond := some uptoSmall }

/-- 'copperplatelaw17.SpanTells', WHERE WHAT IT READS IS OF BULK AT MOST 1048576: true; the input reads as it did. -/
def spanTellsUptoRow : OpenClaim := { program := "ytjibfhlacbgkgaa", sum := "3b2f513706816f78938ccc51340976f22039723420108a1d98b46928cb738570", func := "copperplate/copperplatelaw17.SpanTells", spec := "spanTells", unfollowed := true, recurses := true, apart := false, narrowed := true }
def SpanTellsUptoSaid : Prop := spanTellsUptoRow.holds Try.pinned (OpenSpec.upto spanTellsSpec)

/-- 'copperplatelaw17.SpanHard', WHERE WHAT IT READS IS OF BULK AT MOST 1048576: true; the input reads as it did. -/
def spanHardUptoRow : OpenClaim := { program := "ytjibfhlacbgkgaa", sum := "3b2f513706816f78938ccc51340976f22039723420108a1d98b46928cb738570", func := "copperplate/copperplatelaw17.SpanHard", spec := "spanHard", unfollowed := true, recurses := true, apart := false, narrowed := true }
def SpanHardUptoSaid : Prop := spanHardUptoRow.holds Try.pinned (OpenSpec.upto spanHardSpec)

/-- 'copperplatelaw17.SpanFlat', WHERE WHAT IT READS IS OF BULK AT MOST 1048576: true; the input reads as it did. -/
def spanFlatUptoRow : OpenClaim := { program := "ytjibfhlacbgkgaa", sum := "3b2f513706816f78938ccc51340976f22039723420108a1d98b46928cb738570", func := "copperplate/copperplatelaw17.SpanFlat", spec := "spanFlat", unfollowed := true, recurses := true, apart := false, narrowed := true }
def SpanFlatUptoSaid : Prop := spanFlatUptoRow.holds Try.pinned (OpenSpec.upto spanFlatSpec)

/-- 'copperplatelaw17.SpanBehind', WHERE WHAT IT READS IS OF BULK AT MOST 1048576: true; the input reads as it did. -/
def spanBehindUptoRow : OpenClaim := { program := "ytjibfhlacbgkgaa", sum := "3b2f513706816f78938ccc51340976f22039723420108a1d98b46928cb738570", func := "copperplate/copperplatelaw17.SpanBehind", spec := "spanBehind", unfollowed := true, recurses := true, apart := false, narrowed := true }
def SpanBehindUptoSaid : Prop := spanBehindUptoRow.holds Try.pinned (OpenSpec.upto spanBehindSpec)

/-- 'copperplatelaw17.SpanMatch', WHERE WHAT IT READS IS OF BULK AT MOST 1048576: true; the input reads as it did. -/
def spanMatchUptoRow : OpenClaim := { program := "ytjibfhlacbgkgaa", sum := "3b2f513706816f78938ccc51340976f22039723420108a1d98b46928cb738570", func := "copperplate/copperplatelaw17.SpanMatch", spec := "spanMatch", unfollowed := true, recurses := true, apart := false, narrowed := true }
def SpanMatchUptoSaid : Prop := spanMatchUptoRow.holds Try.pinned (OpenSpec.upto spanMatchSpec)

/-- 'copperplatelaw17.SpanNeed', WHERE WHAT IT READS IS OF BULK AT MOST 1048576: true; the input reads as it did. -/
def spanNeedUptoRow : OpenClaim := { program := "ytjibfhlacbgkgaa", sum := "3b2f513706816f78938ccc51340976f22039723420108a1d98b46928cb738570", func := "copperplate/copperplatelaw17.SpanNeed", spec := "spanNeed", unfollowed := true, recurses := true, apart := false, narrowed := true }
def SpanNeedUptoSaid : Prop := spanNeedUptoRow.holds Try.pinned (OpenSpec.upto spanNeedSpec)

/-- 'copperplatelaw17.SpanCols', WHERE WHAT IT READS IS OF BULK AT MOST 1048576: true; the input reads as it did. -/
def spanColsUptoRow : OpenClaim := { program := "ytjibfhlacbgkgaa", sum := "3b2f513706816f78938ccc51340976f22039723420108a1d98b46928cb738570", func := "copperplate/copperplatelaw17.SpanCols", spec := "spanCols", unfollowed := true, recurses := true, apart := false, narrowed := true }
def SpanColsUptoSaid : Prop := spanColsUptoRow.holds Try.pinned (OpenSpec.upto spanColsSpec)

end Rows
end Go.Proofs.Ytjibfhlacbgkgaa
