/- The pure statement of FlowNone. -/
import Derived.Test.YtkhlfdoeploddaaPFlowx24
import Derived.Test.YtkhlfdoeploddaaHFlowFlowA
namespace Go.Proofs.Ytkhlfdoeploddaa.PFlow
open Go.RowKit Go.Proofs.YtkhlfdoeploddaaW.PrintWords Go.Proofs.YtkhlfdoeploddaaW.PrintMore
set_option linter.unusedVariables false
set_option linter.unusedSimpArgs false
theorem _root_.Go.Proofs.Ytkhlfdoeploddaa.Pure.FlowNone : copperplatelaw19_FlowNone.PureUp := by
  intro l w k hl16 ht hw hk hb
  have hsm := small_of ht
  rw [← bulk_sum] at hb
  have hd : Dom l := ⟨by omega, hsm, by omega⟩
  have hkk := wf64 hk
  refine ⟨l.length + 6, ?_⟩
  unfold copperplatelaw19_FlowNone.f copperplatelaw19_awake.f
  rw [Option.bind_some, if_pos rfl]
  by_cases c2 : (l.length : Int) > 60
  · rw [decide_eq_true c2]; rfl
  rw [decide_eq_false c2, copperplatelaw19_FlowNone.j0, if_neg (by decide), hd.flow w 0, hd.flow w k, hd.room, Option.bind_some, Option.bind_some, Option.bind_some]
  by_cases c : roomB l w = true ∧ 0 ≤ k ∧ k ≤ (l.length : Int)
  · have c0 : roomB l w = true ∧ (0 : Int) ≤ 0 ∧ (0 : Int) ≤ (l.length : Int) := ⟨c.1, by omega, by omega⟩
    rw [if_pos c, if_pos c0, if_pos c.1, if_neg (by omega), decide_eq_false (by omega), copperplatelaw19_FlowNone.j1, if_neg (by decide), hd.held w 0 (by omega), if_pos c0]
    have e : flowOf l w (0 : Int).toNat = (pg0, 0) := rfl
    have e2 : heldOf l w (0 : Int).toNat = 0 := rfl
    rw [e, e2, if_pos rfl, if_pos (by decide +kernel), if_pos rfl, if_pos rfl]
    rfl
  · rw [if_neg c]
    by_cases r : roomB l w = true
    · rw [if_pos r]
      by_cases k0 : k < 0
      · rw [if_pos k0, copperplatelaw19_FlowNone.j1, if_pos rfl, if_neg (by decide), if_pos (by decide +kernel), if_pos rfl, hd.held w k (by omega), if_neg c, if_pos (show roomB l w = true ∧ (0 : Int) ≤ 0 ∧ (0 : Int) ≤ (l.length : Int) from ⟨r, by omega, by omega⟩), Option.bind_some, if_pos rfl, r]; rfl
      · rw [if_neg k0, decide_eq_true (show k > (l.length : Int) from Classical.byContradiction fun h => c ⟨r, by omega, by omega⟩), copperplatelaw19_FlowNone.j1, if_pos rfl, if_neg (by decide), if_pos (by decide +kernel), if_pos rfl, hd.held w k (by omega), if_neg c, if_pos (show roomB l w = true ∧ (0 : Int) ≤ 0 ∧ (0 : Int) ≤ (l.length : Int) from ⟨r, by omega, by omega⟩), Option.bind_some, if_pos rfl, r]; rfl
    · rw [if_neg r, copperplatelaw19_FlowNone.j1, if_pos rfl, if_neg (by decide), if_pos (by decide +kernel), if_pos rfl, hd.held w k (by omega), if_neg c, if_neg (fun h => r h.1), Option.bind_some, if_pos rfl, Bool.eq_false_iff.2 r]; rfl
end Go.Proofs.Ytkhlfdoeploddaa.PFlow
