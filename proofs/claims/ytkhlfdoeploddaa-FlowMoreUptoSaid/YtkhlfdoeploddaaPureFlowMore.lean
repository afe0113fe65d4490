/- The pure statement of FlowMore. -/
import Derived.Test.YtkhlfdoeploddaaPFlowx24
import Derived.Test.YtkhlfdoeploddaaHFlowFlowA
namespace Go.Proofs.Ytkhlfdoeploddaa.PFlow
open Go.RowKit Go.Proofs.YtkhlfdoeploddaaW.PrintWords Go.Proofs.YtkhlfdoeploddaaW.PrintMore
set_option linter.unusedVariables false
set_option linter.unusedSimpArgs false
theorem _root_.Go.Proofs.Ytkhlfdoeploddaa.Pure.FlowMore : copperplatelaw19_FlowMore.PureUp := by
  intro l w k hl16 ht hw hk hb
  have hsm := small_of ht
  rw [← bulk_sum] at hb
  have hd : Dom l := ⟨by omega, hsm, by omega⟩
  refine ⟨l.length + 6, ?_⟩
  unfold copperplatelaw19_FlowMore.f copperplatelaw19_awake.f
  rw [Option.bind_some, if_pos rfl]
  by_cases c2 : (l.length : Int) > 60
  · rw [if_pos c2]; rfl
  rw [if_neg c2, hd.room, Option.bind_some]
  by_cases r : roomB l w = true
  rotate_left
  · rw [if_neg r]; rfl
  rw [if_pos r]
  by_cases k0 : k < 0
  · rw [if_pos k0]; rfl
  rw [if_neg k0]
  by_cases k1 : k ≥ (l.length : Int)
  · rw [decide_eq_true k1]; rfl
  obtain ⟨n, rfl⟩ := Int.eq_ofNat_of_zero_le (show 0 ≤ k by omega)
  rw [decide_eq_false k1, copperplatelaw19_FlowMore.j0, if_neg (by decide), show wrap64 ((n : Int) + 1) = ((n + 1 : Nat) : Int) by unfold wrap64; omega]
  rw [hd.flow_yes r (show n ≤ l.length by omega), hd.flow_yes r (show n + 1 ≤ l.length by omega), hd.held w (n : Int) (by omega), hd.held w ((n + 1 : Nat) : Int) (by omega)]
  rw [if_pos (show roomB l w = true ∧ 0 ≤ (n : Int) ∧ (n : Int) ≤ (l.length : Int) from ⟨r, by omega, by omega⟩), if_pos (show roomB l w = true ∧ 0 ≤ ((n + 1 : Nat) : Int) ∧ ((n + 1 : Nat) : Int) ≤ (l.length : Int) from ⟨r, by omega, by omega⟩), Int.toNat_natCast, Int.toNat_natCast]
  simp only [Option.bind_some]
  have g1 := held_ge l w n
  have g2 := held_ge l w (n + 1)
  have g3 := held_up l w n
  have g4 : heldOf l w (n + 1) ≤ (n : Int) + 1 := held_le (by omega) (n + 1 + 1) fun j hj => by
    obtain ⟨i, hi, e⟩ := flow_case hd r (k := j) (by omega)
    rw [e]
    show (j : Int) - i ≤ n + 1
    omega
  obtain ⟨j, hj, e⟩ := flow_case hd r (k := n) (by omega)
  obtain ⟨j', hj', e'⟩ := flow_case hd r (k := n + 1) (by omega)
  have hm := hj.mono hj' (by omega)
  have hjl := hj.le
  have hjl' := hj'.le
  rw [e] at g1 ⊢
  rw [e'] at g2 ⊢
  dsimp only at g1 g2 ⊢
  rw [if_pos (show ((n + 1 : Nat) : Int) - j' ≤ wrap64 ((n : Int) - j + 1) by unfold wrap64; omega), if_pos (show heldOf l w n ≥ (n : Int) - j from g1), if_pos (show heldOf l w (n + 1) ≥ heldOf l w n from g3), if_pos (show heldOf l w (n + 1) ≥ ((n + 1 : Nat) : Int) - j' from g2), decide_eq_true (by omega)]
end Go.Proofs.Ytkhlfdoeploddaa.PFlow
