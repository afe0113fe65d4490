/- The pure statement of FlowHeld. -/
import Derived.Test.YtkhlfdoeploddaaPFlowx22
import Derived.Test.YtkhlfdoeploddaaHFlowFlowA
namespace Go.Proofs.Ytkhlfdoeploddaa.PFlow
open Go.RowKit Go.Proofs.YtkhlfdoeploddaaW.PrintWords Go.Proofs.YtkhlfdoeploddaaW.PrintMore
set_option linter.unusedVariables false
set_option linter.unusedSimpArgs false
theorem held_loop {l : List S34} (hd : Dom l) {w : Int} (r : roomB l w = true) {k j : Nat} (hk : k ≤ l.length) (hjk : j < k) (h6 : (gB l j).f0 = 6) (hsum : sumC l j (k - j) ≤ w) (hg : (k : Int) - j ≤ heldOf l w k) :
    ∀ (d i K : Nat), i + d = k → j ≤ i → 1099511627776 + l.length + 10 + d ≤ K → copperplatelaw19_FlowHeld.l0 K l w (k : Int) ((k : Int) - j) (sumC l j (i - j)) (i : Int) = some true
  | 0, i, K + 1, hi, hj, hK => by
    obtain rfl : i = k := by omega
    have hl := (roomB_true.1 r).1.len
    have e : wrap64 ((i : Int) - ((i : Int) - j)) = (j : Int) := by unfold wrap64; omega
    rw [copperplatelaw19_FlowHeld.l0, if_neg (by omega), e, if_pos (by omega), if_pos (by omega), rd_gB, if_pos h6, if_pos hsum, hd.held w (i : Int) (by omega), if_pos ⟨r, by omega, by omega⟩, Int.toNat_natCast, Option.bind_some, decide_eq_true (show heldOf l w i ≥ (i : Int) - j from hg)]
  | d + 1, i, K + 1, hi, hj, hK => by
    have hl := (roomB_true.1 r).1.len
    have hs := sumC_bd hd.small j (i - j)
    have hc := colA_bd hd.small i
    have hz := bulkB_le_q (by have := hd.bulk; omega) (show i < l.length by omega)
    have hf := flatOf_size2 (gB l i).f0 (gB l i).f1
    have e : wrap64 (sumC l j (i - j) + colsOf (flatOf (gB l i).f0 (gB l i).f1).1) = sumC l j (i + 1 - j) := by
      rw [show i + 1 - j = i - j + 1 by omega, sumC, show j + (i - j) = i by omega]
      show wrap64 (sumC l j (i - j) + colA l i) = _
      unfold wrap64; omega
    rw [copperplatelaw19_FlowHeld.l0, if_pos (by omega), if_pos (by omega), if_pos (by omega), rd_gB, flat_f, Option.bind_some, cols_f _ (by omega) K (by omega), Option.bind_some, e, show wrap64 ((i : Int) + 1) = ((i + 1 : Nat) : Int) by unfold wrap64; omega]
    exact held_loop hd r hk hjk h6 hsum hg d (i + 1) K (by omega) (by omega) (by omega)
  | _, _, 0, _, _, hK => by omega
theorem _root_.Go.Proofs.Ytkhlfdoeploddaa.Pure.FlowHeld : copperplatelaw19_FlowHeld.PureUp := by
  intro l w k hl16 ht hw hk hb
  have hsm := small_of ht
  rw [← bulk_sum] at hb
  have hd : Dom l := ⟨by omega, hsm, by omega⟩
  obtain ⟨K, hK⟩ : ∃ K, K = 1099511627776 + 2 * l.length + 20 := ⟨_, rfl⟩
  refine ⟨K + 2, ?_⟩
  unfold copperplatelaw19_FlowHeld.f copperplatelaw19_awake.f
  rw [Option.bind_some, if_pos rfl]
  by_cases c2 : (l.length : Int) > 60
  · rw [if_pos c2]; rfl
  rw [if_neg c2]
  by_cases k0 : k < 0
  · rw [if_pos k0]; rfl
  rw [if_neg k0]
  by_cases k1 : k > (l.length : Int)
  · rw [decide_eq_true k1]; rfl
  obtain ⟨n, rfl⟩ := Int.eq_ofNat_of_zero_le (show 0 ≤ k by omega)
  rw [decide_eq_false k1, copperplatelaw19_FlowHeld.j0, if_neg (by decide)]
  by_cases r : roomB l w = true
  rotate_left
  · rw [hd.flow, if_neg (fun h => r h.1), Option.bind_some, if_neg (by decide), copperplatelaw19_FlowHeld.j1, if_pos rfl, if_neg (by decide)]
  obtain ⟨j, hj, e⟩ := flow_case hd r (k := n) (by omega)
  have hjl := hj.le
  have hg := held_ge l w n
  rw [hd.flow_yes r (by omega), e, Option.bind_some, if_pos rfl]
  rw [e] at hg
  dsimp only at hg ⊢
  rw [if_neg (by omega), if_neg (by omega)]
  by_cases z : j = n
  · subst z
    rw [Int.sub_self, copperplatelaw19_FlowHeld.j1, if_pos (by decide), if_pos rfl]; rfl
  · obtain ⟨_, m, hm, hu⟩ := hj.stop (by omega)
    have hok := okP (roomB_true.1 r).1 w j (by omega)
    have hc0 := hok.col0
    rw [show ((n : Int) - j == 0) = false from beq_eq_false_iff_ne.2 (by omega), copperplatelaw19_FlowHeld.j1, if_neg (by decide), show wrap64 ((n : Int) - ((n : Int) - j)) = (j : Int) by unfold wrap64; omega]
    have := held_loop hd r (show n ≤ l.length by omega) (show j < n by omega) hm.op (by have := hu.2; omega) hg (n - j) j K (by omega) (Nat.le_refl _) (by omega)
    rwa [Nat.sub_self] at this
end Go.Proofs.Ytkhlfdoeploddaa.PFlow
