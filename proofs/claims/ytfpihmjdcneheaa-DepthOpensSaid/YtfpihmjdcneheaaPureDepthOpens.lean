/- The pure statement of DepthOpens. -/
import Derived.Test.YtfpihmjdcneheaaPDepthx8
import Derived.Test.YtfpihmjdcneheaaPureDepthLib
namespace Go.Proofs.Ytfpihmjdcneheaa.PDepth
open Go.RowKit Go.Proofs.YtfpihmjdcneheaaW.PrintWords
set_option linter.unusedVariables false
set_option linter.unusedSimpArgs false

theorem rep_rd (n k : Nat) (h : k < n) : rd (List.replicate n (12 : Int)) (k : Int) = 12 := by
  unfold rd
  rw [Int.toNat_natCast, List.getD_eq_getElem?_getD, List.getElem?_replicate, if_pos h]
  rfl
theorem rep_sum (n k : Nat) (h : k ≤ n) : sumTo (List.replicate n 12) k = k := by
  induction k with
  | zero => exact sumTo_zero _
  | succ k ih =>
    have hr : rd (List.replicate n (12 : Int)) (k : Int) = 12 := rep_rd n k (by omega)
    rw [sumTo_succ _ _ (by rw [List.length_replicate]; omega), ih (by omega), hr]
    have : byOf 12 = 1 := by decide
    omega
theorem rep_at (n k : Nat) (d : Int) (h : k < n) : atP (List.replicate n 12) d k = decide (d < k + 1) := by
  unfold atP
  have hr : rd (List.replicate n (12 : Int)) (k : Int) = 12 := rep_rd n k (by omega)
  have : byOf 12 = 1 := by decide
  rw [rep_sum n (k + 1) (by omega), hr, this]
  simp
theorem opens_l (n : Nat) (d : Int) (hn : n ≤ 300) (hd : 0 ≤ d ∧ d ≤ 400) (m : Nat) : ∀ (k i : Nat), i + m = n → m < k → copperplatelaw15_DepthOpens.l0 k n d (List.replicate i 12) i = some true := by
  induction m with
  | zero =>
    intro k i hi hk
    obtain ⟨k, rfl⟩ : ∃ k', k = k' + 1 := ⟨k - 1, by omega⟩
    obtain rfl : i = n := by omega
    have hlen : (List.replicate i (12 : Int)).length = i := List.length_replicate
    rw [copperplatelaw15_DepthOpens.l0, if_neg (by omega), at_f (by omega), depth_f (by omega), ends_f (by omega), hlen]
    simp only [Option.bind_some]
    have e1 : maxTo (List.replicate i 12) i = i := by
      have a := maxTo_ge (List.replicate i 12) i i (by omega)
      rw [rep_sum i i (by omega)] at a
      have b : maxTo (List.replicate i 12) i ≤ i := maxTo_le _ _ _ fun j hj => by rw [rep_sum i j hj]; omega
      omega
    rw [if_pos e1, if_pos (rep_sum i i (by omega))]
    by_cases h : d < i
    · rw [if_pos h]
      have e2 : atOf (List.replicate i 12) d = (d.toNat : Nat) := atOf_of _ _ _ (by omega) (by rw [rep_at i _ d (by omega)]; exact decide_eq_true (by omega)) fun j hj => by rw [rep_at i j d (by omega)]; exact decide_eq_false (by omega)
      rw [if_pos (by omega)]
    · rw [if_neg h, if_pos (by omega)]
      have e2 : atOf (List.replicate i 12) d = -1 := atOf_none _ _ fun j hj => by rw [rep_at i j d (by omega)]; exact decide_eq_false (by omega)
      rw [e2]; rfl
  | succ m ih =>
    intro k i hi hk
    obtain ⟨k, rfl⟩ : ∃ k', k = k' + 1 := ⟨k - 1, by omega⟩
    have w1 : wrap64 ((i : Int) + 1) = ((i + 1 : Nat) : Int) := by unfold wrap64; omega
    rw [copperplatelaw15_DepthOpens.l0, if_pos (by omega), if_pos (by rw [List.length_replicate]; omega), w1, ← List.replicate_succ']
    exact ih k (i + 1) (by omega) (by omega)
theorem _root_.Go.Proofs.Ytfpihmjdcneheaa.Pure.DepthOpens : copperplatelaw15_DepthOpens.Pure := by
  intro n d hn hd
  refine ⟨1000, ?_⟩
  unfold copperplatelaw15_DepthOpens.f copperplatelaw15_awake.f
  rw [Option.bind_some, if_pos rfl]
  by_cases h1 : n < 0
  · rw [if_pos h1, copperplatelaw15_DepthOpens.j0, if_pos rfl]
  rw [if_neg h1]
  by_cases h2 : n > 300
  · rw [if_pos h2, copperplatelaw15_DepthOpens.j0, if_pos rfl]
  rw [if_neg h2]
  by_cases h3 : d < 0
  · rw [if_pos h3, copperplatelaw15_DepthOpens.j0, if_pos rfl]
  rw [if_neg h3]
  by_cases h4 : d > 400
  · rw [decide_eq_true h4, copperplatelaw15_DepthOpens.j0, if_pos rfl]
  rw [decide_eq_false h4, copperplatelaw15_DepthOpens.j0, if_neg (by decide)]
  obtain ⟨m, rfl⟩ := Int.eq_ofNat_of_zero_le (show 0 ≤ n by omega)
  exact opens_l m d (by omega) (by omega) m _ 0 (by omega) (by omega)
end Go.Proofs.Ytfpihmjdcneheaa.PDepth
