/- The pure statement of DepthAt. -/
import Derived.Test.YtfpihmjdcneheaaPDepthx7
import Derived.Test.YtfpihmjdcneheaaPureDepthLib
namespace Go.Proofs.Ytfpihmjdcneheaa.PDepth
open Go.RowKit Go.Proofs.YtfpihmjdcneheaaW.PrintWords
set_option linter.unusedVariables false
set_option linter.unusedSimpArgs false

theorem _root_.Go.Proofs.Ytfpihmjdcneheaa.Pure.DepthAt : copperplatelaw15_DepthAt.Pure := by
  intro l d hl _ hd
  have hd := wf64 hd
  refine ⟨10, ?_⟩
  unfold copperplatelaw15_DepthAt.f copperplatelaw15_awake.f
  rw [Option.bind_some, if_pos rfl]
  by_cases h3 : (l.length : Int) > 300
  · rw [if_pos h3, copperplatelaw15_DepthAt.j0, if_pos rfl]
  rw [if_neg h3]
  by_cases h0 : d < 0
  · rw [if_pos h0, copperplatelaw15_DepthAt.j0, if_pos rfl]
  rw [if_neg h0]
  by_cases h1 : d > 1000
  · rw [decide_eq_true h1, copperplatelaw15_DepthAt.j0, if_pos rfl]
  rw [decide_eq_false h1, copperplatelaw15_DepthAt.j0, if_neg (by decide)]
  have wd : wrap64 (d + 1) = d + 1 := w64 (by omega) (by omega)
  rw [wd, at_f (by omega), at_f (by omega), depth_f (by omega), Option.bind_some, Option.bind_some, Option.bind_some]
  have mono : ∀ j, atP l (d + 1) j = true → atP l d j = true := by
    intro j h
    unfold atP at h ⊢
    simp only [Bool.and_eq_true, decide_eq_true_eq] at h ⊢
    omega
  rcases atOf_cases l d with ⟨e, hno⟩ | ⟨k, hk, e, hk1, hk2⟩
  · rw [e, if_neg (by omega), if_neg (by omega)]
    have hm : ¬ maxTo l l.length > d := by
      intro hgt
      obtain ⟨j, hj, ej⟩ := maxTo_at l l.length
      obtain ⟨i, hi, ei⟩ := crossed l d (by omega) j hj (by omega)
      rw [hno i (by omega)] at ei
      exact absurd ei (by decide)
    rw [decide_eq_false hm, copperplatelaw15_DepthAt.j1]
    rw [if_neg (by decide), if_pos rfl]
    rcases atOf_cases l (d + 1) with ⟨e', -⟩ | ⟨m, hm, -, hm1, -⟩
    · rw [e']; rfl
    · have := hno m hm
      rw [mono m hm1] at this
      exact absurd this (by decide)
  · have hP := hk1
    unfold atP at hP
    simp only [Bool.and_eq_true, decide_eq_true_eq] at hP
    have hge := maxTo_ge l l.length (k + 1) (by omega)
    have hbelow : ∀ j, j ≤ k → sumTo l j ≤ d := by
      intro j hj
      refine Classical.byContradiction fun hn => ?_
      obtain ⟨i, hi, ei⟩ := crossed l d (by omega) j (by omega) (by omega)
      rw [hk2 i (by omega)] at ei
      exact absurd ei (by decide)
    have hs := sumTo_succ l k hk
    have hb := byOf_bd (rd l k)
    have hkk := hbelow k (by omega)
    have hends : sumTo l (k + 1) = d + 1 := by omega
    rw [e, if_neg (by omega), if_neg (by omega), decide_eq_true (show (k : Int) ≥ 0 by omega), decide_eq_true (show maxTo l l.length > d by omega), copperplatelaw15_DepthAt.j1]
    have wk : wrap64 ((k : Int) + 1) = ((k + 1 : Nat) : Int) := by unfold wrap64; omega
    have t1 : (l.take k).length = k := by rw [List.length_take]; omega
    have t2 : (l.take (k + 1)).length = k + 1 := by rw [List.length_take]; omega
    rw [if_neg (by decide), if_neg (by omega), if_pos (by omega), if_pos (by omega), Int.toNat_natCast, depth_f (by omega), Option.bind_some, t1, maxTo_take l k k (by omega)]
    rw [if_pos (maxTo_le l k d hbelow), wk, if_pos (by omega), if_pos (by omega), Int.toNat_natCast, ends_f (by omega), Option.bind_some, t2, sumTo_take l (k + 1) (k + 1) (by omega), wd, if_pos hends, depth_f (by omega), Option.bind_some, t2, maxTo_take l (k + 1) (k + 1) (by omega)]
    have hmx : maxTo l (k + 1) = d + 1 := by
      have a := maxTo_ge l (k + 1) (k + 1) (by omega)
      have b : maxTo l (k + 1) ≤ d + 1 := maxTo_le l (k + 1) (d + 1) fun j hj => by
        by_cases h : j ≤ k
        · have := hbelow j h; omega
        · obtain rfl : j = k + 1 := by omega
          omega
      omega
    rw [if_pos hmx]
    rcases atOf_cases l (d + 1) with ⟨e', -⟩ | ⟨m, hm, e', hm1, -⟩
    · rw [e', if_pos rfl]
    · rw [e', if_neg (by omega), decide_eq_true]
      refine Classical.byContradiction fun hn => ?_
      by_cases hmk : m < k
      · have := hk2 m hmk
        rw [mono m hm1] at this
        exact absurd this (by decide)
      · obtain rfl : m = k := by omega
        unfold atP at hm1
        simp only [Bool.and_eq_true, decide_eq_true_eq] at hm1
        omega
end Go.Proofs.Ytfpihmjdcneheaa.PDepth
