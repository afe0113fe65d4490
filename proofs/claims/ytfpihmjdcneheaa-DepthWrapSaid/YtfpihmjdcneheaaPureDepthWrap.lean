/- The pure statement of DepthWrap. -/
import Derived.Test.YtfpihmjdcneheaaPDepthx8
import Derived.Test.YtfpihmjdcneheaaPureDepthLib
namespace Go.Proofs.Ytfpihmjdcneheaa.PDepth
open Go.RowKit Go.Proofs.YtfpihmjdcneheaaW.PrintWords
set_option linter.unusedVariables false
set_option linter.unusedSimpArgs false

theorem one_sum (t : Int) : sumTo [t] 1 = byOf t := by simp [sumTo]
theorem one_max (t : Int) : maxTo [t] 1 = if 0 < byOf t then byOf t else 0 := by simp [maxTo, one_sum]
theorem byOf_zero {t : Int} (h : ¬ t = 4 ∧ ¬ t = 10 ∧ ¬ t = 12 ∧ ¬ t = 5 ∧ ¬ t = 11 ∧ ¬ t = 14) : byOf t = 0 := by
  unfold byOf
  rw [if_neg (by omega), if_neg (by omega)]
theorem wrap_two (l : List Int) (t : Int) (hl : l.length ≤ 300) (b : Bool) (hb : b = false → byOf t = 0) :
    copperplatelaw15_DepthWrap.j1 9 l ([4] ++ l ++ [5]) ([t] ++ l) b = some true := by
  have l1 : ([4] ++ l ++ [5]).length = 1 + l.length + 1 := by simp; omega
  have l1' : ([4] ++ l).length = 1 + l.length := by simp; omega
  have l2 : ([t] ++ l).length = 1 + l.length := by simp; omega
  have s1 := sumTo_bd l l.length (by omega)
  have m1 := maxTo_bd l
  have hs := maxTo_ge l l.length l.length (by omega)
  have b4 : byOf 4 = 1 := by decide
  have b5 : byOf 5 = -1 := by decide
  have a1 := sumTo_append [4] l l.length
  have a2 := maxTo_append [4] l
  have a3 := sumTo_append ([4] ++ l) [5] 1
  have a4 := maxTo_append ([4] ++ l) [5]
  have a5 := sumTo_append [t] l l.length
  have a6 := maxTo_append [t] l
  simp only [List.length_cons, List.length_nil, Nat.zero_add, one_sum, one_max, b4, b5] at a1 a2 a3 a4 a5 a6
  rw [l1'] at a3 a4
  rw [copperplatelaw15_DepthWrap.j1, depth_f (by omega), depth_f (by omega), ends_f (by omega), ends_f (by omega), depth_f (by omega), ends_f (by omega), l1, l2]
  simp only [Option.bind_some]
  have w1 : wrap64 (maxTo l l.length + 1) = maxTo l l.length + 1 := w64 (by omega) (by omega)
  rw [w1]
  have e1 : maxTo ([4] ++ l ++ [5]) (1 + l.length + 1) = maxTo l l.length + 1 := by
    rw [a4, a1, a2]
    have q : (if (0 : Int) < 1 then (1 : Int) else 0) = 1 := rfl
    have q2 : (if (0 : Int) < -1 then (-1 : Int) else 0) = 0 := rfl
    rw [q, q2]
    split <;> split at * <;> omega
  have e2 : sumTo ([4] ++ l ++ [5]) (1 + l.length + 1) = sumTo l l.length := by rw [a3, a1]; omega
  rw [if_pos e1, if_pos e2]
  cases b with
  | true => rfl
  | false =>
    have hz := hb rfl
    rw [hz] at a5 a6
    have e3 : maxTo ([t] ++ l) (1 + l.length) = maxTo l l.length := by
      rw [a6]
      split <;> rename_i h <;> simp at h ⊢ <;> omega
    have e4 : sumTo ([t] ++ l) (1 + l.length) = sumTo l l.length := by rw [a5]; omega
    rw [if_neg (by decide), if_pos e3, e4]
    simp
theorem _root_.Go.Proofs.Ytfpihmjdcneheaa.Pure.DepthWrap : copperplatelaw15_DepthWrap.Pure := by
  intro l t hl _ ht
  refine ⟨10, ?_⟩
  unfold copperplatelaw15_DepthWrap.f copperplatelaw15_awake.f
  rw [Option.bind_some, if_pos rfl, copperplatelaw15_DepthWrap.j0]
  by_cases h3 : (l.length : Int) > 300
  · rw [decide_eq_true h3, if_pos rfl]
  have hl' : l.length ≤ 300 := by omega
  rw [decide_eq_false h3, if_neg (by decide)]
  simp only [Option.bind_some]
  rw [if_pos (by simp; omega), if_pos (by simp; omega), if_pos (by simp; omega)]
  by_cases c1 : t = 4
  · rw [if_pos c1]; exact wrap_two l t hl' _ (by simp)
  rw [if_neg c1]
  by_cases c2 : t = 10
  · rw [if_pos c2]; exact wrap_two l t hl' _ (by simp)
  rw [if_neg c2]
  by_cases c3 : t = 12
  · rw [if_pos c3]; exact wrap_two l t hl' _ (by simp)
  rw [if_neg c3]
  by_cases c4 : t = 5
  · rw [if_pos c4]; exact wrap_two l t hl' _ (by simp)
  rw [if_neg c4]
  by_cases c5 : t = 11
  · rw [if_pos c5]; exact wrap_two l t hl' _ (by simp)
  rw [if_neg c5]
  refine wrap_two l t hl' _ fun h => byOf_zero ?_
  have : ¬ t = 14 := by simpa using h
  omega
end Go.Proofs.Ytfpihmjdcneheaa.PDepth
