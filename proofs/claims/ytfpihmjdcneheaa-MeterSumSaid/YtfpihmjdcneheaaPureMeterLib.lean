/- Closed forms of the functions that the meter's laws reach. -/
import Derived.Test.YtfpihmjdcneheaaHMeterMeterR
import Derived.Test.YtfpihmjdcneheaaHMeterMeterA
import Derived.Test.YtfpihmjdcneheaaPMeterx3
import Derived.Test.YtfpihmjdcneheaaPMeterx8
namespace Go.Proofs.Ytfpihmjdcneheaa.PMeter
open Go.RowKit Go.Proofs.YtfpihmjdcneheaaW.PrintWords
set_option linter.unusedVariables false

theorem wf64 {x : Int} (h : (Lit.int .i64 x).wf = true) : -9223372036854775808 ≤ x ∧ x ≤ 9223372036854775807 := by
  simp [Lit.wf, IntKind.min, IntKind.max, IntKind.signed, IntKind.bits] at h
  omega
theorem mul_bd {s m : Int} (h0 : 0 ≤ s) (h1 : s ≤ 1048576) (h2 : 0 ≤ m) (h3 : m ≤ 1048577) : 0 ≤ s * m ∧ s * m ≤ 1099512676352 := by
  constructor
  · exact Int.mul_nonneg h0 h2
  · have := Int.mul_le_mul h1 h3 h2 (by omega : (0:Int) ≤ 1048576)
    omega
theorem w64 {x : Int} (h : -9223372036854775808 ≤ x) (h2 : x ≤ 9223372036854775807) : wrap64 x = x := by unfold wrap64; omega
def Mayp (a b : Int) : Prop := 0 ≤ a ∧ a ≤ 1099511627776 ∧ 0 ≤ b ∧ b ≤ 1099511627776
instance (a b : Int) : Decidable (Mayp a b) := by unfold Mayp; infer_instance
def Wip (a b n s c : Int) : Prop := Mayp a b ∧ (0 ≤ n ∧ n ≤ 1048576) ∧ (0 ≤ s ∧ s ≤ 1048576) ∧ (0 ≤ c ∧ c ≤ 1048576) ∧ a ≤ s * (n + 1) ∧ b ≤ c * (n + 1)
instance (a b n s c : Int) : Decidable (Wip a b n s c) := by unfold Wip; infer_instance
theorem mayp_f (a b : Int) : meter_May.f a b = some (decide (Mayp a b)) := by rw [may_f]; rfl
theorem rmayp_f (a b : Int) : copperplateref01_May.f a b = some (decide (Mayp a b)) := by rw [rmay_f]; rfl
theorem sump_f (k : Nat) (a b c d : Int) : meter_Sum.f (k + 1) a b c d = some (if Mayp a b ∧ Mayp c d then (cnt a b c, cnt b (cnt a b c) d) else (0, 0)) := by rw [sum_f]; rfl
theorem within_f (a b n s c : Int) : meter_Within.f a b n s c = some (decide (Wip a b n s c)) := by
  unfold meter_Within.f
  rw [mayp_f]
  by_cases hm : Mayp a b
  · by_cases hn : 0 ≤ n ∧ n ≤ 1048576
    · by_cases hs : 0 ≤ s ∧ s ≤ 1048576
      · by_cases hc : 0 ≤ c ∧ c ≤ 1048576
        · have e1 : wrap64 (n + 1) = n + 1 := w64 (by omega) (by omega)
          have b1 := mul_bd hs.1 hs.2 (m := n + 1) (by omega) (by omega)
          have b2 := mul_bd hc.1 hc.2 (m := n + 1) (by omega) (by omega)
          have e2 : wrap64 (s * (n + 1)) = s * (n + 1) := w64 (by omega) (by omega)
          have e3 : wrap64 (c * (n + 1)) = c * (n + 1) := w64 (by omega) (by omega)
          simp only [Wip, hm, hn, hs, hc, meter_in.f, e1, e2, e3]
          by_cases h5 : a ≤ s * (n + 1) <;> by_cases h6 : b ≤ c * (n + 1) <;> simp [h5, h6]
        · have : ¬ (0 ≤ c ∧ c ≤ 1048576) := hc
          simp only [Wip, hm, hn, hs, meter_in.f]
          by_cases h5 : 0 ≤ c <;> by_cases h6 : c ≤ 1048576 <;> simp [h5, h6] <;> omega
      · simp only [Wip, hm, hn, meter_in.f]
        by_cases h5 : 0 ≤ s <;> by_cases h6 : s ≤ 1048576 <;> simp [h5, h6] <;> omega
    · simp only [Wip, hm, meter_in.f]
      by_cases h5 : 0 ≤ n <;> by_cases h6 : n ≤ 1048576 <;> simp [h5, h6] <;> omega
  · have e : decide (Mayp a b) = false := by simpa using hm
    have e2 : decide (Wip a b n s c) = false := by simp only [decide_eq_false_iff_not]; exact fun h => hm h.1
    rw [e2]
    show (some (decide (Mayp a b))).bind _ = _
    rw [e]; rfl
theorem rwithin_f (a b n s c : Int) : copperplateref01_Within.f a b n s c = some (decide (Wip a b n s c)) := by
  unfold copperplateref01_Within.f
  rw [rmayp_f]
  by_cases hm : Mayp a b
  · by_cases hn : 0 ≤ n ∧ n ≤ 1048576
    · by_cases hs : 0 ≤ s ∧ s ≤ 1048576
      · by_cases hc : 0 ≤ c ∧ c ≤ 1048576
        · have b1 := mul_bd hs.1 hs.2 (m := n) (by omega) (by omega)
          have b2 := mul_bd hc.1 hc.2 (m := n) (by omega) (by omega)
          have e1 : wrap64 (s * n) = s * n := w64 (by omega) (by omega)
          have e1' : wrap64 (c * n) = c * n := w64 (by omega) (by omega)
          have e2 : wrap64 (s * n + s) = s * (n + 1) := by rw [w64 (by omega) (by omega), Int.mul_add, Int.mul_one]
          have e3 : wrap64 (c * n + c) = c * (n + 1) := by rw [w64 (by omega) (by omega), Int.mul_add, Int.mul_one]
          simp only [Wip, hm, hn, hs, hc, e1, e1', e2, e3]
          rw [if_neg (by omega), if_neg (by omega), if_neg (by omega), if_neg (by omega), if_neg (by omega), if_neg (by omega)]
          by_cases h5 : a ≤ s * (n + 1) <;> by_cases h6 : b ≤ c * (n + 1) <;> simp [h5, h6]
        · have e2 : decide (Wip a b n s c) = false := by simp only [decide_eq_false_iff_not]; exact fun h => hc h.2.2.2.1
          rw [e2]
          simp only [hm, Option.bind_some, decide_true, and_self, if_true]
          rw [if_neg (by omega), if_neg (by omega), if_neg (by omega), if_neg (by omega)]
          by_cases h5 : c < 0
          · rw [if_pos h5]
          · rw [if_neg h5, if_pos (by omega)]
      · have e2 : decide (Wip a b n s c) = false := by simp only [decide_eq_false_iff_not]; exact fun h => hs h.2.2.1
        rw [e2]
        simp only [hm, Option.bind_some, decide_true, and_self, if_true]
        rw [if_neg (by omega), if_neg (by omega)]
        by_cases h5 : s < 0
        · rw [if_pos h5]
        · rw [if_neg h5, if_pos (by omega)]
    · have e2 : decide (Wip a b n s c) = false := by simp only [decide_eq_false_iff_not]; exact fun h => hn h.2.1
      rw [e2]
      simp only [hm, Option.bind_some, decide_true, and_self, if_true]
      by_cases h5 : n < 0
      · rw [if_pos h5]
      · rw [if_neg h5, if_pos (by omega)]
  · have e : decide (Mayp a b) = false := by simpa using hm
    have e2 : decide (Wip a b n s c) = false := by simp only [decide_eq_false_iff_not]; exact fun h => hm h.1
    rw [e2]
    show (some (decide (Mayp a b))).bind _ = _
    rw [e]; rfl
theorem rsum_f (k : Nat) (a b c d : Int) : copperplateref01_Sum.f (k + 1) a b c d = some (if Mayp a b ∧ Mayp c d then (cnt a b c, cnt b (cnt a b c) d) else (0, 0)) := by
  unfold copperplateref01_Sum.f
  rw [rmayp_f, rmayp_f]
  by_cases h : Mayp a b
  · by_cases h2 : Mayp c d
    · have e1 := rmore_f a c (by unfold Mayp at h h2; omega) (by unfold Mayp at h h2; omega) (by unfold Mayp at h h2; omega)
      have e2 := rmore_f b d (by unfold Mayp at h h2; omega) (by unfold Mayp at h h2; omega) (by unfold Mayp at h h2; omega)
      have c1 : cnt a b c = if c ≤ 1099511627776 - a then a + c else 1099511627776 := by unfold Mayp at h h2; unfold cnt; rw [if_pos (by omega)]
      have c0 : 0 ≤ cnt a b c ∧ cnt a b c ≤ 1099511627776 := by unfold Mayp at h h2; rw [c1]; split <;> omega
      have c2 : cnt b (cnt a b c) d = if d ≤ 1099511627776 - b then b + d else 1099511627776 := by unfold Mayp at h h2; unfold cnt at c0 ⊢; rw [if_pos (by omega)]
      rw [if_pos ⟨h, h2⟩, c2, c1]
      simp only [h, h2, decide_true, Option.bind_some, copperplateref01_Sum.j0, and_self, if_true, Bool.not_true, Bool.false_eq_true, if_false, e1, e2]
    · simp [h, h2, copperplateref01_Sum.j0]
  · by_cases h2 : Mayp c d <;> simp [h, h2, copperplateref01_Sum.j0]
theorem cnt_bd (a b n : Int) (h : Mayp a b) : 0 ≤ cnt a b n ∧ cnt a b n ≤ 1099511627776 ∧ a ≤ cnt a b n := by
  unfold Mayp at h
  unfold cnt
  by_cases hn : 0 ≤ n
  · rw [if_pos (by omega)]; split <;> omega
  · rw [if_neg (by omega)]; omega
theorem cnt_yes {a b n : Int} (h : Mayp a b) (hn : 0 ≤ n) : cnt a b n = if n ≤ 1099511627776 - a then a + n else 1099511627776 := by unfold Mayp at h; unfold cnt; rw [if_pos (by omega)]
theorem cnt_no {a b n : Int} (h : ¬ (Mayp a b ∧ 0 ≤ n)) : cnt a b n = a := by unfold Mayp at h; unfold cnt; rw [if_neg (by omega)]
end Go.Proofs.Ytfpihmjdcneheaa.PMeter
