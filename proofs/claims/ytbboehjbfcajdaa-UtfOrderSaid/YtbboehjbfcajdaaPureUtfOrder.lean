/- The pure statement of UtfOrder. -/
import Derived.Test.YtbboehjbfcajdaaPUtfx12
import Derived.Test.YtbboehjbfcajdaaPureUtfLib
namespace Go.Proofs.Ytbboehjbfcajdaa.Pure
open Go.RowKit Go.Proofs.Ytbboehjbfcajdaa.PUtf Go.Proofs.YtbboehjbfcajdaaW.PrintWords
set_option linter.unusedVariables false
set_option linter.unusedSimpArgs false

def lessN : List Nat → List Nat → Bool
  | _, [] => false
  | [], _ :: _ => true
  | a :: x, b :: y => decide (a < b) || (a == b && lessN x y)
theorem lessN_nil (l : List Nat) : lessN l [] = false := by cases l <;> rfl
theorem less_map : ∀ (l m : List Nat), (∀ x ∈ l, x < 256) → (∀ x ∈ m, x < 256) → Op.bytesLess (l.map UInt8.ofNat) (m.map UInt8.ofNat) = lessN l m
  | l, [], _, _ => by cases l <;> rfl
  | [], _ :: _, _, _ => rfl
  | a :: x, b :: y, h1, h2 => by
    have ha := h1 a (by simp)
    have hb := h2 b (by simp)
    have e1 : (UInt8.ofNat a < UInt8.ofNat b) ↔ a < b := by rw [UInt8.lt_iff_toNat_lt, u8, u8]; omega
    have e2 : (UInt8.ofNat a == UInt8.ofNat b) = (a == b) := by
      rw [Bool.eq_iff_iff, beq_iff_eq, beq_iff_eq, ← UInt8.toNat_inj, u8, u8]; omega
    rw [List.map_cons, List.map_cons, Op.bytesLess, lessN, e2, less_map x y (fun z hz => h1 z (by simp [hz])) (fun z hz => h2 z (by simp [hz]))]
    congr 1
    exact decide_eq_decide.2 e1
theorem cL_lt {n : Nat} (h : n ≤ 1114111) : ∀ x ∈ cL n, x < 256 := by
  unfold cL
  intro x hx
  split at hx
  · simp only [List.mem_cons, List.not_mem_nil, or_false] at hx; omega
  split at hx
  · simp only [List.mem_cons, List.not_mem_nil, or_false] at hx; omega
  split at hx
  · simp only [List.mem_cons, List.not_mem_nil, or_false] at hx; omega
  · simp only [List.mem_cons, List.not_mem_nil, or_false] at hx; omega
theorem less_cL {a b : Nat} (ha : a ≤ 1114111) (hb : b ≤ 1114111) : lessN (cL a) (cL b) = decide (a < b) := by
  rw [Bool.eq_iff_iff, decide_eq_true_eq]
  unfold cL
  by_cases a1 : a < 128
  · rw [if_pos a1]
    by_cases b1 : b < 128
    · rw [if_pos b1]; simp only [lessN, lessN_nil, Bool.or_eq_true, Bool.and_eq_true, decide_eq_true_eq, beq_iff_eq, Bool.false_eq_true, and_false, or_false, false_or, false_iff, iff_false, true_iff, and_true] <;> omega
    rw [if_neg b1]
    by_cases b2 : b < 2048
    · rw [if_pos b2]; simp only [lessN, lessN_nil, Bool.or_eq_true, Bool.and_eq_true, decide_eq_true_eq, beq_iff_eq, Bool.false_eq_true, and_false, or_false, false_or, false_iff, iff_false, true_iff, and_true] <;> omega
    rw [if_neg b2]
    by_cases b3 : b < 65536
    · rw [if_pos b3]; simp only [lessN, lessN_nil, Bool.or_eq_true, Bool.and_eq_true, decide_eq_true_eq, beq_iff_eq, Bool.false_eq_true, and_false, or_false, false_or, false_iff, iff_false, true_iff, and_true] <;> omega
    · rw [if_neg b3]; simp only [lessN, lessN_nil, Bool.or_eq_true, Bool.and_eq_true, decide_eq_true_eq, beq_iff_eq, Bool.false_eq_true, and_false, or_false, false_or, false_iff, iff_false, true_iff, and_true] <;> omega
  rw [if_neg a1]
  by_cases a2 : a < 2048
  · rw [if_pos a2]
    by_cases b1 : b < 128
    · rw [if_pos b1]; simp only [lessN, lessN_nil, Bool.or_eq_true, Bool.and_eq_true, decide_eq_true_eq, beq_iff_eq, Bool.false_eq_true, and_false, or_false, false_or, false_iff, iff_false, true_iff, and_true] <;> omega
    rw [if_neg b1]
    by_cases b2 : b < 2048
    · rw [if_pos b2]; simp only [lessN, lessN_nil, Bool.or_eq_true, Bool.and_eq_true, decide_eq_true_eq, beq_iff_eq, Bool.false_eq_true, and_false, or_false, false_or, false_iff, iff_false, true_iff, and_true] <;> omega
    rw [if_neg b2]
    by_cases b3 : b < 65536
    · rw [if_pos b3]; simp only [lessN, lessN_nil, Bool.or_eq_true, Bool.and_eq_true, decide_eq_true_eq, beq_iff_eq, Bool.false_eq_true, and_false, or_false, false_or, false_iff, iff_false, true_iff, and_true] <;> omega
    · rw [if_neg b3]; simp only [lessN, lessN_nil, Bool.or_eq_true, Bool.and_eq_true, decide_eq_true_eq, beq_iff_eq, Bool.false_eq_true, and_false, or_false, false_or, false_iff, iff_false, true_iff, and_true] <;> omega
  rw [if_neg a2]
  by_cases a3 : a < 65536
  · rw [if_pos a3]
    by_cases b1 : b < 128
    · rw [if_pos b1]; simp only [lessN, lessN_nil, Bool.or_eq_true, Bool.and_eq_true, decide_eq_true_eq, beq_iff_eq, Bool.false_eq_true, and_false, or_false, false_or, false_iff, iff_false, true_iff, and_true] <;> omega
    rw [if_neg b1]
    by_cases b2 : b < 2048
    · rw [if_pos b2]; simp only [lessN, lessN_nil, Bool.or_eq_true, Bool.and_eq_true, decide_eq_true_eq, beq_iff_eq, Bool.false_eq_true, and_false, or_false, false_or, false_iff, iff_false, true_iff, and_true] <;> omega
    rw [if_neg b2]
    by_cases b3 : b < 65536
    · rw [if_pos b3]; simp only [lessN, lessN_nil, Bool.or_eq_true, Bool.and_eq_true, decide_eq_true_eq, beq_iff_eq, Bool.false_eq_true, and_false, or_false, false_or, false_iff, iff_false, true_iff, and_true] <;> omega
    · rw [if_neg b3]; simp only [lessN, lessN_nil, Bool.or_eq_true, Bool.and_eq_true, decide_eq_true_eq, beq_iff_eq, Bool.false_eq_true, and_false, or_false, false_or, false_iff, iff_false, true_iff, and_true] <;> omega
  · rw [if_neg a3]
    by_cases b1 : b < 128
    · rw [if_pos b1]; simp only [lessN, lessN_nil, Bool.or_eq_true, Bool.and_eq_true, decide_eq_true_eq, beq_iff_eq, Bool.false_eq_true, and_false, or_false, false_or, false_iff, iff_false, true_iff, and_true] <;> omega
    rw [if_neg b1]
    by_cases b2 : b < 2048
    · rw [if_pos b2]; simp only [lessN, lessN_nil, Bool.or_eq_true, Bool.and_eq_true, decide_eq_true_eq, beq_iff_eq, Bool.false_eq_true, and_false, or_false, false_or, false_iff, iff_false, true_iff, and_true] <;> omega
    rw [if_neg b2]
    by_cases b3 : b < 65536
    · rw [if_pos b3]; simp only [lessN, lessN_nil, Bool.or_eq_true, Bool.and_eq_true, decide_eq_true_eq, beq_iff_eq, Bool.false_eq_true, and_false, or_false, false_or, false_iff, iff_false, true_iff, and_true] <;> omega
    · rw [if_neg b3]; simp only [lessN, lessN_nil, Bool.or_eq_true, Bool.and_eq_true, decide_eq_true_eq, beq_iff_eq, Bool.false_eq_true, and_false, or_false, false_or, false_iff, iff_false, true_iff, and_true] <;> omega
theorem UtfOrder : copperplatelaw02_UtfOrder.Pure := by
  intro a b _ _
  unfold copperplatelaw02_UtfOrder.f copperplatelaw02_awake.f utf_Put.f
  simp only [Option.bind_some, if_true, ByteArray.toList_eq]
  rcases put_data a with ⟨n, rfl, hn, e⟩ | ⟨-, e⟩
  rotate_left
  · rw [e]; simp
  rcases put_data b with ⟨m, rfl, hm, e'⟩ | ⟨-, e'⟩
  rotate_left
  · rw [e']; simp
  rw [e, e']
  have h1 := encL_bd n
  have h2 := encL_bd m
  have h3 : ¬ encL n = [] := by intro h; rw [h] at h1; simp at h1
  have h4 : ¬ encL m = [] := by intro h; rw [h] at h2; simp at h2
  rw [if_neg h3, if_neg h4]
  have e5 : Op.bytesLess (encL n) (encL m) = decide ((n : Int) < (m : Int)) := by
    unfold encL
    rw [less_map _ _ (cL_lt (isN_le hn).2) (cL_lt (isN_le hm).2), less_cL (isN_le hn).2 (isN_le hm).2]
    exact decide_eq_decide.2 (by omega)
  have e6 : (encL n == encL m) = ((n : Int) == (m : Int)) := by
    rw [Bool.eq_iff_iff, beq_iff_eq, beq_iff_eq]
    constructor
    · intro h
      have := encL_inj (l := []) (r := []) hn hm (by rw [h])
      omega
    · intro h
      have : n = m := by omega
      rw [this]
  rw [e5, e6]
  simp
end Go.Proofs.Ytbboehjbfcajdaa.Pure
