/- Closed forms of the functions that the laws on depth reach: sums and greatest sums of a list's beginnings. -/
import Derived.Test.YtfpihmjdcneheaaHDepthDepthA
import Derived.Test.YtfpihmjdcneheaaPDepthx6
import Derived.Test.YtfpihmjdcneheaaPDepthx6
import Derived.Test.YtfpihmjdcneheaaPDepthx6
namespace Go.Proofs.Ytfpihmjdcneheaa.PDepth
open Go.RowKit Go.Proofs.YtfpihmjdcneheaaW.PrintWords
set_option linter.unusedVariables false

theorem w64 {x : Int} (h : -9223372036854775808 ≤ x) (h2 : x ≤ 9223372036854775807) : wrap64 x = x := by unfold wrap64; omega
theorem wf64 {x : Int} (h : (Lit.int .i64 x).wf = true) : -9223372036854775808 ≤ x ∧ x ≤ 9223372036854775807 := by
  simp [Lit.wf, IntKind.min, IntKind.max, IntKind.signed, IntKind.bits] at h
  omega
theorem opens_f (t : Int) : copperplateref15_opens.f t = some (decide (t = 4 ∨ t = 10 ∨ t = 12)) := by
  unfold copperplateref15_opens.f
  by_cases h1 : t = 4
  · simp [h1]
  by_cases h2 : t = 10
  · simp [h2]
  simp [h1, h2]
  rfl
theorem closes_f (t : Int) : copperplateref15_closes.f t = some (decide (t = 5 ∨ t = 11 ∨ t = 14)) := by
  unfold copperplateref15_closes.f
  by_cases h1 : t = 5
  · simp [h1]
  by_cases h2 : t = 11
  · simp [h2]
  simp [h1, h2]
  rfl
theorem open_iff (t : Int) : (t = 4 ∨ t = 10 ∨ t = 12) ↔ 0 < byOf t := by
  unfold byOf
  constructor
  · intro h; rw [if_pos h]; omega
  · intro h
    by_cases h1 : t = 4 ∨ t = 10 ∨ t = 12
    · exact h1
    · rw [if_neg h1] at h; split at h <;> omega
theorem rends_l (l : List Int) (hl : l.length ≤ 17592186044416) (d : Nat) : ∀ (k i : Nat), i + d = l.length → d < k → copperplateref15_Ends.l0 k l (sumTo l i) i = some (sumTo l l.length) := by
  induction d with
  | zero =>
    intro k i hi hk
    obtain ⟨k, rfl⟩ : ∃ m, k = m + 1 := ⟨k - 1, by omega⟩
    obtain rfl : i = l.length := by omega
    simp only [copperplateref15_Ends.l0]
    rw [if_neg (by omega)]
  | succ d ih =>
    intro k i hi hk
    obtain ⟨k, rfl⟩ : ∃ m, k = m + 1 := ⟨k - 1, by omega⟩
    have h1 := ih k (i + 1) (by omega) (by omega)
    have b := sumTo_bd l i (by omega)
    have hs := sumTo_succ l i (by omega)
    have e1 : wrap64 ((i : Int) + 1) = ((i + 1 : Nat) : Int) := by rw [w64 (by omega) (by omega)]; omega
    simp only [copperplateref15_Ends.l0]
    rw [if_pos (by omega), if_pos (by omega), opens_f, closes_f, e1]
    simp only [Option.bind_some, decide_eq_true_eq]
    unfold byOf at hs
    by_cases o : rd l i = 4 ∨ rd l i = 10 ∨ rd l i = 12
    · rw [if_pos o, if_neg (by omega), w64 (by omega) (by omega)]
      rw [if_pos o] at hs
      rw [← hs]; exact h1
    · rw [if_neg o] at hs
      rw [if_neg o]
      by_cases c : rd l i = 5 ∨ rd l i = 11 ∨ rd l i = 14
      · rw [if_pos c] at hs
        rw [if_pos c, w64 (by omega) (by omega), show sumTo l i - 1 = sumTo l (i + 1) by omega]; exact h1
      · rw [if_neg c] at hs
        rw [if_neg c, show sumTo l i = sumTo l (i + 1) by omega]; exact h1
theorem rends_f (l : List Int) (hl : l.length ≤ 17592186044416) (k : Nat) (hk : l.length < k) : copperplateref15_Ends.f k l = some (sumTo l l.length) := by
  have := rends_l l hl l.length k 0 (by omega) hk
  rw [sumTo_zero] at this
  exact this
theorem sumTo_take (l : List Int) (m k : Nat) (h : k ≤ m) : sumTo (l.take m) k = sumTo l k := by
  unfold sumTo
  rw [List.take_take, Nat.min_eq_left h]
theorem maxTo_take (l : List Int) (m : Nat) : ∀ k, k ≤ m → maxTo (l.take m) k = maxTo l k
  | 0, _ => rfl
  | k + 1, h => by rw [maxTo, maxTo, maxTo_take l m k (by omega), sumTo_take l m (k + 1) h]
theorem maxTo_ge (l : List Int) : ∀ (k j : Nat), j ≤ k → sumTo l j ≤ maxTo l k
  | 0, j, h => by obtain rfl : j = 0 := by omega
                  simp [maxTo, sumTo_zero]
  | k + 1, j, h => by
    rw [maxTo]
    by_cases e : j = k + 1
    · subst e; split <;> omega
    · have := maxTo_ge l k j (by omega)
      split <;> omega
theorem maxTo_at (l : List Int) : ∀ (k : Nat), ∃ j, j ≤ k ∧ maxTo l k = sumTo l j
  | 0 => ⟨0, Nat.le_refl _, by simp [maxTo, sumTo_zero]⟩
  | k + 1 => by
    rw [maxTo]
    by_cases h : maxTo l k < sumTo l (k + 1)
    · exact ⟨k + 1, Nat.le_refl _, if_pos h⟩
    · obtain ⟨j, hj, e⟩ := maxTo_at l k
      exact ⟨j, by omega, by rw [if_neg h, e]⟩
theorem maxTo_le (l : List Int) (k : Nat) (m : Int) (h : ∀ j, j ≤ k → sumTo l j ≤ m) : maxTo l k ≤ m := by
  obtain ⟨j, hj, e⟩ := maxTo_at l k
  rw [e]; exact h j hj
theorem maxTo_nonneg (l : List Int) (k : Nat) : 0 ≤ maxTo l k := by have := maxTo_ge l k 0 (by omega); rw [sumTo_zero] at this; exact this
theorem rdepth_l (l : List Int) (hl : l.length ≤ 17592186044416) (d : Nat) : ∀ (k i : Nat) (m : Int), i + d = l.length + 1 → d + l.length < k → (∀ j, j < i → sumTo l j ≤ m) → (m = 0 ∨ ∃ j, j < i ∧ m = sumTo l j) → 0 ≤ m →
    copperplateref15_Depth.l0 k l m i = some (maxTo l l.length) := by
  induction d with
  | zero =>
    intro k i m hi hk h1 h2 h3
    obtain ⟨k, rfl⟩ : ∃ q, k = q + 1 := ⟨k - 1, by omega⟩
    simp only [copperplateref15_Depth.l0]
    rw [if_neg (by omega)]
    have a1 := maxTo_le l l.length m (fun j hj => h1 j (by omega))
    have a2 : m ≤ maxTo l l.length := by
      rcases h2 with h | ⟨j, hj, h⟩
      · rw [h]; exact maxTo_nonneg _ _
      · rw [h]; exact maxTo_ge l _ j (by omega)
    rw [show m = maxTo l l.length by omega]
  | succ d ih =>
    intro k i m hi hk h1 h2 h3
    obtain ⟨k, rfl⟩ : ∃ q, k = q + 1 := ⟨k - 1, by omega⟩
    have e1 : wrap64 ((i : Int) + 1) = ((i + 1 : Nat) : Int) := by rw [w64 (by omega) (by omega)]; omega
    have e2 : ((i : Int)).toNat = i := by omega
    have e3 : (l.take i).length = i := by rw [List.length_take]; omega
    have e4 := rends_f (l.take i) (by omega) k (by omega)
    rw [e3, sumTo_take l i i (Nat.le_refl _)] at e4
    simp only [copperplateref15_Depth.l0]
    rw [if_pos (by omega), if_pos (by omega), e2, e4, e1]
    simp only [Option.bind_some]
    by_cases g : sumTo l i > m
    · rw [if_pos g]
      exact ih k (i + 1) _ (by omega) (by omega) (fun j hj => by
        by_cases e : j = i
        · subst e; omega
        · have := h1 j (by omega); omega) (.inr ⟨i, by omega, rfl⟩) (by omega)
    · rw [if_neg g]
      exact ih k (i + 1) _ (by omega) (by omega) (fun j hj => by
        by_cases e : j = i
        · subst e; omega
        · exact h1 j (by omega)) (h2.imp id (fun ⟨j, hj, h⟩ => ⟨j, by omega, h⟩)) h3
theorem rdepth_f (l : List Int) (hl : l.length ≤ 17592186044416) (k : Nat) (hk : 2 * l.length + 1 < k) : copperplateref15_Depth.f k l = some (maxTo l l.length) :=
  rdepth_l l hl (l.length + 1) k 0 0 (by omega) (by omega) (fun j hj => by omega) (.inl rfl) (by omega)
theorem atOf_of (l : List Int) (d : Int) (k : Nat) (hk : k < l.length) (h : atP l d k = true) (h1 : ∀ j, j < k → atP l d j = false) : atOf l d = k := by
  unfold atOf
  rw [find_first (atP l d) (List.range k) k (List.range l.length) (fun y hy => h1 y (List.mem_range.1 hy)) h ?_]
  · rfl
  · rw [← List.range_succ]
    exact ⟨(List.range (l.length - (k + 1))).map (k + 1 + ·), by rw [← List.range_add]; congr 1; omega⟩
theorem atOf_none (l : List Int) (d : Int) (h1 : ∀ j, j < l.length → atP l d j = false) : atOf l d = -1 := by
  unfold atOf
  rw [List.find?_eq_none.2 (fun k hk => by simp [h1 k (List.mem_range.1 hk)])]
  rfl
/-- Where: there, or nowhere. -/
theorem atOf_cases (l : List Int) (d : Int) : (atOf l d = -1 ∧ ∀ j, j < l.length → atP l d j = false) ∨ ∃ k : Nat, k < l.length ∧ atOf l d = k ∧ atP l d k = true ∧ ∀ j, j < k → atP l d j = false := by
  by_cases h : ∀ j, j < l.length → atP l d j = false
  · exact .inl ⟨atOf_none l d h, h⟩
  · right
    have hex : ∃ k, k < l.length ∧ atP l d k = true := by
      refine Classical.byContradiction fun hn => h fun j hj => ?_
      cases e : atP l d j with
      | false => rfl
      | true => exact absurd ⟨j, hj, e⟩ hn
    obtain ⟨k0, hk0⟩ := hex
    have key : ∀ n, ∀ k, k ≤ n → k < l.length → atP l d k = true → ∃ k : Nat, k < l.length ∧ atP l d k = true ∧ ∀ j, j < k → atP l d j = false := by
      intro n
      induction n with
      | zero => intro k h1 h2 h3; exact ⟨k, h2, h3, fun j hj => by omega⟩
      | succ n ih =>
        intro k h1 h2 h3
        by_cases hj : ∃ j, j < k ∧ atP l d j = true
        · obtain ⟨j, hj1, hj2⟩ := hj
          exact ih j (by omega) (by omega) hj2
        · refine ⟨k, h2, h3, fun j hj1 => ?_⟩
          cases e : atP l d j with
          | false => rfl
          | true => exact absurd ⟨j, hj1, e⟩ hj
    obtain ⟨k, h1, h2, h3⟩ := key k0 k0 (Nat.le_refl _) hk0.1 hk0.2
    exact ⟨k, h1, atOf_of l d k h1 h2 h3, h2, h3⟩
theorem rat_l (l : List Int) (hl : l.length ≤ 17592186044416) (x : Int) (d : Nat) : ∀ (k i : Nat), i + d = l.length → d + l.length + 1 < k → (∀ j, j < i → atP l x j = false) →
    copperplateref15_At.l0 k l x i = some (atOf l x) := by
  induction d with
  | zero =>
    intro k i hi hk h1
    obtain ⟨k, rfl⟩ : ∃ q, k = q + 1 := ⟨k - 1, by omega⟩
    simp only [copperplateref15_At.l0]
    rw [if_neg (by omega), atOf_none l x (fun j hj => h1 j (by omega))]
  | succ d ih =>
    intro k i hi hk h1
    obtain ⟨k, rfl⟩ : ∃ q, k = q + 1 := ⟨k - 1, by omega⟩
    have e1 : wrap64 ((i : Int) + 1) = ((i + 1 : Nat) : Int) := by rw [w64 (by omega) (by omega)]; omega
    have e2 : (((i + 1 : Nat) : Int)).toNat = i + 1 := by omega
    have e3 : (l.take (i + 1)).length = i + 1 := by rw [List.length_take]; omega
    have e4 := rends_f (l.take (i + 1)) (by omega) k (by omega)
    rw [e3, sumTo_take l (i + 1) (i + 1) (Nat.le_refl _)] at e4
    have go : atP l x i = false → copperplateref15_At.l0 k l x ((i + 1 : Nat) : Int) = some (atOf l x) := fun h => ih k (i + 1) (by omega) (by omega) (fun j hj => by
      by_cases e : j = i
      · subst e; exact h
      · exact h1 j (by omega))
    simp only [copperplateref15_At.l0]
    rw [if_pos (by omega), if_pos (by omega), opens_f, e1]
    simp only [Option.bind_some, decide_eq_true_eq]
    by_cases o : rd l i = 4 ∨ rd l i = 10 ∨ rd l i = 12
    · rw [if_pos o, if_pos (by omega), if_pos (by omega), e2, e4]
      simp only [Option.bind_some]
      have o' := (open_iff _).1 o
      by_cases g : sumTo l (i + 1) > x
      · rw [if_pos g, atOf_of l x i (by omega) (by unfold atP; simp; exact ⟨by omega, o'⟩) h1]
      · rw [if_neg g]
        exact go (by unfold atP; simp; intro h; omega)
    · rw [if_neg o]
      have o' : ¬ 0 < byOf (rd l i) := fun h => o ((open_iff _).2 h)
      exact go (by unfold atP; simp; intro _; omega)
theorem rat_f (l : List Int) (hl : l.length ≤ 17592186044416) (x : Int) (k : Nat) (hk : 2 * l.length + 1 < k) : copperplateref15_At.f k l x = some (atOf l x) :=
  rat_l l hl x l.length k 0 (by omega) (by omega) (fun j hj => by omega)
theorem ends_f {l : List Int} (hl : l.length ≤ 17592186044416) : depth_Ends.f l = some (sumTo l l.length) := by unfold depth_Ends.f; rw [if_pos hl]
theorem depth_f {l : List Int} (hl : l.length ≤ 17592186044416) : depth_Depth.f l = some (maxTo l l.length) := by unfold depth_Depth.f; rw [if_pos hl]
theorem at_f {l : List Int} (hl : l.length ≤ 17592186044416) (x : Int) : depth_At.f l x = some (atOf l x) := by unfold depth_At.f; rw [if_pos hl]
/-- What is deeper than d somewhere ahead of j was opened to be so. -/
theorem crossed (l : List Int) (d : Int) (hd : 0 ≤ d) : ∀ j, j ≤ l.length → d < sumTo l j → ∃ i, i < j ∧ atP l d i = true
  | 0, _, h => by rw [sumTo_zero] at h; omega
  | j + 1, hj, h => by
    by_cases h2 : d < sumTo l j
    · obtain ⟨i, hi, e⟩ := crossed l d hd j (by omega) h2
      exact ⟨i, by omega, e⟩
    · have hs := sumTo_succ l j (by omega)
      exact ⟨j, by omega, by unfold atP; simp; omega⟩
theorem sumTo_append (a b : List Int) (k : Nat) : sumTo (a ++ b) (a.length + k) = sumTo a a.length + sumTo b k := by
  unfold sumTo
  rw [List.take_append, List.map_append, List.sum_append, List.take_of_length_le (show a.length ≤ a.length + k by omega), List.take_length, Nat.add_sub_cancel_left]
theorem sumTo_append_le (a b : List Int) (k : Nat) (h : k ≤ a.length) : sumTo (a ++ b) k = sumTo a k := by
  unfold sumTo
  rw [List.take_append_of_le_length h]
theorem maxTo_append (a b : List Int) : maxTo (a ++ b) (a.length + b.length) = if sumTo a a.length + maxTo b b.length > maxTo a a.length then sumTo a a.length + maxTo b b.length else maxTo a a.length := by
  have h1 : maxTo (a ++ b) (a.length + b.length) ≤ (if sumTo a a.length + maxTo b b.length > maxTo a a.length then sumTo a a.length + maxTo b b.length else maxTo a a.length) := by
    refine maxTo_le _ _ _ fun j hj => ?_
    by_cases h : j ≤ a.length
    · rw [sumTo_append_le a b j h]
      have := maxTo_ge a a.length j h
      split <;> omega
    · obtain ⟨k, rfl⟩ : ∃ k, j = a.length + k := ⟨j - a.length, by omega⟩
      rw [sumTo_append]
      have := maxTo_ge b b.length k (by omega)
      split <;> omega
  have h2 : maxTo a a.length ≤ maxTo (a ++ b) (a.length + b.length) := by
    obtain ⟨j, hj, e⟩ := maxTo_at a a.length
    rw [e, ← sumTo_append_le a b j hj]
    exact maxTo_ge _ _ j (by omega)
  have h3 : sumTo a a.length + maxTo b b.length ≤ maxTo (a ++ b) (a.length + b.length) := by
    obtain ⟨j, hj, e⟩ := maxTo_at b b.length
    rw [e, ← sumTo_append a b j]
    exact maxTo_ge _ _ _ (by omega)
  split at h1 <;> split <;> omega
theorem maxTo_bd (l : List Int) : 0 ≤ maxTo l l.length ∧ maxTo l l.length ≤ l.length := by
  obtain ⟨j, hj, e⟩ := maxTo_at l l.length
  have := sumTo_bd l j hj
  exact ⟨maxTo_nonneg _ _, by omega⟩
end Go.Proofs.Ytfpihmjdcneheaa.PDepth
