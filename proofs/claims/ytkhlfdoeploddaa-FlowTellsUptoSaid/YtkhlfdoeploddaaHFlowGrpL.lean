/- Plain facts of groups of bits: no program in sight. -/
import Derived.Test.YtkhlfdoeploddaaHFlowGrpD
namespace Go.Proofs.Ytkhlfdoeploddaa.PFlow
open Go.RowKit Go.Proofs.YtkhlfdoeploddaaW.PrintWords Go.Proofs.YtkhlfdoeploddaaW.PrintMore
set_option linter.unusedVariables false
set_option linter.unusedSimpArgs false
def gB (l : List S34) (k : Nat) : S34 := rd_T34 l (k : Int)
theorem rd_gB (l : List S34) (k : Nat) : rd_T34 l (k : Int) = gB l k := rfl
theorem gB_getD (l : List S34) (k : Nat) : gB l k = l.getD k ⟨0, ⟨#[]⟩⟩ := by unfold gB rd_T34; (rw [Int.toNat_natCast]) <;> rfl
theorem gB_lt {l : List S34} {k : Nat} (h : k < l.length) : gB l k = l[k] := by rw [gB_getD, List.getD_eq_getElem?_getD, List.getElem?_eq_getElem h]; rfl
theorem gB_ge {l : List S34} {k : Nat} (h : l.length ≤ k) : gB l k = ⟨0, ⟨#[]⟩⟩ := by rw [gB_getD, List.getD_eq_getElem?_getD, List.getElem?_eq_none h]; rfl
theorem gB_mem {l : List S34} {k : Nat} (h : k < l.length) : gB l k ∈ l := by rw [gB_lt h]; exact List.getElem_mem h
theorem gB_left {a b : List S34} {k : Nat} (h : k < a.length) : gB (a ++ b) k = gB a k := by
  rw [gB_getD, gB_getD, List.getD_eq_getElem?_getD, List.getD_eq_getElem?_getD, List.getElem?_append_left h]
theorem gB_right (a b : List S34) (k : Nat) : gB (a ++ b) (a.length + k) = gB b k := by
  rw [gB_getD, gB_getD, List.getD_eq_getElem?_getD, List.getD_eq_getElem?_getD, List.getElem?_append_right (by omega), Nat.add_sub_cancel_left]
theorem gB_take {l : List S34} {m k : Nat} (h : k < m) : gB (l.take m) k = gB l k := by
  rw [gB_getD, gB_getD, List.getD_eq_getElem?_getD, List.getD_eq_getElem?_getD, List.getElem?_take_of_lt h]
theorem gB_drop (l : List S34) (m k : Nat) : gB (l.drop m) k = gB l (m + k) := by
  rw [gB_getD, gB_getD, List.getD_eq_getElem?_getD, List.getD_eq_getElem?_getD, List.getElem?_drop]
theorem gB_zero (x : S34) (l : List S34) : gB (x :: l) 0 = x := by rw [gB_lt (by simp)]; rfl
theorem gB_succ (x : S34) (l : List S34) (k : Nat) : gB (x :: l) (k + 1) = gB l k := by rw [gB_getD, gB_getD]; rfl

/-- How many are open, ahead of a place. -/
def depB (l : List S34) : Nat → Int
  | 0 => 0
  | k + 1 => depB l k + valB (gB l k).f0
theorem depB_zero (l : List S34) : depB l 0 = 0 := rfl
theorem depB_succ (l : List S34) (k : Nat) : depB l (k + 1) = depB l k + valB (gB l k).f0 := rfl
theorem cntB_dep (l : List S34) (a : Nat) : ∀ m, cntB l a m = 1 + depB l (a + m) - depB l a
  | 0 => by rw [cntB, Nat.add_zero]; omega
  | m + 1 => by rw [cntB, cntB_dep l a m, ← Nat.add_assoc, depB, rd_gB]; omega
theorem depB_congr {a b : List S34} : ∀ (k : Nat), (∀ j, j < k → (gB a j).f0 = (gB b j).f0) → depB a k = depB b k
  | 0, _ => rfl
  | k + 1, h => by rw [depB, depB, depB_congr k (fun j hj => h j (by omega)), h k (by omega)]
/-- The same places, moved. -/
theorem depB_shift {a b : List S34} {p q : Nat} (k : Nat) (h : ∀ j, j < k → (gB a (p + j)).f0 = (gB b (q + j)).f0) : depB a (p + k) - depB a p = depB b (q + k) - depB b q := by
  induction k with
  | zero => rw [Nat.add_zero, Nat.add_zero]; omega
  | succ k ih =>
    have := ih (fun j hj => h j (by omega))
    rw [← Nat.add_assoc, ← Nat.add_assoc, depB, depB, h k (by omega)]
    omega
theorem depB_step (l : List S34) (k : Nat) : depB l k - 1 ≤ depB l (k + 1) ∧ depB l (k + 1) ≤ depB l k + 1 := by
  have := valB_bd (gB l k).f0
  rw [depB]; omega
/-- A group and its end. -/
structure IsM (l : List S34) (i k : Nat) : Prop where
  lt : i < k
  len : k < l.length
  op : (gB l i).f0 = 6
  eq : depB l (k + 1) = depB l i
  gt : ∀ j, i < j → j ≤ k → depB l i < depB l j
theorem IsM.uniq {l : List S34} {i k k' : Nat} (h : IsM l i k) (h' : IsM l i k') : k = k' := by
  have a := h.gt (k' + 1)
  have b := h'.gt (k + 1)
  have e := h.eq; have e' := h'.eq; have l1 := h.lt; have l2 := h'.lt
  refine Classical.byContradiction fun hne => ?_
  rcases Nat.lt_or_ge k k' with g | g
  · have := b (by omega) (by omega); omega
  · have := a (by omega) (by omega); omega
theorem depB_open {l : List S34} {i : Nat} (h : (gB l i).f0 = 6) : depB l (i + 1) = depB l i + 1 := by rw [depB, h]; rfl
theorem IsM.close {l : List S34} {i k : Nat} (h : IsM l i k) : (gB l k).f0 = 7 := by
  have e := h.eq
  have g := h.gt k h.lt (Nat.le_refl _)
  rw [depB] at e
  have : valB (gB l k).f0 < 0 := by omega
  unfold valB at this
  split at this
  · omega
  · split at this
    · assumption
    · omega
/-- As long as it is not even, it is deeper. -/
theorem dep_gt {l : List S34} {i : Nat} (h : (gB l i).f0 = 6) : ∀ (m : Nat), (∀ j, j < m → depB l (i + 1 + j + 1) ≠ depB l i) → ∀ j, j ≤ m → depB l i < depB l (i + 1 + j)
  | 0, _, j, hj => by obtain rfl : j = 0 := by omega
                      have := depB_open h; rw [Nat.add_zero]; omega
  | m + 1, hn, j, hj => by
    by_cases e : j = m + 1
    · subst e
      have h1 := dep_gt h m (fun j hj => hn j (by omega)) m (Nat.le_refl _)
      have h2 := hn m (by omega)
      have h3 := depB_step l (i + 1 + m)
      rw [← Nat.add_assoc]
      omega
    · exact dep_gt h m (fun j hj => hn j (by omega)) j (by omega)
theorem matchOf_neg {l : List S34} {i : Int} (h : ∀ (i' k : Nat), i = i' → ¬ IsM l i' k) : matchOf l i = -1 := by
  by_cases h0 : i < 0 ∨ (l.length : Int) ≤ i
  · unfold matchOf; rw [if_pos h0]
  obtain ⟨i, rfl⟩ := Int.eq_ofNat_of_zero_le (show 0 ≤ i by omega)
  by_cases h6 : (gB l i).f0 = 6
  · refine match_none (by omega) h6 fun j hj hz => ?_
    -- the first one
    have hex : ∃ m, m ≤ j ∧ cntB l (i + 1) (m + 1) = 0 ∧ ∀ q, q < m → cntB l (i + 1) (q + 1) ≠ 0 := by
      refine Classical.byContradiction fun hn => ?_
      have : ∀ m, m ≤ j → cntB l (i + 1) (m + 1) ≠ 0 := by
        intro m
        induction m using Nat.strongRecOn with
        | ind m ih => exact fun hm hz => hn ⟨m, hm, hz, fun q hq => ih q hq (by omega)⟩
      exact this j (Nat.le_refl _) hz
    obtain ⟨m, hm, hm0, hmq⟩ := hex
    have ho := depB_open h6
    refine h i (i + 1 + m) rfl ⟨by omega, by omega, h6, ?_, ?_⟩
    · rw [cntB_dep, ← Nat.add_assoc] at hm0; omega
    · have := dep_gt h6 m (fun q hq => by have := hmq q hq; rw [cntB_dep, ← Nat.add_assoc] at this; omega)
      intro q h1 h2
      obtain ⟨d, rfl⟩ : ∃ d, q = i + 1 + d := ⟨q - (i + 1), by omega⟩
      exact this d (by omega)
  · unfold matchOf; rw [if_neg h0, if_pos (by rw [rd_gB]; exact h6)]
theorem IsM.mt {l : List S34} {i k : Nat} (h : IsM l i k) : matchOf l (i : Int) = (k : Int) := by
  have lt := h.lt
  obtain ⟨m, rfl⟩ : ∃ m, k = i + 1 + m := ⟨k - (i + 1), by omega⟩
  have ho := depB_open h.op
  have e := h.eq
  refine match_some h.len h.op (fun j hj => ?_) ?_
  · have := h.gt (i + 1 + j + 1) (by omega) (by omega)
    rw [cntB_dep, ← Nat.add_assoc]; omega
  · rw [cntB_dep, ← Nat.add_assoc]; omega
theorem matchOf_cases (l : List S34) (i : Int) : (matchOf l i = -1 ∧ ∀ (i' k : Nat), i = i' → ¬ IsM l i' k) ∨ ∃ i' k : Nat, i = i' ∧ matchOf l i = (k : Int) ∧ IsM l i' k := by
  by_cases h : ∀ (i' k : Nat), i = i' → ¬ IsM l i' k
  · exact .inl ⟨matchOf_neg h, h⟩
  · obtain ⟨i', h⟩ := Classical.not_forall.1 h
    obtain ⟨k, h⟩ := Classical.not_forall.1 h
    obtain ⟨e, h⟩ := Classical.not_imp.1 h
    have h := Classical.not_not.1 h
    exact .inr ⟨i', k, e, by rw [e]; exact h.mt, h⟩
/-- A group's end, told by the places up to it alone. -/
theorem IsM.congr {a b : List S34} {p q i k : Nat} (h : IsM a (p + i) (p + k)) (hb : q + k < b.length) (hc : ∀ j, j ≤ k → (gB a (p + j)).f0 = (gB b (q + j)).f0) : IsM b (q + i) (q + k) := by
  have lt := h.lt
  have hd : ∀ j, j ≤ k + 1 → depB a (p + j) - depB a p = depB b (q + j) - depB b q := fun j hj => depB_shift j (fun x hx => hc x (by omega))
  refine ⟨by omega, hb, ?_, ?_, fun j h1 h2 => ?_⟩
  · rw [← hc i (by omega)]; exact h.op
  · have h1 := hd (k + 1) (by omega)
    have h2 := hd i (by omega)
    have h3 := h.eq
    rw [Nat.add_assoc] at h3 ⊢
    omega
  · obtain ⟨j, rfl⟩ : ∃ j', j = q + j' := ⟨j - q, by omega⟩
    have h3 := h.gt (p + j) (by omega) (by omega)
    have h4 := hd j (by omega)
    have h5 := hd i (by omega)
    omega

/-! What a group needs. -/
def colA (l : List S34) (k : Nat) : Int := colsOf (flatOf (gB l k).f0 (gB l k).f1).1
def flA (l : List S34) (k : Nat) : Bool := (flatOf (gB l k).f0 (gB l k).f1).2
/-- The columns of d bits from a on. -/
def sumC (l : List S34) (a : Nat) : Nat → Int
  | 0 => 0
  | d + 1 => sumC l a d + colA l (a + d)
def tsB (l : List S34) (k : Nat) : Int := if (gB l k).f0 = 0 ∨ (gB l k).f0 = 1 then colA l k else 0
/-- The columns of texts and blanks of d bits from a on, up to one that breaks. -/
def behB (l : List S34) : Nat → Nat → Int
  | 0, _ => 0
  | d + 1, k => if brB (gB l k).f0 = true then 0 else tsB l k + behB l d (k + 1)
theorem flatOf_le (m : Int) (s : ByteArray) (h : s.size ≤ 140737488355328) : colsOf (flatOf m s).1 ≤ 140737488355328 := by
  have := (colsOf_bd (flatOf m s).1).2
  have : (flatOf m s).1.size ≤ 140737488355328 := by
    unfold flatOf
    (repeat' split) <;> first | (dsimp only; omega) | (show _ ≤ _; decide)
  omega
theorem colA_bd {l : List S34} (hs : small33 l) (k : Nat) : 0 ≤ colA l k ∧ colA l k ≤ 140737488355328 := by
  refine ⟨(colsOf_bd _).1, ?_⟩
  unfold colA
  by_cases h : k < l.length
  · exact flatOf_le _ _ (hs _ (gB_mem h))
  · rw [gB_ge (by omega)]; exact flatOf_le _ _ (by decide)
theorem colA_nn (l : List S34) (k : Nat) : 0 ≤ colA l k := (colsOf_bd _).1
theorem sumC_bd {l : List S34} (hs : small33 l) (a : Nat) : ∀ d, 0 ≤ sumC l a d ∧ sumC l a d ≤ 140737488355328 * d
  | 0 => by rw [sumC]; omega
  | d + 1 => by have h1 := sumC_bd hs a d; have h2 := colA_bd hs (a + d); rw [sumC]; omega
theorem sumC_nn (l : List S34) (a : Nat) : ∀ d, 0 ≤ sumC l a d
  | 0 => by rw [sumC]; omega
  | d + 1 => by have h1 := sumC_nn l a d; have h2 := colA_nn l (a + d); rw [sumC]; omega
theorem tsB_bd {l : List S34} (hs : small33 l) (k : Nat) : 0 ≤ tsB l k ∧ tsB l k ≤ 140737488355328 := by
  have := colA_bd hs k
  unfold tsB; split <;> omega
theorem tsB_nn (l : List S34) (k : Nat) : 0 ≤ tsB l k := by
  have := colA_nn l k
  unfold tsB; split <;> omega
theorem behB_bd {l : List S34} (hs : small33 l) : ∀ d k, 0 ≤ behB l d k ∧ behB l d k ≤ 140737488355328 * d
  | 0, k => by rw [behB]; omega
  | d + 1, k => by
    have h1 := behB_bd hs d (k + 1)
    have h2 := tsB_bd hs k
    rw [behB]; split <;> omega
theorem behB_nn (l : List S34) : ∀ d k, 0 ≤ behB l d k
  | 0, k => by rw [behB]; omega
  | d + 1, k => by
    have h1 := behB_nn l d (k + 1)
    have h2 := tsB_nn l k
    rw [behB]; split <;> omega
theorem sumC_cons (l : List S34) (a : Nat) : ∀ d, sumC l a (d + 1) = colA l a + sumC l (a + 1) d
  | 0 => by rw [sumC, sumC, sumC, Nat.add_zero]; omega
  | d + 1 => by rw [sumC, sumC_cons l a d, sumC, show a + (d + 1) = a + 1 + d by omega]; omega
theorem sumC_add (l : List S34) (a d : Nat) : ∀ e, sumC l a (d + e) = sumC l a d + sumC l (a + d) e
  | 0 => by rw [Nat.add_zero, sumC]; omega
  | e + 1 => by rw [← Nat.add_assoc, sumC, sumC_add l a d e, sumC, Nat.add_assoc]; omega
/-- All d bits from a on may be on one line. -/
def allF (l : List S34) (a d : Nat) : Prop := ∀ j, j < d → flA l (a + j) = true
instance (l : List S34) (a d : Nat) : Decidable (allF l a d) := by unfold allF; infer_instance
def needV (l : List S34) (i k : Nat) : Int := if allF l (i + 1) (k - (i + 1)) then sumC l (i + 1) (k - (i + 1)) + behB l (l.length - (k + 1)) (k + 1) else -1
theorem wrap_id {x : Int} (h : -9223372036854775808 ≤ x) (h2 : x ≤ 9223372036854775807) : wrap64 x = x := by unfold wrap64; omega
theorem needRun_behind {l : List S34} (hs : small33 l) (M : Nat) : ∀ (d k : Nat) (n : Int), M < k → 0 ≤ n → n + 140737488355328 * d ≤ 9223372036854775807 → needRun l (M : Int) d k n = n + behB l d k
  | 0, k, n, _, _, _ => by rw [needRun, behB]; omega
  | d + 1, k, n, h, h0, h1 => by
    have b := tsB_bd hs k
    have e1 : brkN l (M : Int) k = brB (gB l k).f0 := by unfold brkN; rw [decide_eq_true (by omega), rd_gB]; rfl
    have e2 : retN l (M : Int) k = false := by unfold retN; rw [decide_eq_false (by omega)]; rfl
    have e3 : addN l (M : Int) k = tsB l k := by
      unfold addN tsB colA
      rw [rd_gB]
      by_cases g : (gB l k).f0 = 0 ∨ (gB l k).f0 = 1
      · rw [if_pos (.inr g), if_pos g]
      · rw [if_neg (by omega), if_neg g]
    rw [needRun, behB, e1, e2, e3]
    by_cases g : brB (gB l k).f0 = true
    · rw [if_pos g, if_pos g]; omega
    · rw [if_neg g, if_neg g, if_neg (by decide), wrap_id (by omega) (by omega), needRun_behind hs M d (k + 1) _ (by omega) (by omega) (by omega)]
      omega
theorem needRun_within {l : List S34} (hs : small33 l) (M : Nat) (hM : (gB l M).f0 = 7) : ∀ (d a : Nat) (n : Int), a ≤ M → M < a + d → 0 ≤ n → n + 140737488355328 * d ≤ 9223372036854775807 →
    needRun l (M : Int) d a n = if allF l a (M - a) then n + sumC l a (M - a) + behB l (a + d - (M + 1)) (M + 1) else -1
  | 0, a, n, h1, h2, _, _ => by omega
  | d + 1, a, n, h1, h2, h0, h3 => by
    have b := colA_bd hs a
    have e1 : brkN l (M : Int) a = false := by unfold brkN; rw [decide_eq_false (by omega)]; rfl
    rw [needRun, e1, if_neg (by decide)]
    by_cases e : a = M
    · subst e
      have e2 : retN l (a : Int) a = false := by unfold retN; rw [decide_eq_false (by omega)]; rfl
      have e3 : addN l (a : Int) a = 0 := by
        unfold addN
        rw [rd_gB, hM, if_neg (by omega)]
      have e4 : allF l a (a - a) := fun j hj => by omega
      rw [e2, e3, if_neg (by decide), if_pos e4, Int.add_zero, wrap_id (by omega) (by omega), needRun_behind hs a d (a + 1) n (by omega) h0 (by omega), Nat.sub_self, sumC, show a + (d + 1) - (a + 1) = d by omega]
      omega
    · have e2 : retN l (M : Int) a = !flA l a := by unfold retN; rw [decide_eq_true (by omega)]; rfl
      have e3 : addN l (M : Int) a = colA l a := by
        unfold addN
        rw [if_pos (by omega)]; rfl
      rw [e2, e3]
      by_cases g : flA l a = true
      · rw [g, if_neg (by decide), wrap_id (by omega) (by omega), needRun_within hs M hM d (a + 1) _ (by omega) (by omega) (by omega) (by omega)]
        have e5 : M - a = M - (a + 1) + 1 := by omega
        have e6 : allF l a (M - a) ↔ allF l (a + 1) (M - (a + 1)) := by
          constructor
          · intro h j hj
            have := h (j + 1) (by omega)
            rwa [show a + (j + 1) = a + 1 + j by omega] at this
          · intro h j hj
            by_cases ej : j = 0
            · subst ej; exact g
            · have := h (j - 1) (by omega)
              rwa [show a + 1 + (j - 1) = a + j by omega] at this
        by_cases q : allF l a (M - a)
        · rw [if_pos q, if_pos (e6.1 q), e5, sumC_cons, show a + 1 + d - (M + 1) = a + (d + 1) - (M + 1) by omega]; omega
        · rw [if_neg q, if_neg (fun h => q (e6.2 h))]
      · have g' : flA l a = false := by simpa using g
        rw [g', if_pos (by decide), if_neg]
        intro h
        have := h 0 (by omega)
        rw [Nat.add_zero, g'] at this
        cases this
theorem IsM.need {l : List S34} (hs : small33 l) (hl : l.length ≤ 60000) {i k : Nat} (h : IsM l i k) : needOf l (i : Int) = needV l i k := by
  have h1 := h.lt; have h2 := h.len
  unfold needOf needV
  rw [h.mt, if_neg (by omega), Int.toNat_natCast, needRun_within hs k h.close _ _ _ (by omega) (by omega) (by omega) (by omega), show i + 1 + (l.length - (i + 1)) - (k + 1) = l.length - (k + 1) by omega]
  split <;> simp
theorem needOf_none {l : List S34} {i : Int} (h : matchOf l i = -1) : needOf l i = -1 := by unfold needOf; rw [h, if_pos (by decide)]
theorem needV_ge (l : List S34) (i k : Nat) : -1 ≤ needV l i k := by
  have h1 := sumC_nn l (i + 1) (k - (i + 1)); have h2 := behB_nn l (l.length - (k + 1)) (k + 1)
  unfold needV; split <;> omega
/-- Both at once. -/
theorem group_cases {l : List S34} (hs : small33 l) (hl : l.length ≤ 60000) (i : Int) :
    (matchOf l i = -1 ∧ needOf l i = -1 ∧ ∀ (i' k : Nat), i = i' → ¬ IsM l i' k) ∨ ∃ i' k : Nat, i = i' ∧ matchOf l i = (k : Int) ∧ needOf l i = needV l i' k ∧ IsM l i' k := by
  rcases matchOf_cases l i with ⟨h1, h2⟩ | ⟨i', k, rfl, h1, h2⟩
  · exact .inl ⟨h1, needOf_none h1, h2⟩
  · exact .inr ⟨i', k, rfl, h1, h2.need hs hl, h2⟩
/-! The same, told of other bits. -/
theorem sumC_congr {a b : List S34} {p q : Nat} : ∀ (d : Nat), (∀ j, j < d → gB a (p + j) = gB b (q + j)) → sumC a p d = sumC b q d
  | 0, _ => rfl
  | d + 1, h => by rw [sumC, sumC, sumC_congr d (fun j hj => h j (by omega)), colA, colA, h d (by omega)]
theorem behB_congr {a b : List S34} : ∀ (d p q : Nat), (∀ j, j < d → gB a (p + j) = gB b (q + j)) → behB a d p = behB b d q
  | 0, _, _, _ => rfl
  | d + 1, p, q, h => by
    have h0 := h 0 (by omega)
    rw [Nat.add_zero, Nat.add_zero] at h0
    have ih := behB_congr (a := a) (b := b) d (p + 1) (q + 1) (fun j hj => by rw [show p + 1 + j = p + (j + 1) by omega, show q + 1 + j = q + (j + 1) by omega]; exact h (j + 1) (by omega))
    unfold behB tsB colA
    rw [h0, ih]
theorem allF_congr {a b : List S34} {p q d : Nat} (h : ∀ j, j < d → gB a (p + j) = gB b (q + j)) : allF a p d ↔ allF b q d := by
  unfold allF flA
  constructor
  · intro g j hj; rw [← h j hj]; exact g j hj
  · intro g j hj; rw [h j hj]; exact g j hj
theorem behB_stop {l : List S34} : ∀ (d k j : Nat), j < d → brB (gB l (k + j)).f0 = true → (∀ d', j < d' → behB l d' k = behB l d k)
  | 0, _, _, h, _, _, _ => by omega
  | d + 1, k, j, h, hb, d', hd => by
    obtain ⟨d', rfl⟩ : ∃ e, d' = e + 1 := ⟨d' - 1, by omega⟩
    rw [behB, behB]
    by_cases g : brB (gB l k).f0 = true
    · rw [if_pos g, if_pos g]
    · have hj : j ≠ 0 := by intro e; subst e; exact g hb
      rw [if_neg g, if_neg g, behB_stop d (k + 1) (j - 1) (by omega) (by rw [show k + 1 + (j - 1) = k + j by omega]; exact hb) d' (by omega)]
theorem behB_le_sumC (l : List S34) : ∀ (d k : Nat), behB l d k ≤ sumC l k d
  | 0, k => by rw [behB, sumC]; omega
  | d + 1, k => by
    have h1 := behB_le_sumC l d (k + 1)
    have h2 := sumC_nn l k (d + 1)
    have h3 := colA_nn l k
    have h4 := sumC_cons l k d
    have h5 : tsB l k ≤ colA l k := by unfold tsB; split <;> omega
    rw [behB]; split <;> omega
/-! ### What the laws on groups need -/
theorem isM_of {l : List S34} {i j : Nat} (h6 : (gB l i).f0 = 6) (hl : i + 1 + j < l.length) (hn : ∀ q, q < j → depB l (i + 1 + q + 1) ≠ depB l i) (he : depB l (i + 1 + j + 1) = depB l i) : IsM l i (i + 1 + j) := by
  refine ⟨by omega, hl, h6, he, ?_⟩
  have := dep_gt h6 j hn
  intro q h1 h2
  obtain ⟨d, rfl⟩ : ∃ d, q = i + 1 + d := ⟨q - (i + 1), by omega⟩
  exact this d (by omega)
def valI (m : Int) : Int := if m = 8 then 1 else if m = 9 then -1 else 0
/-- How far in, ahead of a place. -/
def indB (l : List S34) : Nat → Int
  | 0 => 0
  | k + 1 => indB l k + valI (gB l k).f0
theorem indB_zero (l : List S34) : indB l 0 = 0 := rfl
theorem indB_succ (l : List S34) (k : Nat) : indB l (k + 1) = indB l k + valI (gB l k).f0 := rfl
/-- What may be printed. -/
structure MayB (l : List S34) : Prop where
  len : l.length ≤ 4000
  bit : ∀ k, k < l.length → 0 ≤ (gB l k).f0 ∧ (gB l k).f0 < 10 ∧ ((gB l k).f0 ≠ 0 → (gB l k).f1.size = 0)
  dep : ∀ k, k ≤ l.length → 0 ≤ depB l k
  ind : ∀ k, k ≤ l.length → 0 ≤ indB l k
  dep0 : depB l l.length = 0
  ind0 : indB l l.length = 0
instance (l : List S34) : Decidable (MayB l) :=
  decidable_of_iff (l.length ≤ 4000 ∧ (∀ k, k < l.length → 0 ≤ (gB l k).f0 ∧ (gB l k).f0 < 10 ∧ ((gB l k).f0 ≠ 0 → (gB l k).f1.size = 0)) ∧ (∀ k, k < l.length + 1 → 0 ≤ depB l k) ∧ (∀ k, k < l.length + 1 → 0 ≤ indB l k) ∧ depB l l.length = 0 ∧ indB l l.length = 0)
    ⟨fun h => ⟨h.1, h.2.1, fun k hk => h.2.2.1 k (by omega), fun k hk => h.2.2.2.1 k (by omega), h.2.2.2.2.1, h.2.2.2.2.2⟩, fun h => ⟨h.len, h.bit, fun k hk => h.dep k (by omega), fun k hk => h.ind k (by omega), h.dep0, h.ind0⟩⟩
theorem group_of_dep {l : List S34} {i N : Nat} (hN : N ≤ l.length) (hi : i < N) (h6 : (gB l i).f0 = 6) (hd : depB l N ≤ depB l i) : ∃ k, k < N ∧ IsM l i k := by
  refine Classical.byContradiction fun hn => ?_
  have key : ∀ j, j < N - (i + 1) → depB l (i + 1 + j + 1) ≠ depB l i := by
    intro j
    induction j using Nat.strongRecOn with
    | ind j ih => exact fun hj he => hn ⟨_, by omega, isM_of h6 (by omega) (fun q hq => ih q hq (by omega)) he⟩
  have := dep_gt h6 (N - (i + 1)) key (N - (i + 1)) (Nat.le_refl _)
  rw [show i + 1 + (N - (i + 1)) = N by omega] at this
  omega
theorem MayB.group {l : List S34} (h : MayB l) {i : Nat} (hi : i < l.length) (h6 : (gB l i).f0 = 6) : ∃ k, IsM l i k := by
  have := h.dep i (by omega); have := h.dep0
  obtain ⟨k, _, hk⟩ := group_of_dep (Nat.le_refl _) hi h6 (by omega)
  exact ⟨k, hk⟩
theorem IsM.facts {l : List S34} {i m k n : Nat} (h : IsM l i m) (g : IsM l k n) : (k = i ∨ n ≠ m) ∧ (i < k → k < m → n < m) ∧ (k < i → n < i ∨ m < n) := by
  have a1 := h.gt k; have a2 := h.gt (n + 1); have b1 := g.gt i; have b2 := g.gt (m + 1)
  have e1 := h.eq; have e2 := g.eq; have l1 := h.lt; have l2 := g.lt
  have c1 := h.op; have c2 := g.close
  refine ⟨?_, ?_, ?_⟩
  · refine Classical.byContradiction fun hc => ?_
    have hc := not_or.1 hc
    have hnm : n = m := Classical.not_not.1 hc.2
    subst hnm
    rcases Nat.lt_or_ge i k with q | q
    · have := a1 q (by omega); omega
    · have := b1 (by omega) (by omega); omega
  · intro q1 q2
    have := a1 q1 (by omega)
    refine Classical.byContradiction fun hc => ?_
    by_cases e : n = m
    · subst e; omega
    · have := b2 (by omega) (by omega); omega
  · intro q
    refine Classical.byContradiction fun hc => ?_
    have hne : n ≠ i := by intro e; subst e; omega
    have := b1 q (by omega)
    by_cases e : n = m
    · subst e; omega
    · have := a2 (by omega) (by omega); omega
/-! moved behind others -/
theorem IsM.pre {l : List S34} {i k : Nat} (p : List S34) (h : IsM l i k) : IsM (p ++ l) (p.length + i) (p.length + k) := by
  have h' : IsM l (0 + i) (0 + k) := by rw [Nat.zero_add, Nat.zero_add]; exact h
  refine h'.congr (by have := h.len; simp; omega) fun j _ => ?_
  rw [gB_right, Nat.zero_add]
theorem IsM.unpre {l : List S34} {p : List S34} {i k : Nat} (h : IsM (p ++ l) (p.length + i) k) : ∃ k', k = p.length + k' ∧ IsM l i k' := by
  have lt := h.lt; have hl := h.len
  obtain ⟨k', rfl⟩ : ∃ k', k = p.length + k' := ⟨k - p.length, by omega⟩
  refine ⟨k', rfl, ?_⟩
  have := h.congr (q := 0) (b := l) (by rw [List.length_append] at hl; omega) fun j _ => by rw [gB_right, Nat.zero_add]
  rwa [Nat.zero_add, Nat.zero_add] at this
theorem needV_pre (p l : List S34) (i k : Nat) (hik : i < k) : needV (p ++ l) (p.length + i) (p.length + k) = needV l i k := by
  have e1 : p.length + k - (p.length + i + 1) = k - (i + 1) := by omega
  have e2 : (p ++ l).length - (p.length + k + 1) = l.length - (k + 1) := by rw [List.length_append]; omega
  have f : ∀ j, gB (p ++ l) (p.length + i + 1 + j) = gB l (i + 1 + j) := fun j => by rw [show p.length + i + 1 + j = p.length + (i + 1 + j) by omega, gB_right]
  have f2 : ∀ j, gB (p ++ l) (p.length + k + 1 + j) = gB l (k + 1 + j) := fun j => by rw [show p.length + k + 1 + j = p.length + (k + 1 + j) by omega, gB_right]
  unfold needV
  rw [e1, e2, sumC_congr _ (fun j _ => f j), behB_congr _ _ _ (fun j _ => f2 j)]
  by_cases g : allF l (i + 1) (k - (i + 1))
  · rw [if_pos g, if_pos ((allF_congr fun j _ => f j).2 g)]
  · rw [if_neg g, if_neg (fun h => g ((allF_congr fun j _ => f j).1 h))]
theorem small_app {a b : List S34} (ha : small33 a) (hb : small33 b) : small33 (a ++ b) := fun x hx => (List.mem_append.1 hx).elim (ha x) (hb x)
theorem small_take {a : List S34} (ha : small33 a) (m : Nat) : small33 (a.take m) := fun x hx => ha x (List.mem_of_mem_take hx)
theorem small_drop {a : List S34} (ha : small33 a) (m : Nat) : small33 (a.drop m) := fun x hx => ha x (List.mem_of_mem_drop hx)
theorem small_one {x : S34} (h : x.f1.size ≤ 140737488355328) : small33 [x] := fun y hy => by rw [List.mem_singleton.1 hy]; exact h
theorem pre_match (p l : List S34) (i : Nat) : matchOf (p ++ l) ((p.length + i : Nat) : Int) = if matchOf l (i : Int) < 0 then -1 else p.length + matchOf l (i : Int) := by
  rcases matchOf_cases l (i : Int) with ⟨h1, h2⟩ | ⟨i', k, e, h1, h2⟩
  · rw [h1, if_pos (by decide)]
    refine matchOf_neg fun i' k e hm => ?_
    obtain rfl : i' = p.length + i := by omega
    obtain ⟨k', rfl, hk⟩ := hm.unpre
    exact h2 i k' rfl hk
  · obtain rfl : i = i' := by omega
    rw [h1, if_neg (by omega), (h2.pre p).mt]; omega
theorem pre_need (p l : List S34) (hs : small33 (p ++ l)) (hl : (p ++ l).length ≤ 60000) (i : Nat) : needOf (p ++ l) ((p.length + i : Nat) : Int) = needOf l (i : Int) := by
  have hs' : small33 l := fun x hx => hs x (List.mem_append.2 (.inr hx))
  have hl' : l.length ≤ 60000 := by rw [List.length_append] at hl; omega
  rcases matchOf_cases l (i : Int) with ⟨h1, h2⟩ | ⟨i', k, e, h1, h2⟩
  · have := pre_match p l i
    rw [h1, if_pos (by decide)] at this
    rw [needOf_none this, needOf_none h1]
  · obtain rfl : i = i' := by omega
    rw [(h2.pre p).need hs hl, h2.need hs' hl', needV_pre _ _ _ _ h2.lt]
/-! cut -/
theorem IsM.take {l : List S34} {i k m : Nat} (h : IsM l i k) (hm : k < m) : IsM (l.take m) i k := by
  have h' : IsM l (0 + i) (0 + k) := by rw [Nat.zero_add, Nat.zero_add]; exact h
  have := h'.congr (b := l.take m) (q := 0) (by have := h.len; rw [List.length_take]; omega) fun j hj => by rw [Nat.zero_add, gB_take (by omega)]
  rwa [Nat.zero_add, Nat.zero_add] at this
theorem IsM.app {a b : List S34} {i k : Nat} (h : IsM a i k) : IsM (a ++ b) i k := by
  have hl := h.len
  have h' : IsM a (0 + i) (0 + k) := by rw [Nat.zero_add, Nat.zero_add]; exact h
  have := h'.congr (b := a ++ b) (q := 0) (by rw [List.length_append]; omega) fun j hj => by rw [Nat.zero_add, gB_left (by omega)]
  rwa [Nat.zero_add, Nat.zero_add] at this
theorem IsM.untake {l : List S34} {i k m : Nat} (h : IsM (l.take m) i k) : IsM l i k := by
  have := h.app (b := l.drop m)
  rwa [List.take_append_drop] at this
theorem colA_flat {l : List S34} {k : Nat} {x : S34} (h : gB l k = x) : colA l k = colsOf (flatOf x.f0 x.f1).1 := by unfold colA; rw [h]
theorem cols_none : colsOf ⟨#[]⟩ = 0 := by have := colsOf_bd ⟨#[]⟩; have e : (⟨#[]⟩ : ByteArray).size = 0 := rfl; omega
theorem colA_close {l : List S34} {k : Nat} (h : (gB l k).f0 = 7) : colA l k = 0 := by unfold colA; rw [h]; exact cols_none
theorem colA_open {l : List S34} {k : Nat} (h : (gB l k).f0 = 6) : colA l k = 0 := by unfold colA; rw [h]; exact cols_none
/-- A group within one that needs something. -/
theorem need_within {l : List S34} {i m k n : Nat} (h : IsM l i m) (g : IsM l k n) (hk : i < k) (hn : n < m) (h0 : 0 ≤ needV l i m) : 0 ≤ needV (l.take (m + 1)) k n ∧ needV (l.take (m + 1)) k n ≤ needV l i m := by
  have l1 := h.lt; have l2 := g.lt; have l3 := h.len
  have el : (l.take (m + 1)).length = m + 1 := by rw [List.length_take]; omega
  unfold needV at h0 ⊢
  by_cases q : allF l (i + 1) (m - (i + 1))
  · have q2 : allF (l.take (m + 1)) (k + 1) (n - (k + 1)) := by
      refine (allF_congr fun j hj => ?_).2 (fun j hj => ?_ : allF l (k + 1) (n - (k + 1)))
      · rw [gB_take (by omega)]
      · have := q (k + 1 + j - (i + 1)) (by omega)
        rwa [show i + 1 + (k + 1 + j - (i + 1)) = k + 1 + j by omega] at this
    have s1 : sumC (l.take (m + 1)) (k + 1) (n - (k + 1)) = sumC l (k + 1) (n - (k + 1)) := sumC_congr _ fun j hj => by rw [gB_take (by omega)]
    have s2 := behB_le_sumC (l.take (m + 1)) (m + 1 - (n + 1)) (n + 1)
    have s3 : sumC (l.take (m + 1)) (n + 1) (m + 1 - (n + 1)) = sumC l (n + 1) (m + 1 - (n + 1)) := sumC_congr _ fun j hj => by rw [gB_take (by omega)]
    have s4 := sumC_add l (i + 1) (k - i) (m - k)
    have s5 := sumC_add l (k + 1) (n - (k + 1)) 1
    have s6 := sumC_add l (k + 1) (n - k) (m - n)
    have e5 : n - (k + 1) + 1 = n - k := by omega
    rw [e5] at s5
    rw [show i + 1 + (k - i) = k + 1 by omega, show k - i + (m - k) = m - i by omega] at s4
    rw [show k + 1 + (n - k) = n + 1 by omega, show n - k + (m - n) = m - k by omega] at s6
    have s7 := sumC_add l (i + 1) (m - (i + 1)) 1
    rw [show m - (i + 1) + 1 = m - i by omega, show i + 1 + (m - (i + 1)) = m by omega] at s7
    have z1 : sumC l m 1 = 0 := by rw [sumC, sumC, Nat.add_zero, colA_close h.close]; rfl
    have z2 := sumC_nn l (i + 1) (k - i)
    have z3 := sumC_nn l (k + 1 + (n - (k + 1))) 1
    have z4 := behB_nn l (l.length - (m + 1)) (m + 1)
    have z5 := behB_nn (l.take (m + 1)) (m + 1 - (n + 1)) (n + 1)
    have z6 := sumC_nn l (k + 1) (n - (k + 1))
    rw [if_pos q, if_pos q2, el, s1]
    rw [show m + 1 - (n + 1) = m - n by omega] at s2 s3 ⊢
    rw [show m + 1 - (n + 1) = m - n by omega] at z5
    omega
  · rw [if_neg q] at h0; omega
/-! one more bit within -/
theorem ins_len (l : List S34) (k : Nat) (x : S34) (hk : k ≤ l.length) : (l.take k ++ [x] ++ l.drop k).length = l.length + 1 := by simp; omega
theorem ins_lt {l : List S34} {k j : Nat} (x : S34) (hk : k ≤ l.length) (h : j < k) : gB (l.take k ++ [x] ++ l.drop k) j = gB l j := by
  rw [gB_left (by simp; omega), gB_left (by rw [List.length_take]; omega), gB_take h]
theorem ins_at {l : List S34} {k : Nat} (x : S34) (hk : k ≤ l.length) : gB (l.take k ++ [x] ++ l.drop k) k = x := by
  rw [gB_left (by simp; omega)]
  have := gB_right (l.take k) [x] 0
  rw [List.length_take, Nat.min_eq_left hk, Nat.add_zero] at this
  rw [this]; exact gB_zero x []
theorem ins_gt {l : List S34} {k j : Nat} (x : S34) (hk : k ≤ l.length) (h : k ≤ j) : gB (l.take k ++ [x] ++ l.drop k) (j + 1) = gB l j := by
  have := gB_right (l.take k ++ [x]) (l.drop k) (j - k)
  have e : (l.take k ++ [x]).length = k + 1 := by simp; omega
  rw [e, show k + 1 + (j - k) = j + 1 by omega, gB_drop, show k + (j - k) = j by omega] at this
  exact this
theorem IsM.ins {l : List S34} {i k m : Nat} {x : S34} (h : IsM l i m) (hx : valB x.f0 = 0) (h1 : i < k) (h2 : k ≤ m) : IsM (l.take k ++ [x] ++ l.drop k) i (m + 1) := by
  have hl := h.len
  have hk : k ≤ l.length := by omega
  have dl : ∀ j, j ≤ k → depB (l.take k ++ [x] ++ l.drop k) j = depB l j := fun j hj => depB_congr j fun q hq => by rw [ins_lt x hk (by omega)]
  have dr : ∀ j, k ≤ j → depB (l.take k ++ [x] ++ l.drop k) (j + 1) = depB l j := by
    intro j hj
    obtain ⟨d, rfl⟩ : ∃ d, j = k + d := ⟨j - k, by omega⟩
    have e0 : depB (l.take k ++ [x] ++ l.drop k) (k + 1) = depB l k := by rw [depB, ins_at x hk, dl k (Nat.le_refl _), hx]; omega
    have := depB_shift (a := l.take k ++ [x] ++ l.drop k) (b := l) (p := k + 1) (q := k) d fun y _ => by rw [show k + 1 + y = k + y + 1 by omega, ins_gt x hk (by omega)]
    rw [show k + d + 1 = k + 1 + d by omega]; omega
  refine ⟨by omega, by rw [ins_len l k x hk]; omega, by rw [ins_lt x hk h1]; exact h.op, by rw [dr (m + 1) (by omega), dl i (by omega)]; exact h.eq, fun j h3 h4 => ?_⟩
  rw [dl i (by omega)]
  by_cases q : j ≤ k
  · rw [dl j q]; exact h.gt j h3 (by omega)
  · obtain ⟨j, rfl⟩ : ∃ j', j = j' + 1 := ⟨j - 1, by omega⟩
    rw [dr j (by omega)]; exact h.gt j (by omega) (by omega)
theorem needV_ins {l : List S34} {i k m : Nat} {x : S34} (h : IsM l i m) (h1 : i < k) (h2 : k ≤ m) :
    needV (l.take k ++ [x] ++ l.drop k) i (m + 1) = if (flatOf x.f0 x.f1).2 = true then (if needV l i m < 0 then -1 else needV l i m + colsOf (flatOf x.f0 x.f1).1) else -1 := by
  have hl := h.len
  have hk : k ≤ l.length := by omega
  have nn := sumC_nn l (i + 1) (m - (i + 1))
  have nb := behB_nn l (l.length - (m + 1)) (m + 1)
  unfold needV
  rw [ins_len l k x hk]
  have ef : allF (l.take k ++ [x] ++ l.drop k) (i + 1) (m + 1 - (i + 1)) ↔ (flatOf x.f0 x.f1).2 = true ∧ allF l (i + 1) (m - (i + 1)) := by
    constructor
    · intro hf
      refine ⟨?_, fun j hj => ?_⟩
      · have := hf (k - (i + 1)) (by omega)
        rw [show i + 1 + (k - (i + 1)) = k by omega] at this
        unfold flA at this
        rwa [ins_at x hk] at this
      · by_cases q : i + 1 + j < k
        · have := hf j (by omega)
          unfold flA at this ⊢
          rwa [ins_lt x hk q] at this
        · have := hf (j + 1) (by omega)
          unfold flA at this ⊢
          rwa [show i + 1 + (j + 1) = i + 1 + j + 1 by omega, ins_gt x hk (by omega)] at this
    · rintro ⟨hx, hf⟩ j hj
      unfold flA
      by_cases q : i + 1 + j < k
      · rw [ins_lt x hk q]; exact hf j (by omega)
      · by_cases q2 : i + 1 + j = k
        · rw [q2, ins_at x hk]; exact hx
        · have := hf (j - 1) (by omega)
          unfold flA at this
          rwa [show i + 1 + j = i + 1 + (j - 1) + 1 by omega, ins_gt x hk (by omega)]
  have eb : behB (l.take k ++ [x] ++ l.drop k) (l.length + 1 - (m + 1 + 1)) (m + 1 + 1) = behB l (l.length - (m + 1)) (m + 1) := by
    rw [show l.length + 1 - (m + 1 + 1) = l.length - (m + 1) by omega]
    exact behB_congr _ _ _ fun j _ => by rw [show m + 1 + 1 + j = m + 1 + j + 1 by omega, ins_gt x hk (by omega)]
  have es : sumC (l.take k ++ [x] ++ l.drop k) (i + 1) (m + 1 - (i + 1)) = sumC l (i + 1) (m - (i + 1)) + colsOf (flatOf x.f0 x.f1).1 := by
    have a1 := sumC_add (l.take k ++ [x] ++ l.drop k) (i + 1) (k - (i + 1)) (1 + (m - k))
    have a2 := sumC_add (l.take k ++ [x] ++ l.drop k) k 1 (m - k)
    have a3 := sumC_add l (i + 1) (k - (i + 1)) (m - k)
    rw [show k - (i + 1) + (1 + (m - k)) = m + 1 - (i + 1) by omega, show i + 1 + (k - (i + 1)) = k by omega] at a1
    rw [show k - (i + 1) + (m - k) = m - (i + 1) by omega, show i + 1 + (k - (i + 1)) = k by omega] at a3
    have c1 : sumC (l.take k ++ [x] ++ l.drop k) (i + 1) (k - (i + 1)) = sumC l (i + 1) (k - (i + 1)) := sumC_congr _ fun j hj => by rw [ins_lt x hk (by omega)]
    have c2 : sumC (l.take k ++ [x] ++ l.drop k) k 1 = colsOf (flatOf x.f0 x.f1).1 := by rw [sumC, sumC, Nat.add_zero, colA_flat (ins_at x hk)]; omega
    have c3 : sumC (l.take k ++ [x] ++ l.drop k) (k + 1) (m - k) = sumC l k (m - k) := sumC_congr _ fun j hj => by rw [show k + 1 + j = k + j + 1 by omega, ins_gt x hk (by omega)]
    rw [a1, a2, a3, c1, c2, c3]; omega
  rw [eb, es]
  by_cases q1 : (flatOf x.f0 x.f1).2 = true
  · rw [if_pos q1]
    by_cases q2 : allF l (i + 1) (m - (i + 1))
    · rw [if_pos q2, if_pos (ef.2 ⟨q1, q2⟩), if_neg (by omega)]; omega
    · rw [if_neg q2, if_neg (fun h => q2 (ef.1 h).2), if_pos (by decide)]
  · rw [if_neg q1, if_neg (fun h => q1 (ef.1 h).1)]
/-! others behind -/
theorem needV_app {a b : List S34} {i k : Nat} (h : IsM a i k) : needV (a ++ b) i k = if allF a (i + 1) (k - (i + 1)) then sumC a (i + 1) (k - (i + 1)) + behB (a ++ b) ((a ++ b).length - (k + 1)) (k + 1) else -1 := by
  have hl := h.len
  have hf : ∀ j, j < k - (i + 1) → gB (a ++ b) (i + 1 + j) = gB a (i + 1 + j) := fun j hj => gB_left (by omega)
  unfold needV
  rw [sumC_congr _ hf]
  by_cases g : allF a (i + 1) (k - (i + 1))
  · rw [if_pos g, if_pos ((allF_congr hf).2 g)]
  · rw [if_neg g, if_neg (fun h => g ((allF_congr hf).1 h))]
theorem need_behind {a : List S34} {i k : Nat} (h : IsM a i k) (hk : a.length = k + 1) (s : ByteArray) (m : Int) (hm : brB m = true) (b : S34) (c : ByteArray) :
    needV (a ++ [⟨0, s⟩] ++ [⟨m, c⟩] ++ [b]) i k = if needV a i k < 0 then -1 else needV a i k + colsOf s := by
  have e0 : a ++ [(⟨0, s⟩ : S34)] ++ [⟨m, c⟩] ++ [b] = a ++ [⟨0, s⟩, ⟨m, c⟩, b] := by simp
  rw [e0, needV_app h]
  have e1 : (a ++ [(⟨0, s⟩ : S34), ⟨m, c⟩, b]).length - (k + 1) = 3 := by rw [List.length_append, hk]; simp
  have g0 : gB (a ++ [(⟨0, s⟩ : S34), ⟨m, c⟩, b]) (k + 1) = ⟨0, s⟩ := by have := gB_right a [(⟨0, s⟩ : S34), ⟨m, c⟩, b] 0; rw [hk] at this; rw [Nat.add_zero] at this; rw [this]; exact gB_zero _ _
  have g1 : gB (a ++ [(⟨0, s⟩ : S34), ⟨m, c⟩, b]) (k + 1 + 1) = ⟨m, c⟩ := by have := gB_right a [(⟨0, s⟩ : S34), ⟨m, c⟩, b] 1; rw [hk] at this; rw [this, gB_succ]; exact gB_zero _ _
  have e2 : behB (a ++ [(⟨0, s⟩ : S34), ⟨m, c⟩, b]) 3 (k + 1) = colsOf s := by
    rw [behB, g0, behB, g1, hm, if_neg (show ¬ brB 0 = true by decide), if_pos rfl]
    unfold tsB
    rw [g0, if_pos (.inl rfl), colA_flat g0]
    show colsOf (flatOf 0 s).1 + 0 = _
    rw [show (flatOf 0 s).1 = s from rfl]; omega
  rw [e1, e2]
  have nn := sumC_nn a (i + 1) (k - (i + 1))
  have nb := behB_nn a (a.length - (k + 1)) (k + 1)
  unfold needV
  have z : behB a (a.length - (k + 1)) (k + 1) = 0 := by rw [hk, Nat.sub_self, behB]
  by_cases g : allF a (i + 1) (k - (i + 1))
  · rw [if_pos g, if_pos g, if_neg (by omega), z]; omega
  · rw [if_neg g, if_neg g, if_pos (by decide)]
end Go.Proofs.Ytkhlfdoeploddaa.PFlow
