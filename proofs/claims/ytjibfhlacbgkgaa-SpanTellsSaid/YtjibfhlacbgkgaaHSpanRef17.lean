/- What the document's answer on groups comes to: the same closed forms. -/
import Derived.Test.YtjibfhlacbgkgaaHSpanRef02
import Derived.Test.YtjibfhlacbgkgaaHSpanGrpL
import Derived.Test.YtjibfhlacbgkgaaPSpanx12
namespace Go.Proofs.Ytjibfhlacbgkgaa.PSpan
open Go.RowKit Go.Proofs.YtjibfhlacbgkgaaW.PrintWords Go.Proofs.YtjibfhlacbgkgaaW.PrintMore
set_option linter.unusedVariables false
set_option linter.unusedSimpArgs false
theorem rcols_l (s : ByteArray) (hs : s.size ≤ 140737488355328) (d : Nat) : ∀ (K i n : Nat), s.size - i = d → d + 18 < K → i ≤ s.size + 4 → n + d ≤ 140737488355328 → copperplateref17_Cols.l0 K s n i = some ((n + colsFrom s i : Nat) : Int) := by
  induction d using Nat.strongRecOn with
  | ind d ih =>
    intro K i n hd hK hi hn
    obtain ⟨K, rfl⟩ : ∃ K', K = K' + 18 + 1 := ⟨K - 19, by omega⟩
    rw [copperplateref17_Cols.l0]
    by_cases hlt : i < s.size
    · rw [if_pos (by omega), U.rnext_f K s i hs, if_neg (by omega), Option.bind_some, Int.toNat_natCast, ← U.nextOf_L s i (by omega)]
      have h1 := stepOf_bd s i
      have h0 := next_le s i
      have e3 : colsFrom s i = 1 + colsFrom s (i + stepOf s i) := by rw [colsFrom, if_pos hlt]
      have est : stepOf s i = if (nextOf s i).2.toNat = 0 then 1 else (nextOf s i).2.toNat := rfl
      have W1 := Aside0.mk (wr_add n 1 (by omega))
      rw [e3]
      clear e3
      generalize (nextOf s i).2 = z at h0 est ⊢
      generalize stepOf s i = q at h1 est ⊢
      have W2 := Aside0.mk (wr_add i q (by omega))
      have hih := ih (s.size - (i + q)) (by omega) (K + 18) (i + q) (n + 1) rfl (by omega) (by omega) (by omega)
      by_cases hz : z = 0
      · rw [if_pos hz]
        rw [show z.toNat = 0 by omega, if_pos rfl] at est
        subst est
        have w2 := W2.out
        rw [show ((n : Int) + 1) = ((n : Int) + ((1 : Nat) : Int)) from rfl, show ((i : Int) + 1) = ((i : Int) + ((1 : Nat) : Int)) from rfl, W1.out, w2, hih, Nat.add_assoc]
      · rw [if_neg hz]
        rw [if_neg (by omega)] at est
        rw [show z = ((q : Nat) : Int) by omega, show ((n : Int) + 1) = ((n : Int) + ((1 : Nat) : Int)) from rfl, W1.out, W2.out, hih, Nat.add_assoc]
    · have e0 : colsFrom s i = 0 := by rw [colsFrom, if_neg hlt]
      rw [if_neg (by omega), e0, Nat.add_zero]
theorem rcols_f (s : ByteArray) (hs : s.size ≤ 140737488355328) (K : Nat) (hK : s.size + 18 < K) : copperplateref17_Cols.f K s = some (colsOf s) := by
  have := rcols_l s hs s.size K 0 0 (by omega) hK (by omega) (by omega)
  rw [Nat.zero_add] at this
  exact this
theorem rbreaks_f (m : Int) (s : ByteArray) : copperplateref17_Breaks.f m s = some (brB m) := by
  unfold copperplateref17_Breaks.f brB
  by_cases h2 : m = 2
  · subst h2; rfl
  by_cases h3 : m = 3
  · subst h3; rfl
  by_cases h4 : m = 4
  · subst h4; rfl
  rw [if_neg h2, if_neg h3, if_neg h4]
  simp [h2, h3, h4]
theorem rflat_f (K : Nat) (m : Int) (s : ByteArray) : copperplateref17_Flat.f (K + 1) m s = some (flatOf m s) := by
  unfold copperplateref17_Flat.f flatOf
  by_cases h0 : m = 0
  · rw [if_pos h0, if_pos h0]
  rw [if_neg h0, if_neg h0]
  by_cases h1 : m = 1
  · subst h1; rfl
  rw [if_neg h1, copperplateref17_Flat.j0]
  by_cases h2 : m = 2
  · subst h2; rfl
  rw [if_neg (by simpa using h2), if_neg (show ¬ (m = 1 ∨ m = 2) by omega)]
  by_cases h4 : m = 4
  · subst h4; rfl
  rw [if_neg h4, if_neg h4]
  by_cases h3 : m = 3
  · subst h3; rfl
  by_cases h6 : m = 6
  · subst h6; rfl
  by_cases h7 : m = 7
  · subst h7; rfl
  by_cases h8 : m = 8
  · subst h8; rfl
  by_cases h9 : m = 9
  · subst h9; rfl
  rw [if_neg h3, if_neg h6, if_neg h7, if_neg h8, if_neg h9, if_neg (by omega)]
theorem depB_bd (l : List S23) : ∀ k : Nat, -(k : Int) ≤ depB l k ∧ depB l k ≤ k
  | 0 => by rw [depB]; omega
  | k + 1 => by have := depB_bd l k; have := depB_step l k; omega
theorem rmatch_l {l : List S23} (hl : l.length ≤ 17592186044416) {i : Nat} (h6 : (gB l i).f0 = 6) : ∀ (d k K : Nat), k + d = l.length → 2 * d < K → i ≤ k → (∀ j, i < j → j ≤ k → depB l i < depB l j) → copperplateref17_Match.l0 K l (depB l k - depB l i) k = some (matchOf l i)
  | 0, k, K, hk, hK, hik, hg => by
    obtain ⟨K, rfl⟩ : ∃ K', K = K' + 1 := ⟨K - 1, by omega⟩
    obtain rfl : k = l.length := by omega
    rw [copperplateref17_Match.l0, if_neg (by omega), matchOf_neg]
    intro i' m e hm
    obtain rfl : i = i' := by omega
    have := hg (m + 1) (by have := hm.lt; omega) (by have := hm.len; omega)
    have := hm.eq
    omega
  | d + 1, k, K, hk, hK, hik, hg => by
    obtain ⟨K, rfl⟩ : ∃ K', K = K' + 2 := ⟨K - 2, by omega⟩
    have b1 := depB_bd l k
    have b2 := depB_bd l i
    have hs := depB_succ l k
    have WK := Aside0.mk (show wrap64 ((k : Int) + 1) = ((k + 1 : Nat) : Int) by rw [wrap_id (by omega) (by omega)]; omega)
    have next : ∀ (hne : depB l i < depB l (k + 1)), copperplateref17_Match.l0 K l (depB l (k + 1) - depB l i) ((k + 1 : Nat) : Int) = some (matchOf l i) := fun hne =>
      rmatch_l hl h6 d (k + 1) K (by omega) (by omega) (by omega) fun j h1 h2 => by
        by_cases e : j = k + 1
        · subst e; exact hne
        · exact hg j h1 (by omega)
    rw [copperplateref17_Match.l0, if_pos (by omega), if_pos (by omega), rd_gB]
    by_cases c6 : (gB l k).f0 = 6
    · rw [if_pos c6, copperplateref17_Match.j2, if_pos (by omega), if_pos (by omega), rd_gB, if_neg (by omega), wrap_id (by omega) (by omega)]
      rw [c6, show valB 6 = 1 from rfl] at hs
      have hgk : depB l i ≤ depB l k := by
        by_cases e : i = k
        · subst e; omega
        · have := hg k (by omega) (Nat.le_refl _); omega
      rw [if_neg (by omega), WK.out, show depB l k - depB l i + 1 = depB l (k + 1) - depB l i by omega]
      exact next (by omega)
    · have hik' : i < k := by
        by_cases e : i = k
        · subst e; exact absurd h6 c6
        · omega
      have hgk := hg k hik' (Nat.le_refl _)
      rw [if_neg c6, copperplateref17_Match.j2, if_pos (by omega), if_pos (by omega), rd_gB]
      by_cases c7 : (gB l k).f0 = 7
      · rw [c7, show valB 7 = -1 from rfl] at hs
        rw [if_pos c7, wrap_id (by omega) (by omega), WK.out]
        by_cases e0 : depB l k - depB l i - 1 = 0
        · rw [if_pos e0]
          have hm : IsM l i k := ⟨hik', by omega, h6, by omega, hg⟩
          rw [hm.mt]
        · rw [if_neg e0, show depB l k - depB l i - 1 = depB l (k + 1) - depB l i by omega]
          exact next (by omega)
      · have hv : valB (gB l k).f0 = 0 := by unfold valB; rw [if_neg c6, if_neg c7]
        rw [if_neg c7, if_neg (by omega), WK.out, show depB l k - depB l i = depB l (k + 1) - depB l i by omega]
        exact next (by omega)
theorem rmatch_f {l : List S23} (hl : l.length ≤ 17592186044416) (i : Int) (K : Nat) (hK : 2 * l.length + 2 < K) : copperplateref17_Match.f K l i = some (matchOf l i) := by
  obtain ⟨K, rfl⟩ : ∃ K', K = K' + 1 := ⟨K - 1, by omega⟩
  unfold copperplateref17_Match.f
  by_cases h0 : i < 0
  · rw [if_pos h0, matchOf_neg fun i' k e _ => by omega]; rfl
  rw [if_neg h0]
  by_cases h1 : i ≥ (l.length : Int)
  · rw [if_pos h1, matchOf_neg fun i' k e hm => by have := hm.lt; have := hm.len; omega]; rfl
  rw [if_neg h1, if_pos (by omega), if_pos (by omega)]
  obtain ⟨i, rfl⟩ := Int.eq_ofNat_of_zero_le (show 0 ≤ i by omega)
  rw [rd_gB]
  by_cases h6 : (gB l i).f0 = 6
  · rw [show ((gB l i).f0 != 6) = false by rw [h6]; rfl, copperplateref17_Match.j0, if_neg (by decide)]
    have := rmatch_l hl h6 (l.length - i) i K (by omega) (by omega) (Nat.le_refl _) (fun j h1 h2 => by omega)
    rw [Int.sub_self] at this
    exact this
  · rw [show ((gB l i).f0 != 6) = true from bne_iff_ne.2 h6, copperplateref17_Match.j0, if_pos rfl, matchOf_neg fun i' k e hm => ?_]
    obtain rfl : i = i' := by omega
    exact h6 hm.op
/-- So many rounds do for any text of the list. -/
def roundsB (l : List S23) (K : Nat) : Prop := ∀ k, (gB l k).f1.size + 24 < K
theorem rcolA_f {l : List S23} (hs : small33 l) {K : Nat} (hK : roundsB l K) (k : Nat) : copperplateref17_Cols.f K (flatOf (gB l k).f0 (gB l k).f1).1 = some (colA l k) := by
  have h1 := hK k
  have h2 : (flatOf (gB l k).f0 (gB l k).f1).1.size ≤ (gB l k).f1.size + 2 := by
    unfold flatOf
    (repeat' split) <;> (dsimp only; have : (⟨#[32]⟩ : ByteArray).size = 1 := rfl; have : (⟨#[44, 32]⟩ : ByteArray).size = 2 := rfl; have : (⟨#[]⟩ : ByteArray).size = 0 := rfl; omega)
  have h3 : (flatOf (gB l k).f0 (gB l k).f1).1.size ≤ 140737488355328 := by
    by_cases g : k < l.length
    · have := hs _ (gB_mem g)
      unfold flatOf
      (repeat' split) <;> first | (dsimp only; omega) | (show _ ≤ _; decide)
    · rw [gB_ge (by omega)]; decide
  exact rcols_f _ h3 _ (by omega)
theorem rbehind_l {l : List S23} (hs : small33 l) (hl : l.length ≤ 60000) {R : Nat} (hR : roundsB l R) : ∀ (d k K : Nat) (n : Int), k + d = l.length → 2 * d + R < K → 0 ≤ n → n + 140737488355328 * d ≤ 9223372036854775807 → copperplateref17_Behind.l0 K l n k = some (n + behB l d k)
  | 0, k, K, n, hk, hK, h0, h1 => by
    obtain ⟨K, rfl⟩ : ∃ K', K = K' + 1 := ⟨K - 1, by omega⟩
    rw [copperplateref17_Behind.l0, if_neg (by omega), behB, Int.add_zero]
  | d + 1, k, K, n, hk, hK, h0, h1 => by
    obtain ⟨K, rfl⟩ : ∃ K', K = K' + 3 := ⟨K - 3, by have := hR 0; omega⟩
    have b := tsB_bd hs k
    have WK := Aside0.mk (show wrap64 ((k : Int) + 1) = ((k + 1 : Nat) : Int) by rw [wrap_id (by omega) (by omega)]; omega)
    have hRK : roundsB l (K + 1) := fun j => by have := hR j; omega
    rw [copperplateref17_Behind.l0, if_pos (by omega), if_pos (by omega), rd_gB, rbreaks_f, Option.bind_some, behB]
    by_cases g : brB (gB l k).f0 = true
    · rw [if_pos g, if_pos g, Int.add_zero]
    rw [if_neg g, if_neg g]
    by_cases g0 : (gB l k).f0 = 0 ∨ (gB l k).f0 = 1
    · have e : (if (gB l k).f0 = 0 then copperplateref17_Behind.j1 (K + 2) l n k true else copperplateref17_Behind.j1 (K + 2) l n k ((gB l k).f0 == 1)) = copperplateref17_Behind.j1 (K + 2) l n k true := by
        rcases g0 with e | e
        · rw [if_pos e]
        · rw [if_neg (by omega), e]; rfl
      have et : tsB l k = colA l k := by unfold tsB; rw [if_pos g0]
      rw [et] at b ⊢
      rw [e, copperplateref17_Behind.j1, if_pos rfl, if_pos (by omega), if_pos (by omega), rd_gB, rflat_f, Option.bind_some, rcolA_f hs hRK, Option.bind_some, wrap_id (by omega) (by omega), WK.out, rbehind_l hs hl hR d (k + 1) (K + 1) _ (by omega) (by omega) (by omega) (by omega)]
      congr 1; omega
    · have et : tsB l k = 0 := by unfold tsB; rw [if_neg g0]
      rw [if_neg (by omega), show ((gB l k).f0 == 1) = false from beq_eq_false_iff_ne.2 (by omega), copperplateref17_Behind.j1, if_neg (by decide), WK.out, rbehind_l hs hl hR d (k + 1) (K + 1) _ (by omega) (by omega) (by omega) (by omega), et]
      congr 1; omega
theorem behB_close {l : List S23} {m : Nat} (h7 : (gB l m).f0 = 7) (hm : m < l.length) : behB l (l.length - m) m = behB l (l.length - (m + 1)) (m + 1) := by
  rw [show l.length - m = l.length - (m + 1) + 1 by omega, behB, h7, if_neg (by decide)]
  have : tsB l m = 0 := by unfold tsB; rw [h7]; rfl
  rw [this]; omega
theorem rneed_l {l : List S23} (hs : small33 l) (hl : l.length ≤ 60000) {R : Nat} (hR : roundsB l R) {m : Nat} (h7 : (gB l m).f0 = 7) (hm : m < l.length) : ∀ (d k K : Nat) (n : Int), k + d = m → d + (2 * l.length + R) + 1 < K → 0 ≤ n → n + 140737488355328 * (d + l.length) ≤ 9223372036854775807 →
    copperplateref17_Need.l0 K l (m : Int) n k = some (if allF l k d then n + sumC l k d + behB l (l.length - (m + 1)) (m + 1) else -1)
  | 0, k, K, n, hk, hK, h0, h1 => by
    obtain ⟨K, rfl⟩ : ∃ K', K = K' + 1 := ⟨K - 1, by omega⟩
    obtain rfl : k = m := by omega
    have bb := behB_bd hs (l.length - k) k
    have e : copperplateref17_Behind.f K l (k : Int) = some (0 + behB l (l.length - k) k) := rbehind_l hs hl hR (l.length - k) k K 0 (by omega) (by omega) (by omega) (by omega)
    have h0' : allF l k 0 := fun j hj => by omega
    rw [copperplateref17_Need.l0, if_neg (by omega), e, Option.bind_some, if_pos h0', sumC, ← behB_close h7 hm, wrap_id (by omega) (by omega)]
    congr 1; omega
  | d + 1, k, K, n, hk, hK, h0, h1 => by
    obtain ⟨K, rfl⟩ : ∃ K', K = K' + 2 := ⟨K - 2, by have := hR 0; omega⟩
    have b := colA_bd hs k
    have WK := Aside0.mk (show wrap64 ((k : Int) + 1) = ((k + 1 : Nat) : Int) by rw [wrap_id (by omega) (by omega)]; omega)
    have hRK : roundsB l (K + 1) := fun j => by have := hR j; omega
    rw [copperplateref17_Need.l0, if_pos (by omega), if_pos (by omega), if_pos (by omega), rd_gB, rflat_f, Option.bind_some]
    have ef : (flatOf (gB l k).f0 (gB l k).f1).2 = flA l k := rfl
    rw [ef]
    by_cases g : flA l k = true
    · rw [if_pos g, rcolA_f hs hRK, Option.bind_some, wrap_id (by omega) (by omega), WK.out, rneed_l hs hl hR h7 hm d (k + 1) (K + 1) _ (by omega) (by omega) (by omega) (by omega), sumC_cons]
      have e6 : allF l k (d + 1) ↔ allF l (k + 1) d := by
        constructor
        · intro h j hj
          have := h (j + 1) (by omega)
          rwa [show k + (j + 1) = k + 1 + j by omega] at this
        · intro h j hj
          by_cases ej : j = 0
          · subst ej; exact g
          · have := h (j - 1) (by omega)
            rwa [show k + 1 + (j - 1) = k + j by omega] at this
      by_cases q : allF l (k + 1) d
      · rw [if_pos q, if_pos (e6.2 q)]; congr 1; omega
      · rw [if_neg q, if_neg (fun h => q (e6.1 h))]
    · rw [if_neg g, if_neg (fun h => g (h 0 (by omega)))]
theorem rneed_f {l : List S23} (hs : small33 l) (hl : l.length ≤ 30000) {R : Nat} (hR : roundsB l R) (i : Int) (K : Nat) (hK : 4 * l.length + R + 4 < K) : copperplateref17_Need.f K l i = some (needOf l i) := by
  unfold copperplateref17_Need.f
  rw [rmatch_f (by omega) i K (by omega), Option.bind_some]
  rcases group_cases hs (by omega) i with ⟨h1, h2, _⟩ | ⟨i', m, rfl, h1, h2, hM⟩
  · rw [h1, h2, if_pos (by decide)]
  · have lt := hM.lt; have hlen := hM.len
    rw [h1, h2, if_neg (by omega), rneed_l hs (by omega) hR hM.close hM.len (m - i') i' K 0 (by omega) (by omega) (by omega) (by omega)]
    unfold needV
    rw [show m - i' = m - (i' + 1) + 1 by omega, sumC_cons, colA_open hM.op]
    have e6 : allF l i' (m - (i' + 1) + 1) ↔ allF l (i' + 1) (m - (i' + 1)) := by
      constructor
      · intro h j hj
        have := h (j + 1) (by omega)
        rwa [show i' + (j + 1) = i' + 1 + j by omega] at this
      · intro h j hj
        by_cases ej : j = 0
        · subst ej
          rw [Nat.add_zero]; unfold flA; rw [hM.op]; rfl
        · have := h (j - 1) (by omega)
          rwa [show i' + 1 + (j - 1) = i' + j by omega] at this
    by_cases q : allF l (i' + 1) (m - (i' + 1))
    · rw [if_pos q, if_pos (e6.2 q)]; congr 1; omega
    · rw [if_neg q, if_neg (fun h => q (e6.1 h))]
end Go.Proofs.Ytjibfhlacbgkgaa.PSpan
