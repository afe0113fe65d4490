/- What wide.sum and wide.matches reckon: closed forms. -/
import Derived.Test.YtipjfdamkpgecaaHWidePagL
import Derived.Test.YtipjfdamkpgecaaHWideFlat
import Derived.Test.YtipjfdamkpgecaaPWidex7
import Derived.Test.YtipjfdamkpgecaaPWidex8
import Derived.Test.YtipjfdamkpgecaaPWidex6
namespace Go.Proofs.Ytipjfdamkpgecaa.PWide
open Go.RowKit Go.Proofs.YtipjfdamkpgecaaW.PrintWords Go.Proofs.YtipjfdamkpgecaaW.PrintMore
set_option linter.unusedVariables false
set_option linter.unusedSimpArgs false
theorem breaks_f (m : Int) (s : ByteArray) : span_Breaks.f m s = some (brB m) := by
  unfold span_Breaks.f brB
  by_cases h2 : m = 2
  · subst h2; rfl
  by_cases h3 : m = 3
  · subst h3; rfl
  by_cases h4 : m = 4
  · subst h4; rfl
  rw [if_neg h2, if_neg h3, if_neg h4]
  simp [h2, h3, h4]
/-- n values of a function. -/
def tab (n : Nat) (f : Nat → Int) : List Int := (List.range n).map f
theorem tab_len (n : Nat) (f : Nat → Int) : (tab n f).length = n := by simp [tab]
theorem tab_rd {n : Nat} (f : Nat → Int) {i : Nat} (h : i < n) : rd (tab n f) (i : Int) = f i := by
  unfold rd tab
  rw [Int.toNat_natCast, List.getD_eq_getElem?_getD, List.getElem?_map, List.getElem?_range h]; rfl
theorem tab_set (n : Nat) (f : Nat → Int) (i : Nat) (v : Int) : (tab n f).set i v = tab n (fun j => if j = i then v else f j) := by
  apply List.ext_getElem
  · simp [tab]
  · intro j h1 h2
    simp only [tab, List.getElem_set, List.getElem_map, List.getElem_range]
    by_cases e : i = j
    · rw [if_pos e, if_pos e.symm]
    · rw [if_neg e, if_neg (fun h => e h.symm)]
theorem tab_congr {n : Nat} {f g : Nat → Int} (h : ∀ j, j < n → f j = g j) : tab n f = tab n g := by
  unfold tab
  exact List.map_congr_left fun j hj => h j (List.mem_range.1 hj)
theorem tab_rep (n : Nat) : List.replicate n (0 : Int) = tab n (fun _ => 0) := by
  apply List.ext_getElem
  · simp [tab]
  · intro j h1 h2
    simp [tab]
/-- The next new line, from a place on. -/
def hardB (l : List S31) : Nat → Nat → Nat
  | 0, k => k
  | d + 1, k => if (gB l k).f0 = 5 then k else hardB l d (k + 1)
def aheadL (l : List S31) : List Int := tab (l.length + 1) (fun j => sumC l 0 j)
def tailL (l : List S31) : List Int := tab (l.length + 1) (fun j => behB l (l.length - j) j)
def hardL (l : List S31) : List Int := tab (l.length + 1) (fun j => (hardB l (l.length - j) j : Int))
/-- So many rounds do for any text of the list. -/
def roundsW (l : List S31) (K : Nat) : Prop := ∀ k, (gB l k).f1.size + 24 < K
theorem colA_f {l : List S31} (hs : small33 l) {K : Nat} (hK : roundsW l K) (k : Nat) : span_Cols.f K (flatOf (gB l k).f0 (gB l k).f1).1 = some (colA l k) := by
  have h1 := hK k
  have h2 := flatOf_size2 (gB l k).f0 (gB l k).f1
  have h3 : (gB l k).f1.size ≤ 140737488355328 := by
    by_cases g : k < l.length
    · exact hs _ (gB_mem g)
    · rw [gB_ge (by omega)]; decide
  exact cols_f _ (by omega) _ (by omega)
theorem sum_l1 {l : List S31} (hm : MayB l) (hs : small33 l) : ∀ (i K : Nat), i ≤ l.length → i < K →
    wide_sum.l1 K l ((i : Int) - 1) (aheadL l) (tab (l.length + 1) (fun j => if i ≤ j then behB l (l.length - j) j else 0)) (tab (l.length + 1) (fun j => if i ≤ j then (hardB l (l.length - j) j : Int) else 0)) = some (aheadL l, tailL l, hardL l)
  | 0, K, _, hK => by
    obtain ⟨K, rfl⟩ : ∃ K', K = K' + 1 := ⟨K - 1, by omega⟩
    rw [wide_sum.l1, if_neg (by omega)]
    have e1 : tab (l.length + 1) (fun j => if 0 ≤ j then behB l (l.length - j) j else 0) = tailL l := tab_congr fun j _ => if_pos (Nat.zero_le _)
    have e2 : tab (l.length + 1) (fun j => if 0 ≤ j then (hardB l (l.length - j) j : Int) else 0) = hardL l := tab_congr fun j _ => if_pos (Nat.zero_le _)
    rw [e1, e2]
  | i + 1, K, hi, hK => by
    obtain ⟨K, rfl⟩ : ∃ K', K = K' + 1 := ⟨K - 1, by omega⟩
    have hl := hm.len
    have E := Aside0.mk (show wrap64 ((i : Int) + 1) = ((i + 1 : Nat) : Int) by rw [wrap_id (by omega) (by omega)]; omega)
    have E2 := Aside0.mk (show wrap64 ((i : Int) - 1) = (i : Int) - 1 by rw [wrap_id (by omega) (by omega)])
    have bd := behB_bd hs (l.length - (i + 1)) (i + 1)
    have b1 := sumC_bd hs 0 (i + 1)
    have b2 := sumC_bd hs 0 i
    have eb : behB l (l.length - i) i = if brB (gB l i).f0 = true then 0 else tsB l i + behB l (l.length - (i + 1)) (i + 1) := by
      rw [show l.length - i = l.length - (i + 1) + 1 by omega, behB]
    have eh : hardB l (l.length - i) i = if (gB l i).f0 = 5 then i else hardB l (l.length - (i + 1)) (i + 1) := by
      rw [show l.length - i = l.length - (i + 1) + 1 by omega, hardB]
    have es : sumC l 0 (i + 1) = sumC l 0 i + colA l i := by rw [sumC, Nat.zero_add]
    have W1 := Aside0.mk (wrap_id (x := behB l (l.length - (i + 1)) (i + 1) + sumC l 0 (i + 1)) (by omega) (by omega))
    have W2 := Aside0.mk (wrap_id (x := behB l (l.length - (i + 1)) (i + 1) + sumC l 0 (i + 1) - sumC l 0 i) (by omega) (by omega))
    have hH : ∀ y, y = tab (l.length + 1) (fun j => if i ≤ j then (hardB l (l.length - j) j : Int) else 0) → ∀ x, x = tab (l.length + 1) (fun j => if i ≤ j then behB l (l.length - j) j else 0) → wide_sum.l1 K l ((i : Int) - 1) (aheadL l) x y = some (aheadL l, tailL l, hardL l) := by
      rintro _ rfl _ rfl
      exact sum_l1 hm hs i K (by omega) (by omega)
    have hT : ∀ y, y = tab (l.length + 1) (fun j => if i ≤ j then (hardB l (l.length - j) j : Int) else 0) →
        ((some (brB (gB l i).f0)).bind fun t130 => (if t130 = true then (wide_sum.l1 K l (wrap64 ((i : Int) - 1)) (aheadL l) (tab (l.length + 1) (fun j => if i + 1 ≤ j then behB l (l.length - j) j else 0)) y) else (if (wrap64 ((i : Int) + 1)) < ((tab (l.length + 1) (fun j => if i + 1 ≤ j then behB l (l.length - j) j else 0)).length : Int) then (if (wrap64 ((i : Int) + 1)) < ((aheadL l).length : Int) then (if (i : Int) < ((aheadL l).length : Int) then (if (i : Int) < ((tab (l.length + 1) (fun j => if i + 1 ≤ j then behB l (l.length - j) j else 0)).length : Int) then (wide_sum.l1 K l (wrap64 ((i : Int) - 1)) (aheadL l) ((tab (l.length + 1) (fun j => if i + 1 ≤ j then behB l (l.length - j) j else 0)).set (i : Int).toNat (wrap64 ((wrap64 ((rd (tab (l.length + 1) (fun j => if i + 1 ≤ j then behB l (l.length - j) j else 0)) (wrap64 ((i : Int) + 1))) + (rd (aheadL l) (wrap64 ((i : Int) + 1))))) - (rd (aheadL l) (i : Int))))) y) else (none)) else (none)) else (none)) else (none)))) = some (aheadL l, tailL l, hardL l) := by
      intro y hy
      have la : (aheadL l).length = l.length + 1 := tab_len _ _
      rw [Option.bind_some, E2.out, E.out]
      by_cases g : brB (gB l i).f0 = true
      · rw [if_pos g]
        refine hH _ hy _ (tab_congr fun j hj => ?_)
        by_cases e : j = i
        · subst e; rw [if_neg (by omega), if_pos (Nat.le_refl _), eb, if_pos g]
        · by_cases q : i ≤ j
          · rw [if_pos q, if_pos (by omega)]
          · rw [if_neg q, if_neg (by omega)]
      · have g' : brB (gB l i).f0 = false := by simpa using g
        rw [if_neg g, tab_len, la, if_pos (by omega), if_pos (by omega), if_pos (by omega), if_pos (by omega), tab_rd _ (by omega), if_pos (Nat.le_refl _), Int.toNat_natCast, tab_set]
        have r1 : rd (aheadL l) ((i + 1 : Nat) : Int) = sumC l 0 (i + 1) := tab_rd _ (by omega)
        have r2 : rd (aheadL l) (i : Int) = sumC l 0 i := tab_rd _ (by omega)
        rw [r1, r2]
        refine hH _ hy _ (tab_congr fun j hj => ?_)
        by_cases e : j = i
        · subst e
          rw [if_pos rfl, if_pos (Nat.le_refl _), eb, if_neg g, tsB_col2 hm (by omega) g', W1.out, W2.out]
          omega
        · rw [if_neg e]
          by_cases q : i ≤ j
          · rw [if_pos q, if_pos (by omega)]
          · rw [if_neg q, if_neg (by omega)]
    rw [wide_sum.l1, show ((i + 1 : Nat) : Int) - 1 = (i : Int) by omega, if_pos (by omega)]
    rw [if_pos (show 0 ≤ wrap64 ((i : Int) + 1) by rw [E.out]; omega), if_pos (show wrap64 ((i : Int) + 1) < ((tab (l.length + 1) (fun j => if i + 1 ≤ j then (hardB l (l.length - j) j : Int) else 0)).length : Int) by rw [E.out, tab_len]; omega), if_pos (by omega), if_pos (by rw [tab_len]; omega), Option.bind_some, if_pos (by omega), rd_gB, breaks_f]
    have hs1 : (tab (l.length + 1) (fun j => if i + 1 ≤ j then (hardB l (l.length - j) j : Int) else 0)).set ((i : Int)).toNat (rd (tab (l.length + 1) (fun j => if i + 1 ≤ j then (hardB l (l.length - j) j : Int) else 0)) (wrap64 ((i : Int) + 1))) = tab (l.length + 1) (fun j => if j = i then (hardB l (l.length - (i + 1)) (i + 1) : Int) else if i + 1 ≤ j then (hardB l (l.length - j) j : Int) else 0) := by
      rw [E.out, tab_rd _ (by omega), if_pos (Nat.le_refl _), Int.toNat_natCast, tab_set]
    rw [hs1]
    by_cases c5 : (gB l i).f0 = 5
    · rw [if_pos c5, Option.bind_some, Int.toNat_natCast, tab_set]
      refine hT _ (tab_congr fun j hj => ?_)
      by_cases e : j = i
      · subst e; rw [if_pos rfl, if_pos (Nat.le_refl _), eh, if_pos c5]
      · rw [if_neg e, if_neg e]
        by_cases q : i ≤ j
        · rw [if_pos q, if_pos (by omega)]
        · rw [if_neg q, if_neg (by omega)]
    · rw [if_neg c5]
      refine hT _ (tab_congr fun j hj => ?_)
      by_cases e : j = i
      · subst e; rw [if_pos rfl, if_pos (Nat.le_refl _), eh, if_neg c5]
      · rw [if_neg e]
        by_cases q : i ≤ j
        · rw [if_pos q, if_pos (by omega)]
        · rw [if_neg q, if_neg (by omega)]
theorem sum_l0 {l : List S31} (hm : MayB l) (hs : small33 l) {R : Nat} (hR : roundsW l R) : ∀ (d i K : Nat), i + d = l.length → d + (l.length + R + 2) < K →
    wide_sum.l0 K l (l.length : Int) l (l.length : Int) (i : Int) (tab (l.length + 1) (fun j => if j ≤ i then sumC l 0 j else 0)) (tab (l.length + 1) (fun _ => 0)) (tab (l.length + 1) (fun _ => 0)) = some (aheadL l, tailL l, hardL l)
  | 0, i, K, hi, hK => by
    obtain ⟨K, rfl⟩ : ∃ K', K = K' + 1 := ⟨K - 1, by omega⟩
    obtain rfl : i = l.length := by omega
    have hl := hm.len
    rw [wide_sum.l0, if_neg (by omega), if_pos (by omega), tab_len, if_pos (by omega), wrap_id (by omega) (by omega), Int.toNat_natCast, tab_set]
    have h := sum_l1 hm hs l.length K (Nat.le_refl _) (by omega)
    have e1 : tab (l.length + 1) (fun j => if j ≤ l.length then sumC l 0 j else 0) = aheadL l := tab_congr fun j hj => if_pos (by omega)
    have e2 : tab (l.length + 1) (fun _ => 0) = tab (l.length + 1) (fun j => if l.length ≤ j then behB l (l.length - j) j else 0) := tab_congr fun j hj => by
      by_cases q : l.length ≤ j
      · rw [if_pos q, show l.length - j = 0 by omega, behB]
      · rw [if_neg q]
    have e3 : tab (l.length + 1) (fun j => if j = l.length then (l.length : Int) else 0) = tab (l.length + 1) (fun j => if l.length ≤ j then (hardB l (l.length - j) j : Int) else 0) := tab_congr fun j hj => by
      by_cases q : j = l.length
      · subst q; rw [if_pos rfl, if_pos (Nat.le_refl _), Nat.sub_self, hardB]
      · rw [if_neg q, if_neg (by omega)]
    rw [e1, e2, e3]; exact h
  | d + 1, i, K, hi, hK => by
    obtain ⟨K, rfl⟩ : ∃ K', K = K' + 1 := ⟨K - 1, by omega⟩
    have hl := hm.len
    have E := Aside0.mk (show wrap64 ((i : Int) + 1) = ((i + 1 : Nat) : Int) by rw [wrap_id (by omega) (by omega)]; omega)
    have b1 := sumC_bd hs 0 i
    have b2 := colA_bd hs i
    have hRK : roundsW l K := fun j => by have := hR j; omega
    have es : sumC l 0 (i + 1) = sumC l 0 i + colA l i := by rw [sumC, Nat.zero_add]
    rw [wide_sum.l0, if_pos (by omega), if_pos (by omega), if_pos (by omega), rd_gB]
    rw [show span_Flat.f (gB l i).f0 (gB l i).f1 = some (flatOf (gB l i).f0 (gB l i).f1) from rfl, Option.bind_some, tab_len, if_pos (by omega), colA_f hs hRK, Option.bind_some, E.out, if_pos (by omega), if_pos (by omega), tab_rd _ (by omega), if_pos (Nat.le_refl _), wrap_id (by omega) (by omega), Int.toNat_natCast, tab_set]
    have h := sum_l0 hm hs hR d (i + 1) K (by omega) (by omega)
    have e : tab (l.length + 1) (fun j => if j = i + 1 then sumC l 0 i + colA l i else if j ≤ i then sumC l 0 j else 0) = tab (l.length + 1) (fun j => if j ≤ i + 1 then sumC l 0 j else 0) := tab_congr fun j hj => by
      by_cases q : j = i + 1
      · subst q; rw [if_pos rfl, if_pos (Nat.le_refl _), es]
      · rw [if_neg q]
        by_cases q2 : j ≤ i
        · rw [if_pos q2, if_pos (by omega)]
        · rw [if_neg q2, if_neg (by omega)]
    rw [e]; exact h
theorem sum_f {l : List S31} (hm : MayB l) (hs : small33 l) {R K : Nat} (hR : roundsW l R) (hK : 2 * l.length + R + 4 < K) : wide_sum.f K l = some (aheadL l, tailL l, hardL l) := by
  have hl := hm.len
  unfold wide_sum.f
  have E : wrap64 ((l.length : Int) + 1) = ((l.length + 1 : Nat) : Int) := by rw [wrap_id (by omega) (by omega)]; omega
  rw [E, if_pos (by omega), Int.toNat_natCast, if_pos (by omega), tab_rep]
  have h := sum_l0 hm hs hR l.length 0 K (by omega) (by omega)
  have e : tab (l.length + 1) (fun j => if j ≤ 0 then sumC l 0 j else 0) = tab (l.length + 1) (fun _ => 0) := tab_congr fun j hj => by
    by_cases q : j ≤ 0
    · obtain rfl : j = 0 := by omega
      rw [if_pos q, sumC]
    · rw [if_neg q]
  rw [e] at h
  exact h
end Go.Proofs.Ytipjfdamkpgecaa.PWide
