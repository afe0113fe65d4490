import Derived.Test.YtipjfdamkpgecaaHWideSumF
namespace Go.Proofs.Ytipjfdamkpgecaa.PWide
open Go.RowKit Go.Proofs.YtipjfdamkpgecaaW.PrintWords Go.Proofs.YtipjfdamkpgecaaW.PrintMore
set_option linter.unusedVariables false
set_option linter.unusedSimpArgs false
def matchL (l : List S31) : List Int := tab l.length (fun j => if (gB l j).f0 = 6 then matchOf l (j : Int) else 0)
/-- What is open, ahead of a place. -/
structure StkOk (l : List S31) (i : Nat) (st : List Nat) : Prop where
  len : (st.length : Int) = depB l i
  at_ : ∀ p (hp : p < st.length), st[p] < i ∧ (gB l st[p]).f0 = 6 ∧ depB l st[p] = (p : Int) ∧ ∀ x, st[p] < x → x ≤ i → (p : Int) < depB l x
theorem StkOk.push {l : List S31} {i : Nat} {st : List Nat} (h : StkOk l i st) (h6 : (gB l i).f0 = 6) : StkOk l (i + 1) (st ++ [i]) := by
  have hd := depB_open h6
  have hl := h.len
  refine ⟨by rw [List.length_append, List.length_singleton, hd]; omega, fun p hp => ?_⟩
  rw [List.length_append, List.length_singleton] at hp
  by_cases e : p < st.length
  · rw [List.getElem_append_left e]
    obtain ⟨a, b, c, d⟩ := h.at_ p e
    refine ⟨by omega, b, c, fun x h1 h2 => ?_⟩
    by_cases q : x = i + 1
    · subst q; omega
    · exact d x h1 (by omega)
  · obtain rfl : p = st.length := by omega
    rw [List.getElem_append_right (by omega)]
    simp only [Nat.sub_self, List.getElem_singleton]
    refine ⟨by omega, h6, hl.symm, fun x h1 h2 => ?_⟩
    obtain rfl : x = i + 1 := by omega
    omega
theorem StkOk.stay {l : List S31} {i : Nat} {st : List Nat} (h : StkOk l i st) (h6 : (gB l i).f0 ≠ 6) (h7 : (gB l i).f0 ≠ 7) : StkOk l (i + 1) st := by
  have hd : depB l (i + 1) = depB l i := by
    rw [depB_succ]; unfold valB; rw [if_neg h6, if_neg h7, Int.add_zero]
  have hl := h.len
  refine ⟨by rw [hd]; exact hl, fun p hp => ?_⟩
  obtain ⟨a, b, c, d⟩ := h.at_ p hp
  refine ⟨by omega, b, c, fun x h1 h2 => ?_⟩
  by_cases q : x = i + 1
  · subst q; omega
  · exact d x h1 (by omega)
theorem StkOk.pop {l : List S31} {i : Nat} {st : List Nat} (h : StkOk l i st) (h7 : (gB l i).f0 = 7) (h0 : 0 < st.length) : StkOk l (i + 1) (st.take (st.length - 1)) := by
  have hd : depB l (i + 1) = depB l i - 1 := by
    rw [depB_succ, h7]; rfl
  have hl := h.len
  refine ⟨by rw [List.length_take, hd]; omega, fun p hp => ?_⟩
  rw [List.length_take] at hp
  rw [List.getElem_take]
  obtain ⟨a, b, c, d⟩ := h.at_ p (by omega)
  refine ⟨by omega, b, c, fun x h1 h2 => ?_⟩
  by_cases q : x = i + 1
  · subst q; omega
  · exact d x h1 (by omega)
theorem StkOk.top {l : List S31} {i : Nat} {st : List Nat} (h : StkOk l i st) (h7 : (gB l i).f0 = 7) (hi : i < l.length) (h0 : 0 < st.length) : IsM l (st[st.length - 1]) i := by
  have hd : depB l (i + 1) = depB l i - 1 := by
    rw [depB_succ, h7]; rfl
  have hl := h.len
  obtain ⟨a, b, c, d⟩ := h.at_ (st.length - 1) (by omega)
  exact ⟨a, hi, b, by omega, fun j h1 h2 => by have := d j h1 h2; omega⟩
def mdB (l : List S31) (i : Nat) (j : Nat) : Int := if (gB l j).f0 = 6 ∧ matchOf l (j : Int) < (i : Int) then matchOf l (j : Int) else 0
theorem mdB_stay {l : List S31} (hm : MayB l) {i : Nat} (h7 : (gB l i).f0 ≠ 7) {j : Nat} (hj : j < l.length) : mdB l (i + 1) j = mdB l i j := by
  unfold mdB
  by_cases g : (gB l j).f0 = 6
  · obtain ⟨m, hM⟩ := hm.group hj g
    have hne : m ≠ i := by intro e; subst e; exact h7 hM.close
    rw [hM.mt]
    by_cases q : (m : Int) < (i : Int)
    · rw [if_pos ⟨g, by omega⟩, if_pos ⟨g, q⟩]
    · rw [if_neg (fun h => by omega), if_neg (fun h => q h.2)]
  · rw [if_neg (fun h => g h.1), if_neg (fun h => g h.1)]
theorem mdB_set {l : List S31} (hm : MayB l) {i t : Nat} (ht : IsM l t i) {j : Nat} (hj : j < l.length) : mdB l (i + 1) j = if j = t then (i : Int) else mdB l i j := by
  unfold mdB
  by_cases e : j = t
  · subst e
    rw [if_pos rfl, ht.mt, if_pos ⟨ht.op, by omega⟩]
  · rw [if_neg e]
    by_cases g : (gB l j).f0 = 6
    · obtain ⟨m, hM⟩ := hm.group hj g
      have hne : m ≠ i := by
        intro e2; subst e2
        rcases (ht.facts hM).1 with h | h
        · exact e h
        · exact h rfl
      rw [hM.mt]
      by_cases q : (m : Int) < (i : Int)
      · rw [if_pos ⟨g, by omega⟩, if_pos ⟨g, q⟩]
      · rw [if_neg (fun h => by omega), if_neg (fun h => q h.2)]
    · rw [if_neg (fun h => g h.1), if_neg (fun h => g h.1)]
def natL (st : List Nat) : List Int := st.map (fun t : Nat => (t : Int))
theorem natL_len (st : List Nat) : (natL st).length = st.length := by simp [natL]
theorem mat_l0 {l : List S31} (hm : MayB l) : ∀ (d i K : Nat) (st : List Nat), i + d = l.length → d < K → StkOk l i st →
    wide_matches.l0 K (tab l.length (mdB l i)) (natL st) l (l.length : Int) (i : Int) = some (matchL l)
  | 0, i, K, st, hi, hK, hs => by
    obtain ⟨K, rfl⟩ : ∃ K', K = K' + 1 := ⟨K - 1, by omega⟩
    rw [wide_matches.l0, if_neg (by omega)]
    congr 1
    refine tab_congr fun j hj => ?_
    unfold mdB
    by_cases g : (gB l j).f0 = 6
    · obtain ⟨m, hM⟩ := hm.group hj g
      have := hM.len
      rw [if_pos g, hM.mt, if_pos ⟨g, by omega⟩]
    · rw [if_neg g, if_neg (fun h => g h.1)]
  | d + 1, i, K, st, hi, hK, hs => by
    obtain ⟨K, rfl⟩ : ∃ K', K = K' + 1 := ⟨K - 1, by omega⟩
    have hl := hm.len
    have E := Aside0.mk (show wrap64 ((i : Int) + 1) = ((i + 1 : Nat) : Int) by rw [wrap_id (by omega) (by omega)]; omega)
    have hsl := hs.len
    have hdb : depB l i ≤ i := by
      have key : ∀ k, depB l k ≤ k := by
        intro k
        induction k with
        | zero => exact Int.le_refl 0
        | succ k ih => have := depB_step l k; omega
      exact key i
    rw [wide_matches.l0, if_pos (by omega), if_pos (by omega), if_pos (by omega), rd_gB]
    by_cases c6 : (gB l i).f0 = 6
    · have h := mat_l0 hm d (i + 1) K (st ++ [i]) (by omega) (by omega) (hs.push c6)
      rw [if_pos c6, natL_len, if_pos (by omega), E.out]
      rw [show natL st ++ [(i : Int)] = natL (st ++ [i]) by simp [natL], show tab l.length (mdB l i) = tab l.length (mdB l (i + 1)) from tab_congr fun j hj => (mdB_stay hm (by omega) hj).symm]
      exact h
    rw [if_neg c6]
    by_cases c7 : (gB l i).f0 = 7
    · have hd : depB l (i + 1) = depB l i - 1 := by rw [depB_succ, c7]; rfl
      have hge := hm.dep (i + 1) (by omega)
      have h0 : 0 < st.length := by omega
      have ht := hs.top c7 (by omega) h0
      have htl := ht.lt
      have h := mat_l0 hm d (i + 1) K (st.take (st.length - 1)) (by omega) (by omega) (hs.pop c7 h0)
      have E2 := Aside0.mk (show wrap64 ((st.length : Int) - 1) = ((st.length - 1 : Nat) : Int) by rw [wrap_id (by omega) (by omega)]; omega)
      have hrd : rd (natL st) ((st.length - 1 : Nat) : Int) = ((st[st.length - 1] : Nat) : Int) := by
        unfold rd natL
        rw [Int.toNat_natCast, List.getD_eq_getElem?_getD, List.getElem?_map, List.getElem?_eq_getElem (by omega)]; rfl
      rw [if_pos c7, natL_len, E2.out, if_pos (by omega), if_pos (by omega), hrd, tab_len, if_pos (by omega), if_pos (by omega), if_pos (by omega), Int.toNat_natCast, Int.toNat_natCast, tab_set, E.out]
      rw [show (natL st).take (st.length - 1) = natL (st.take (st.length - 1)) by simp [natL, List.map_take], show tab l.length (fun j => if j = st[st.length - 1] then (i : Int) else mdB l i j) = tab l.length (mdB l (i + 1)) from tab_congr fun j hj => (mdB_set hm ht hj).symm]
      exact h
    · have h := mat_l0 hm d (i + 1) K st (by omega) (by omega) (hs.stay c6 c7)
      rw [if_neg c7, E.out, show tab l.length (mdB l i) = tab l.length (mdB l (i + 1)) from tab_congr fun j hj => (mdB_stay hm c7 hj).symm]
      exact h
theorem mat_f {l : List S31} (hm : MayB l) {K : Nat} (hK : l.length < K) : wide_matches.f K l = some (matchL l) := by
  have hl := hm.len
  unfold wide_matches.f
  rw [if_pos (by omega), Int.toNat_natCast, if_pos (by omega), tab_rep]
  have h := mat_l0 hm l.length 0 K [] (by omega) hK ⟨rfl, fun p hp => absurd hp (by simp)⟩
  have e : tab l.length (mdB l 0) = tab l.length (fun _ => 0) := tab_congr fun j hj => by
    unfold mdB
    by_cases g : (gB l j).f0 = 6
    · obtain ⟨m, hM⟩ := hm.group hj g
      rw [hM.mt, if_neg (fun h => by omega)]
    · rw [if_neg (fun h => g h.1)]
  rw [e] at h
  exact h
end Go.Proofs.Ytipjfdamkpgecaa.PWide
