/- The pure statement of FlowBreaks. -/
import Derived.Test.YtkhlfdoeploddaaPFlowx23
import Derived.Test.YtkhlfdoeploddaaHFlowFlowA
namespace Go.Proofs.Ytkhlfdoeploddaa.PFlow
open Go.RowKit Go.Proofs.YtkhlfdoeploddaaW.PrintWords Go.Proofs.YtkhlfdoeploddaaW.PrintMore
set_option linter.unusedVariables false
set_option linter.unusedSimpArgs false
/-- What the law's loop knows of the first i bits. -/
structure BrI (l : List S34) (i : Nat) (groups last : Int) : Prop where
  g0 : 0 ≤ groups ∧ groups ≤ i
  g1 : groups = 0 → ∀ j, j < i → (gB l j).f0 ≠ 6
  la : last = -1 ∨ ∃ m : Nat, last = m ∧ m < i ∧ brB (gB l m).f0 = true ∧ depB l (m + 1) = 0 ∧ ∀ j, m < j → j < i → (gB l j).f0 ≠ 6
theorem br_no {l : List S34} (hm : MayB l) {w : Int} {k j : Nat} {groups last : Int} (h : BrI l k groups last) (hj : FlowAt l w k j) (hk : k ≤ l.length) (hc : groups = 0 ∨ last ≠ -1) : j = k := by
  refine Classical.byContradiction fun hn => ?_
  have hle := hj.le
  obtain ⟨_, m, hM, hu⟩ := hj.stop (by omega)
  rcases hc with hc | hc
  · exact h.g1 hc j (by omega) hM.op
  · rcases h.la with e | ⟨a, e, ha, hb, hd, hx⟩
    · exact hc e
    · by_cases q : a < j
      · exact hx j q (by omega) hM.op
      · by_cases q2 : a = j
        · subst q2; rw [hM.op] at hb; exact absurd hb (by decide)
        · by_cases q3 : a < m
          · have := hM.gt (a + 1) (by omega) (by omega)
            have := hm.dep j (by omega)
            omega
          · have := hu.1 a (by omega) ha
            rw [if_neg q3, hb] at this
            cases this
theorem br_end {l : List S34} (hd : Dom l) {w : Int} (r : roomB l w = true) {k : Nat} (hk : k ≤ l.length) {groups last : Int} (h : BrI l k groups last) :
    ((flow_Flow.f l w (k : Int)).bind fun bt : ByteArray × Int × Bool => (if bt.2.2 = true then (if groups > 0 then (if last = (-1) then (some true) else (some (bt.2.1 == 0))) else (if bt.2.1 = 0 then (if last = (-1) then (some true) else (some (bt.2.1 == 0))) else (some false))) else (some false))) = some true := by
  obtain ⟨j, hj, e⟩ := flow_case hd r hk
  have hle := hj.le
  have hno := fun hc => br_no (roomB_true.1 r).1 h hj hk hc
  have g0 := h.g0
  rw [hd.flow_yes r hk, e, Option.bind_some]
  dsimp only
  rw [if_pos rfl]
  by_cases a : groups > 0
  · rw [if_pos a]
    by_cases b : last = -1
    · rw [if_pos b]
    · obtain rfl := hno (.inr b)
      rw [if_neg b, Int.sub_self]; rfl
  · obtain rfl := hno (.inl (by omega))
    rw [if_neg a, Int.sub_self, if_pos rfl]
    by_cases b : last = -1
    · rw [if_pos b]
    · rw [if_neg b]; rfl
theorem br_loop {l : List S34} (hd : Dom l) {w : Int} (r : roomB l w = true) {k : Nat} (hk : k ≤ l.length) :
    ∀ (d i K : Nat) (groups last : Int), i + d = k → 2 * d + 2 ≤ K → BrI l i groups last → copperplatelaw19_FlowBreaks.l0 K l w (k : Int) (depB l i) groups last (i : Int) = some true
  | 0, i, K + 1, groups, last, hi, hK, h => by
    obtain rfl : i = k := by omega
    rw [copperplatelaw19_FlowBreaks.l0, if_neg (by omega)]
    exact br_end hd r hk h
  | d + 1, i, K + 2, groups, last, hi, hK, h => by
    have hm := (roomB_true.1 r).1
    have hl := hm.len
    have hdp := hm.dep i (by omega)
    have hdq : depB l i ≤ i := by
      have : ∀ k, depB l k ≤ k := by
        intro k
        induction k with
        | zero => exact Int.le_refl 0
        | succ k ih => have := depB_step l k; omega
      exact this i
    have hde := depB_succ l i
    have g0 := h.g0
    have ew : wrap64 ((i : Int) + 1) = ((i + 1 : Nat) : Int) := by unfold wrap64; omega
    rw [copperplatelaw19_FlowBreaks.l0, if_pos (by omega), if_pos (by omega), if_pos (by omega), rd_gB]
    by_cases c6 : (gB l i).f0 = 6
    · rw [c6] at hde
      have hde : depB l (i + 1) = depB l i + 1 := hde
      rw [if_pos c6, copperplatelaw19_FlowBreaks.j2, if_pos (by omega), if_pos (by omega), rd_gB, if_neg (by rw [c6]; decide), breaks_q, Option.bind_some, c6, if_neg (show ¬ wrap64 (depB l i + 1) = 0 by unfold wrap64; omega), ew, show wrap64 (depB l i + 1) = depB l (i + 1) by unfold wrap64; omega, show wrap64 (groups + 1) = groups + 1 by unfold wrap64; omega]
      exact br_loop hd r hk d (i + 1) K _ _ (by omega) (by omega) ⟨by omega, fun h => by omega, .inl rfl⟩
    · rw [if_neg c6, copperplatelaw19_FlowBreaks.j2, if_pos (by omega), if_pos (by omega), rd_gB]
      have g1 : groups = 0 → ∀ j, j < i + 1 → (gB l j).f0 ≠ 6 := fun hg j hj => by
        by_cases q : j = i
        · rw [q]; exact c6
        · exact h.g1 hg j (by omega)
      by_cases c7 : (gB l i).f0 = 7
      · rw [c7] at hde
        have hde : depB l (i + 1) = depB l i - 1 := hde
        have e7 : wrap64 (depB l i - 1) = depB l (i + 1) := by unfold wrap64; omega
        have nx := br_loop hd r hk d (i + 1) K groups (-1) (by omega) (by omega) ⟨by omega, g1, .inl rfl⟩
        rw [if_pos c7, breaks_q, Option.bind_some, c7, ew, e7, show brB 7 = false from rfl, if_neg (show ¬ (false = true) by decide), nx]
        split <;> rfl
      · have hv : valB (gB l i).f0 = 0 := by unfold valB; rw [if_neg c6, if_neg c7]
        rw [hv] at hde
        have hde : depB l (i + 1) = depB l i := by omega
        have la : last = -1 ∨ ∃ m : Nat, last = m ∧ m < i + 1 ∧ brB (gB l m).f0 = true ∧ depB l (m + 1) = 0 ∧ ∀ j, m < j → j < i + 1 → (gB l j).f0 ≠ 6 := by
          rcases h.la with e | ⟨m, e, h1, h2, h3, h4⟩
          · exact .inl e
          · refine .inr ⟨m, e, by omega, h2, h3, fun j a b => ?_⟩
            by_cases q : j = i
            · rw [q]; exact c6
            · exact h4 j a (by omega)
        have nx := br_loop hd r hk d (i + 1) K groups last (by omega) (by omega) ⟨by omega, g1, la⟩
        rw [if_neg c7, breaks_q, Option.bind_some, ew, ← hde, nx]
        by_cases z : depB l (i + 1) = 0
        · rw [if_pos z]
          by_cases b : brB (gB l i).f0 = true
          · rw [if_pos b]
            exact br_loop hd r hk d (i + 1) K groups (i : Int) (by omega) (by omega) ⟨by omega, g1, .inr ⟨i, rfl, by omega, b, z, fun j a b => by omega⟩⟩
          · rw [if_neg b]
        · rw [if_neg z]
  | d + 1, i, 0, _, _, _, hK, _ => by omega
  | d + 1, i, 1, _, _, _, hK, _ => by omega
  | 0, _, 0, _, _, _, hK, _ => by omega
theorem _root_.Go.Proofs.Ytkhlfdoeploddaa.Pure.FlowBreaks : copperplatelaw19_FlowBreaks.PureUp := by
  intro l w k hl16 ht hw hk hb
  have hsm := small_of ht
  rw [← bulk_sum] at hb
  have hd : Dom l := ⟨by omega, hsm, by omega⟩
  refine ⟨2 * l.length + 6, ?_⟩
  unfold copperplatelaw19_FlowBreaks.f copperplatelaw19_awake.f
  rw [Option.bind_some, if_pos rfl]
  by_cases c2 : (l.length : Int) > 60
  · rw [if_pos c2]; rfl
  rw [if_neg c2, hd.room, Option.bind_some]
  by_cases r : roomB l w = true
  rotate_left
  · rw [if_neg r]; rfl
  rw [if_pos r]
  by_cases k0 : k < 0
  · rw [if_pos k0]; rfl
  rw [if_neg k0]
  by_cases k1 : k > (l.length : Int)
  · rw [decide_eq_true k1]; rfl
  obtain ⟨n, rfl⟩ := Int.eq_ofNat_of_zero_le (show 0 ≤ k by omega)
  rw [decide_eq_false k1, copperplatelaw19_FlowBreaks.j0, if_neg (by decide)]
  exact br_loop hd r (show n ≤ l.length by omega) n 0 (2 * l.length + 5) 0 (-1) (by omega) (by omega) ⟨by omega, fun _ j hj => absurd hj (Nat.not_lt_zero _), .inl rfl⟩
end Go.Proofs.Ytkhlfdoeploddaa.PFlow
