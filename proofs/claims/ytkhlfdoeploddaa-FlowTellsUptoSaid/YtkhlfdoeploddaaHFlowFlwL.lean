/- Plain facts of pages that come bit by bit: no program in sight. -/
import Derived.Test.YtkhlfdoeploddaaHFlowPagL
namespace Go.Proofs.Ytkhlfdoeploddaa.PFlow
open Go.RowKit Go.Proofs.YtkhlfdoeploddaaW.PrintWords Go.Proofs.YtkhlfdoeploddaaW.PrintMore
set_option linter.unusedVariables false
set_option linter.unusedSimpArgs false
/-! ### As bits come -/
/-- The first k bits do not tell whether the group at i, that ends at m, fits into so many columns. -/
def undB (l : List S34) (k i m : Nat) (room : Int) : Prop := (∀ j, i ≤ j → j < k → (if j < m then flA l j = true else brB (gB l j).f0 = false)) ∧ sumC l i (k - i) ≤ room
instance (l : List S34) (k i m : Nat) (room : Int) : Decidable (undB l k i m room) :=
  decidable_of_iff ((∀ j, j < k → i ≤ j → (if j < m then flA l j = true else brB (gB l j).f0 = false)) ∧ sumC l i (k - i) ≤ room)
    ⟨fun h => ⟨fun j a b => h.1 j b a, h.2⟩, fun h => ⟨fun j a b => h.1 j b a, h.2⟩⟩
def decRun (c : List S34) (m room : Int) : Nat → Nat → Int → Bool × Int
  | 0, _, n => (decide (n > room), -1)
  | d + 1, k, n =>
    if (m < 0 ∨ (k : Int) < m) ∧ flA c k = false then (true, -1)
    else if ¬ (m < 0 ∨ (k : Int) < m) ∧ brB (gB c k).f0 = true then (decide (n ≤ room), m)
    else if n + colA c k > room then (true, -1) else decRun c m room d (k + 1) (n + colA c k)
def decOf (c : List S34) (i : Nat) (room : Int) : Bool × Int := decRun c (matchOf c i) room (c.length - i) i 0
theorem tsB_col {l : List S34} (h : MayB l) {k : Nat} (hk : k < l.length) (hb : brB (gB l k).f0 = false) : tsB l k = colA l k := by
  have h1 := h.bit k hk
  unfold tsB
  by_cases g : (gB l k).f0 = 0 ∨ (gB l k).f0 = 1
  · rw [if_pos g]
  · rw [if_neg g]
    have : (gB l k).f0 = 6 ∨ (gB l k).f0 = 7 ∨ (gB l k).f0 = 8 ∨ (gB l k).f0 = 9 := by
      unfold brB at hb
      simp only [Bool.or_eq_false_iff, beq_eq_false_iff_ne] at hb
      omega
    unfold colA
    rcases this with e | e | e | e <;> (rw [e]; exact cols_none.symm)
theorem behB_run {l : List S34} (h : MayB l) : ∀ (e d k : Nat), e ≤ d → k + e ≤ l.length → (∀ j, j < e → brB (gB l (k + j)).f0 = false) → behB l d k = sumC l k e + behB l (d - e) (k + e)
  | 0, d, k, _, _, _ => by rw [sumC, Nat.sub_zero, Nat.add_zero]; omega
  | e + 1, d, k, hd, hl, hb => by
    obtain ⟨d, rfl⟩ : ∃ d', d = d' + 1 := ⟨d - 1, by omega⟩
    have h0 := hb 0 (by omega)
    rw [Nat.add_zero] at h0
    rw [behB, h0, if_neg (by decide), tsB_col h (by omega) h0, behB_run h e d (k + 1) (by omega) (by omega) (fun j hj => by rw [show k + 1 + j = k + (j + 1) by omega]; exact hb (j + 1) (by omega)), sumC_cons, show d + 1 - (e + 1) = d - e by omega, show k + 1 + e = k + (e + 1) by omega]
    omega
theorem flA_open {l : List S34} {k : Nat} (h : (gB l k).f0 = 6) : flA l k = true := by unfold flA; rw [h]; rfl
/-- What a group needs, told of its beginning. -/
theorem need_le {l : List S34} (h : MayB l) {i m k : Nat} (hm : IsM l i m) (hk : i < k) (hkl : k ≤ l.length) (hc : ∀ j, i ≤ j → j < k → (if j < m then flA l j = true else brB (gB l j).f0 = false)) :
    needV l i m = -1 ∨ sumC l i (k - i) ≤ needV l i m := by
  have h1 := hm.lt; have h2 := hm.len
  unfold needV
  by_cases g : allF l (i + 1) (m - (i + 1))
  · refine .inr ?_
    rw [if_pos g]
    have e1 := sumC_cons l i (m - (i + 1))
    rw [colA_open hm.op, show m - (i + 1) + 1 = m - i by omega] at e1
    by_cases q : k ≤ m
    · have e2 := sumC_add l i (k - i) (m - k)
      rw [show k - i + (m - k) = m - i by omega] at e2
      have e3 := sumC_nn l (i + (k - i)) (m - k)
      have e4 := behB_nn l (l.length - (m + 1)) (m + 1)
      omega
    · have e2 := sumC_add l i (m - i) (k - m)
      rw [show m - i + (k - m) = k - i by omega, show i + (m - i) = m by omega] at e2
      have e5 := sumC_cons l m (k - (m + 1))
      rw [colA_close hm.close, show k - (m + 1) + 1 = k - m by omega] at e5
      have e3 := behB_run h (k - (m + 1)) (l.length - (m + 1)) (m + 1) (by omega) (by omega) (fun j hj => by have := hc (m + 1 + j) (by omega) (by omega); rwa [if_neg (by omega)] at this)
      have e4 := behB_nn l (l.length - (m + 1) - (k - (m + 1))) (m + 1 + (k - (m + 1)))
      omega
  · exact .inl (by rw [if_neg g])
theorem need_eq {l : List S34} (h : MayB l) {i m k : Nat} (hm : IsM l i m) (hk : m < k) (hkl : k < l.length) (hc : ∀ j, i ≤ j → j < k → (if j < m then flA l j = true else brB (gB l j).f0 = false)) (hb : brB (gB l k).f0 = true) :
    needV l i m = sumC l i (k - i) := by
  have h1 := hm.lt; have h2 := hm.len
  unfold needV
  have hall : allF l (i + 1) (m - (i + 1)) := fun j hj => by have := hc (i + 1 + j) (by omega) (by omega); rwa [if_pos (by omega)] at this
  rw [if_pos hall]
  have e1 := sumC_cons l i (m - (i + 1))
  rw [colA_open hm.op, show m - (i + 1) + 1 = m - i by omega] at e1
  have e2 := sumC_add l i (m - i) (k - m)
  rw [show m - i + (k - m) = k - i by omega, show i + (m - i) = m by omega] at e2
  have e5 := sumC_cons l m (k - (m + 1))
  rw [colA_close hm.close, show k - (m + 1) + 1 = k - m by omega] at e5
  have e3 := behB_run h (k - (m + 1)) (l.length - (m + 1)) (m + 1) (by omega) (by omega) (fun j hj => by have := hc (m + 1 + j) (by omega) (by omega); rwa [if_neg (by omega)] at this)
  have e4 : behB l (l.length - (m + 1) - (k - (m + 1))) (m + 1 + (k - (m + 1))) = 0 := by
    rw [show l.length - (m + 1) - (k - (m + 1)) = l.length - (k + 1) + 1 by omega, show m + 1 + (k - (m + 1)) = k by omega, behB, if_pos hb]
  omega
theorem match_take {l : List S34} {i m k : Nat} (hm : IsM l i m) : matchOf (l.take k) (i : Int) = if m < k then (m : Int) else -1 := by
  by_cases g : m < k
  · rw [if_pos g]; exact (hm.take g).mt
  · rw [if_neg g]
    refine matchOf_neg fun i' k' e hk' => ?_
    obtain rfl : i = i' := by omega
    have := hk'.untake.uniq hm
    have := hk'.len
    rw [List.length_take] at this
    omega
theorem decRun_eq {l : List S34} (h : MayB l) {i m K : Nat} (hm : IsM l i m) (hK : K ≤ l.length) (room : Int) : ∀ (d k : Nat), i ≤ k → k + d = K → (k = i ∨ sumC l i (k - i) ≤ room) → i < K → (∀ j, i ≤ j → j < k → (if j < m then flA l j = true else brB (gB l j).f0 = false)) →
    decRun (l.take K) (if m < K then (m : Int) else -1) room d k (sumC l i (k - i)) = if undB l K i m room then (false, -1) else (true, if 0 ≤ needV l i m ∧ needV l i m ≤ room then (m : Int) else -1)
  | 0, k, hik, hd, hr, hi, hc => by
    obtain rfl : k = K := by omega
    have hr : sumC l i (k - i) ≤ room := hr.resolve_left (by omega)
    rw [decRun, if_pos ⟨hc, hr⟩, decide_eq_false (by omega)]
  | d + 1, k, hik, hd, hr, hi, hc => by
    have hmi := hm.lt
    have g0 : gB (l.take K) k = gB l k := gB_take (by omega)
    have ef : flA (l.take K) k = flA l k := by unfold flA; rw [g0]
    have ec : colA (l.take K) k = colA l k := by unfold colA; rw [g0]
    have en : sumC l i (k + 1 - i) = sumC l i (k - i) + colA l k := by rw [show k + 1 - i = k - i + 1 by omega, sumC, show i + (k - i) = k by omega]
    have ins : ((if m < K then (m : Int) else -1) < 0 ∨ (k : Int) < (if m < K then (m : Int) else -1)) ↔ k < m := by split <;> omega
    rw [decRun, ef, ec, g0]
    by_cases c1 : k < m ∧ flA l k = false
    · rw [if_pos ⟨ins.2 c1.1, c1.2⟩]
      have hki : k ≠ i := by intro e; subst e; rw [flA_open hm.op] at c1; exact absurd c1.2 (by decide)
      have hn : needV l i m = -1 := by
        unfold needV
        rw [if_neg]
        intro ha
        have := ha (k - (i + 1)) (by omega)
        rw [show i + 1 + (k - (i + 1)) = k by omega, c1.2] at this
        cases this
      rw [if_neg, if_neg (by omega)]
      intro hu
      have := hu.1 k hik (by omega)
      rw [if_pos c1.1, c1.2] at this
      cases this
    rw [if_neg (fun hh => c1 ⟨ins.1 hh.1, hh.2⟩)]
    by_cases c2 : ¬ k < m ∧ brB (gB l k).f0 = true
    · have hkm : k ≠ m := by intro e; subst e; rw [hm.close] at c2; exact absurd c2.2 (by decide)
      have hr : sumC l i (k - i) ≤ room := hr.resolve_left (by omega)
      have hn := need_eq h hm (k := k) (by omega) (by omega) hc c2.2
      have nn := sumC_nn l i (k - i)
      rw [if_pos ⟨fun hh => c2.1 (ins.1 hh), c2.2⟩, decide_eq_true hr, if_pos (show m < K by omega), hn, if_neg, if_pos ⟨nn, hr⟩]
      intro hu
      have := hu.1 k hik (by omega)
      rw [if_neg c2.1, c2.2] at this
      cases this
    rw [if_neg (fun hh => c2 ⟨fun q => hh.1 (ins.2 q), hh.2⟩)]
    have hc' : ∀ j, i ≤ j → j < k + 1 → (if j < m then flA l j = true else brB (gB l j).f0 = false) := by
      intro j h1 h2
      by_cases e : j = k
      · subst e
        by_cases q : j < m
        · rw [if_pos q]
          cases hx : flA l j with
          | true => rfl
          | false => exact absurd ⟨q, hx⟩ c1
        · rw [if_neg q]
          cases hx : brB (gB l j).f0 with
          | false => rfl
          | true => exact absurd ⟨q, hx⟩ c2
      · exact hc j h1 (by omega)
    rw [← en]
    by_cases c3 : sumC l i (k + 1 - i) > room
    · rw [if_pos c3]
      have hs := sumC_add l i (k + 1 - i) (K - (k + 1))
      rw [show k + 1 - i + (K - (k + 1)) = K - i by omega] at hs
      have hs2 := sumC_nn l (i + (k + 1 - i)) (K - (k + 1))
      have hn := need_le h hm (k := k + 1) (by omega) (by omega) hc'
      rw [if_neg (fun hu => by have := hu.2; omega), if_neg (by omega)]
    · rw [if_neg c3]
      exact decRun_eq h hm hK room d (k + 1) (by omega) (by omega) (.inr (by omega)) hi hc'
theorem decOf_eq {l : List S34} (h : MayB l) {i m K : Nat} (hm : IsM l i m) (hi : i < K) (hK : K ≤ l.length) (room : Int) :
    decOf (l.take K) i room = if undB l K i m room then (false, -1) else (true, if 0 ≤ needV l i m ∧ needV l i m ≤ room then (m : Int) else -1) := by
  unfold decOf
  rw [match_take hm, List.length_take, Nat.min_eq_left hK]
  have := decRun_eq h hm hK room (K - i) i (Nat.le_refl _) (by omega) (.inl rfl) hi (fun j a b => by omega)
  rwa [Nat.sub_self, sumC] at this
theorem und_mono {l : List S34} {i m K k : Nat} {room : Int} (h : undB l K i m room) (hk : k ≤ K) (hi : i < k) : undB l k i m room := by
  refine ⟨fun j a b => h.1 j a (by omega), ?_⟩
  have h2 := h.2
  have hs := sumC_add l i (k - i) (K - k)
  rw [show k - i + (K - k) = K - i by omega] at hs
  have hs2 := sumC_nn l (i + (k - i)) (K - k)
  omega
/-- What is told of the first k bits: up to the first group that they do not decide. -/
def flowRun (l : List S34) (w : Int) (k : Nat) : Nat → Nat → PgB → PgB × Int
  | 0, _, p => (p, 0)
  | d + 1, i, p =>
    if (gB l i).f0 = 6 ∧ p.flat < 0 then
      (if (decOf (l.take k) i (w - p.col)).1 = false then (p, (k : Int) - i) else flowRun l w k d (i + 1) { p with flat := (decOf (l.take k) i (w - p.col)).2 })
    else flowRun l w k d (i + 1) (stepP (gB l i) i false 0 p)
def flowOf (l : List S34) (w : Int) (k : Nat) : PgB × Int := flowRun l w k k 0 pg0
/-- Where it stops. -/
structure FlowAt (l : List S34) (w : Int) (k j : Nat) : Prop where
  le : j ≤ k
  ok : ∀ i m, i < j → IsM l i m → (uptoP l w i).flat < 0 → ¬ undB l k i m (w - (uptoP l w i).col)
  stop : j < k → (uptoP l w j).flat < 0 ∧ ∃ m, IsM l j m ∧ undB l k j m (w - (uptoP l w j).col)
theorem flowRun_eq {l : List S34} (h : MayB l) (hs : small33 l) (w : Int) {k : Nat} (hk : k ≤ l.length) : ∀ (d i : Nat), i + d = k → (∀ i' m, i' < i → IsM l i' m → (uptoP l w i').flat < 0 → ¬ undB l k i' m (w - (uptoP l w i').col)) →
    ∃ j, FlowAt l w k j ∧ flowRun l w k d i (uptoP l w i) = (uptoP l w j, (k : Int) - j)
  | 0, i, hi, hok => by
    obtain rfl : i = k := by omega
    exact ⟨i, ⟨Nat.le_refl _, hok, fun hh => absurd hh (Nat.lt_irrefl _)⟩, by rw [flowRun, Int.sub_self]⟩
  | d + 1, i, hi, hok => by
    rw [flowRun]
    by_cases c : (gB l i).f0 = 6 ∧ (uptoP l w i).flat < 0
    · rw [if_pos c]
      obtain ⟨m, hm⟩ := h.group (show i < l.length by omega) c.1
      rw [decOf_eq h hm (by omega) hk]
      by_cases u : undB l k i m (w - (uptoP l w i).col)
      · rw [if_pos u, if_pos rfl]
        exact ⟨i, ⟨by omega, hok, fun _ => ⟨c.2, m, hm, u⟩⟩, rfl⟩
      · rw [if_neg u, if_neg (fun hh => by cases hh)]
        have e : { uptoP l w i with flat := if 0 ≤ needV l i m ∧ needV l i m ≤ w - (uptoP l w i).col then (m : Int) else -1 } = uptoP l w (i + 1) := by
          rw [uptoP_succ, hm.mt]
          unfold fitP stepP
          have hl := h.len
          rw [hm.need hs (by omega), if_pos c.1]
          have okf := (okP h w i (by omega)).flat
          generalize uptoP l w i = p at c okf ⊢
          by_cases g : 0 ≤ needV l i m ∧ needV l i m ≤ w - p.col
          · rw [if_pos g, if_pos ⟨c.2, decide_eq_true ⟨g.1, by omega⟩⟩]
          · rw [if_neg g, if_neg (fun hh => g (by have := of_decide_eq_true hh.2; omega))]
            have : p.flat = -1 := okf.elim id fun ⟨_, _, e, _⟩ => by omega
            rw [← this]
        show ∃ j, FlowAt l w k j ∧ flowRun l w k d (i + 1) { uptoP l w i with flat := if 0 ≤ needV l i m ∧ needV l i m ≤ w - (uptoP l w i).col then (m : Int) else -1 } = _
        rw [e]
        refine flowRun_eq h hs w hk d (i + 1) (by omega) fun i' m' h1 h2 h3 => ?_
        by_cases q : i' = i
        · subst q; rw [h2.uniq hm]; exact u
        · exact hok i' m' (by omega) h2 h3
    · rw [if_neg c]
      have e : stepP (gB l i) i false 0 (uptoP l w i) = uptoP l w (i + 1) := by
        rw [uptoP_succ]
        by_cases g : (gB l i).f0 = 6
        · unfold stepP
          rw [if_pos g, if_pos g, if_neg (fun hh => c ⟨g, hh.1⟩), if_neg (fun hh => c ⟨g, hh.1⟩)]
        · exact stepP_other g
      rw [e]
      refine flowRun_eq h hs w hk d (i + 1) (by omega) fun i' m' h1 h2 h3 => ?_
      by_cases q : i' = i
      · subst q; exact absurd ⟨h2.op, h3⟩ c
      · exact hok i' m' (by omega) h2 h3
theorem flow_at {l : List S34} (h : MayB l) (hs : small33 l) (w : Int) {k : Nat} (hk : k ≤ l.length) : ∃ j, FlowAt l w k j ∧ flowOf l w k = (uptoP l w j, (k : Int) - j) :=
  flowRun_eq h hs w hk k 0 (by omega) (fun _ _ hh => absurd hh (Nat.not_lt_zero _))
theorem FlowAt.mono {l : List S34} {w : Int} {k k' j j' : Nat} (h : FlowAt l w k j) (h' : FlowAt l w k' j') (hk : k ≤ k') : j ≤ j' := by
  refine Classical.byContradiction fun hc => ?_
  have hj := h.le
  obtain ⟨f, m, hm, hu⟩ := h'.stop (by omega)
  exact h.ok j' m (by omega) hm f (und_mono hu hk (by omega))
theorem FlowAt.uniq {l : List S34} {w : Int} {k j j' : Nat} (h : FlowAt l w k j) (h' : FlowAt l w k j') : j = j' := by
  have := h.mono h' (Nat.le_refl _); have := h'.mono h (Nat.le_refl _); omega
/-- With a new line behind nothing is held back. -/
theorem flow_hard {l : List S34} (h : MayB l) (h' : MayB (l ++ [(⟨5, ⟨#[]⟩⟩ : S34)])) (hs : small33 (l ++ [(⟨5, ⟨#[]⟩⟩ : S34)])) (w : Int) :
    flowOf (l ++ [(⟨5, ⟨#[]⟩⟩ : S34)]) w (l.length + 1) = (lineP (uptoP l w l.length), 0) := by
  have l1 : (l ++ [(⟨5, ⟨#[]⟩⟩ : S34)]).length = l.length + 1 := by simp
  have g1 : gB (l ++ [(⟨5, ⟨#[]⟩⟩ : S34)]) l.length = ⟨5, ⟨#[]⟩⟩ := by have := gB_right l [(⟨5, ⟨#[]⟩⟩ : S34)] 0; rw [Nat.add_zero] at this; rw [this]; exact gB_zero _ _
  obtain ⟨j, hj, e⟩ := flow_at h' hs w (k := l.length + 1) (by rw [l1]; omega)
  have hle := hj.le
  have hjk : j = l.length + 1 := by
    refine Classical.byContradiction fun hc => ?_
    obtain ⟨f, m, hm, hu⟩ := hj.stop (by omega)
    have op := hm.op
    have hj' : j < l.length := by
      have : j ≠ l.length := by intro e; subst e; rw [g1] at op; exact absurd op (by decide)
      omega
    rw [gB_left hj'] at op
    obtain ⟨m', hm'⟩ := h.group hj' op
    obtain rfl := hm'.app.uniq hm
    have := hu.1 l.length (by omega) (by omega)
    rw [if_neg (by have := hm'.len; omega), g1] at this
    exact absurd this (by decide)
  subst hjk
  have hl' := h'.len
  have f := first_same h ⟨#[]⟩ [] (by rw [List.append_nil]; exact hs) (by rw [List.append_nil]; omega) w (Nat.le_refl l.length)
  rw [List.append_nil] at f
  rw [e, uptoP_succ, g1, f]
  unfold stepP
  rw [if_neg (by decide), if_neg (by decide), if_neg (by decide), if_neg (by decide), if_pos ⟨by decide, .inr rfl⟩]
  simp
/-- The most that is held back. -/
def heldRun (l : List S34) (w : Int) : Nat → Int
  | 0 => 0
  | k + 1 => max (heldRun l w k) (flowOf l w k).2
def heldOf (l : List S34) (w : Int) (k : Nat) : Int := heldRun l w (k + 1)
end Go.Proofs.Ytkhlfdoeploddaa.PFlow
