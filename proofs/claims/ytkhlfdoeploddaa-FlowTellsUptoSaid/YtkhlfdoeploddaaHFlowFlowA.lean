/- What flow's functions answer, in closed forms; what is held back. -/
import Derived.Test.YtkhlfdoeploddaaHFlowFlowF
import Derived.Test.YtkhlfdoeploddaaHFlowClone
import Derived.Test.YtkhlfdoeploddaaHFlowColsF
import Derived.Test.YtkhlfdoeploddaaPFlowx9
import Derived.Test.YtkhlfdoeploddaaPFlowx12
import Derived.Test.YtkhlfdoeploddaaPFlowx12
namespace Go.Proofs.Ytkhlfdoeploddaa.PFlow
open Go.RowKit Go.Proofs.YtkhlfdoeploddaaW.PrintWords Go.Proofs.YtkhlfdoeploddaaW.PrintMore
set_option linter.unusedVariables false
set_option linter.unusedSimpArgs false
theorem small_of {l : List S34} (h : ∀ x ∈ l, (Lit.int .i64 x.f0).wf = true ∧ x.f1.size ≤ 140737488351232) : small33 l := fun x hx => by have := (h x hx).2; omega
theorem wf64 {x : Int} (h : (Lit.int .i64 x).wf = true) : -9223372036854775808 ≤ x ∧ x ≤ 9223372036854775807 := by
  simp [Lit.wf, IntKind.min, IntKind.max, IntKind.signed, IntKind.bits] at h
  omega
theorem flat_f (m : Int) (s : ByteArray) : span_Flat.f m s = some (flatOf m s) := rfl
theorem gB_cons (x : S34) (l : List S34) (k : Nat) : gB (x :: l) (k + 1) = gB l k := by
  unfold gB rd_T34
  rw [Int.toNat_natCast, Int.toNat_natCast, List.getD_cons_succ]
theorem bulk_cons (x : S34) (l : List S34) : ∀ k, bulkB (x :: l) (k + 1) = x.f1.size + bulkB l k
  | 0 => by rw [bulkB, bulkB, bulkB, Nat.zero_add, Nat.add_zero]; rfl
  | k + 1 => by
    rw [bulkB, bulk_cons x l k, bulkB]
    have : gB (x :: l) (k + 1) = gB l k := gB_cons x l k
    rw [this]; omega
theorem bulk_sum : ∀ l : List S34, bulkB l l.length = (l.map fun x => x.f1.size).sum
  | [] => rfl
  | x :: l => by rw [List.length_cons, bulk_cons, bulk_sum l, List.map_cons, List.sum_cons]
/-- Where the contracts speak. -/
structure Dom (l : List S34) : Prop where
  len : l.length ≤ 5864062014804
  small : small33 l
  bulk : bulkB l l.length ≤ 1073741824
def nlB : S34 := ⟨5, ⟨#[]⟩⟩
theorem Dom.hard {l : List S34} (h : Dom l) : l.length + 1 ≤ 17592186044416 ∧ small33 (l ++ [nlB]) ∧ bulkB (l ++ [nlB]) (l ++ [nlB]).length ≤ 1099511627776 := by
  refine ⟨by have := h.len; omega, fun x hx => ?_, ?_⟩
  · rcases List.mem_append.1 hx with h1 | h1
    · exact h.small x h1
    · obtain rfl := List.mem_singleton.1 h1
      decide
  · have := h.bulk
    rw [bulk_sum] at this ⊢
    rw [List.map_append, List.sum_append]
    have : ([nlB].map fun x : S34 => x.f1.size).sum = 0 := rfl
    omega
theorem Dom.room {l : List S34} (h : Dom l) (w : Int) : wide_Room.f l w = some (roomB l w) := room_q (by have := h.len; omega) w
theorem Dom.flow {l : List S34} (h : Dom l) (w k : Int) : flow_Flow.f l w k = some (if roomB l w = true ∧ 0 ≤ k ∧ k ≤ (l.length : Int) then (⟨(flowOf l w k.toNat).1.out.toArray⟩, (flowOf l w k.toNat).2, true) else (⟨#[]⟩, 0, false)) := by
  unfold flow_Flow.f
  rw [if_pos ⟨by have := h.len; omega, h.small, by have := h.bulk; omega⟩]
theorem Dom.flow_yes {l : List S34} (h : Dom l) {w : Int} (hr : roomB l w = true) {k : Nat} (hk : k ≤ l.length) : flow_Flow.f l w (k : Int) = some (⟨(flowOf l w k).1.out.toArray⟩, (flowOf l w k).2, true) := by
  rw [h.flow, if_pos ⟨hr, by omega, by omega⟩, Int.toNat_natCast]
theorem mx_max (a b : Int) : mx a b = max a b := by unfold mx; split <;> omega
theorem held_run {l : List S34} (h : Dom l) {w : Int} (hr : roomB l w = true) {k : Nat} (hk : k ≤ l.length) : ∀ (d j K : Nat), j + d = k + 1 → d < K → flow_Held.l0 K l w (heldRun l w j) ((k : Int) + 1) (j : Int) = some (heldRun l w (k + 1))
  | 0, j, K + 1, hj, _ => by
    obtain rfl : j = k + 1 := by omega
    rw [flow_Held.l0, if_neg (by omega)]
  | d + 1, j, K + 1, hj, hK => by
    have hl := h.len
    rw [flow_Held.l0, if_pos (by omega), h.flow_yes hr (show j ≤ l.length by omega), Option.bind_some, mx_max]
    rw [show wrap64 ((j : Int) + 1) = ((j + 1 : Nat) : Int) by unfold wrap64; omega]
    exact held_run h hr hk d (j + 1) K (by omega) (by omega)
  | _, _, 0, _, hK => absurd hK (Nat.not_lt_zero _)
theorem Dom.held {l : List S34} (h : Dom l) (w k : Int) {K : Nat} (hK : l.length + 2 ≤ K) : flow_Held.f K l w k = some (if roomB l w = true ∧ 0 ≤ k ∧ k ≤ (l.length : Int) then heldOf l w k.toNat else -1) := by
  unfold flow_Held.f
  rw [h.flow, Option.bind_some]
  by_cases c : roomB l w = true ∧ 0 ≤ k ∧ k ≤ (l.length : Int)
  · obtain ⟨n, rfl⟩ := Int.eq_ofNat_of_zero_le c.2.1
    have hl := h.len
    rw [if_pos c, if_pos c, if_pos rfl, Int.toNat_natCast, show wrap64 ((n : Int) + 1) = (n : Int) + 1 by unfold wrap64; omega]
    exact held_run h c.1 (by omega) (n + 1) 0 K (by omega) (by omega)
  · rw [if_neg c, if_neg c, if_neg (by decide)]
theorem held_nn (l : List S34) (w : Int) : ∀ k, 0 ≤ heldRun l w k
  | 0 => Int.le_refl 0
  | k + 1 => by have := held_nn l w k; rw [heldRun]; omega
theorem held_ge (l : List S34) (w : Int) (k : Nat) : (flowOf l w k).2 ≤ heldOf l w k := by unfold heldOf; rw [heldRun]; omega
theorem held_up (l : List S34) (w : Int) (k : Nat) : heldOf l w k ≤ heldOf l w (k + 1) := by
  show heldRun l w (k + 1) ≤ max (heldRun l w (k + 1)) (flowOf l w (k + 1)).2
  omega
theorem held_le {l : List S34} {w M : Int} (h0 : 0 ≤ M) : ∀ k, (∀ j, j < k → (flowOf l w j).2 ≤ M) → heldRun l w k ≤ M
  | 0, _ => h0
  | k + 1, h => by
    have h1 := held_le h0 k (fun j hj => h j (by omega))
    have h2 := h k (by omega)
    rw [heldRun]; omega
/-- The first k bits: where it stops, and what is told. -/
theorem flow_case {l : List S34} (h : Dom l) {w : Int} (hr : roomB l w = true) {k : Nat} (hk : k ≤ l.length) : ∃ j, FlowAt l w k j ∧ flowOf l w k = (uptoP l w j, (k : Int) - j) := flow_at (roomB_true.1 hr).1 h.small w hk
theorem mayB_left {l : List S34} (h : MayB (l ++ [nlB])) : MayB l := by
  have hl : (l ++ [nlB]).length = l.length + 1 := by simp
  have g : gB (l ++ [nlB]) l.length = nlB := by have := gB_right l [nlB] 0; rw [Nat.add_zero] at this; rw [this]; exact gB_zero _ _
  have hlen := h.len
  rw [hl] at hlen
  refine ⟨by omega, fun k hk => ?_, fun k hk => ?_, fun k hk => ?_, ?_, ?_⟩
  · have := h.bit k (by omega); rwa [gB_left hk] at this
  · have := h.dep k (by omega); rwa [depB_left _ _ hk] at this
  · have := h.ind k (by omega); rwa [indB_left _ _ hk] at this
  · have := h.dep0
    rw [hl, depB_succ, depB_left _ _ (Nat.le_refl _), g] at this
    exact (Int.add_zero _).symm.trans this
  · have := h.ind0
    rw [hl, indB, indB_left _ _ (Nat.le_refl _), g] at this
    exact (Int.add_zero _).symm.trans this
theorem trim_hard (x : List UInt8) : Lib.trimSuffix (x ++ [10]) [10] = x := by
  unfold Lib.trimSuffix Lib.hasSuffix
  simp
theorem Dom.all {l : List S34} (h : Dom l) (w : Int) : flow_All.f l w = some (if roomB (l ++ [nlB]) w = true then (⟨(uptoP l w l.length).out.toArray⟩, true) else (⟨#[]⟩, false)) := by
  have hh := h.hard
  have hl : (l ++ [nlB]).length = l.length + 1 := by simp
  unfold flow_All.f api_Bit.f
  rw [if_pos (by have := h.len; omega), Option.bind_some, if_pos (by have := h.len; omega), Option.bind_some]
  show (flow_Flow.f (l ++ [nlB]) w ((l ++ [nlB]).length : Int)).bind _ = _
  unfold flow_Flow.f
  rw [if_pos ⟨by rw [hl]; exact hh.1, hh.2.1, hh.2.2⟩, Option.bind_some]
  by_cases c : roomB (l ++ [nlB]) w = true
  · have m := (roomB_true.1 c).1
    have hf := flow_hard (mayB_left m) m hh.2.1 w
    rw [if_pos ⟨c, by omega, Int.le_refl _⟩, if_pos c, Int.toNat_natCast, hl]
    rw [show flowOf (l ++ [nlB]) w (l.length + 1) = (lineP (uptoP l w l.length), 0) from hf]
    have o := (okP (mayB_left m) w l.length (Nat.le_refl _)).out
    have hm := (mayB_left m).len
    have hb := h.bulk
    have h3 : (2 * l.length + 2) * l.length ≤ 8002 * 4000 := Nat.mul_le_mul (by omega) (by omega)
    unfold strings_TrimSuffix.f
    dsimp only
    have hz : (⟨(lineP (uptoP l w l.length)).out.toArray⟩ : ByteArray).size = (uptoP l w l.length).out.length + 1 := by
      show (lineP (uptoP l w l.length)).out.toArray.size = _
      rw [List.size_toArray]; unfold lineP; simp
    rw [if_pos (by rw [hz]; omega), Option.bind_some]
    congr 2
    show (⟨(Lib.trimSuffix ((uptoP l w l.length).out ++ [10]) [10]).toArray⟩ : ByteArray) = _
    rw [trim_hard]
  · rw [if_neg (fun hh => c hh.1), if_neg c]
    unfold strings_TrimSuffix.f
    dsimp only
    rw [if_pos (show (⟨#[]⟩ : ByteArray).size ≤ 9223372036854775807 by decide), Option.bind_some]
    rfl
end Go.Proofs.Ytkhlfdoeploddaa.PFlow
namespace Go.Proofs.Ytkhlfdoeploddaa.PFlow
open Go.RowKit Go.Proofs.YtkhlfdoeploddaaW.PrintWords Go.Proofs.YtkhlfdoeploddaaW.PrintMore
set_option linter.unusedVariables false
set_option linter.unusedSimpArgs false
def copperplatelaw19_awake.f : Option Bool := some true
theorem colsFrom_end {s : ByteArray} {k : Nat} (h : ¬ k < s.size) : colsFrom s k = 0 := by rw [colsFrom, if_neg h]
theorem colsFrom_step {s : ByteArray} {k : Nat} (q : Nat) (h : k < s.size) (hq : stepOf s k = q) : colsFrom s k = 1 + colsFrom s (k + q) := by rw [colsFrom, if_pos h, hq]
theorem cols_one (c : UInt8) (h : stepOf ⟨#[c]⟩ 0 = 1) : colsOf ⟨#[c]⟩ = 1 := by
  unfold colsOf
  rw [colsFrom_step 1 (show 0 < 1 by decide) h, colsFrom_end (show ¬ 0 + 1 < 1 by decide)]; rfl
theorem c_40 : colsOf ⟨#[40]⟩ = 1 := cols_one 40 (by decide +kernel)
theorem c_41 : colsOf ⟨#[41]⟩ = 1 := cols_one 41 (by decide +kernel)
theorem c_97 : colsOf ⟨#[97]⟩ = 1 := cols_one 97 (by decide +kernel)
theorem c_98 : colsOf ⟨#[98]⟩ = 1 := cols_one 98 (by decide +kernel)
theorem c_44 : colsOf ⟨#[44, 32]⟩ = 2 := by
  unfold colsOf
  rw [colsFrom_step 1 (by decide) (by decide +kernel), colsFrom_step 1 (by decide) (by decide +kernel), colsFrom_end (by decide)]; rfl
def lP : List S34 := [(⟨6, (⟨#[]⟩ : ByteArray)⟩ : S34), (⟨0, (⟨#[40]⟩ : ByteArray)⟩ : S34), (⟨8, (⟨#[]⟩ : ByteArray)⟩ : S34), (⟨3, (⟨#[]⟩ : ByteArray)⟩ : S34), (⟨0, (⟨#[97]⟩ : ByteArray)⟩ : S34), (⟨4, (⟨#[]⟩ : ByteArray)⟩ : S34), (⟨0, (⟨#[98]⟩ : ByteArray)⟩ : S34), (⟨9, (⟨#[]⟩ : ByteArray)⟩ : S34), (⟨3, (⟨#[]⟩ : ByteArray)⟩ : S34), (⟨0, (⟨#[41]⟩ : ByteArray)⟩ : S34), (⟨7, (⟨#[]⟩ : ByteArray)⟩ : S34)]
theorem lP_match : matchOf lP 0 = 10 := by decide +kernel
theorem lP_small : small33 lP := by
  intro x hx
  simp only [lP, List.mem_cons, List.not_mem_nil, or_false] at hx
  rcases hx with rfl | rfl | rfl | rfl | rfl | rfl | rfl | rfl | rfl | rfl | rfl <;> decide
theorem lP_need : needOf lP 0 = 6 := by
  rcases group_cases lP_small (by decide) 0 with ⟨h, _⟩ | ⟨i', k, e, h1, h2, h3⟩
  · rw [lP_match] at h; exact absurd h (by decide)
  · rw [lP_match] at h1
    obtain rfl : k = 10 := by omega
    obtain rfl : i' = 0 := by omega
    rw [h2]
    unfold needV
    rw [if_pos (by decide +kernel)]
    have a1 : colA lP 1 = 1 := (show colA lP 1 = colsOf ⟨#[40]⟩ from rfl).trans c_40
    have a2 : colA lP 2 = 0 := (show colA lP 2 = colsOf ⟨#[]⟩ from rfl).trans cols_none
    have a3 : colA lP 3 = 0 := (show colA lP 3 = colsOf ⟨#[]⟩ from rfl).trans cols_none
    have a4 : colA lP 4 = 1 := (show colA lP 4 = colsOf ⟨#[97]⟩ from rfl).trans c_97
    have a5 : colA lP 5 = 2 := (show colA lP 5 = colsOf ⟨#[44, 32]⟩ from rfl).trans c_44
    have a6 : colA lP 6 = 1 := (show colA lP 6 = colsOf ⟨#[98]⟩ from rfl).trans c_98
    have a7 : colA lP 7 = 0 := (show colA lP 7 = colsOf ⟨#[]⟩ from rfl).trans cols_none
    have a8 : colA lP 8 = 0 := (show colA lP 8 = colsOf ⟨#[]⟩ from rfl).trans cols_none
    have a9 : colA lP 9 = 1 := (show colA lP 9 = colsOf ⟨#[41]⟩ from rfl).trans c_41
    have s : sumC lP (0 + 1) (10 - (0 + 1)) = 6 := by
      show 0 + colA lP 1 + colA lP 2 + colA lP 3 + colA lP 4 + colA lP 5 + colA lP 6 + colA lP 7 + colA lP 8 + colA lP 9 = 6
      rw [a1, a2, a3, a4, a5, a6, a7, a8, a9]; rfl
    rw [s]; rfl
theorem fit_lP6 : fitP lP 6 0 (⟨[], 0, 0, 0, -1⟩ : PgB).col = true := by
  unfold fitP; rw [show ((0 : Nat) : Int) = 0 from rfl, lP_need]; decide
theorem u6_0 : uptoP lP 6 0 = ⟨[], 0, 0, 0, (-1)⟩ := rfl
theorem u6_1 : uptoP lP 6 1 = ⟨[], 0, 0, 0, 10⟩ := by
  rw [uptoP_succ, u6_0, show ((0 : Nat) : Int) = 0 from rfl, lP_match, fit_lP6]; rfl
theorem u6_2 : uptoP lP 6 2 = ⟨[40], 0, 1, 0, 10⟩ := by
  rw [uptoP_succ, u6_1]
  exact (show stepP (⟨0, ⟨#[40]⟩⟩ : S34) _ _ _ ⟨[], 0, 0, 0, 10⟩ = ⟨[40], 0, (0 + colsOf ⟨#[40]⟩), 0, 10⟩ from rfl).trans (by rw [c_40]; rfl)
theorem u6_3 : uptoP lP 6 3 = ⟨[40], 2, 1, 0, 10⟩ := by
  rw [uptoP_succ, u6_2]; exact (show stepP (⟨8, ⟨#[]⟩⟩ : S34) _ _ _ ⟨[40], 0, 1, 0, 10⟩ = ⟨[40], 2, 1, 0, 10⟩ from rfl)
theorem u6_4 : uptoP lP 6 4 = ⟨[40], 2, 1, 0, 10⟩ := by
  rw [uptoP_succ, u6_3]; exact (show stepP (⟨3, ⟨#[]⟩⟩ : S34) _ _ _ ⟨[40], 2, 1, 0, 10⟩ = ⟨[40], 2, 1, 0, 10⟩ from rfl)
theorem u6_5 : uptoP lP 6 5 = ⟨[40, 97], 2, 2, 0, 10⟩ := by
  rw [uptoP_succ, u6_4]
  exact (show stepP (⟨0, ⟨#[97]⟩⟩ : S34) _ _ _ ⟨[40], 2, 1, 0, 10⟩ = ⟨[40, 97], 2, (1 + colsOf ⟨#[97]⟩), 0, 10⟩ from rfl).trans (by rw [c_97]; rfl)
theorem u6_6 : uptoP lP 6 6 = ⟨[40, 97, 44, 32], 2, 4, 0, 10⟩ := by
  rw [uptoP_succ, u6_5]
  exact (show stepP (⟨4, ⟨#[]⟩⟩ : S34) _ _ _ ⟨[40, 97], 2, 2, 0, 10⟩ = ⟨[40, 97, 44, 32], 2, (2 + colsOf ⟨#[44, 32]⟩), 0, 10⟩ from rfl).trans (by rw [c_44]; rfl)
theorem u6_7 : uptoP lP 6 7 = ⟨[40, 97, 44, 32, 98], 2, 5, 0, 10⟩ := by
  rw [uptoP_succ, u6_6]
  exact (show stepP (⟨0, ⟨#[98]⟩⟩ : S34) _ _ _ ⟨[40, 97, 44, 32], 2, 4, 0, 10⟩ = ⟨[40, 97, 44, 32, 98], 2, (4 + colsOf ⟨#[98]⟩), 0, 10⟩ from rfl).trans (by rw [c_98]; rfl)
theorem u6_8 : uptoP lP 6 8 = ⟨[40, 97, 44, 32, 98], 0, 5, 0, 10⟩ := by
  rw [uptoP_succ, u6_7]; exact (show stepP (⟨9, ⟨#[]⟩⟩ : S34) _ _ _ ⟨[40, 97, 44, 32, 98], 2, 5, 0, 10⟩ = ⟨[40, 97, 44, 32, 98], 0, 5, 0, 10⟩ from rfl)
theorem u6_9 : uptoP lP 6 9 = ⟨[40, 97, 44, 32, 98], 0, 5, 0, 10⟩ := by
  rw [uptoP_succ, u6_8]; exact (show stepP (⟨3, ⟨#[]⟩⟩ : S34) _ _ _ ⟨[40, 97, 44, 32, 98], 0, 5, 0, 10⟩ = ⟨[40, 97, 44, 32, 98], 0, 5, 0, 10⟩ from rfl)
theorem u6_10 : uptoP lP 6 10 = ⟨[40, 97, 44, 32, 98, 41], 0, 6, 0, 10⟩ := by
  rw [uptoP_succ, u6_9]
  exact (show stepP (⟨0, ⟨#[41]⟩⟩ : S34) _ _ _ ⟨[40, 97, 44, 32, 98], 0, 5, 0, 10⟩ = ⟨[40, 97, 44, 32, 98, 41], 0, (5 + colsOf ⟨#[41]⟩), 0, 10⟩ from rfl).trans (by rw [c_41]; rfl)
theorem u6_11 : uptoP lP 6 11 = ⟨[40, 97, 44, 32, 98, 41], 0, 6, 0, (-1)⟩ := by
  rw [uptoP_succ, u6_10]; exact (show stepP (⟨7, ⟨#[]⟩⟩ : S34) _ _ _ ⟨[40, 97, 44, 32, 98, 41], 0, 6, 0, 10⟩ = ⟨[40, 97, 44, 32, 98, 41], 0, 6, 0, (-1)⟩ from rfl)
theorem mayB_lP : MayB lP := by decide +kernel
theorem dom_lP : Dom lP := ⟨by decide, lP_small, by decide +kernel⟩
theorem isM_lP : IsM lP 0 10 := by
  obtain ⟨k, hk⟩ := mayB_lP.group (show 0 < lP.length by decide) rfl
  have := hk.mt
  rw [show ((0 : Nat) : Int) = 0 from rfl, lP_match] at this
  obtain rfl : k = 10 := by omega
  exact hk
theorem sum_lP : sumC lP 0 11 = 6 := by
  have a0 : colA lP 0 = 0 := (show colA lP 0 = colsOf ⟨#[]⟩ from rfl).trans cols_none
  have a1 : colA lP 1 = 1 := (show colA lP 1 = colsOf ⟨#[40]⟩ from rfl).trans c_40
  have a2 : colA lP 2 = 0 := (show colA lP 2 = colsOf ⟨#[]⟩ from rfl).trans cols_none
  have a3 : colA lP 3 = 0 := (show colA lP 3 = colsOf ⟨#[]⟩ from rfl).trans cols_none
  have a4 : colA lP 4 = 1 := (show colA lP 4 = colsOf ⟨#[97]⟩ from rfl).trans c_97
  have a5 : colA lP 5 = 2 := (show colA lP 5 = colsOf ⟨#[44, 32]⟩ from rfl).trans c_44
  have a6 : colA lP 6 = 1 := (show colA lP 6 = colsOf ⟨#[98]⟩ from rfl).trans c_98
  have a7 : colA lP 7 = 0 := (show colA lP 7 = colsOf ⟨#[]⟩ from rfl).trans cols_none
  have a8 : colA lP 8 = 0 := (show colA lP 8 = colsOf ⟨#[]⟩ from rfl).trans cols_none
  have a9 : colA lP 9 = 1 := (show colA lP 9 = colsOf ⟨#[41]⟩ from rfl).trans c_41
  have a10 : colA lP 10 = 0 := (show colA lP 10 = colsOf ⟨#[]⟩ from rfl).trans cols_none
  show 0 + colA lP 0 + colA lP 1 + colA lP 2 + colA lP 3 + colA lP 4 + colA lP 5 + colA lP 6 + colA lP 7 + colA lP 8 + colA lP 9 + colA lP 10 = 6
  rw [a0, a1, a2, a3, a4, a5, a6, a7, a8, a9, a10]; rfl
theorem room_lP (w : Int) (h1 : 1 ≤ w) (h2 : w ≤ 65535) : roomB lP w = true := roomB_true.2 ⟨mayB_lP, h1, h2⟩
theorem at_lP6 : FlowAt lP 6 11 0 := by
  refine ⟨by omega, fun i m hi => absurd hi (Nat.not_lt_zero _), fun _ => ⟨by decide, 10, isM_lP, ?_, ?_⟩⟩
  · intro j h1 h2
    have : j = 0 ∨ j = 1 ∨ j = 2 ∨ j = 3 ∨ j = 4 ∨ j = 5 ∨ j = 6 ∨ j = 7 ∨ j = 8 ∨ j = 9 ∨ j = 10 := by omega
    rcases this with e | e | e | e | e | e | e | e | e | e | e <;> (subst e; rfl)
  · rw [Nat.sub_zero, sum_lP]; decide
theorem flow_lP6 : flowOf lP 6 11 = (pg0, 11) := by
  obtain ⟨j, hj, e⟩ := flow_case dom_lP (room_lP 6 (by decide) (by decide)) (k := 11) (by decide)
  obtain rfl := hj.uniq at_lP6
  exact e
theorem held_lP6 : heldOf lP 6 11 = 11 := by
  have h1 := held_ge lP 6 11
  rw [flow_lP6] at h1
  have h2 : heldOf lP 6 11 ≤ 11 := held_le (by decide) 12 fun j hj => by
    obtain ⟨i, hi, e⟩ := flow_case dom_lP (room_lP 6 (by decide) (by decide)) (k := j) (by show j ≤ 11; omega)
    rw [e]
    show (j : Int) - i ≤ 11
    omega
  dsimp only at h1
  omega
theorem held_lP3 : heldOf lP 3 11 < 11 := by
  have h2 : heldOf lP 3 11 ≤ 10 := held_le (by decide) 12 fun j hj => by
    obtain ⟨i, hi, e⟩ := flow_case dom_lP (room_lP 3 (by decide) (by decide)) (k := j) (by show j ≤ 11; omega)
    rw [e]
    show (j : Int) - i ≤ 10
    by_cases g : j = 11
    · subst g
      have : i ≠ 0 := by
        rintro rfl
        obtain ⟨_, m, hm, hu⟩ := hi.stop (by decide)
        have := hu.2
        rw [Nat.sub_zero, sum_lP] at this
        exact absurd this (by decide)
      omega
    · omega
  omega
theorem awake_yes : copperplatelaw19_awake_p.f 20 = some true := by
  have hl : copperplatelaw18_Pair.f = some lP := rfl
  have r6 : roomB lP 6 = true := room_lP 6 (by decide) (by decide)
  have r3 : roomB lP 3 = true := room_lP 3 (by decide) (by decide)
  have rh : roomB (lP ++ [nlB]) 6 = true := roomB_true.2 ⟨mayB_lP.app mayB_hard (by decide), by decide, by decide⟩
  unfold copperplatelaw19_awake_p.f
  rw [hl]
  simp only [Option.bind_some]
  rw [dom_lP.flow, dom_lP.all, dom_lP.held 6 11 (by decide), dom_lP.held 3 11 (by decide), if_pos ⟨r6, by decide, by decide⟩, if_pos rh, if_pos ⟨r6, by decide, by decide⟩, if_pos ⟨r3, by decide, by decide⟩]
  rw [show (11 : Int).toNat = 11 from rfl, flow_lP6, held_lP6, show lP.length = 11 from rfl, u6_11]
  simp only [Option.bind_some]
  rw [if_pos trivial, if_pos (by decide +kernel), if_pos trivial, if_pos trivial, if_pos (by decide +kernel), if_pos trivial, decide_eq_true held_lP3]
theorem copperplatelaw19_awake.calls (r : Bool) (w : World) (h : copperplatelaw19_awake.f = some r) :
    Calls Try.prog 9 #[] w fun e w' => e = .returned (.bool r) ∧ Below w.heap.size w w' := by
  obtain rfl : true = r := Option.some.inj h
  exact copperplatelaw19_awake_p.calls 20 true w awake_yes rfl
end Go.Proofs.Ytkhlfdoeploddaa.PFlow
