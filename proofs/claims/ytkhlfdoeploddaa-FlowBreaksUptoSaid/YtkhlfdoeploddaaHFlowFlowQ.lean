/- What flow's functions answer, in closed forms; what is held back. -/
import Derived.Test.YtkhlfdoeploddaaHFlowFlowF
import Derived.Test.YtkhlfdoeploddaaHFlowClone
import Derived.Test.YtkhlfdoeploddaaHFlowTrimS
import Derived.Test.YtkhlfdoeploddaaHFlowColsF
import Derived.Test.YtkhlfdoeploddaaPFlowx9
import Derived.Test.YtkhlfdoeploddaaPFlowx12
namespace Go.Proofs.Ytkhlfdoeploddaa.PFlow
open Go.RowKit Go.Proofs.YtkhlfdoeploddaaW.PrintWords Go.Proofs.YtkhlfdoeploddaaW.PrintMore
set_option linter.unusedVariables false
set_option linter.unusedSimpArgs false
theorem small_of {l : List S34} (h : ∀ x ∈ l, (Lit.int .i64 x.f0).wf = true ∧ x.f1.size ≤ 140737488351232) : small33 l := fun x hx => by have := (h x hx).2; omega
theorem wf64 {x : Int} (h : (Lit.int .i64 x).wf = true) : -9223372036854775808 ≤ x ∧ x ≤ 9223372036854775807 := by
  simp [Lit.wf, IntKind.min, IntKind.max, IntKind.signed, IntKind.bits] at h
  omega
theorem flat_f (m : Int) (s : ByteArray) : span_Flat.f m s = some (flatOf m s) := rfl
theorem gB_cons (x : S34) (l : List S34) (k : Nat) : gB (x :: l) (k + 1) = gB l k := by
  unfold gB rd_T34
  rw [Int.toNat_natCast, Int.toNat_natCast, List.getD_cons_succ]
theorem bulk_cons (x : S34) (l : List S34) : ∀ k, bulkB (x :: l) (k + 1) = x.f1.size + bulkB l k
  | 0 => by rw [bulkB, bulkB, bulkB, Nat.zero_add, Nat.add_zero]; rfl
  | k + 1 => by
    rw [bulkB, bulk_cons x l k, bulkB]
    have : gB (x :: l) (k + 1) = gB l k := gB_cons x l k
    rw [this]; omega
theorem bulk_sum : ∀ l : List S34, bulkB l l.length = (l.map fun x => x.f1.size).sum
  | [] => rfl
  | x :: l => by rw [List.length_cons, bulk_cons, bulk_sum l, List.map_cons, List.sum_cons]
/-- Where the contracts speak. -/
structure Dom (l : List S34) : Prop where
  len : l.length ≤ 5864062014804
  small : small33 l
  bulk : bulkB l l.length ≤ 1073741824
def nlB : S34 := ⟨5, ⟨#[]⟩⟩
theorem Dom.hard {l : List S34} (h : Dom l) : l.length + 1 ≤ 17592186044416 ∧ small33 (l ++ [nlB]) ∧ bulkB (l ++ [nlB]) (l ++ [nlB]).length ≤ 1099511627776 := by
  refine ⟨by have := h.len; omega, fun x hx => ?_, ?_⟩
  · rcases List.mem_append.1 hx with h1 | h1
    · exact h.small x h1
    · obtain rfl := List.mem_singleton.1 h1
      decide
  · have := h.bulk
    rw [bulk_sum] at this ⊢
    rw [List.map_append, List.sum_append]
    have : ([nlB].map fun x : S34 => x.f1.size).sum = 0 := rfl
    omega
theorem Dom.room {l : List S34} (h : Dom l) (w : Int) : wide_Room.f l w = some (roomB l w) := room_q (by have := h.len; omega) w
theorem Dom.flow {l : List S34} (h : Dom l) (w k : Int) : flow_Flow.f l w k = some (if roomB l w = true ∧ 0 ≤ k ∧ k ≤ (l.length : Int) then (⟨(flowOf l w k.toNat).1.out.toArray⟩, (flowOf l w k.toNat).2, true) else (⟨#[]⟩, 0, false)) := by
  unfold flow_Flow.f
  rw [if_pos ⟨by have := h.len; omega, h.small, by have := h.bulk; omega⟩]
theorem Dom.flow_yes {l : List S34} (h : Dom l) {w : Int} (hr : roomB l w = true) {k : Nat} (hk : k ≤ l.length) : flow_Flow.f l w (k : Int) = some (⟨(flowOf l w k).1.out.toArray⟩, (flowOf l w k).2, true) := by
  rw [h.flow, if_pos ⟨hr, by omega, by omega⟩, Int.toNat_natCast]
theorem mx_max (a b : Int) : mx a b = max a b := by unfold mx; split <;> omega
theorem held_run {l : List S34} (h : Dom l) {w : Int} (hr : roomB l w = true) {k : Nat} (hk : k ≤ l.length) : ∀ (d j K : Nat), j + d = k + 1 → d < K → flow_Held.l0 K l w (heldRun l w j) ((k : Int) + 1) (j : Int) = some (heldRun l w (k + 1))
  | 0, j, K + 1, hj, _ => by
    obtain rfl : j = k + 1 := by omega
    rw [flow_Held.l0, if_neg (by omega)]
  | d + 1, j, K + 1, hj, hK => by
    have hl := h.len
    rw [flow_Held.l0, if_pos (by omega), h.flow_yes hr (show j ≤ l.length by omega), Option.bind_some, mx_max]
    rw [show wrap64 ((j : Int) + 1) = ((j + 1 : Nat) : Int) by unfold wrap64; omega]
    exact held_run h hr hk d (j + 1) K (by omega) (by omega)
  | _, _, 0, _, hK => absurd hK (Nat.not_lt_zero _)
theorem Dom.held {l : List S34} (h : Dom l) (w k : Int) {K : Nat} (hK : l.length + 2 ≤ K) : flow_Held.f K l w k = some (if roomB l w = true ∧ 0 ≤ k ∧ k ≤ (l.length : Int) then heldOf l w k.toNat else -1) := by
  unfold flow_Held.f
  rw [h.flow, Option.bind_some]
  by_cases c : roomB l w = true ∧ 0 ≤ k ∧ k ≤ (l.length : Int)
  · obtain ⟨n, rfl⟩ := Int.eq_ofNat_of_zero_le c.2.1
    have hl := h.len
    rw [if_pos c, if_pos c, if_pos rfl, Int.toNat_natCast, show wrap64 ((n : Int) + 1) = (n : Int) + 1 by unfold wrap64; omega]
    exact held_run h c.1 (by omega) (n + 1) 0 K (by omega) (by omega)
  · rw [if_neg c, if_neg c, if_neg (by decide)]
theorem held_nn (l : List S34) (w : Int) : ∀ k, 0 ≤ heldRun l w k
  | 0 => Int.le_refl 0
  | k + 1 => by have := held_nn l w k; rw [heldRun]; omega
theorem held_ge (l : List S34) (w : Int) (k : Nat) : (flowOf l w k).2 ≤ heldOf l w k := by unfold heldOf; rw [heldRun]; omega
theorem held_up (l : List S34) (w : Int) (k : Nat) : heldOf l w k ≤ heldOf l w (k + 1) := by
  show heldRun l w (k + 1) ≤ max (heldRun l w (k + 1)) (flowOf l w (k + 1)).2
  omega
theorem held_le {l : List S34} {w M : Int} (h0 : 0 ≤ M) : ∀ k, (∀ j, j < k → (flowOf l w j).2 ≤ M) → heldRun l w k ≤ M
  | 0, _ => h0
  | k + 1, h => by
    have h1 := held_le h0 k (fun j hj => h j (by omega))
    have h2 := h k (by omega)
    rw [heldRun]; omega
/-- The first k bits: where it stops, and what is told. -/
theorem flow_case {l : List S34} (h : Dom l) {w : Int} (hr : roomB l w = true) {k : Nat} (hk : k ≤ l.length) : ∃ j, FlowAt l w k j ∧ flowOf l w k = (uptoP l w j, (k : Int) - j) := flow_at (roomB_true.1 hr).1 h.small w hk
theorem mayB_left {l : List S34} (h : MayB (l ++ [nlB])) : MayB l := by
  have hl : (l ++ [nlB]).length = l.length + 1 := by simp
  have g : gB (l ++ [nlB]) l.length = nlB := by have := gB_right l [nlB] 0; rw [Nat.add_zero] at this; rw [this]; exact gB_zero _ _
  have hlen := h.len
  rw [hl] at hlen
  refine ⟨by omega, fun k hk => ?_, fun k hk => ?_, fun k hk => ?_, ?_, ?_⟩
  · have := h.bit k (by omega); rwa [gB_left hk] at this
  · have := h.dep k (by omega); rwa [depB_left _ _ hk] at this
  · have := h.ind k (by omega); rwa [indB_left _ _ hk] at this
  · have := h.dep0
    rw [hl, depB_succ, depB_left _ _ (Nat.le_refl _), g] at this
    exact (Int.add_zero _).symm.trans this
  · have := h.ind0
    rw [hl, indB, indB_left _ _ (Nat.le_refl _), g] at this
    exact (Int.add_zero _).symm.trans this
theorem trim_hard (x : List UInt8) : Lib.trimSuffix (x ++ [10]) [10] = x := by
  unfold Lib.trimSuffix Lib.hasSuffix
  simp
theorem Dom.all {l : List S34} (h : Dom l) (w : Int) : flow_All.f l w = some (if roomB (l ++ [nlB]) w = true then (⟨(uptoP l w l.length).out.toArray⟩, true) else (⟨#[]⟩, false)) := by
  have hh := h.hard
  have hl : (l ++ [nlB]).length = l.length + 1 := by simp
  unfold flow_All.f api_Bit.f
  rw [if_pos (by have := h.len; omega), Option.bind_some, if_pos (by have := h.len; omega), Option.bind_some]
  show (flow_Flow.f (l ++ [nlB]) w ((l ++ [nlB]).length : Int)).bind _ = _
  unfold flow_Flow.f
  rw [if_pos ⟨by rw [hl]; exact hh.1, hh.2.1, hh.2.2⟩, Option.bind_some]
  by_cases c : roomB (l ++ [nlB]) w = true
  · have m := (roomB_true.1 c).1
    have hf := flow_hard (mayB_left m) m hh.2.1 w
    rw [if_pos ⟨c, by omega, Int.le_refl _⟩, if_pos c, Int.toNat_natCast, hl]
    rw [show flowOf (l ++ [nlB]) w (l.length + 1) = (lineP (uptoP l w l.length), 0) from hf]
    have o := (okP (mayB_left m) w l.length (Nat.le_refl _)).out
    have hm := (mayB_left m).len
    have hb := h.bulk
    have h3 : (2 * l.length + 2) * l.length ≤ 8002 * 4000 := Nat.mul_le_mul (by omega) (by omega)
    unfold strings_TrimSuffix.f
    dsimp only
    have hz : (⟨(lineP (uptoP l w l.length)).out.toArray⟩ : ByteArray).size = (uptoP l w l.length).out.length + 1 := by
      show (lineP (uptoP l w l.length)).out.toArray.size = _
      rw [List.size_toArray]; unfold lineP; simp
    rw [if_pos (by rw [hz]; omega), Option.bind_some]
    congr 2
    show (⟨(Lib.trimSuffix ((uptoP l w l.length).out ++ [10]) [10]).toArray⟩ : ByteArray) = _
    rw [trim_hard]
  · rw [if_neg (fun hh => c hh.1), if_neg c]
    unfold strings_TrimSuffix.f
    dsimp only
    rw [if_pos (show (⟨#[]⟩ : ByteArray).size ≤ 9223372036854775807 by decide), Option.bind_some]
    rfl
end Go.Proofs.Ytkhlfdoeploddaa.PFlow
