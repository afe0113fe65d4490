/- The chapter's example. -/
import Derived.Test.YtkhlfdoeploddaaHFlowFlowQ
import Derived.Test.YtkhlfdoeploddaaPFlowx12
namespace Go.Proofs.Ytkhlfdoeploddaa.PFlow
open Go.RowKit Go.Proofs.YtkhlfdoeploddaaW.PrintWords Go.Proofs.YtkhlfdoeploddaaW.PrintMore
set_option linter.unusedVariables false
set_option linter.unusedSimpArgs false
def copperplatelaw19_awake.f : Option Bool := some true
theorem colsFrom_end {s : ByteArray} {k : Nat} (h : ¬ k < s.size) : colsFrom s k = 0 := by rw [colsFrom, if_neg h]
theorem colsFrom_step {s : ByteArray} {k : Nat} (q : Nat) (h : k < s.size) (hq : stepOf s k = q) : colsFrom s k = 1 + colsFrom s (k + q) := by rw [colsFrom, if_pos h, hq]
theorem cols_one (c : UInt8) (h : stepOf ⟨#[c]⟩ 0 = 1) : colsOf ⟨#[c]⟩ = 1 := by
  unfold colsOf
  rw [colsFrom_step 1 (show 0 < 1 by decide) h, colsFrom_end (show ¬ 0 + 1 < 1 by decide)]; rfl
theorem c_40 : colsOf ⟨#[40]⟩ = 1 := cols_one 40 (by decide +kernel)
theorem c_41 : colsOf ⟨#[41]⟩ = 1 := cols_one 41 (by decide +kernel)
theorem c_97 : colsOf ⟨#[97]⟩ = 1 := cols_one 97 (by decide +kernel)
theorem c_98 : colsOf ⟨#[98]⟩ = 1 := cols_one 98 (by decide +kernel)
theorem c_44 : colsOf ⟨#[44, 32]⟩ = 2 := by
  unfold colsOf
  rw [colsFrom_step 1 (by decide) (by decide +kernel), colsFrom_step 1 (by decide) (by decide +kernel), colsFrom_end (by decide)]; rfl
def lP : List S34 := [(⟨6, (⟨#[]⟩ : ByteArray)⟩ : S34), (⟨0, (⟨#[40]⟩ : ByteArray)⟩ : S34), (⟨8, (⟨#[]⟩ : ByteArray)⟩ : S34), (⟨3, (⟨#[]⟩ : ByteArray)⟩ : S34), (⟨0, (⟨#[97]⟩ : ByteArray)⟩ : S34), (⟨4, (⟨#[]⟩ : ByteArray)⟩ : S34), (⟨0, (⟨#[98]⟩ : ByteArray)⟩ : S34), (⟨9, (⟨#[]⟩ : ByteArray)⟩ : S34), (⟨3, (⟨#[]⟩ : ByteArray)⟩ : S34), (⟨0, (⟨#[41]⟩ : ByteArray)⟩ : S34), (⟨7, (⟨#[]⟩ : ByteArray)⟩ : S34)]
theorem lP_match : matchOf lP 0 = 10 := by decide +kernel
theorem lP_small : small33 lP := by
  intro x hx
  simp only [lP, List.mem_cons, List.not_mem_nil, or_false] at hx
  rcases hx with rfl | rfl | rfl | rfl | rfl | rfl | rfl | rfl | rfl | rfl | rfl <;> decide
theorem lP_need : needOf lP 0 = 6 := by
  rcases group_cases lP_small (by decide) 0 with ⟨h, _⟩ | ⟨i', k, e, h1, h2, h3⟩
  · rw [lP_match] at h; exact absurd h (by decide)
  · rw [lP_match] at h1
    obtain rfl : k = 10 := by omega
    obtain rfl : i' = 0 := by omega
    rw [h2]
    unfold needV
    rw [if_pos (by decide +kernel)]
    have a1 : colA lP 1 = 1 := (show colA lP 1 = colsOf ⟨#[40]⟩ from rfl).trans c_40
    have a2 : colA lP 2 = 0 := (show colA lP 2 = colsOf ⟨#[]⟩ from rfl).trans cols_none
    have a3 : colA lP 3 = 0 := (show colA lP 3 = colsOf ⟨#[]⟩ from rfl).trans cols_none
    have a4 : colA lP 4 = 1 := (show colA lP 4 = colsOf ⟨#[97]⟩ from rfl).trans c_97
    have a5 : colA lP 5 = 2 := (show colA lP 5 = colsOf ⟨#[44, 32]⟩ from rfl).trans c_44
    have a6 : colA lP 6 = 1 := (show colA lP 6 = colsOf ⟨#[98]⟩ from rfl).trans c_98
    have a7 : colA lP 7 = 0 := (show colA lP 7 = colsOf ⟨#[]⟩ from rfl).trans cols_none
    have a8 : colA lP 8 = 0 := (show colA lP 8 = colsOf ⟨#[]⟩ from rfl).trans cols_none
    have a9 : colA lP 9 = 1 := (show colA lP 9 = colsOf ⟨#[41]⟩ from rfl).trans c_41
    have s : sumC lP (0 + 1) (10 - (0 + 1)) = 6 := by
      show 0 + colA lP 1 + colA lP 2 + colA lP 3 + colA lP 4 + colA lP 5 + colA lP 6 + colA lP 7 + colA lP 8 + colA lP 9 = 6
      rw [a1, a2, a3, a4, a5, a6, a7, a8, a9]; rfl
    rw [s]; rfl
theorem fit_lP6 : fitP lP 6 0 (⟨[], 0, 0, 0, -1⟩ : PgB).col = true := by
  unfold fitP; rw [show ((0 : Nat) : Int) = 0 from rfl, lP_need]; decide
theorem u6_0 : uptoP lP 6 0 = ⟨[], 0, 0, 0, (-1)⟩ := rfl
theorem u6_1 : uptoP lP 6 1 = ⟨[], 0, 0, 0, 10⟩ := by
  rw [uptoP_succ, u6_0, show ((0 : Nat) : Int) = 0 from rfl, lP_match, fit_lP6]; rfl
theorem u6_2 : uptoP lP 6 2 = ⟨[40], 0, 1, 0, 10⟩ := by
  rw [uptoP_succ, u6_1]
  exact (show stepP (⟨0, ⟨#[40]⟩⟩ : S34) _ _ _ ⟨[], 0, 0, 0, 10⟩ = ⟨[40], 0, (0 + colsOf ⟨#[40]⟩), 0, 10⟩ from rfl).trans (by rw [c_40]; rfl)
theorem u6_3 : uptoP lP 6 3 = ⟨[40], 2, 1, 0, 10⟩ := by
  rw [uptoP_succ, u6_2]; exact (show stepP (⟨8, ⟨#[]⟩⟩ : S34) _ _ _ ⟨[40], 0, 1, 0, 10⟩ = ⟨[40], 2, 1, 0, 10⟩ from rfl)
theorem u6_4 : uptoP lP 6 4 = ⟨[40], 2, 1, 0, 10⟩ := by
  rw [uptoP_succ, u6_3]; exact (show stepP (⟨3, ⟨#[]⟩⟩ : S34) _ _ _ ⟨[40], 2, 1, 0, 10⟩ = ⟨[40], 2, 1, 0, 10⟩ from rfl)
theorem u6_5 : uptoP lP 6 5 = ⟨[40, 97], 2, 2, 0, 10⟩ := by
  rw [uptoP_succ, u6_4]
  exact (show stepP (⟨0, ⟨#[97]⟩⟩ : S34) _ _ _ ⟨[40], 2, 1, 0, 10⟩ = ⟨[40, 97], 2, (1 + colsOf ⟨#[97]⟩), 0, 10⟩ from rfl).trans (by rw [c_97]; rfl)
theorem u6_6 : uptoP lP 6 6 = ⟨[40, 97, 44, 32], 2, 4, 0, 10⟩ := by
  rw [uptoP_succ, u6_5]
  exact (show stepP (⟨4, ⟨#[]⟩⟩ : S34) _ _ _ ⟨[40, 97], 2, 2, 0, 10⟩ = ⟨[40, 97, 44, 32], 2, (2 + colsOf ⟨#[44, 32]⟩), 0, 10⟩ from rfl).trans (by rw [c_44]; rfl)
theorem u6_7 : uptoP lP 6 7 = ⟨[40, 97, 44, 32, 98], 2, 5, 0, 10⟩ := by
  rw [uptoP_succ, u6_6]
  exact (show stepP (⟨0, ⟨#[98]⟩⟩ : S34) _ _ _ ⟨[40, 97, 44, 32], 2, 4, 0, 10⟩ = ⟨[40, 97, 44, 32, 98], 2, (4 + colsOf ⟨#[98]⟩), 0, 10⟩ from rfl).trans (by rw [c_98]; rfl)
theorem u6_8 : uptoP lP 6 8 = ⟨[40, 97, 44, 32, 98], 0, 5, 0, 10⟩ := by
  rw [uptoP_succ, u6_7]; exact (show stepP (⟨9, ⟨#[]⟩⟩ : S34) _ _ _ ⟨[40, 97, 44, 32, 98], 2, 5, 0, 10⟩ = ⟨[40, 97, 44, 32, 98], 0, 5, 0, 10⟩ from rfl)
theorem u6_9 : uptoP lP 6 9 = ⟨[40, 97, 44, 32, 98], 0, 5, 0, 10⟩ := by
  rw [uptoP_succ, u6_8]; exact (show stepP (⟨3, ⟨#[]⟩⟩ : S34) _ _ _ ⟨[40, 97, 44, 32, 98], 0, 5, 0, 10⟩ = ⟨[40, 97, 44, 32, 98], 0, 5, 0, 10⟩ from rfl)
theorem u6_10 : uptoP lP 6 10 = ⟨[40, 97, 44, 32, 98, 41], 0, 6, 0, 10⟩ := by
  rw [uptoP_succ, u6_9]
  exact (show stepP (⟨0, ⟨#[41]⟩⟩ : S34) _ _ _ ⟨[40, 97, 44, 32, 98], 0, 5, 0, 10⟩ = ⟨[40, 97, 44, 32, 98, 41], 0, (5 + colsOf ⟨#[41]⟩), 0, 10⟩ from rfl).trans (by rw [c_41]; rfl)
theorem u6_11 : uptoP lP 6 11 = ⟨[40, 97, 44, 32, 98, 41], 0, 6, 0, (-1)⟩ := by
  rw [uptoP_succ, u6_10]; exact (show stepP (⟨7, ⟨#[]⟩⟩ : S34) _ _ _ ⟨[40, 97, 44, 32, 98, 41], 0, 6, 0, 10⟩ = ⟨[40, 97, 44, 32, 98, 41], 0, 6, 0, (-1)⟩ from rfl)
theorem mayB_lP : MayB lP := by decide +kernel
theorem dom_lP : Dom lP := ⟨by decide, lP_small, by decide +kernel⟩
theorem isM_lP : IsM lP 0 10 := by
  obtain ⟨k, hk⟩ := mayB_lP.group (show 0 < lP.length by decide) rfl
  have := hk.mt
  rw [show ((0 : Nat) : Int) = 0 from rfl, lP_match] at this
  obtain rfl : k = 10 := by omega
  exact hk
theorem sum_lP : sumC lP 0 11 = 6 := by
  have a0 : colA lP 0 = 0 := (show colA lP 0 = colsOf ⟨#[]⟩ from rfl).trans cols_none
  have a1 : colA lP 1 = 1 := (show colA lP 1 = colsOf ⟨#[40]⟩ from rfl).trans c_40
  have a2 : colA lP 2 = 0 := (show colA lP 2 = colsOf ⟨#[]⟩ from rfl).trans cols_none
  have a3 : colA lP 3 = 0 := (show colA lP 3 = colsOf ⟨#[]⟩ from rfl).trans cols_none
  have a4 : colA lP 4 = 1 := (show colA lP 4 = colsOf ⟨#[97]⟩ from rfl).trans c_97
  have a5 : colA lP 5 = 2 := (show colA lP 5 = colsOf ⟨#[44, 32]⟩ from rfl).trans c_44
  have a6 : colA lP 6 = 1 := (show colA lP 6 = colsOf ⟨#[98]⟩ from rfl).trans c_98
  have a7 : colA lP 7 = 0 := (show colA lP 7 = colsOf ⟨#[]⟩ from rfl).trans cols_none
  have a8 : colA lP 8 = 0 := (show colA lP 8 = colsOf ⟨#[]⟩ from rfl).trans cols_none
  have a9 : colA lP 9 = 1 := (show colA lP 9 = colsOf ⟨#[41]⟩ from rfl).trans c_41
  have a10 : colA lP 10 = 0 := (show colA lP 10 = colsOf ⟨#[]⟩ from rfl).trans cols_none
  show 0 + colA lP 0 + colA lP 1 + colA lP 2 + colA lP 3 + colA lP 4 + colA lP 5 + colA lP 6 + colA lP 7 + colA lP 8 + colA lP 9 + colA lP 10 = 6
  rw [a0, a1, a2, a3, a4, a5, a6, a7, a8, a9, a10]; rfl
theorem room_lP (w : Int) (h1 : 1 ≤ w) (h2 : w ≤ 65535) : roomB lP w = true := roomB_true.2 ⟨mayB_lP, h1, h2⟩
theorem at_lP6 : FlowAt lP 6 11 0 := by
  refine ⟨by omega, fun i m hi => absurd hi (Nat.not_lt_zero _), fun _ => ⟨by decide, 10, isM_lP, ?_, ?_⟩⟩
  · intro j h1 h2
    have : j = 0 ∨ j = 1 ∨ j = 2 ∨ j = 3 ∨ j = 4 ∨ j = 5 ∨ j = 6 ∨ j = 7 ∨ j = 8 ∨ j = 9 ∨ j = 10 := by omega
    rcases this with e | e | e | e | e | e | e | e | e | e | e <;> (subst e; rfl)
  · rw [Nat.sub_zero, sum_lP]; decide
theorem flow_lP6 : flowOf lP 6 11 = (pg0, 11) := by
  obtain ⟨j, hj, e⟩ := flow_case dom_lP (room_lP 6 (by decide) (by decide)) (k := 11) (by decide)
  obtain rfl := hj.uniq at_lP6
  exact e
theorem held_lP6 : heldOf lP 6 11 = 11 := by
  have h1 := held_ge lP 6 11
  rw [flow_lP6] at h1
  have h2 : heldOf lP 6 11 ≤ 11 := held_le (by decide) 12 fun j hj => by
    obtain ⟨i, hi, e⟩ := flow_case dom_lP (room_lP 6 (by decide) (by decide)) (k := j) (by show j ≤ 11; omega)
    rw [e]
    show (j : Int) - i ≤ 11
    omega
  dsimp only at h1
  omega
theorem held_lP3 : heldOf lP 3 11 < 11 := by
  have h2 : heldOf lP 3 11 ≤ 10 := held_le (by decide) 12 fun j hj => by
    obtain ⟨i, hi, e⟩ := flow_case dom_lP (room_lP 3 (by decide) (by decide)) (k := j) (by show j ≤ 11; omega)
    rw [e]
    show (j : Int) - i ≤ 10
    by_cases g : j = 11
    · subst g
      have : i ≠ 0 := by
        rintro rfl
        obtain ⟨_, m, hm, hu⟩ := hi.stop (by decide)
        have := hu.2
        rw [Nat.sub_zero, sum_lP] at this
        exact absurd this (by decide)
      omega
    · omega
  omega
theorem awake_yes : copperplatelaw19_awake_p.f 20 = some true := by
  have hl : copperplatelaw18_Pair.f = some lP := rfl
  have r6 : roomB lP 6 = true := room_lP 6 (by decide) (by decide)
  have r3 : roomB lP 3 = true := room_lP 3 (by decide) (by decide)
  have rh : roomB (lP ++ [nlB]) 6 = true := roomB_true.2 ⟨mayB_lP.app mayB_hard (by decide), by decide, by decide⟩
  unfold copperplatelaw19_awake_p.f
  rw [hl]
  simp only [Option.bind_some]
  rw [dom_lP.flow, dom_lP.all, dom_lP.held 6 11 (by decide), dom_lP.held 3 11 (by decide), if_pos ⟨r6, by decide, by decide⟩, if_pos rh, if_pos ⟨r6, by decide, by decide⟩, if_pos ⟨r3, by decide, by decide⟩]
  rw [show (11 : Int).toNat = 11 from rfl, flow_lP6, held_lP6, show lP.length = 11 from rfl, u6_11]
  simp only [Option.bind_some]
  rw [if_pos trivial, if_pos (by decide +kernel), if_pos trivial, if_pos trivial, if_pos (by decide +kernel), if_pos trivial, decide_eq_true held_lP3]
theorem copperplatelaw19_awake.calls (r : Bool) (w : World) (h : copperplatelaw19_awake.f = some r) :
    Calls Try.prog 9 #[] w fun e w' => e = .returned (.bool r) ∧ Below w.heap.size w w' := by
  obtain rfl : true = r := Option.some.inj h
  exact copperplatelaw19_awake_p.calls 20 true w awake_yes rfl
end Go.Proofs.Ytkhlfdoeploddaa.PFlow
