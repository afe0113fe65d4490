-- Written by a program of the session (drive.py, over the kit's print.py with contracts by hand). Not trusted: Lean checks it.
import Derived.Test.YtkhlfdoeploddaaPFlowx0
namespace Go.Proofs.Ytkhlfdoeploddaa.PFlow
open Go.RowKit Go.Proofs.YtkhlfdoeploddaaW.PrintWords Go.Proofs.YtkhlfdoeploddaaW.PrintLast Go.Proofs.YtkhlfdoeploddaaW.PrintMore
attribute [local go_sem] max2_int min2_int max_two min_two max_three min_three max_four min_four   -- for this text's walks alone
set_option linter.unusedVariables false
set_option linter.unusedSimpArgs false

/-! ### copperplateref17_Match: function 45 -/
mutual
def copperplateref17_Match.j0 : Nat → List (S34) → Int → Bool → Option (Int)
  | 0, _, _, _ => none
  | k + 1, x0, x1, x22 => if x22 = true then (some (-1)) else (copperplateref17_Match.l0 k x0 0 x1)
def copperplateref17_Match.l0 : Nat → List (S34) → Int → Int → Option (Int)
  | 0, _, _, _ => none
  | k + 1, x0, x5, x6 => if x6 < (x0.length : Int) then (if 0 ≤ x6 then (if ((rd_T34 x0 x6).f0) = 6 then (copperplateref17_Match.j2 k x0 (wrap64 (x5 + 1)) x6) else (copperplateref17_Match.j2 k x0 x5 x6)) else (none)) else (some (-1))
def copperplateref17_Match.j2 : Nat → List (S34) → Int → Int → Option (Int)
  | 0, _, _, _ => none
  | k + 1, x0, x5, x6 => if 0 ≤ x6 then (if x6 < (x0.length : Int) then (if ((rd_T34 x0 x6).f0) = 7 then (if (wrap64 (x5 - 1)) = 0 then (some x6) else (copperplateref17_Match.l0 k x0 (wrap64 (x5 - 1)) (wrap64 (x6 + 1)))) else (if x5 = 0 then (some x6) else (copperplateref17_Match.l0 k x0 x5 (wrap64 (x6 + 1))))) else (none)) else (none)
end
def copperplateref17_Match.f (k : Nat) (l0 : List (S34)) (a1 : Int) : Option (Int) := if a1 < 0 then (copperplateref17_Match.j0 k l0 a1 true) else (if a1 ≥ (l0.length : Int) then (copperplateref17_Match.j0 k l0 a1 true) else (if 0 ≤ a1 then (if a1 < (l0.length : Int) then (copperplateref17_Match.j0 k l0 a1 (((rd_T34 l0 a1).f0) != 6)) else (none)) else (none)))
theorem copperplateref17_Match.mono_l : ∀ k, (∀ y0 y1 y2, LeO (copperplateref17_Match.j0 k y0 y1 y2) (copperplateref17_Match.j0 (k + 1) y0 y1 y2)) ∧ (∀ y0 y1 y2, LeO (copperplateref17_Match.l0 k y0 y1 y2) (copperplateref17_Match.l0 (k + 1) y0 y1 y2)) ∧ (∀ y0 y1 y2, LeO (copperplateref17_Match.j2 k y0 y1 y2) (copperplateref17_Match.j2 (k + 1) y0 y1 y2))
  | 0 => ⟨fun _ _ _ r h => by simp [copperplateref17_Match.j0] at h, fun _ _ _ r h => by simp [copperplateref17_Match.l0] at h, fun _ _ _ r h => by simp [copperplateref17_Match.j2] at h⟩
  | k + 1 => by
    obtain ⟨ih0, ih1, ih2⟩ := copperplateref17_Match.mono_l k
    refine ⟨?_, ?_, ?_⟩
    · intro y0 y1 y2
      unfold copperplateref17_Match.j0
      repeat' first
      | (with_reducible exact ih0 _ _ _)
      | (with_reducible exact ih1 _ _ _)
      | (with_reducible exact ih2 _ _ _)
      | (with_reducible exact LeO.refl _)
      | (with_reducible exact LeO.none _)
      | (with_reducible refine LeO.ite ?_ ?_)
      | (with_reducible refine LeO.bind ?_ (fun _ => ?_))
      | exact ih0 _ _ _
      | exact ih1 _ _ _
      | exact ih2 _ _ _
      | exact LeO.none _
      | refine LeO.ite ?_ ?_
      | refine LeO.bind ?_ (fun _ => ?_)
    · intro y0 y1 y2
      unfold copperplateref17_Match.l0
      repeat' first
      | (with_reducible exact ih0 _ _ _)
      | (with_reducible exact ih1 _ _ _)
      | (with_reducible exact ih2 _ _ _)
      | (with_reducible exact LeO.refl _)
      | (with_reducible exact LeO.none _)
      | (with_reducible refine LeO.ite ?_ ?_)
      | (with_reducible refine LeO.bind ?_ (fun _ => ?_))
      | exact ih0 _ _ _
      | exact ih1 _ _ _
      | exact ih2 _ _ _
      | exact LeO.none _
      | refine LeO.ite ?_ ?_
      | refine LeO.bind ?_ (fun _ => ?_)
    · intro y0 y1 y2
      unfold copperplateref17_Match.j2
      repeat' first
      | (with_reducible exact ih0 _ _ _)
      | (with_reducible exact ih1 _ _ _)
      | (with_reducible exact ih2 _ _ _)
      | (with_reducible exact LeO.refl _)
      | (with_reducible exact LeO.none _)
      | (with_reducible refine LeO.ite ?_ ?_)
      | (with_reducible refine LeO.bind ?_ (fun _ => ?_))
      | exact ih0 _ _ _
      | exact ih1 _ _ _
      | exact ih2 _ _ _
      | exact LeO.none _
      | refine LeO.ite ?_ ?_
      | refine LeO.bind ?_ (fun _ => ?_)
theorem copperplateref17_Match.mono : ∀ a0 a1 k, LeO (copperplateref17_Match.f k a0 a1) (copperplateref17_Match.f (k + 1) a0 a1) := by
  intro a0 a1 k
  obtain ⟨ih0, ih1, ih2⟩ := copperplateref17_Match.mono_l k
  unfold copperplateref17_Match.f
  repeat' first
      | (with_reducible exact ih0 _ _ _)
      | (with_reducible exact ih1 _ _ _)
      | (with_reducible exact ih2 _ _ _)
      | (with_reducible exact LeO.refl _)
      | (with_reducible exact LeO.none _)
      | (with_reducible refine LeO.ite ?_ ?_)
      | (with_reducible refine LeO.bind ?_ (fun _ => ?_))
      | exact ih0 _ _ _
      | exact ih1 _ _ _
      | exact ih2 _ _ _
      | exact LeO.none _
      | refine LeO.ite ?_ ?_
      | refine LeO.bind ?_ (fun _ => ?_)
set_option maxHeartbeats 8000000 in
set_option maxRecDepth 100000 in
theorem copperplateref17_Match.calls (k : Nat) (A0 : Option Addr) (c0 : Nat) (l0 : List (S34)) (a1 : Int) (r : Int) (w : World) (hr0 : Kd.C k34 w A0 l0.length l0) (hc0 : l0.length ≤ c0) (h : copperplateref17_Match.f k l0 a1 = some r) :
    Calls Try.prog 45 #[.slice A0 l0.length c0, .int .i64 a1] w fun e w' => e = .returned (.int .i64 r) ∧ Drawn0 w w' := by
  have HR0 := Aside0.mk hr0
  have HC0 := Aside0.mk hc0
  clear hr0 hc0
  have H : (if a1 < 0 then (copperplateref17_Match.j0 k l0 a1 true) else (if a1 ≥ (l0.length : Int) then (copperplateref17_Match.j0 k l0 a1 true) else (if 0 ≤ a1 then (if a1 < (l0.length : Int) then (copperplateref17_Match.j0 k l0 a1 (((rd_T34 l0 a1).f0) != 6)) else (none)) else (none)))) = some r := h
  clear h
  have HC3 := Aside0.mk H
  clear H
  go_enter Try.func45, Try.ntmps45
  go_upto_region 1 with (fail)
  go_cut [22] (fun v22 wc => ∃ (kq : Nat) (x22_2 : Bool), v22 = .bool x22_2 ∧ Aside0 (copperplateref17_Match.j0 kq l0 a1 x22_2 = some r) ∧ Aside0 (kq ≤ k) ∧ Drawn0 w wc)
  case first =>
    have H := HC3.out
    clear HC3
    by_cases c4 : a1 < 0
    · rw [if_pos c4] at H
      have c4b0 : decide (a1 < 0) = true := decide_eq_true c4
      clear c4
      (first | rw [c4b0] | (simp only [i64_w, i32_w]; rw [c4b0]) | skip)
      have H' := Aside0.mk H
      clear H
      go_wp2
      go_meet
      case rel => exact ⟨_, (true), (by first | rfl | (simp; done) | (simp [*]; done)), H', ⟨by first | omega | exact Nat.le_refl _⟩, by repeat (first | exact Drawn0.refl _ | apply Drawn0.step)⟩
    · rw [if_neg c4] at H
      have c4b0 : decide (a1 < 0) = false := decide_eq_false c4
      clear c4
      (first | rw [c4b0] | (simp only [i64_w, i32_w]; rw [c4b0]) | skip)
      by_cases c5 : a1 ≥ (l0.length : Int)
      · rw [if_pos c5] at H
        have c5b0 : decide ((l0.length : Int) ≤ a1) = true := decide_eq_true c5
        clear c5
        have H' := Aside0.mk H
        clear H
        go_wp2
        go_meet
        case rel => exact ⟨_, (true), (by first | rfl | (simp; done) | (simp [*]; done)), H', ⟨by first | omega | exact Nat.le_refl _⟩, by repeat (first | exact Drawn0.refl _ | apply Drawn0.step)⟩
      · rw [if_neg c5] at H
        have c5b0 : decide ((l0.length : Int) ≤ a1) = false := decide_eq_false c5
        clear c5
        by_cases c6 : 0 ≤ a1
        · rw [if_pos c6] at H
          have c6b0 : decide (0 ≤ a1) = true := decide_eq_true c6
          clear c6
          by_cases c7 : a1 < (l0.length : Int)
          · rw [if_pos c7] at H
            have c7b0 : decide (a1 < (l0.length : Int)) = true := decide_eq_true c7
            clear c7
            have H' := Aside0.mk H
            clear H
            have p141 : 0 ≤ (a1 : Int) := of_decide_eq_true (by first | (with_reducible assumption) | assumption)
            have q141 : a1 < (l0.length : Int) := of_decide_eq_true (by first | (with_reducible assumption) | assumption)
            obtain ⟨ad141, e141, hx141_0, hx141_1⟩ := at_T34 HR0.out a1 p141 q141
            cases e141
            replace p141 := eq_true p141
            replace q141 := eq_true q141
            go_wp2
            go_meet
            case rel => exact ⟨_, ((((rd_T34 l0 a1).f0) != 6)), (by first | rfl | (simp; done) | (simp [*]; done)), H', ⟨by first | omega | exact Nat.le_refl _⟩, by repeat (first | exact Drawn0.refl _ | apply Drawn0.step)⟩
          · rw [if_neg c7] at H
            exact absurd H (by simp)
        · rw [if_neg c6] at H
          exact absurd H (by simp)
  case rest =>
    clear HC3
    try clear p1
    try clear q1
    try clear hx1
    try clear p2
    try clear c4
    try clear c4b0
    try clear c5
    try clear c5b0
    try clear c6
    try clear c6b0
    try clear c7
    try clear c7b0
    try clear hx141_0
    try clear hx141_1
    try clear p141
    try clear q141
    obtain ⟨kq, x22_2, rfl, HA, HJ2, ⟨mc2, rfl⟩⟩ := hcut
    cases kq with
    | zero => exact absurd HA.out (by simp [copperplateref17_Match.j0])
    | succ kj2 =>
      have H := HA.out
      clear HA
      simp only [copperplateref17_Match.j0] at H
      by_cases c8 : x22_2 = true
      · subst c8
        have H1 : (some (-1)) = some r := by rw [if_pos rfl] at H; exact H
        clear H
        have H := H1
        clear H1
        obtain rfl := Option.some.inj H
        go_wp2
        go_ret
        exact ⟨by first | rfl | (simp; done) | (simp [*]; done), by repeat (first | exact Drawn0.refl _ | apply Drawn0.step)⟩
      · replace c8 := Bool.eq_false_iff.mpr c8
        subst c8
        have H1 : (copperplateref17_Match.l0 kj2 l0 0 a1) = some r := by rw [if_neg (show ¬ (false = true) by decide)] at H; exact H
        clear H
        have H := H1
        clear H1
        have H' := Aside0.mk H
        clear H
        go_wp2
        go_loopg [5, 6] kj2 (fun kq v5 v6 w' => ∃ (x5_2 : Int) (x6_2 : Int), v5 = .int .i64 x5_2 ∧ v6 = .int .i64 x6_2 ∧ Aside0 (copperplateref17_Match.l0 kq l0 x5_2 x6_2 = some r) ∧ Aside0 (kq ≤ kj2) ∧ Drawn0 w w')
        case atStart => exact ⟨(0), (a1), (by first | rfl | (simp; done) | (simp [*]; done)), (by first | rfl | (simp; done) | (simp [*]; done)), H', ⟨Nat.le_refl _⟩, by repeat (first | exact Drawn0.refl _ | apply Drawn0.step)⟩
        case round =>
          clear H'
          try clear p1
          try clear q1
          try clear hx1
          try clear c2
          try clear p2
          try clear c4
          try clear c4b0
          try clear c5
          try clear c5b0
          try clear c6
          try clear c6b0
          try clear c7
          try clear c7b0
          try clear c8
          try clear hx141_0
          try clear hx141_1
          try clear p1
          try clear p141
          try clear p2
          try clear q1
          try clear q141
          obtain ⟨x5_2, x6_2, rfl, rfl, HA, HK2, ⟨m2, rfl⟩⟩ := hrel
          cases gk with
          | zero => exact absurd HA.out (by simp [copperplateref17_Match.l0])
          | succ k2 =>
            have H := HA.out
            clear HA
            simp only [copperplateref17_Match.l0] at H
            by_cases c9 : x6_2 < (l0.length : Int)
            · rw [if_pos c9] at H
              have c9b0 : decide (x6_2 < (l0.length : Int)) = true := decide_eq_true c9
              clear c9
              by_cases c10 : 0 ≤ x6_2
              · rw [if_pos c10] at H
                have c10b0 : decide (0 ≤ x6_2) = true := decide_eq_true c10
                clear c10
                have HC11 := Aside0.mk H
                clear H
                have p142 : 0 ≤ (x6_2 : Int) := of_decide_eq_true (by first | (with_reducible assumption) | assumption)
                have q142 : x6_2 < (l0.length : Int) := of_decide_eq_true (by first | (with_reducible assumption) | assumption)
                obtain ⟨ad142, e142, hx142_0, hx142_1⟩ := at_T34 HR0.out x6_2 p142 q142
                cases e142
                replace p142 := eq_true p142
                replace q142 := eq_true q142
                go_upto_if 35 with (fail)
                go_cut [5] (fun v5 wc => ∃ (kq : Nat) (x5_10 : Int), v5 = .int .i64 x5_10 ∧ Aside0 (copperplateref17_Match.j2 kq l0 x5_10 x6_2 = some r) ∧ Aside0 (kq ≤ k2) ∧ Drawn0 w wc)
                case first =>
                  have H := HC11.out
                  clear HC11
                  by_cases c12 : ((rd_T34 l0 x6_2).f0) = 6
                  · rw [if_pos c12] at H
                    have c12b0 : (((rd_T34 l0 x6_2).f0) == 6) = true := beq_iff_eq.mpr c12
                    have c12b1 : (((rd_T34 l0 x6_2).f0) != 6) = false := bne_eq_false_iff_eq.mpr c12
                    clear c12
                    (first | rw [c12b0] | (simp only [i64_w, i32_w]; rw [c12b0]) | skip)
                    have H' := Aside0.mk H
                    clear H
                    go_wp2
                    go_meet
                    case rel => exact ⟨_, (wrap64 (x5_2 + 1)), (by first | rfl | (simp; done) | (simp [*]; done)), H', ⟨by have := HJ2.out; have := HK2.out; first | omega | exact Nat.le_refl _⟩, by repeat (first | exact Drawn0.refl _ | apply Drawn0.step)⟩
                  · rw [if_neg c12] at H
                    have c12b0 : (((rd_T34 l0 x6_2).f0) == 6) = false := beq_eq_false_iff_ne.mpr c12
                    have c12b1 : (((rd_T34 l0 x6_2).f0) != 6) = true := bne_iff_ne.mpr c12
                    (first | rw [c12b0] | (simp only [i64_w, i32_w]; rw [c12b0]) | skip)
                    have H' := Aside0.mk H
                    clear H
                    go_wp2
                    go_meet
                    case rel => exact ⟨_, (x5_2), (by first | rfl | (simp; done) | (simp [*]; done)), H', ⟨by have := HJ2.out; have := HK2.out; first | omega | exact Nat.le_refl _⟩, by repeat (first | exact Drawn0.refl _ | apply Drawn0.step)⟩
                case rest =>
                  clear HC11
                  try clear c1
                  try clear p1
                  try clear q1
                  try clear hx1
                  try clear c2
                  try clear p2
                  try clear c4
                  try clear c4b0
                  try clear c5
                  try clear c5b0
                  try clear c6
                  try clear c6b0
                  try clear p6
                  try clear c7
                  try clear c7b0
                  try clear c8
                  try clear c9
                  try clear c9b0
                  try clear c10
                  try clear c10b0
                  try clear c12
                  try clear c12b0
                  try clear c12b1
                  try clear hx141_0
                  try clear hx141_1
                  try clear hx142_0
                  try clear hx142_1
                  try clear p1
                  try clear p141
                  try clear p142
                  try clear p2
                  try clear q1
                  try clear q141
                  try clear q142
                  obtain ⟨kq, x5_10, rfl, HA, HJ10, ⟨mc10, rfl⟩⟩ := hcut
                  cases kq with
                  | zero => exact absurd HA.out (by simp [copperplateref17_Match.j2])
                  | succ kj10 =>
                    have H := HA.out
                    clear HA
                    simp only [copperplateref17_Match.j2] at H
                    by_cases c13 : 0 ≤ x6_2
                    · rw [if_pos c13] at H
                      have c13b0 : decide (0 ≤ x6_2) = true := decide_eq_true c13
                      clear c13
                      by_cases c14 : x6_2 < (l0.length : Int)
                      · rw [if_pos c14] at H
                        have c14b0 : decide (x6_2 < (l0.length : Int)) = true := decide_eq_true c14
                        clear c14
                        by_cases c15 : ((rd_T34 l0 x6_2).f0) = 7
                        · rw [if_pos c15] at H
                          have c15b0 : (((rd_T34 l0 x6_2).f0) == 7) = true := beq_iff_eq.mpr c15
                          have c15b1 : (((rd_T34 l0 x6_2).f0) != 7) = false := bne_eq_false_iff_eq.mpr c15
                          clear c15
                          by_cases c16 : (wrap64 (x5_10 - 1)) = 0
                          · rw [if_pos c16] at H
                            have c16b0 : ((wrap64 (x5_10 - 1)) == 0) = true := beq_iff_eq.mpr c16
                            have c16b1 : ((wrap64 (x5_10 - 1)) != 0) = false := bne_eq_false_iff_eq.mpr c16
                            clear c16
                            obtain rfl := Option.some.inj H
                            have p143 : 0 ≤ (x6_2 : Int) := of_decide_eq_true (by first | (with_reducible assumption) | assumption)
                            have q143 : x6_2 < (l0.length : Int) := of_decide_eq_true (by first | (with_reducible assumption) | assumption)
                            obtain ⟨ad143, e143, hx143_0, hx143_1⟩ := at_T34 HR0.out x6_2 p143 q143
                            obtain rfl : ad142 = ad143 := (by injection e143)
                            replace p143 := eq_true p143
                            replace q143 := eq_true q143
                            (try (have hw_ : wrap64 (x5_10 - 1) = (x5_10 - 1) := (by unfold wrap64; omega); have c16b0u := c16b0; rw [hw_] at c16b0u))
                            (try (have hw_ : wrap64 (x5_10 - 1) = (x5_10 - 1) := (by unfold wrap64; omega); have c16b1u := c16b1; rw [hw_] at c16b1u))
                            go_wp2
                            go_ret
                            exact ⟨by first | rfl | (simp; done) | (simp [*]; done), by repeat (first | exact Drawn0.refl _ | apply Drawn0.step)⟩
                          · rw [if_neg c16] at H
                            have c16b0 : ((wrap64 (x5_10 - 1)) == 0) = false := beq_eq_false_iff_ne.mpr c16
                            have c16b1 : ((wrap64 (x5_10 - 1)) != 0) = true := bne_iff_ne.mpr c16
                            have H' := Aside0.mk H
                            clear H
                            have p143 : 0 ≤ (x6_2 : Int) := of_decide_eq_true (by first | (with_reducible assumption) | assumption)
                            have q143 : x6_2 < (l0.length : Int) := of_decide_eq_true (by first | (with_reducible assumption) | assumption)
                            obtain ⟨ad143, e143, hx143_0, hx143_1⟩ := at_T34 HR0.out x6_2 p143 q143
                            obtain rfl : ad142 = ad143 := (by injection e143)
                            replace p143 := eq_true p143
                            replace q143 := eq_true q143
                            (try (have hw_ : wrap64 (x5_10 - 1) = (x5_10 - 1) := (by unfold wrap64; omega); have c16b0u := c16b0; rw [hw_] at c16b0u))
                            (try (have hw_ : wrap64 (x5_10 - 1) = (x5_10 - 1) := (by unfold wrap64; omega); have c16b1u := c16b1; rw [hw_] at c16b1u))
                            go_wp2
                            go_roundg kj10
                            case measure => have := HJ2.out; have := HK2.out; have := HJ10.out; omega
                            case rel => exact ⟨(wrap64 (x5_10 - 1)), (wrap64 (x6_2 + 1)), (by first | rfl | (simp; done) | (simp [*]; done)), (by first | rfl | (simp; done) | (simp [*]; done)), H', ⟨by have := HJ2.out; have := HK2.out; have := HJ10.out; omega⟩, by repeat (first | exact Drawn0.refl _ | apply Drawn0.step)⟩
                        · rw [if_neg c15] at H
                          have c15b0 : (((rd_T34 l0 x6_2).f0) == 7) = false := beq_eq_false_iff_ne.mpr c15
                          have c15b1 : (((rd_T34 l0 x6_2).f0) != 7) = true := bne_iff_ne.mpr c15
                          by_cases c17 : x5_10 = 0
                          · rw [if_pos c17] at H
                            have c17b0 : (x5_10 == 0) = true := beq_iff_eq.mpr c17
                            have c17b1 : (x5_10 != 0) = false := bne_eq_false_iff_eq.mpr c17
                            clear c17
                            obtain rfl := Option.some.inj H
                            have p143 : 0 ≤ (x6_2 : Int) := of_decide_eq_true (by first | (with_reducible assumption) | assumption)
                            have q143 : x6_2 < (l0.length : Int) := of_decide_eq_true (by first | (with_reducible assumption) | assumption)
                            obtain ⟨ad143, e143, hx143_0, hx143_1⟩ := at_T34 HR0.out x6_2 p143 q143
                            obtain rfl : ad142 = ad143 := (by injection e143)
                            replace p143 := eq_true p143
                            replace q143 := eq_true q143
                            go_wp2
                            go_ret
                            exact ⟨by first | rfl | (simp; done) | (simp [*]; done), by repeat (first | exact Drawn0.refl _ | apply Drawn0.step)⟩
                          · rw [if_neg c17] at H
                            have c17b0 : (x5_10 == 0) = false := beq_eq_false_iff_ne.mpr c17
                            have c17b1 : (x5_10 != 0) = true := bne_iff_ne.mpr c17
                            have H' := Aside0.mk H
                            clear H
                            have p143 : 0 ≤ (x6_2 : Int) := of_decide_eq_true (by first | (with_reducible assumption) | assumption)
                            have q143 : x6_2 < (l0.length : Int) := of_decide_eq_true (by first | (with_reducible assumption) | assumption)
                            obtain ⟨ad143, e143, hx143_0, hx143_1⟩ := at_T34 HR0.out x6_2 p143 q143
                            obtain rfl : ad142 = ad143 := (by injection e143)
                            replace p143 := eq_true p143
                            replace q143 := eq_true q143
                            go_wp2
                            go_roundg kj10
                            case measure => have := HJ2.out; have := HK2.out; have := HJ10.out; omega
                            case rel => exact ⟨(x5_10), (wrap64 (x6_2 + 1)), (by first | rfl | (simp; done) | (simp [*]; done)), (by first | rfl | (simp; done) | (simp [*]; done)), H', ⟨by have := HJ2.out; have := HK2.out; have := HJ10.out; omega⟩, by repeat (first | exact Drawn0.refl _ | apply Drawn0.step)⟩
                      · rw [if_neg c14] at H
                        exact absurd H (by simp)
                    · rw [if_neg c13] at H
                      exact absurd H (by simp)
              · rw [if_neg c10] at H
                exact absurd H (by simp)
            · rw [if_neg c9] at H
              have c9b0 : decide (x6_2 < (l0.length : Int)) = false := decide_eq_false c9
              clear c9
              obtain rfl := Option.some.inj H
              go_wp2
              go_ret
              exact ⟨by first | rfl | (simp; done) | (simp [*]; done), by repeat (first | exact Drawn0.refl _ | apply Drawn0.step)⟩

/-! ### copperplateref17_Flat: function 46 -/
def copperplateref17_Flat.j0 : Nat → Int → Bool → Option (ByteArray × Bool)
  | 0, _, _ => none
  | k + 1, x5, x10 => if x10 = true then (some ((⟨#[32]⟩ : ByteArray), true)) else (if x5 = 4 then (some ((⟨#[44, 32]⟩ : ByteArray), true)) else (if x5 = 3 then (some ((⟨#[]⟩ : ByteArray), true)) else (if x5 = 6 then (some ((⟨#[]⟩ : ByteArray), true)) else (if x5 = 7 then (some ((⟨#[]⟩ : ByteArray), true)) else (if x5 = 8 then (some ((⟨#[]⟩ : ByteArray), true)) else (if x5 = 9 then (some ((⟨#[]⟩ : ByteArray), true)) else (some ((⟨#[]⟩ : ByteArray), false))))))))
def copperplateref17_Flat.f (k : Nat) (a0_0 : Int) (a0_1 : ByteArray) : Option (ByteArray × Bool) := if a0_0 = 0 then (some (a0_1, true)) else (if a0_0 = 1 then (copperplateref17_Flat.j0 k a0_0 (a0_0 == 1)) else (copperplateref17_Flat.j0 k a0_0 (a0_0 == 2)))
theorem copperplateref17_Flat.mono_l : ∀ k, (∀ y0 y1, LeO (copperplateref17_Flat.j0 k y0 y1) (copperplateref17_Flat.j0 (k + 1) y0 y1))
  | 0 => fun _ _ r h => by simp [copperplateref17_Flat.j0] at h
  | k + 1 => by
    have ih0 := copperplateref17_Flat.mono_l k
    · intro y0 y1
      unfold copperplateref17_Flat.j0
      repeat' first
      | (with_reducible exact ih0 _ _)
      | (with_reducible exact LeO.refl _)
      | (with_reducible exact LeO.none _)
      | (with_reducible refine LeO.ite ?_ ?_)
      | (with_reducible refine LeO.bind ?_ (fun _ => ?_))
      | exact ih0 _ _
      | exact LeO.none _
      | refine LeO.ite ?_ ?_
      | refine LeO.bind ?_ (fun _ => ?_)
theorem copperplateref17_Flat.mono : ∀ a0 a1 k, LeO (copperplateref17_Flat.f k a0 a1) (copperplateref17_Flat.f (k + 1) a0 a1) := by
  intro a0 a1 k
  have ih0 := copperplateref17_Flat.mono_l k
  unfold copperplateref17_Flat.f
  repeat' first
      | (with_reducible exact ih0 _ _)
      | (with_reducible exact LeO.refl _)
      | (with_reducible exact LeO.none _)
      | (with_reducible refine LeO.ite ?_ ?_)
      | (with_reducible refine LeO.bind ?_ (fun _ => ?_))
      | exact ih0 _ _
      | exact LeO.none _
      | refine LeO.ite ?_ ?_
      | refine LeO.bind ?_ (fun _ => ?_)
set_option maxHeartbeats 8000000 in
set_option maxRecDepth 100000 in
theorem copperplateref17_Flat.calls (k : Nat) (a0_0 : Int) (a0_1 : ByteArray) (r1 : ByteArray) (r2 : Bool) (w : World) (h : copperplateref17_Flat.f k a0_0 a0_1 = some (r1, r2)) :
    Calls Try.prog 46 #[.agg #[.int .i64 a0_0, .string a0_1]] w fun e w' => e = .returned (.tuple #[.string r1, .bool r2]) ∧ Below w.heap.size w w' := by
  have hu34 := Try.underlying34
  have HB := Aside0.mk (Below.refl w.heap.size w)
  have H : (if a0_0 = 0 then (some (a0_1, true)) else (if a0_0 = 1 then (copperplateref17_Flat.j0 k a0_0 (a0_0 == 1)) else (copperplateref17_Flat.j0 k a0_0 (a0_0 == 2)))) = some (r1, r2) := h
  clear h
  by_cases c2 : a0_0 = 0
  · rw [if_pos c2] at H
    have c2b0 : (a0_0 == 0) = true := beq_iff_eq.mpr c2
    have c2b1 : (a0_0 != 0) = false := bne_eq_false_iff_eq.mpr c2
    clear c2
    simp only [Option.some.injEq, Prod.mk.injEq] at H
    obtain ⟨rfl, rfl⟩ := H
    go_enter Try.func46, Try.ntmps46
    go_wp2_with (first | ((with_reducible refine gate_dst (N := 1) rfl ?_); refine box_event ?hg (N := 1) ?hd (cs := #[.int .i64 a0_0, .string a0_1]) (t := 34) ?hr ?_; (case hd => rfl); (case hg => rfl); (case hr => first | (go_simp; done) | (go_simp; rfl)); intro gb144 hg w3 hbox hb; have n0_ := Aside0.mk (below_step (by repeat (first | (with_reducible first | exact HB.out | apply below_alloc | apply pw_below_drewN | apply below_drew1) | exact HB.out)) hb); have n1_ := Aside0.mk (hbox); have n2_ := Aside0.mk ((by rw [hg]; exact (below_size (by repeat (first | (with_reducible first | exact HB.out | apply below_alloc | apply pw_below_drewN | apply below_drew1) | exact HB.out))) : w.heap.size ≤ gb144)); have n3_ := Aside0.mk ((by rw [hg]; exact (below_size (by repeat (first | (with_reducible first | exact HB.out | apply below_alloc | apply pw_below_drewN | apply below_drew1) | exact HB.out))) : w.heap.size ≤ gb144)); clear HB; have HB := n0_; have BK144 := n1_; have GW144 := n2_; have GE144 := n3_; clear n0_ n1_ n2_ n3_; clear hb hbox hg; have hcz4_0 : w3.cell? ⟨gb144, 0, none⟩ = some (.int .i64 a0_0) := (blk_cell BK144.out 0).trans rfl; have hcz4_1 : w3.cell? ⟨gb144, 1, none⟩ = some (.string a0_1) := (blk_cell BK144.out 1).trans rfl; have hfz4_0 := blk_frozen BK144.out 0; have hfz4_1 := blk_frozen BK144.out 1))
    go_ret2
    exact ⟨by first | rfl | (simp [errW_none, errW_some] <;> rfl) | (simp [*, errW_none, errW_some] <;> rfl), by repeat (first | (with_reducible first | exact HB.out | apply below_alloc | apply pw_below_drewN | apply below_drew1 | refine below_set ?_ GE144.out) | exact HB.out)⟩
  · rw [if_neg c2] at H
    have c2b0 : (a0_0 == 0) = false := beq_eq_false_iff_ne.mpr c2
    have c2b1 : (a0_0 != 0) = true := bne_iff_ne.mpr c2
    have HC5 := Aside0.mk H
    clear H
    go_enter Try.func46, Try.ntmps46
    go_upto_if 10 with (first | ((with_reducible refine gate_dst (N := 1) rfl ?_); refine box_event ?hg (N := 1) ?hd (cs := #[.int .i64 a0_0, .string a0_1]) (t := 34) ?hr ?_; (case hd => rfl); (case hg => rfl); (case hr => first | (go_simp; done) | (go_simp; rfl)); intro gb144 hg w6 hbox hb; have n0_ := Aside0.mk (below_step (by repeat (first | (with_reducible first | exact HB.out | apply below_alloc | apply pw_below_drewN | apply below_drew1) | exact HB.out)) hb); have n1_ := Aside0.mk (hbox); have n2_ := Aside0.mk ((by rw [hg]; exact (below_size (by repeat (first | (with_reducible first | exact HB.out | apply below_alloc | apply pw_below_drewN | apply below_drew1) | exact HB.out))) : w.heap.size ≤ gb144)); have n3_ := Aside0.mk ((by rw [hg]; exact (below_size (by repeat (first | (with_reducible first | exact HB.out | apply below_alloc | apply pw_below_drewN | apply below_drew1) | exact HB.out))) : w.heap.size ≤ gb144)); clear HB; have HB := n0_; have BK144 := n1_; have GW144 := n2_; have GE144 := n3_; clear n0_ n1_ n2_ n3_; clear hb hbox hg; have hcz7_0 : w6.cell? ⟨gb144, 0, none⟩ = some (.int .i64 a0_0) := (blk_cell BK144.out 0).trans rfl; have hcz7_1 : w6.cell? ⟨gb144, 1, none⟩ = some (.string a0_1) := (blk_cell BK144.out 1).trans rfl; have hfz7_0 := blk_frozen BK144.out 0; have hfz7_1 := blk_frozen BK144.out 1))
    (try simp only [Act.put, List.setIfInBounds_toArray, List.set_cons_zero, List.set_cons_succ])
    go_cut [10] (fun v10 wc => ∃ (kq : Nat) (x10_4 : Bool), v10 = .bool x10_4 ∧ Aside0 (copperplateref17_Flat.j0 kq a0_0 x10_4 = some (r1, r2)) ∧ Aside0 (kq ≤ k) ∧ Aside0 (wc.heap[gb144]? = some (.cells #[.int .i64 a0_0, .string a0_1] 34 (0, 0))) ∧ Aside0 (Below w.heap.size w wc))
    case first =>
      have H := HC5.out
      clear HC5
      by_cases c8 : a0_0 = 1
      · rw [if_pos c8] at H
        have c8b0 : (a0_0 == 1) = true := beq_iff_eq.mpr c8
        have c8b1 : (a0_0 != 1) = false := bne_eq_false_iff_eq.mpr c8
        clear c8
        (first | rw [c8b0] | (simp only [i64_w, i32_w]; rw [c8b0]) | skip)
        have H' := Aside0.mk H
        clear H
        go_wp2
        go_meet
        case rel => exact ⟨_, ((a0_0 == 1)), (by first | rfl | (simp; done) | (simp [*]; done)), H', ⟨by first | omega | exact Nat.le_refl _⟩, ⟨by (with_reducible repeat (first | refine blk_drewN ?_ _ | refine blk_drew ?_ | refine blk_alloc ?_ _)); exact BK144.out⟩, ⟨by repeat (first | (with_reducible first | exact HB.out | apply below_alloc | apply pw_below_drewN | apply below_drew1 | refine below_set ?_ GE144.out) | exact HB.out)⟩⟩
      · rw [if_neg c8] at H
        have c8b0 : (a0_0 == 1) = false := beq_eq_false_iff_ne.mpr c8
        have c8b1 : (a0_0 != 1) = true := bne_iff_ne.mpr c8
        (first | rw [c8b0] | (simp only [i64_w, i32_w]; rw [c8b0]) | skip)
        have H' := Aside0.mk H
        clear H
        go_wp2
        go_meet
        case rel => exact ⟨_, ((a0_0 == 2)), (by first | rfl | (simp; done) | (simp [*]; done)), H', ⟨by first | omega | exact Nat.le_refl _⟩, ⟨by (with_reducible repeat (first | refine blk_drewN ?_ _ | refine blk_drew ?_ | refine blk_alloc ?_ _)); exact BK144.out⟩, ⟨by repeat (first | (with_reducible first | exact HB.out | apply below_alloc | apply pw_below_drewN | apply below_drew1 | refine below_set ?_ GE144.out) | exact HB.out)⟩⟩
    case rest =>
      clear HC5
      try clear c2
      try clear c2b0
      try clear c2b1
      try clear p2
      try clear c4
      try clear c8
      try clear c8b0
      try clear c8b1
      try clear hcz4_0
      try clear hcz4_1
      try clear hcz7_0
      try clear hcz7_1
      try clear hfz4_0
      try clear hfz4_1
      try clear hfz7_0
      try clear hfz7_1
      obtain ⟨kq, x10_4, rfl, HA, HJ4, BK144, HB⟩ := hcut
      cases kq with
      | zero => exact absurd HA.out (by simp [copperplateref17_Flat.j0])
      | succ kj4 =>
        have H := HA.out
        clear HA
        simp only [copperplateref17_Flat.j0] at H
        by_cases c9 : x10_4 = true
        · subst c9
          have H1 : (some ((⟨#[32]⟩ : ByteArray), true)) = some (r1, r2) := by rw [if_pos rfl] at H; exact H
          clear H
          have H := H1
          clear H1
          simp only [Option.some.injEq, Prod.mk.injEq] at H
          obtain ⟨rfl, rfl⟩ := H
          go_wp2
          go_ret2
          exact ⟨by first | rfl | (simp [errW_none, errW_some] <;> rfl) | (simp [*, errW_none, errW_some] <;> rfl), by repeat (first | (with_reducible first | exact HB.out | apply below_alloc | apply pw_below_drewN | apply below_drew1 | refine below_set ?_ GE144.out) | exact HB.out)⟩
        · replace c9 := Bool.eq_false_iff.mpr c9
          subst c9
          have H1 : (if a0_0 = 4 then (some ((⟨#[44, 32]⟩ : ByteArray), true)) else (if a0_0 = 3 then (some ((⟨#[]⟩ : ByteArray), true)) else (if a0_0 = 6 then (some ((⟨#[]⟩ : ByteArray), true)) else (if a0_0 = 7 then (some ((⟨#[]⟩ : ByteArray), true)) else (if a0_0 = 8 then (some ((⟨#[]⟩ : ByteArray), true)) else (if a0_0 = 9 then (some ((⟨#[]⟩ : ByteArray), true)) else (some ((⟨#[]⟩ : ByteArray), false)))))))) = some (r1, r2) := by rw [if_neg (show ¬ (false = true) by decide)] at H; exact H
          clear H
          have H := H1
          clear H1
          by_cases c10 : a0_0 = 4
          · rw [if_pos c10] at H
            have c10b0 : (a0_0 == 4) = true := beq_iff_eq.mpr c10
            have c10b1 : (a0_0 != 4) = false := bne_eq_false_iff_eq.mpr c10
            clear c10
            simp only [Option.some.injEq, Prod.mk.injEq] at H
            obtain ⟨rfl, rfl⟩ := H
            go_wp2
            go_ret2
            exact ⟨by first | rfl | (simp [errW_none, errW_some] <;> rfl) | (simp [*, errW_none, errW_some] <;> rfl), by repeat (first | (with_reducible first | exact HB.out | apply below_alloc | apply pw_below_drewN | apply below_drew1 | refine below_set ?_ GE144.out) | exact HB.out)⟩
          · rw [if_neg c10] at H
            have c10b0 : (a0_0 == 4) = false := beq_eq_false_iff_ne.mpr c10
            have c10b1 : (a0_0 != 4) = true := bne_iff_ne.mpr c10
            by_cases c11 : a0_0 = 3
            · rw [if_pos c11] at H
              have c11b0 : (a0_0 == 3) = true := beq_iff_eq.mpr c11
              have c11b1 : (a0_0 != 3) = false := bne_eq_false_iff_eq.mpr c11
              clear c11
              simp only [Option.some.injEq, Prod.mk.injEq] at H
              obtain ⟨rfl, rfl⟩ := H
              go_wp2
              go_ret2
              exact ⟨by first | rfl | (simp [errW_none, errW_some] <;> rfl) | (simp [*, errW_none, errW_some] <;> rfl), by repeat (first | (with_reducible first | exact HB.out | apply below_alloc | apply pw_below_drewN | apply below_drew1 | refine below_set ?_ GE144.out) | exact HB.out)⟩
            · rw [if_neg c11] at H
              have c11b0 : (a0_0 == 3) = false := beq_eq_false_iff_ne.mpr c11
              have c11b1 : (a0_0 != 3) = true := bne_iff_ne.mpr c11
              by_cases c12 : a0_0 = 6
              · rw [if_pos c12] at H
                have c12b0 : (a0_0 == 6) = true := beq_iff_eq.mpr c12
                have c12b1 : (a0_0 != 6) = false := bne_eq_false_iff_eq.mpr c12
                clear c12
                simp only [Option.some.injEq, Prod.mk.injEq] at H
                obtain ⟨rfl, rfl⟩ := H
                go_wp2
                go_ret2
                exact ⟨by first | rfl | (simp [errW_none, errW_some] <;> rfl) | (simp [*, errW_none, errW_some] <;> rfl), by repeat (first | (with_reducible first | exact HB.out | apply below_alloc | apply pw_below_drewN | apply below_drew1 | refine below_set ?_ GE144.out) | exact HB.out)⟩
              · rw [if_neg c12] at H
                have c12b0 : (a0_0 == 6) = false := beq_eq_false_iff_ne.mpr c12
                have c12b1 : (a0_0 != 6) = true := bne_iff_ne.mpr c12
                by_cases c13 : a0_0 = 7
                · rw [if_pos c13] at H
                  have c13b0 : (a0_0 == 7) = true := beq_iff_eq.mpr c13
                  have c13b1 : (a0_0 != 7) = false := bne_eq_false_iff_eq.mpr c13
                  clear c13
                  simp only [Option.some.injEq, Prod.mk.injEq] at H
                  obtain ⟨rfl, rfl⟩ := H
                  go_wp2
                  go_ret2
                  exact ⟨by first | rfl | (simp [errW_none, errW_some] <;> rfl) | (simp [*, errW_none, errW_some] <;> rfl), by repeat (first | (with_reducible first | exact HB.out | apply below_alloc | apply pw_below_drewN | apply below_drew1 | refine below_set ?_ GE144.out) | exact HB.out)⟩
                · rw [if_neg c13] at H
                  have c13b0 : (a0_0 == 7) = false := beq_eq_false_iff_ne.mpr c13
                  have c13b1 : (a0_0 != 7) = true := bne_iff_ne.mpr c13
                  by_cases c14 : a0_0 = 8
                  · rw [if_pos c14] at H
                    have c14b0 : (a0_0 == 8) = true := beq_iff_eq.mpr c14
                    have c14b1 : (a0_0 != 8) = false := bne_eq_false_iff_eq.mpr c14
                    clear c14
                    simp only [Option.some.injEq, Prod.mk.injEq] at H
                    obtain ⟨rfl, rfl⟩ := H
                    go_wp2
                    go_ret2
                    exact ⟨by first | rfl | (simp [errW_none, errW_some] <;> rfl) | (simp [*, errW_none, errW_some] <;> rfl), by repeat (first | (with_reducible first | exact HB.out | apply below_alloc | apply pw_below_drewN | apply below_drew1 | refine below_set ?_ GE144.out) | exact HB.out)⟩
                  · rw [if_neg c14] at H
                    have c14b0 : (a0_0 == 8) = false := beq_eq_false_iff_ne.mpr c14
                    have c14b1 : (a0_0 != 8) = true := bne_iff_ne.mpr c14
                    by_cases c15 : a0_0 = 9
                    · rw [if_pos c15] at H
                      have c15b0 : (a0_0 == 9) = true := beq_iff_eq.mpr c15
                      have c15b1 : (a0_0 != 9) = false := bne_eq_false_iff_eq.mpr c15
                      clear c15
                      simp only [Option.some.injEq, Prod.mk.injEq] at H
                      obtain ⟨rfl, rfl⟩ := H
                      go_wp2
                      go_ret2
                      exact ⟨by first | rfl | (simp [errW_none, errW_some] <;> rfl) | (simp [*, errW_none, errW_some] <;> rfl), by repeat (first | (with_reducible first | exact HB.out | apply below_alloc | apply pw_below_drewN | apply below_drew1 | refine below_set ?_ GE144.out) | exact HB.out)⟩
                    · rw [if_neg c15] at H
                      have c15b0 : (a0_0 == 9) = false := beq_eq_false_iff_ne.mpr c15
                      have c15b1 : (a0_0 != 9) = true := bne_iff_ne.mpr c15
                      simp only [Option.some.injEq, Prod.mk.injEq] at H
                      obtain ⟨rfl, rfl⟩ := H
                      go_wp2
                      go_ret2
                      exact ⟨by first | rfl | (simp [errW_none, errW_some] <;> rfl) | (simp [*, errW_none, errW_some] <;> rfl), by repeat (first | (with_reducible first | exact HB.out | apply below_alloc | apply pw_below_drewN | apply below_drew1 | refine below_set ?_ GE144.out) | exact HB.out)⟩

end Go.Proofs.Ytkhlfdoeploddaa.PFlow
