-- Written by a program of the session (drive.py, over the kit's print.py with contracts by hand). Not trusted: Lean checks it.
import Derived.Test.YtkhlfdoeploddaaPFlowx0
namespace Go.Proofs.Ytkhlfdoeploddaa.PFlow
open Go.RowKit Go.Proofs.YtkhlfdoeploddaaW.PrintWords Go.Proofs.YtkhlfdoeploddaaW.PrintLast Go.Proofs.YtkhlfdoeploddaaW.PrintMore
attribute [local go_sem] max2_int min2_int max_two min_two max_three min_three max_four min_four   -- for this text's walks alone
set_option linter.unusedVariables false
set_option linter.unusedSimpArgs false

/-! ### copperplateref16_May: function 44 -/
mutual
def copperplateref16_May.l0 : Nat → List (S34) → Int → Int → Int → Option (Bool)
 | 0, _, _, _, _ => none
 | k + 1, x0, x3, x4, x5 => if x5 < (x0.length : Int) then (if 0 ≤ x5 then (if ((rd_T34 x0 x5).f0) < 0 then (copperplateref16_May.j1 k x0 x3 x4 x5 true) else (if ((rd_T34 x0 x5).f0) > 9 then (copperplateref16_May.j1 k x0 x3 x4 x5 true) else (if ((rd_T34 x0 x5).f0) = 0 then (copperplateref16_May.j1 k x0 x3 x4 x5 false) else (copperplateref16_May.j1 k x0 x3 x4 x5 (((rd_T34 x0 x5).f1).toList != ([] : List UInt8)))))) else (none)) else (if x3 = 0 then (some (x4 == 0)) else (some false))
def copperplateref16_May.j1 : Nat → List (S34) → Int → Int → Int → Bool → Option (Bool)
 | 0, _, _, _, _, _ => none
 | k + 1, x0, x3, x4, x5, x44 => if x44 = true then (some false) else (if 0 ≤ x5 then (if x5 < (x0.length : Int) then (if ((rd_T34 x0 x5).f0) = 6 then (if (wrap64 (x3 + 1)) < 0 then (some false) else (if x4 < 0 then (some false) else (copperplateref16_May.l0 k x0 (wrap64 (x3 + 1)) x4 (wrap64 (x5 + 1))))) else (if ((rd_T34 x0 x5).f0) = 7 then (if (wrap64 (x3 - 1)) < 0 then (some false) else (if x4 < 0 then (some false) else (copperplateref16_May.l0 k x0 (wrap64 (x3 - 1)) x4 (wrap64 (x5 + 1))))) else (if ((rd_T34 x0 x5).f0) = 8 then (if x3 < 0 then (some false) else (if (wrap64 (x4 + 1)) < 0 then (some false) else (copperplateref16_May.l0 k x0 x3 (wrap64 (x4 + 1)) (wrap64 (x5 + 1))))) else (if ((rd_T34 x0 x5).f0) = 9 then (if x3 < 0 then (some false) else (if (wrap64 (x4 - 1)) < 0 then (some false) else (copperplateref16_May.l0 k x0 x3 (wrap64 (x4 - 1)) (wrap64 (x5 + 1))))) else (if x3 < 0 then (some false) else (if x4 < 0 then (some false) else (copperplateref16_May.l0 k x0 x3 x4 (wrap64 (x5 + 1))))))))) else (none)) else (none))
end
def copperplateref16_May.f (k : Nat) (l0 : List (S34)) : Option (Bool) := if (l0.length : Int) > 4000 then (some false) else (copperplateref16_May.l0 k l0 0 0 0)
theorem copperplateref16_May.mono_l : ∀ k, (∀ y0 y1 y2 y3, LeO (copperplateref16_May.l0 k y0 y1 y2 y3) (copperplateref16_May.l0 (k + 1) y0 y1 y2 y3)) ∧ (∀ y0 y1 y2 y3 y4, LeO (copperplateref16_May.j1 k y0 y1 y2 y3 y4) (copperplateref16_May.j1 (k + 1) y0 y1 y2 y3 y4))
 | 0 => ⟨fun _ _ _ _ r h => by simp [copperplateref16_May.l0] at h, fun _ _ _ _ _ r h => by simp [copperplateref16_May.j1] at h⟩
 | k + 1 => by
  obtain ⟨ih0, ih1⟩ := copperplateref16_May.mono_l k
  refine ⟨?_, ?_⟩
  ·intro y0 y1 y2 y3
   unfold copperplateref16_May.l0
   repeat' first
   | (with_reducible exact ih0 _ _ _ _)
   | (with_reducible exact ih1 _ _ _ _ _)
   | (with_reducible exact LeO.refl _)
   | (with_reducible exact LeO.none _)
   | (with_reducible refine LeO.ite ?_ ?_)
   | (with_reducible refine LeO.bind ?_ (fun _ => ?_))
   | exact ih0 _ _ _ _
   | exact ih1 _ _ _ _ _
   | exact LeO.none _
   | refine LeO.ite ?_ ?_
   | refine LeO.bind ?_ (fun _ => ?_)
  ·intro y0 y1 y2 y3 y4
   unfold copperplateref16_May.j1
   repeat' first
   | (with_reducible exact ih0 _ _ _ _)
   | (with_reducible exact ih1 _ _ _ _ _)
   | (with_reducible exact LeO.refl _)
   | (with_reducible exact LeO.none _)
   | (with_reducible refine LeO.ite ?_ ?_)
   | (with_reducible refine LeO.bind ?_ (fun _ => ?_))
   | exact ih0 _ _ _ _
   | exact ih1 _ _ _ _ _
   | exact LeO.none _
   | refine LeO.ite ?_ ?_
   | refine LeO.bind ?_ (fun _ => ?_)
theorem copperplateref16_May.mono : ∀ a0 k, LeO (copperplateref16_May.f k a0) (copperplateref16_May.f (k + 1) a0) := by
 intro a0 k
 obtain ⟨ih0, ih1⟩ := copperplateref16_May.mono_l k
 unfold copperplateref16_May.f
 repeat' first
   | (with_reducible exact ih0 _ _ _ _)
   | (with_reducible exact ih1 _ _ _ _ _)
   | (with_reducible exact LeO.refl _)
   | (with_reducible exact LeO.none _)
   | (with_reducible refine LeO.ite ?_ ?_)
   | (with_reducible refine LeO.bind ?_ (fun _ => ?_))
   | exact ih0 _ _ _ _
   | exact ih1 _ _ _ _ _
   | exact LeO.none _
   | refine LeO.ite ?_ ?_
   | refine LeO.bind ?_ (fun _ => ?_)
set_option maxHeartbeats 8000000 in
set_option maxRecDepth 100000 in
theorem copperplateref16_May.calls (k : Nat) (A0 : Option Addr) (c0 : Nat) (l0 : List (S34)) (r : Bool) (w : World) (hr0 : Kd.C k34 w A0 l0.length l0) (hc0 : l0.length ≤ c0) (h : copperplateref16_May.f k l0 = some r) :
  Calls Try.prog 44 #[.slice A0 l0.length c0] w fun e w' => e = .returned (.bool r) ∧ Drawn0 w w' := by
 have HR0 := qM hr0
 have HC0 := qM hc0
 clear hr0 hc0
 have H : (if (l0.length : Int) > 4000 then (some false) else (copperplateref16_May.l0 k l0 0 0 0)) = some r := h
 clear h
 by_cases c2 : (l0.length : Int) > 4000
 ·rw [if_pos c2] at H
  have c2b0 : decide (4000 < (l0.length : Int)) = true := decide_eq_true c2
  have c2b1 : decide (4000 < l0.length) = true := decide_eq_true (by omega)
  clear c2
  obtain rfl := Option.some.inj H
  go_enter Try.func44, Try.ntmps44
  go_wp2
  go_ret
  exact ⟨by first | rfl | (simp; done) | (simp [*]; done), by repeat (first | exact Drawn0.refl _ | apply Drawn0.step)⟩
 ·rw [if_neg c2] at H
  have c2b0 : decide (4000 < (l0.length : Int)) = false := decide_eq_false c2
  have c2b1 : decide (4000 < l0.length) = false := decide_eq_false (by omega)
  clear c2
  have H' := qM H
  clear H
  go_enter Try.func44, Try.ntmps44
  go_wp2
  go_loopg [3, 4, 5] k (fun kq v3 v4 v5 w' => ∃ (x3_1 : Int) (x4_1 : Int) (x5_1 : Int), v3 = .int .i64 x3_1 ∧ v4 = .int .i64 x4_1 ∧ v5 = .int .i64 x5_1 ∧ Aside0 (copperplateref16_May.l0 kq l0 x3_1 x4_1 x5_1 = some r) ∧ Aside0 (kq ≤ k) ∧ Drawn0 w w')
  case atStart => exact ⟨(0), (0), (0), (by first | rfl | (simp; done) | (simp [*]; done)), (by first | rfl | (simp; done) | (simp [*]; done)), (by first | rfl | (simp; done) | (simp [*]; done)), H', ⟨Nat.le_refl _⟩, by repeat (first | exact Drawn0.refl _ | apply Drawn0.step)⟩
  case round =>
   clear H'
   try clear c2
   try clear c2b0
   try clear c2b1
   try clear p2
   obtain ⟨x3_1, x4_1, x5_1, rfl, rfl, rfl, HA, HK1, ⟨m1, rfl⟩⟩ := hrel
   cases gk with
   | zero => exact absurd HA.out (by simp [copperplateref16_May.l0])
   | succ k1 =>
    have H := HA.out
    clear HA
    simp only [copperplateref16_May.l0] at H
    by_cases c3 : x5_1 < (l0.length : Int)
    ·rw [if_pos c3] at H
     have c3b0 : decide (x5_1 < (l0.length : Int)) = true := decide_eq_true c3
     clear c3
     have HC4 := qM H
     clear H
     go_upto_region 8 with (fail)
     go_cut [44] (fun v44 wc => ∃ (kq : Nat) (x44_3 : Bool), v44 = .bool x44_3 ∧ Aside0 (copperplateref16_May.j1 kq l0 x3_1 x4_1 x5_1 x44_3 = some r) ∧ Aside0 (kq ≤ k1) ∧ Drawn0 w wc)
     case first =>
      have H := HC4.out
      clear HC4
      by_cases c5 : 0 ≤ x5_1
      ·rw [if_pos c5] at H
       have c5b0 : decide (0 ≤ x5_1) = true := decide_eq_true c5
       clear c5
       (first | rw [c5b0] | (simp only [i64_w, i32_w]; rw [c5b0]) | skip)
       by_cases c6 : ((rd_T34 l0 x5_1).f0) < 0
       ·rw [if_pos c6] at H
        have c6b0 : decide (((rd_T34 l0 x5_1).f0) < 0) = true := decide_eq_true c6
        clear c6
        have H' := qM H
        clear H
        have p135 : 0 ≤ (x5_1 : Int) := qN (by assumption)
        have q135 : x5_1 < (l0.length : Int) := qN (by assumption)
        obtain ⟨ad135, e135, hx135_0, hx135_1⟩ := at_T34 HR0.out x5_1 p135 q135
        cases e135
        replace p135 := eq_true p135
        replace q135 := eq_true q135
        go_wp2
        go_meet
        case rel => exact ⟨_, (true), (by first | rfl | (simp; done) | (simp [*]; done)), H', ⟨by have := HK1.out; first | omega | exact Nat.le_refl _⟩, by repeat (first | exact Drawn0.refl _ | apply Drawn0.step)⟩
       ·rw [if_neg c6] at H
        have c6b0 : decide (((rd_T34 l0 x5_1).f0) < 0) = false := decide_eq_false c6
        clear c6
        by_cases c7 : ((rd_T34 l0 x5_1).f0) > 9
        ·rw [if_pos c7] at H
         have c7b0 : decide (9 < ((rd_T34 l0 x5_1).f0)) = true := decide_eq_true c7
         clear c7
         have H' := qM H
         clear H
         have p135 : 0 ≤ (x5_1 : Int) := qN (by assumption)
         have q135 : x5_1 < (l0.length : Int) := qN (by assumption)
         obtain ⟨ad135, e135, hx135_0, hx135_1⟩ := at_T34 HR0.out x5_1 p135 q135
         cases e135
         replace p135 := eq_true p135
         replace q135 := eq_true q135
         have p136 : 0 ≤ (x5_1 : Int) := qN (by assumption)
         have q136 : x5_1 < (l0.length : Int) := qN (by assumption)
         obtain ⟨ad136, e136, hx136_0, hx136_1⟩ := at_T34 HR0.out x5_1 p136 q136
         obtain rfl : ad135 = ad136 := (by injection e136)
         replace p136 := eq_true p136
         replace q136 := eq_true q136
         go_wp2
         go_meet
         case rel => exact ⟨_, (true), (by first | rfl | (simp; done) | (simp [*]; done)), H', ⟨by have := HK1.out; first | omega | exact Nat.le_refl _⟩, by repeat (first | exact Drawn0.refl _ | apply Drawn0.step)⟩
        ·rw [if_neg c7] at H
         have c7b0 : decide (9 < ((rd_T34 l0 x5_1).f0)) = false := decide_eq_false c7
         clear c7
         by_cases c8 : ((rd_T34 l0 x5_1).f0) = 0
         ·rw [if_pos c8] at H
          have c8b0 : (((rd_T34 l0 x5_1).f0) == 0) = true := beq_iff_eq.mpr c8
          have c8b1 : (((rd_T34 l0 x5_1).f0) != 0) = false := bne_eq_false_iff_eq.mpr c8
          clear c8
          have H' := qM H
          clear H
          have p135 : 0 ≤ (x5_1 : Int) := qN (by assumption)
          have q135 : x5_1 < (l0.length : Int) := qN (by assumption)
          obtain ⟨ad135, e135, hx135_0, hx135_1⟩ := at_T34 HR0.out x5_1 p135 q135
          cases e135
          replace p135 := eq_true p135
          replace q135 := eq_true q135
          have p136 : 0 ≤ (x5_1 : Int) := qN (by assumption)
          have q136 : x5_1 < (l0.length : Int) := qN (by assumption)
          obtain ⟨ad136, e136, hx136_0, hx136_1⟩ := at_T34 HR0.out x5_1 p136 q136
          obtain rfl : ad135 = ad136 := (by injection e136)
          replace p136 := eq_true p136
          replace q136 := eq_true q136
          have p137 : 0 ≤ (x5_1 : Int) := qN (by assumption)
          have q137 : x5_1 < (l0.length : Int) := qN (by assumption)
          obtain ⟨ad137, e137, hx137_0, hx137_1⟩ := at_T34 HR0.out x5_1 p137 q137
          obtain rfl : ad135 = ad137 := (by injection e137)
          replace p137 := eq_true p137
          replace q137 := eq_true q137
          go_wp2
          go_meet
          case rel => exact ⟨_, (false), (by first | rfl | (simp; done) | (simp [*]; done)), H', ⟨by have := HK1.out; first | omega | exact Nat.le_refl _⟩, by repeat (first | exact Drawn0.refl _ | apply Drawn0.step)⟩
         ·rw [if_neg c8] at H
          have c8b0 : (((rd_T34 l0 x5_1).f0) == 0) = false := beq_eq_false_iff_ne.mpr c8
          have c8b1 : (((rd_T34 l0 x5_1).f0) != 0) = true := bne_iff_ne.mpr c8
          have H' := qM H
          clear H
          have p135 : 0 ≤ (x5_1 : Int) := qN (by assumption)
          have q135 : x5_1 < (l0.length : Int) := qN (by assumption)
          obtain ⟨ad135, e135, hx135_0, hx135_1⟩ := at_T34 HR0.out x5_1 p135 q135
          cases e135
          replace p135 := eq_true p135
          replace q135 := eq_true q135
          have p136 : 0 ≤ (x5_1 : Int) := qN (by assumption)
          have q136 : x5_1 < (l0.length : Int) := qN (by assumption)
          obtain ⟨ad136, e136, hx136_0, hx136_1⟩ := at_T34 HR0.out x5_1 p136 q136
          obtain rfl : ad135 = ad136 := (by injection e136)
          replace p136 := eq_true p136
          replace q136 := eq_true q136
          have p137 : 0 ≤ (x5_1 : Int) := qN (by assumption)
          have q137 : x5_1 < (l0.length : Int) := qN (by assumption)
          obtain ⟨ad137, e137, hx137_0, hx137_1⟩ := at_T34 HR0.out x5_1 p137 q137
          obtain rfl : ad135 = ad137 := (by injection e137)
          replace p137 := eq_true p137
          replace q137 := eq_true q137
          have p138 : 0 ≤ (x5_1 : Int) := qN (by assumption)
          have q138 : x5_1 < (l0.length : Int) := qN (by assumption)
          obtain ⟨ad138, e138, hx138_0, hx138_1⟩ := at_T34 HR0.out x5_1 p138 q138
          obtain rfl : ad135 = ad138 := (by injection e138)
          replace p138 := eq_true p138
          replace q138 := eq_true q138
          go_wp2
          go_meet
          case rel => exact ⟨_, ((((rd_T34 l0 x5_1).f1).toList != ([] : List UInt8))), (by first | rfl | (simp; done) | (simp [*]; done) | (simp; generalize ByteArray.toList _ = z_; cases z_ <;> rfl)), H', ⟨by have := HK1.out; first | omega | exact Nat.le_refl _⟩, by repeat (first | exact Drawn0.refl _ | apply Drawn0.step)⟩
      ·rw [if_neg c5] at H
       exact absurd H (by simp)
     case rest =>
      clear HC4
      try clear p1
      try clear q1
      try clear hx1
      try clear c2
      try clear c2b0
      try clear c2b1
      try clear p2
      try clear c3
      try clear c3b0
      try clear c4
      try clear c5
      try clear c5b0
      try clear c6
      try clear c6b0
      try clear c7
      try clear c7b0
      try clear c8
      try clear c8b0
      try clear c8b1
      try clear hx135_0
      try clear hx135_1
      try clear hx136_0
      try clear hx136_1
      try clear hx137_0
      try clear hx137_1
      try clear hx138_0
      try clear hx138_1
      try clear p135
      try clear p136
      try clear p137
      try clear p138
      try clear p2
      try clear q135
      try clear q136
      try clear q137
      try clear q138
      obtain ⟨kq, x44_3, rfl, HA, HJ3, ⟨mc3, rfl⟩⟩ := hcut
      cases kq with
      | zero => exact absurd HA.out (by simp [copperplateref16_May.j1])
      | succ kj3 =>
       have H := HA.out
       clear HA
       simp only [copperplateref16_May.j1] at H
       by_cases c9 : x44_3 = true
       ·subst c9
        have H1 : (some false) = some r := by rw [if_pos rfl] at H; exact H
        clear H
        have H := H1
        clear H1
        obtain rfl := Option.some.inj H
        go_wp2
        go_ret
        exact ⟨by first | rfl | (simp; done) | (simp [*]; done), by repeat (first | exact Drawn0.refl _ | apply Drawn0.step)⟩
       ·replace c9 := Bool.eq_false_iff.mpr c9
        subst c9
        have H1 : (if 0 ≤ x5_1 then (if x5_1 < (l0.length : Int) then (if ((rd_T34 l0 x5_1).f0) = 6 then (if (wrap64 (x3_1 + 1)) < 0 then (some false) else (if x4_1 < 0 then (some false) else (copperplateref16_May.l0 kj3 l0 (wrap64 (x3_1 + 1)) x4_1 (wrap64 (x5_1 + 1))))) else (if ((rd_T34 l0 x5_1).f0) = 7 then (if (wrap64 (x3_1 - 1)) < 0 then (some false) else (if x4_1 < 0 then (some false) else (copperplateref16_May.l0 kj3 l0 (wrap64 (x3_1 - 1)) x4_1 (wrap64 (x5_1 + 1))))) else (if ((rd_T34 l0 x5_1).f0) = 8 then (if x3_1 < 0 then (some false) else (if (wrap64 (x4_1 + 1)) < 0 then (some false) else (copperplateref16_May.l0 kj3 l0 x3_1 (wrap64 (x4_1 + 1)) (wrap64 (x5_1 + 1))))) else (if ((rd_T34 l0 x5_1).f0) = 9 then (if x3_1 < 0 then (some false) else (if (wrap64 (x4_1 - 1)) < 0 then (some false) else (copperplateref16_May.l0 kj3 l0 x3_1 (wrap64 (x4_1 - 1)) (wrap64 (x5_1 + 1))))) else (if x3_1 < 0 then (some false) else (if x4_1 < 0 then (some false) else (copperplateref16_May.l0 kj3 l0 x3_1 x4_1 (wrap64 (x5_1 + 1))))))))) else (none)) else (none)) = some r := by rw [if_neg (show ¬ (false = true) by decide)] at H; exact H
        clear H
        have H := H1
        clear H1
        by_cases c10 : 0 ≤ x5_1
        ·rw [if_pos c10] at H
         have c10b0 : decide (0 ≤ x5_1) = true := decide_eq_true c10
         clear c10
         by_cases c11 : x5_1 < (l0.length : Int)
         ·rw [if_pos c11] at H
          have c11b0 : decide (x5_1 < (l0.length : Int)) = true := decide_eq_true c11
          clear c11
          by_cases c12 : ((rd_T34 l0 x5_1).f0) = 6
          ·rw [if_pos c12] at H
           have c12b0 : (((rd_T34 l0 x5_1).f0) == 6) = true := beq_iff_eq.mpr c12
           have c12b1 : (((rd_T34 l0 x5_1).f0) != 6) = false := bne_eq_false_iff_eq.mpr c12
           clear c12
           by_cases c13 : (wrap64 (x3_1 + 1)) < 0
           ·rw [if_pos c13] at H
            have c13b0 : decide ((wrap64 (x3_1 + 1)) < 0) = true := decide_eq_true c13
            clear c13
            obtain rfl := Option.some.inj H
            have p139 : 0 ≤ (x5_1 : Int) := qN (by assumption)
            have q139 : x5_1 < (l0.length : Int) := qN (by assumption)
            obtain ⟨ad139, e139, hx139_0, hx139_1⟩ := at_T34 HR0.out x5_1 p139 q139
            cases e139
            replace p139 := eq_true p139
            replace q139 := eq_true q139
            (try (have hw_ : wrap64 (x3_1 + 1) = (x3_1 + 1) := (by unfold wrap64; omega); have c13b0u := c13b0; rw [hw_] at c13b0u))
            go_wp2
            go_ret
            exact ⟨by first | rfl | (simp; done) | (simp [*]; done), by repeat (first | exact Drawn0.refl _ | apply Drawn0.step)⟩
           ·rw [if_neg c13] at H
            have c13b0 : decide ((wrap64 (x3_1 + 1)) < 0) = false := decide_eq_false c13
            clear c13
            by_cases c14 : x4_1 < 0
            ·rw [if_pos c14] at H
             have c14b0 : decide (x4_1 < 0) = true := decide_eq_true c14
             clear c14
             obtain rfl := Option.some.inj H
             have p139 : 0 ≤ (x5_1 : Int) := qN (by assumption)
             have q139 : x5_1 < (l0.length : Int) := qN (by assumption)
             obtain ⟨ad139, e139, hx139_0, hx139_1⟩ := at_T34 HR0.out x5_1 p139 q139
             cases e139
             replace p139 := eq_true p139
             replace q139 := eq_true q139
             (try (have hw_ : wrap64 (x3_1 + 1) = (x3_1 + 1) := (by unfold wrap64; omega); have c13b0u := c13b0; rw [hw_] at c13b0u))
             go_wp2
             go_ret
             exact ⟨by first | rfl | (simp; done) | (simp [*]; done), by repeat (first | exact Drawn0.refl _ | apply Drawn0.step)⟩
            ·rw [if_neg c14] at H
             have c14b0 : decide (x4_1 < 0) = false := decide_eq_false c14
             clear c14
             have H' := qM H
             clear H
             have p139 : 0 ≤ (x5_1 : Int) := qN (by assumption)
             have q139 : x5_1 < (l0.length : Int) := qN (by assumption)
             obtain ⟨ad139, e139, hx139_0, hx139_1⟩ := at_T34 HR0.out x5_1 p139 q139
             cases e139
             replace p139 := eq_true p139
             replace q139 := eq_true q139
             (try (have hw_ : wrap64 (x3_1 + 1) = (x3_1 + 1) := (by unfold wrap64; omega); have c13b0u := c13b0; rw [hw_] at c13b0u))
             go_wp2
             go_roundg kj3
             case measure => have := HK1.out; have := HJ3.out; omega
             case rel => exact ⟨(wrap64 (x3_1 + 1)), (x4_1), (wrap64 (x5_1 + 1)), (by first | rfl | (simp; done) | (simp [*]; done)), (by first | rfl | (simp; done) | (simp [*]; done)), (by first | rfl | (simp; done) | (simp [*]; done)), H', ⟨by have := HK1.out; have := HJ3.out; omega⟩, by repeat (first | exact Drawn0.refl _ | apply Drawn0.step)⟩
          ·rw [if_neg c12] at H
           have c12b0 : (((rd_T34 l0 x5_1).f0) == 6) = false := beq_eq_false_iff_ne.mpr c12
           have c12b1 : (((rd_T34 l0 x5_1).f0) != 6) = true := bne_iff_ne.mpr c12
           by_cases c15 : ((rd_T34 l0 x5_1).f0) = 7
           ·rw [if_pos c15] at H
            have c15b0 : (((rd_T34 l0 x5_1).f0) == 7) = true := beq_iff_eq.mpr c15
            have c15b1 : (((rd_T34 l0 x5_1).f0) != 7) = false := bne_eq_false_iff_eq.mpr c15
            clear c15
            by_cases c16 : (wrap64 (x3_1 - 1)) < 0
            ·rw [if_pos c16] at H
             have c16b0 : decide ((wrap64 (x3_1 - 1)) < 0) = true := decide_eq_true c16
             clear c16
             obtain rfl := Option.some.inj H
             have p139 : 0 ≤ (x5_1 : Int) := qN (by assumption)
             have q139 : x5_1 < (l0.length : Int) := qN (by assumption)
             obtain ⟨ad139, e139, hx139_0, hx139_1⟩ := at_T34 HR0.out x5_1 p139 q139
             cases e139
             replace p139 := eq_true p139
             replace q139 := eq_true q139
             (try (have hw_ : wrap64 (x3_1 - 1) = (x3_1 - 1) := (by unfold wrap64; omega); have c16b0u := c16b0; rw [hw_] at c16b0u))
             go_wp2
             go_ret
             exact ⟨by first | rfl | (simp; done) | (simp [*]; done), by repeat (first | exact Drawn0.refl _ | apply Drawn0.step)⟩
            ·rw [if_neg c16] at H
             have c16b0 : decide ((wrap64 (x3_1 - 1)) < 0) = false := decide_eq_false c16
             clear c16
             by_cases c17 : x4_1 < 0
             ·rw [if_pos c17] at H
              have c17b0 : decide (x4_1 < 0) = true := decide_eq_true c17
              clear c17
              obtain rfl := Option.some.inj H
              have p139 : 0 ≤ (x5_1 : Int) := qN (by assumption)
              have q139 : x5_1 < (l0.length : Int) := qN (by assumption)
              obtain ⟨ad139, e139, hx139_0, hx139_1⟩ := at_T34 HR0.out x5_1 p139 q139
              cases e139
              replace p139 := eq_true p139
              replace q139 := eq_true q139
              (try (have hw_ : wrap64 (x3_1 - 1) = (x3_1 - 1) := (by unfold wrap64; omega); have c16b0u := c16b0; rw [hw_] at c16b0u))
              go_wp2
              go_ret
              exact ⟨by first | rfl | (simp; done) | (simp [*]; done), by repeat (first | exact Drawn0.refl _ | apply Drawn0.step)⟩
             ·rw [if_neg c17] at H
              have c17b0 : decide (x4_1 < 0) = false := decide_eq_false c17
              clear c17
              have H' := qM H
              clear H
              have p139 : 0 ≤ (x5_1 : Int) := qN (by assumption)
              have q139 : x5_1 < (l0.length : Int) := qN (by assumption)
              obtain ⟨ad139, e139, hx139_0, hx139_1⟩ := at_T34 HR0.out x5_1 p139 q139
              cases e139
              replace p139 := eq_true p139
              replace q139 := eq_true q139
              (try (have hw_ : wrap64 (x3_1 - 1) = (x3_1 - 1) := (by unfold wrap64; omega); have c16b0u := c16b0; rw [hw_] at c16b0u))
              go_wp2
              go_roundg kj3
              case measure => have := HK1.out; have := HJ3.out; omega
              case rel => exact ⟨(wrap64 (x3_1 - 1)), (x4_1), (wrap64 (x5_1 + 1)), (by first | rfl | (simp; done) | (simp [*]; done)), (by first | rfl | (simp; done) | (simp [*]; done)), (by first | rfl | (simp; done) | (simp [*]; done)), H', ⟨by have := HK1.out; have := HJ3.out; omega⟩, by repeat (first | exact Drawn0.refl _ | apply Drawn0.step)⟩
           ·rw [if_neg c15] at H
            have c15b0 : (((rd_T34 l0 x5_1).f0) == 7) = false := beq_eq_false_iff_ne.mpr c15
            have c15b1 : (((rd_T34 l0 x5_1).f0) != 7) = true := bne_iff_ne.mpr c15
            by_cases c18 : ((rd_T34 l0 x5_1).f0) = 8
            ·rw [if_pos c18] at H
             have c18b0 : (((rd_T34 l0 x5_1).f0) == 8) = true := beq_iff_eq.mpr c18
             have c18b1 : (((rd_T34 l0 x5_1).f0) != 8) = false := bne_eq_false_iff_eq.mpr c18
             clear c18
             by_cases c19 : x3_1 < 0
             ·rw [if_pos c19] at H
              have c19b0 : decide (x3_1 < 0) = true := decide_eq_true c19
              clear c19
              obtain rfl := Option.some.inj H
              have p139 : 0 ≤ (x5_1 : Int) := qN (by assumption)
              have q139 : x5_1 < (l0.length : Int) := qN (by assumption)
              obtain ⟨ad139, e139, hx139_0, hx139_1⟩ := at_T34 HR0.out x5_1 p139 q139
              cases e139
              replace p139 := eq_true p139
              replace q139 := eq_true q139
              go_wp2
              go_ret
              exact ⟨by first | rfl | (simp; done) | (simp [*]; done), by repeat (first | exact Drawn0.refl _ | apply Drawn0.step)⟩
             ·rw [if_neg c19] at H
              have c19b0 : decide (x3_1 < 0) = false := decide_eq_false c19
              clear c19
              by_cases c20 : (wrap64 (x4_1 + 1)) < 0
              ·rw [if_pos c20] at H
               have c20b0 : decide ((wrap64 (x4_1 + 1)) < 0) = true := decide_eq_true c20
               clear c20
               obtain rfl := Option.some.inj H
               have p139 : 0 ≤ (x5_1 : Int) := qN (by assumption)
               have q139 : x5_1 < (l0.length : Int) := qN (by assumption)
               obtain ⟨ad139, e139, hx139_0, hx139_1⟩ := at_T34 HR0.out x5_1 p139 q139
               cases e139
               replace p139 := eq_true p139
               replace q139 := eq_true q139
               (try (have hw_ : wrap64 (x4_1 + 1) = (x4_1 + 1) := (by unfold wrap64; omega); have c20b0u := c20b0; rw [hw_] at c20b0u))
               go_wp2
               go_ret
               exact ⟨by first | rfl | (simp; done) | (simp [*]; done), by repeat (first | exact Drawn0.refl _ | apply Drawn0.step)⟩
              ·rw [if_neg c20] at H
               have c20b0 : decide ((wrap64 (x4_1 + 1)) < 0) = false := decide_eq_false c20
               clear c20
               have H' := qM H
               clear H
               have p139 : 0 ≤ (x5_1 : Int) := qN (by assumption)
               have q139 : x5_1 < (l0.length : Int) := qN (by assumption)
               obtain ⟨ad139, e139, hx139_0, hx139_1⟩ := at_T34 HR0.out x5_1 p139 q139
               cases e139
               replace p139 := eq_true p139
               replace q139 := eq_true q139
               (try (have hw_ : wrap64 (x4_1 + 1) = (x4_1 + 1) := (by unfold wrap64; omega); have c20b0u := c20b0; rw [hw_] at c20b0u))
               go_wp2
               go_roundg kj3
               case measure => have := HK1.out; have := HJ3.out; omega
               case rel => exact ⟨(x3_1), (wrap64 (x4_1 + 1)), (wrap64 (x5_1 + 1)), (by first | rfl | (simp; done) | (simp [*]; done)), (by first | rfl | (simp; done) | (simp [*]; done)), (by first | rfl | (simp; done) | (simp [*]; done)), H', ⟨by have := HK1.out; have := HJ3.out; omega⟩, by repeat (first | exact Drawn0.refl _ | apply Drawn0.step)⟩
            ·rw [if_neg c18] at H
             have c18b0 : (((rd_T34 l0 x5_1).f0) == 8) = false := beq_eq_false_iff_ne.mpr c18
             have c18b1 : (((rd_T34 l0 x5_1).f0) != 8) = true := bne_iff_ne.mpr c18
             by_cases c21 : ((rd_T34 l0 x5_1).f0) = 9
             ·rw [if_pos c21] at H
              have c21b0 : (((rd_T34 l0 x5_1).f0) == 9) = true := beq_iff_eq.mpr c21
              have c21b1 : (((rd_T34 l0 x5_1).f0) != 9) = false := bne_eq_false_iff_eq.mpr c21
              clear c21
              by_cases c22 : x3_1 < 0
              ·rw [if_pos c22] at H
               have c22b0 : decide (x3_1 < 0) = true := decide_eq_true c22
               clear c22
               obtain rfl := Option.some.inj H
               have p139 : 0 ≤ (x5_1 : Int) := qN (by assumption)
               have q139 : x5_1 < (l0.length : Int) := qN (by assumption)
               obtain ⟨ad139, e139, hx139_0, hx139_1⟩ := at_T34 HR0.out x5_1 p139 q139
               cases e139
               replace p139 := eq_true p139
               replace q139 := eq_true q139
               go_wp2
               go_ret
               exact ⟨by first | rfl | (simp; done) | (simp [*]; done), by repeat (first | exact Drawn0.refl _ | apply Drawn0.step)⟩
              ·rw [if_neg c22] at H
               have c22b0 : decide (x3_1 < 0) = false := decide_eq_false c22
               clear c22
               by_cases c23 : (wrap64 (x4_1 - 1)) < 0
               ·rw [if_pos c23] at H
                have c23b0 : decide ((wrap64 (x4_1 - 1)) < 0) = true := decide_eq_true c23
                clear c23
                obtain rfl := Option.some.inj H
                have p139 : 0 ≤ (x5_1 : Int) := qN (by assumption)
                have q139 : x5_1 < (l0.length : Int) := qN (by assumption)
                obtain ⟨ad139, e139, hx139_0, hx139_1⟩ := at_T34 HR0.out x5_1 p139 q139
                cases e139
                replace p139 := eq_true p139
                replace q139 := eq_true q139
                (try (have hw_ : wrap64 (x4_1 - 1) = (x4_1 - 1) := (by unfold wrap64; omega); have c23b0u := c23b0; rw [hw_] at c23b0u))
                go_wp2
                go_ret
                exact ⟨by first | rfl | (simp; done) | (simp [*]; done), by repeat (first | exact Drawn0.refl _ | apply Drawn0.step)⟩
               ·rw [if_neg c23] at H
                have c23b0 : decide ((wrap64 (x4_1 - 1)) < 0) = false := decide_eq_false c23
                clear c23
                have H' := qM H
                clear H
                have p139 : 0 ≤ (x5_1 : Int) := qN (by assumption)
                have q139 : x5_1 < (l0.length : Int) := qN (by assumption)
                obtain ⟨ad139, e139, hx139_0, hx139_1⟩ := at_T34 HR0.out x5_1 p139 q139
                cases e139
                replace p139 := eq_true p139
                replace q139 := eq_true q139
                (try (have hw_ : wrap64 (x4_1 - 1) = (x4_1 - 1) := (by unfold wrap64; omega); have c23b0u := c23b0; rw [hw_] at c23b0u))
                go_wp2
                go_roundg kj3
                case measure => have := HK1.out; have := HJ3.out; omega
                case rel => exact ⟨(x3_1), (wrap64 (x4_1 - 1)), (wrap64 (x5_1 + 1)), (by first | rfl | (simp; done) | (simp [*]; done)), (by first | rfl | (simp; done) | (simp [*]; done)), (by first | rfl | (simp; done) | (simp [*]; done)), H', ⟨by have := HK1.out; have := HJ3.out; omega⟩, by repeat (first | exact Drawn0.refl _ | apply Drawn0.step)⟩
             ·rw [if_neg c21] at H
              have c21b0 : (((rd_T34 l0 x5_1).f0) == 9) = false := beq_eq_false_iff_ne.mpr c21
              have c21b1 : (((rd_T34 l0 x5_1).f0) != 9) = true := bne_iff_ne.mpr c21
              by_cases c24 : x3_1 < 0
              ·rw [if_pos c24] at H
               have c24b0 : decide (x3_1 < 0) = true := decide_eq_true c24
               clear c24
               obtain rfl := Option.some.inj H
               have p139 : 0 ≤ (x5_1 : Int) := qN (by assumption)
               have q139 : x5_1 < (l0.length : Int) := qN (by assumption)
               obtain ⟨ad139, e139, hx139_0, hx139_1⟩ := at_T34 HR0.out x5_1 p139 q139
               cases e139
               replace p139 := eq_true p139
               replace q139 := eq_true q139
               go_wp2
               go_ret
               exact ⟨by first | rfl | (simp; done) | (simp [*]; done), by repeat (first | exact Drawn0.refl _ | apply Drawn0.step)⟩
              ·rw [if_neg c24] at H
               have c24b0 : decide (x3_1 < 0) = false := decide_eq_false c24
               clear c24
               by_cases c25 : x4_1 < 0
               ·rw [if_pos c25] at H
                have c25b0 : decide (x4_1 < 0) = true := decide_eq_true c25
                clear c25
                obtain rfl := Option.some.inj H
                have p139 : 0 ≤ (x5_1 : Int) := qN (by assumption)
                have q139 : x5_1 < (l0.length : Int) := qN (by assumption)
                obtain ⟨ad139, e139, hx139_0, hx139_1⟩ := at_T34 HR0.out x5_1 p139 q139
                cases e139
                replace p139 := eq_true p139
                replace q139 := eq_true q139
                go_wp2
                go_ret
                exact ⟨by first | rfl | (simp; done) | (simp [*]; done), by repeat (first | exact Drawn0.refl _ | apply Drawn0.step)⟩
               ·rw [if_neg c25] at H
                have c25b0 : decide (x4_1 < 0) = false := decide_eq_false c25
                clear c25
                have H' := qM H
                clear H
                have p139 : 0 ≤ (x5_1 : Int) := qN (by assumption)
                have q139 : x5_1 < (l0.length : Int) := qN (by assumption)
                obtain ⟨ad139, e139, hx139_0, hx139_1⟩ := at_T34 HR0.out x5_1 p139 q139
                cases e139
                replace p139 := eq_true p139
                replace q139 := eq_true q139
                go_wp2
                go_roundg kj3
                case measure => have := HK1.out; have := HJ3.out; omega
                case rel => exact ⟨(x3_1), (x4_1), (wrap64 (x5_1 + 1)), (by first | rfl | (simp; done) | (simp [*]; done)), (by first | rfl | (simp; done) | (simp [*]; done)), (by first | rfl | (simp; done) | (simp [*]; done)), H', ⟨by have := HK1.out; have := HJ3.out; omega⟩, by repeat (first | exact Drawn0.refl _ | apply Drawn0.step)⟩
         ·rw [if_neg c11] at H
          exact absurd H (by simp)
        ·rw [if_neg c10] at H
         exact absurd H (by simp)
    ·rw [if_neg c3] at H
     have c3b0 : decide (x5_1 < (l0.length : Int)) = false := decide_eq_false c3
     clear c3
     by_cases c26 : x3_1 = 0
     ·rw [if_pos c26] at H
      have c26b0 : (x3_1 == 0) = true := beq_iff_eq.mpr c26
      have c26b1 : (x3_1 != 0) = false := bne_eq_false_iff_eq.mpr c26
      clear c26
      obtain rfl := Option.some.inj H
      go_wp2
      go_ret
      exact ⟨by first | rfl | (simp; done) | (simp [*]; done), by repeat (first | exact Drawn0.refl _ | apply Drawn0.step)⟩
     ·rw [if_neg c26] at H
      have c26b0 : (x3_1 == 0) = false := beq_eq_false_iff_ne.mpr c26
      have c26b1 : (x3_1 != 0) = true := bne_iff_ne.mpr c26
      obtain rfl := Option.some.inj H
      go_wp2
      go_ret
      exact ⟨by first | rfl | (simp; done) | (simp [*]; done), by repeat (first | exact Drawn0.refl _ | apply Drawn0.step)⟩

/-! ### copperplateref18_Room: function 29 -/
def copperplateref18_Room.f (k : Nat) (l0 : List (S34)) (a1 : Int) : Option (Bool) := (copperplateref16_May.f k l0).bind fun t140 => (if t140 = true then (if a1 ≥ 1 then (some (decide (a1 ≤ 65535))) else (some false)) else (some false))
theorem copperplateref18_Room.mono : ∀ a0 a1 k, LeO (copperplateref18_Room.f k a0 a1) (copperplateref18_Room.f (k + 1) a0 a1) := by
  intro a0 a1 k
  unfold copperplateref18_Room.f
  repeat' first
      | (with_reducible exact copperplateref16_May.mono _ _)
      | (with_reducible exact LeO.refl _)
      | (with_reducible exact LeO.none _)
      | (with_reducible refine LeO.ite ?_ ?_)
      | (with_reducible refine LeO.bind ?_ (fun _ => ?_))
      | exact copperplateref16_May.mono _ _
      | exact LeO.none _
      | refine LeO.ite ?_ ?_
      | refine LeO.bind ?_ (fun _ => ?_)
set_option maxHeartbeats 8000000 in
set_option maxRecDepth 100000 in
theorem copperplateref18_Room.calls (k : Nat) (A0 : Option Addr) (c0 : Nat) (l0 : List (S34)) (a1 : Int) (r : Bool) (w : World) (hr0 : Kd.C k34 w A0 l0.length l0) (hc0 : l0.length ≤ c0) (h : copperplateref18_Room.f k l0 a1 = some r) :
    Calls Try.prog 29 #[.slice A0 l0.length c0, .int .i64 a1] w fun e w' => e = .returned (.bool r) ∧ Drawn0 w w' := by
  have HR0 := Aside0.mk hr0
  have HC0 := Aside0.mk hc0
  clear hr0 hc0
  have H : ((copperplateref16_May.f k l0).bind fun t140 => (if t140 = true then (if a1 ≥ 1 then (some (decide (a1 ≤ 65535))) else (some false)) else (some false))) = some r := h
  clear h
  replace H := Option.bind_eq_some_iff.mp H
  obtain ⟨t140, A30, H⟩ := H
  replace H : (if t140 = true then (if a1 ≥ 1 then (some (decide (a1 ≤ 65535))) else (some false)) else (some false)) = some r := H
  have A3 := Aside0.mk A30
  clear A30
  by_cases c4 : t140 = true
  · subst c4
    have H1 : (if a1 ≥ 1 then (some (decide (a1 ≤ 65535))) else (some false)) = some r := by rw [if_pos rfl] at H; exact H
    clear H
    have H := H1
    clear H1
    by_cases c5 : a1 ≥ 1
    · rw [if_pos c5] at H
      have c5b0 : decide (1 ≤ a1) = true := decide_eq_true c5
      clear c5
      obtain rfl := Option.some.inj H
      go_enter Try.func29, Try.ntmps29
      go_wp2_with (first | ((with_reducible refine gate_callee (f := 44) rfl ?_); refine goesL_ (some 7) rfl rfl Try.func44 (by kernel_rfl) rfl #[.slice A0 l0.length c0] rfl (by (try simp only [List.map_toArray, List.map_cons, List.map_nil]); first | done | rfl | (simp only [List.length_drop, List.length_take]; rfl)) ?_; (with_reducible refine (copperplateref16_May.calls k _ _ l0 true _ ?side1 ?side2 A3.out).mono ?_); (case side1 => repeat (first | exact HR0.out | (with_reducible refine Kd.C_alloc ?_ _) | (with_reducible refine Kd.C_drewN ?_ _) | (with_reducible refine Kd.C_drew ?_))); (case side2 => exact HC0.out); (try clear A3); rintro e w' ⟨rfl, ⟨nd, rfl⟩⟩; refine ⟨_, rfl, ?_⟩))
      go_ret
      exact ⟨by first | rfl | (simp; done) | (simp [*]; done), by repeat (first | exact Drawn0.refl _ | apply Drawn0.step)⟩
    · rw [if_neg c5] at H
      have c5b0 : decide (1 ≤ a1) = false := decide_eq_false c5
      clear c5
      obtain rfl := Option.some.inj H
      go_enter Try.func29, Try.ntmps29
      go_wp2_with (first | ((with_reducible refine gate_callee (f := 44) rfl ?_); refine goesL_ (some 7) rfl rfl Try.func44 (by kernel_rfl) rfl #[.slice A0 l0.length c0] rfl (by (try simp only [List.map_toArray, List.map_cons, List.map_nil]); first | done | rfl | (simp only [List.length_drop, List.length_take]; rfl)) ?_; (with_reducible refine (copperplateref16_May.calls k _ _ l0 true _ ?side1 ?side2 A3.out).mono ?_); (case side1 => repeat (first | exact HR0.out | (with_reducible refine Kd.C_alloc ?_ _) | (with_reducible refine Kd.C_drewN ?_ _) | (with_reducible refine Kd.C_drew ?_))); (case side2 => exact HC0.out); (try clear A3); rintro e w' ⟨rfl, ⟨nd, rfl⟩⟩; refine ⟨_, rfl, ?_⟩))
      go_ret
      exact ⟨by first | rfl | (simp; done) | (simp [*]; done), by repeat (first | exact Drawn0.refl _ | apply Drawn0.step)⟩
  · replace c4 := Bool.eq_false_iff.mpr c4
    subst c4
    have H1 : (some false) = some r := by rw [if_neg (show ¬ (false = true) by decide)] at H; exact H
    clear H
    have H := H1
    clear H1
    obtain rfl := Option.some.inj H
    go_enter Try.func29, Try.ntmps29
    go_wp2_with (first | ((with_reducible refine gate_callee (f := 44) rfl ?_); refine goesL_ (some 7) rfl rfl Try.func44 (by kernel_rfl) rfl #[.slice A0 l0.length c0] rfl (by (try simp only [List.map_toArray, List.map_cons, List.map_nil]); first | done | rfl | (simp only [List.length_drop, List.length_take]; rfl)) ?_; (with_reducible refine (copperplateref16_May.calls k _ _ l0 false _ ?side1 ?side2 A3.out).mono ?_); (case side1 => repeat (first | exact HR0.out | (with_reducible refine Kd.C_alloc ?_ _) | (with_reducible refine Kd.C_drewN ?_ _) | (with_reducible refine Kd.C_drew ?_))); (case side2 => exact HC0.out); (try clear A3); rintro e w' ⟨rfl, ⟨nd, rfl⟩⟩; refine ⟨_, rfl, ?_⟩))
    go_ret
    exact ⟨by first | rfl | (simp; done) | (simp [*]; done), by repeat (first | exact Drawn0.refl _ | apply Drawn0.step)⟩

end Go.Proofs.Ytkhlfdoeploddaa.PFlow
