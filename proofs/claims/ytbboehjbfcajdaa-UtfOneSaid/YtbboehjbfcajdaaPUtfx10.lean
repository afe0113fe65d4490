-- Written by a program of the session (drive.py, over the kit's print.py with contracts by hand). Not trusted: Lean checks it.
import Derived.Test.YtbboehjbfcajdaaPUtfx0
import Derived.Test.YtbboehjbfcajdaaPUtfx5
import Derived.Test.YtbboehjbfcajdaaHUtfBad
import Derived.Test.YtbboehjbfcajdaaHUtfNext
import Derived.Test.YtbboehjbfcajdaaHUtfUtfA
namespace Go.Proofs.Ytbboehjbfcajdaa.PUtf
open Go.RowKit Go.Proofs.YtbboehjbfcajdaaW.PrintWords Go.Proofs.YtbboehjbfcajdaaW.PrintLast Go.Proofs.YtbboehjbfcajdaaW.PrintMore
attribute [local go_sem] max2_int min2_int max_two min_two max_three min_three max_four min_four   -- for this text's walks alone
set_option linter.unusedVariables false
set_option linter.unusedSimpArgs false

/-! ### copperplatelaw02_UtfParts: function 5 -/
mutual
def copperplatelaw02_UtfParts.j0 : Nat → ByteArray → ByteArray → Bool → Bool → Option (Bool)
  | 0, _, _, _, _ => none
  | k + 1, x0, x1, x5, x21 => if x21 = true then (some x5) else ((utf_Bad.f x0).bind fun t141 => (if t141 < (-1) then (copperplatelaw02_UtfParts.j1 k x0 x1 t141 true) else (if t141 ≥ (x0.size : Int) then (copperplatelaw02_UtfParts.j1 k x0 x1 t141 (decide (t141 ≥ 0))) else (copperplatelaw02_UtfParts.j1 k x0 x1 t141 false))))
def copperplatelaw02_UtfParts.j1 : Nat → ByteArray → ByteArray → Int → Bool → Option (Bool)
  | 0, _, _, _, _ => none
  | k + 1, x0, x1, x6, x36 => if x36 = true then (some false) else (if x6 = (-1) then ((utf_Bad.f x1).bind fun t142 => (if x0.size + x1.size ≤ 9223372036854775807 then ((utf_Bad.f (x0 ++ x1)).bind fun t143 => ((utf_May.f x0).bind fun t144 => (if t144 = true then (if t142 = (-1) then (if t143 = (-1) then (some true) else (if t142 ≥ 0 then (some (t143 == (wrap64 ((x0.size : Int) + t142)))) else (some false))) else (if t142 ≥ 0 then (some (t143 == (wrap64 ((x0.size : Int) + t142)))) else (some false))) else (some false)))) else (none))) else (if 0 ≤ x6 then (if x6 ≤ (x0.size : Int) then ((utf_May.f (x0.extract 0 (x6 : Int).toNat)).bind fun t145 => (if t145 = true then ((utf_May.f x0).bind fun t146 => (if t146 = true then (some false) else (if x6 < (wrap64 ((x0.size : Int) - 3)) then (if x0.size + x1.size ≤ 9223372036854775807 then ((utf_Bad.f (x0 ++ x1)).bind fun t147 => (if t147 = x6 then (some true) else (if x6 ≥ (wrap64 ((x0.size : Int) - 3)) then (if t147 ≥ x6 then (some true) else ((utf_May.f (x0 ++ x1)).bind fun t148 => (some t148))) else (some false)))) else (none)) else (if x6 ≥ (wrap64 ((x0.size : Int) - 3)) then (if x0.size + x1.size ≤ 9223372036854775807 then ((utf_Bad.f (x0 ++ x1)).bind fun t149 => (if t149 ≥ x6 then (some true) else ((utf_May.f (x0 ++ x1)).bind fun t150 => (some t150)))) else (none)) else (some false))))) else (some false))) else (none)) else (none)))
end
def copperplatelaw02_UtfParts.f (k : Nat) (a0 : ByteArray) (a1 : ByteArray) : Option (Bool) := (copperplatelaw02_awake.f).bind fun t140 => (if t140 = true then (if (a0.size : Int) > 600 then (copperplatelaw02_UtfParts.j0 k a0 a1 t140 true) else (copperplatelaw02_UtfParts.j0 k a0 a1 t140 (decide ((a1.size : Int) > 600)))) else (copperplatelaw02_UtfParts.j0 k a0 a1 t140 true))
theorem copperplatelaw02_UtfParts.mono_l : ∀ k, (∀ y0 y1 y2 y3, LeO (copperplatelaw02_UtfParts.j0 k y0 y1 y2 y3) (copperplatelaw02_UtfParts.j0 (k + 1) y0 y1 y2 y3)) ∧ (∀ y0 y1 y2 y3, LeO (copperplatelaw02_UtfParts.j1 k y0 y1 y2 y3) (copperplatelaw02_UtfParts.j1 (k + 1) y0 y1 y2 y3))
  | 0 => ⟨fun _ _ _ _ r h => by simp [copperplatelaw02_UtfParts.j0] at h, fun _ _ _ _ r h => by simp [copperplatelaw02_UtfParts.j1] at h⟩
  | k + 1 => by
    obtain ⟨ih0, ih1⟩ := copperplatelaw02_UtfParts.mono_l k
    refine ⟨?_, ?_⟩
    · intro y0 y1 y2 y3
      unfold copperplatelaw02_UtfParts.j0
      repeat' first
      | (with_reducible exact ih0 _ _ _ _)
      | (with_reducible exact ih1 _ _ _ _)
      | (with_reducible exact LeO.refl _)
      | (with_reducible exact LeO.none _)
      | (with_reducible refine LeO.ite ?_ ?_)
      | (with_reducible refine LeO.bind ?_ (fun _ => ?_))
      | exact ih0 _ _ _ _
      | exact ih1 _ _ _ _
      | exact LeO.none _
      | refine LeO.ite ?_ ?_
      | refine LeO.bind ?_ (fun _ => ?_)
    · intro y0 y1 y2 y3
      unfold copperplatelaw02_UtfParts.j1
      repeat' first
      | (with_reducible exact ih0 _ _ _ _)
      | (with_reducible exact ih1 _ _ _ _)
      | (with_reducible exact LeO.refl _)
      | (with_reducible exact LeO.none _)
      | (with_reducible refine LeO.ite ?_ ?_)
      | (with_reducible refine LeO.bind ?_ (fun _ => ?_))
      | exact ih0 _ _ _ _
      | exact ih1 _ _ _ _
      | exact LeO.none _
      | refine LeO.ite ?_ ?_
      | refine LeO.bind ?_ (fun _ => ?_)
theorem copperplatelaw02_UtfParts.mono : ∀ a0 a1 k, LeO (copperplatelaw02_UtfParts.f k a0 a1) (copperplatelaw02_UtfParts.f (k + 1) a0 a1) := by
  intro a0 a1 k
  obtain ⟨ih0, ih1⟩ := copperplatelaw02_UtfParts.mono_l k
  unfold copperplatelaw02_UtfParts.f
  repeat' first
      | (with_reducible exact ih0 _ _ _ _)
      | (with_reducible exact ih1 _ _ _ _)
      | (with_reducible exact LeO.refl _)
      | (with_reducible exact LeO.none _)
      | (with_reducible refine LeO.ite ?_ ?_)
      | (with_reducible refine LeO.bind ?_ (fun _ => ?_))
      | exact ih0 _ _ _ _
      | exact ih1 _ _ _ _
      | exact LeO.none _
      | refine LeO.ite ?_ ?_
      | refine LeO.bind ?_ (fun _ => ?_)
set_option maxHeartbeats 8000000 in
set_option maxRecDepth 100000 in
theorem copperplatelaw02_UtfParts.calls (k : Nat) (a0 : ByteArray) (a1 : ByteArray) (r : Bool) (w : World) (h : copperplatelaw02_UtfParts.f k a0 a1 = some r) (hT_ : r = true) :
    Calls Try.prog 5 #[.string a0, .string a1] w fun e w' => e = .returned (.bool r) ∧ Below w.heap.size w w' := by
  have HT_ := Aside0.mk hT_
  clear hT_
  have HB := Aside0.mk (Below.refl w.heap.size w)
  have H : ((copperplatelaw02_awake.f).bind fun t140 => (if t140 = true then (if (a0.size : Int) > 600 then (copperplatelaw02_UtfParts.j0 k a0 a1 t140 true) else (copperplatelaw02_UtfParts.j0 k a0 a1 t140 (decide ((a1.size : Int) > 600)))) else (copperplatelaw02_UtfParts.j0 k a0 a1 t140 true))) = some r := h
  clear h
  replace H := Option.bind_eq_some_iff.mp H
  obtain ⟨t140, A30, H⟩ := H
  replace H : (if t140 = true then (if (a0.size : Int) > 600 then (copperplatelaw02_UtfParts.j0 k a0 a1 t140 true) else (copperplatelaw02_UtfParts.j0 k a0 a1 t140 (decide ((a1.size : Int) > 600)))) else (copperplatelaw02_UtfParts.j0 k a0 a1 t140 true)) = some r := H
  have A3 := Aside0.mk A30
  clear A30
  have HC4 := Aside0.mk H
  clear H
  go_enter Try.func5, Try.ntmps5
  go_upto_region 2 with (first | ((with_reducible refine gate_callee (f := 9) rfl ?_); refine goesL_ (some 9) rfl rfl Try.func9 (by kernel_rfl) rfl #[] rfl (by (try simp only [List.map_toArray, List.map_cons, List.map_nil]); first | done | rfl | (simp only [List.length_drop, List.length_take]; rfl)) ?_; (with_reducible refine (copperplatelaw02_awake.calls  t140 _ A3.out).mono ?_); rintro e w5 ⟨rfl, hb⟩; refine ⟨_, rfl, ?_⟩; have n0_ := Aside0.mk (below_step (by repeat (first | (with_reducible first | exact HB.out | apply below_alloc | apply pw_below_drewN | apply below_drew1) | exact HB.out)) hb); clear HB; have HB := n0_; clear n0_; (try clear hb); (try clear hb2); (try clear hk); (try clear hi)))
  (try simp only [Act.put, List.setIfInBounds_toArray, List.set_cons_zero, List.set_cons_succ])
  go_cut [21] (fun v21 wc => ∃ (kq : Nat) (x21_3 : Bool), v21 = .bool x21_3 ∧ Aside0 (copperplatelaw02_UtfParts.j0 kq a0 a1 t140 x21_3 = some r) ∧ Aside0 (kq ≤ k) ∧ Aside0 (Below w.heap.size w wc))
  case first =>
    have H := HC4.out
    clear HC4
    by_cases c6 : t140 = true
    · subst c6
      have H1 : (if (a0.size : Int) > 600 then (copperplatelaw02_UtfParts.j0 k a0 a1 true true) else (copperplatelaw02_UtfParts.j0 k a0 a1 true (decide ((a1.size : Int) > 600)))) = some r := by rw [if_pos rfl] at H; exact H
      clear H
      have H := H1
      clear H1
      by_cases c7 : (a0.size : Int) > 600
      · rw [if_pos c7] at H
        have c7b0 : decide (600 < (a0.size : Int)) = true := decide_eq_true c7
        have c7b1 : decide (600 < a0.size) = true := decide_eq_true (by omega)
        clear c7
        (first | rw [c7b0] | (simp only [i64_w, i32_w]; rw [c7b0]) | skip)
        have H' := Aside0.mk H
        clear H
        go_wp2
        go_meet
        case rel => exact ⟨_, (true), (by first | rfl | (simp; done) | (simp [*]; done)), H', ⟨by first | omega | exact Nat.le_refl _⟩, ⟨by repeat (first | (with_reducible first | exact HB.out | apply below_alloc | apply pw_below_drewN | apply below_drew1) | exact HB.out)⟩⟩
      · rw [if_neg c7] at H
        have c7b0 : decide (600 < (a0.size : Int)) = false := decide_eq_false c7
        have c7b1 : decide (600 < a0.size) = false := decide_eq_false (by omega)
        clear c7
        (first | rw [c7b0] | (simp only [i64_w, i32_w]; rw [c7b0]) | skip)
        have H' := Aside0.mk H
        clear H
        go_wp2
        go_meet
        case rel => exact ⟨_, (decide ((a1.size : Int) > 600)), (by first | rfl | (simp; done) | (simp [*]; done)), H', ⟨by first | omega | exact Nat.le_refl _⟩, ⟨by repeat (first | (with_reducible first | exact HB.out | apply below_alloc | apply pw_below_drewN | apply below_drew1) | exact HB.out)⟩⟩
    · replace c6 := Bool.eq_false_iff.mpr c6
      subst c6
      have H1 : (copperplatelaw02_UtfParts.j0 k a0 a1 false true) = some r := by rw [if_neg (show ¬ (false = true) by decide)] at H; exact H
      clear H
      have H := H1
      clear H1
      have H' := Aside0.mk H
      clear H
      go_wp2
      go_meet
      case rel => exact ⟨_, (true), (by first | rfl | (simp; done) | (simp [*]; done)), H', ⟨by first | omega | exact Nat.le_refl _⟩, ⟨by repeat (first | (with_reducible first | exact HB.out | apply below_alloc | apply pw_below_drewN | apply below_drew1) | exact HB.out)⟩⟩
  case rest =>
    clear HC4
    try clear p2
    try clear c5
    try clear c6
    try clear c7
    try clear c7b0
    try clear c7b1
    obtain ⟨kq, x21_3, rfl, HA, HJ3, HB⟩ := hcut
    cases kq with
    | zero => exact absurd HA.out (by simp [copperplatelaw02_UtfParts.j0])
    | succ kj3 =>
      have H := HA.out
      clear HA
      simp only [copperplatelaw02_UtfParts.j0] at H
      by_cases c8 : x21_3 = true
      · subst c8
        have H1 : (some t140) = some r := by rw [if_pos rfl] at H; exact H
        clear H
        have H := H1
        clear H1
        obtain rfl := Option.some.inj H
        go_wp2
        go_ret
        exact ⟨by first | rfl | (simp [errW_none, errW_some] <;> rfl) | (simp [*, errW_none, errW_some] <;> rfl), by repeat (first | (with_reducible first | exact HB.out | apply below_alloc | apply pw_below_drewN | apply below_drew1) | exact HB.out)⟩
      · replace c8 := Bool.eq_false_iff.mpr c8
        subst c8
        have H1 : ((utf_Bad.f a0).bind fun t141 => (if t141 < (-1) then (copperplatelaw02_UtfParts.j1 kj3 a0 a1 t141 true) else (if t141 ≥ (a0.size : Int) then (copperplatelaw02_UtfParts.j1 kj3 a0 a1 t141 (decide (t141 ≥ 0))) else (copperplatelaw02_UtfParts.j1 kj3 a0 a1 t141 false)))) = some r := by rw [if_neg (show ¬ (false = true) by decide)] at H; exact H
        clear H
        have H := H1
        clear H1
        replace H := Option.bind_eq_some_iff.mp H
        obtain ⟨t141, A90, H⟩ := H
        replace H : (if t141 < (-1) then (copperplatelaw02_UtfParts.j1 kj3 a0 a1 t141 true) else (if t141 ≥ (a0.size : Int) then (copperplatelaw02_UtfParts.j1 kj3 a0 a1 t141 (decide (t141 ≥ 0))) else (copperplatelaw02_UtfParts.j1 kj3 a0 a1 t141 false))) = some r := H
        have A9 := Aside0.mk A90
        clear A90
        have HC10 := Aside0.mk H
        clear H
        go_upto_region 5 with (first | ((with_reducible refine gate_callee (f := 15) rfl ?_); refine goesL_ (some 24) rfl rfl Try.func15 (by kernel_rfl) rfl #[.string a0] rfl (by (try simp only [List.map_toArray, List.map_cons, List.map_nil]); first | done | rfl | (simp only [List.length_drop, List.length_take]; rfl)) ?_; (with_reducible refine (utf_Bad.calls a0 t141 _ A9.out).mono ?_); rintro e w11 ⟨rfl, hb⟩; refine ⟨_, rfl, ?_⟩; have n0_ := Aside0.mk (below_step (by repeat (first | (with_reducible first | exact HB.out | apply below_alloc | apply pw_below_drewN | apply below_drew1) | exact HB.out)) hb); clear HB; have HB := n0_; clear n0_; (try clear hb); (try clear hb2); (try clear hk); (try clear hi)))
        (try simp only [Act.put, List.setIfInBounds_toArray, List.set_cons_zero, List.set_cons_succ])
        go_cut [36] (fun v36 wc => ∃ (kq : Nat) (x36_9 : Bool), v36 = .bool x36_9 ∧ Aside0 (copperplatelaw02_UtfParts.j1 kq a0 a1 t141 x36_9 = some r) ∧ Aside0 (kq ≤ kj3) ∧ Aside0 (Below w.heap.size w wc))
        case first =>
          have H := HC10.out
          clear HC10
          by_cases c12 : t141 < (-1)
          · rw [if_pos c12] at H
            have c12b0 : decide (t141 < (-1)) = true := decide_eq_true c12
            clear c12
            (first | rw [c12b0] | (simp only [i64_w, i32_w]; rw [c12b0]) | skip)
            have H' := Aside0.mk H
            clear H
            go_wp2
            go_meet
            case rel => exact ⟨_, (true), (by first | rfl | (simp; done) | (simp [*]; done)), H', ⟨by have := HJ3.out; first | omega | exact Nat.le_refl _⟩, ⟨by repeat (first | (with_reducible first | exact HB.out | apply below_alloc | apply pw_below_drewN | apply below_drew1) | exact HB.out)⟩⟩
          · rw [if_neg c12] at H
            have c12b0 : decide (t141 < (-1)) = false := decide_eq_false c12
            clear c12
            (first | rw [c12b0] | (simp only [i64_w, i32_w]; rw [c12b0]) | skip)
            by_cases c13 : t141 ≥ (a0.size : Int)
            · rw [if_pos c13] at H
              have c13b0 : decide ((a0.size : Int) ≤ t141) = true := decide_eq_true c13
              clear c13
              have H' := Aside0.mk H
              clear H
              go_wp2
              go_meet
              case rel => exact ⟨_, (decide (t141 ≥ 0)), (by first | rfl | (simp; done) | (simp [*]; done)), H', ⟨by have := HJ3.out; first | omega | exact Nat.le_refl _⟩, ⟨by repeat (first | (with_reducible first | exact HB.out | apply below_alloc | apply pw_below_drewN | apply below_drew1) | exact HB.out)⟩⟩
            · rw [if_neg c13] at H
              have c13b0 : decide ((a0.size : Int) ≤ t141) = false := decide_eq_false c13
              clear c13
              have H' := Aside0.mk H
              clear H
              go_wp2
              go_meet
              case rel => exact ⟨_, (false), (by first | rfl | (simp; done) | (simp [*]; done)), H', ⟨by have := HJ3.out; first | omega | exact Nat.le_refl _⟩, ⟨by repeat (first | (with_reducible first | exact HB.out | apply below_alloc | apply pw_below_drewN | apply below_drew1) | exact HB.out)⟩⟩
        case rest =>
          clear HC10
          try clear c1
          try clear p2
          try clear c5
          try clear c6
          try clear c7
          try clear c7b0
          try clear c7b1
          try clear c8
          try clear c9
          try clear c12
          try clear c12b0
          try clear c13
          try clear c13b0
          try clear p2
          obtain ⟨kq, x36_9, rfl, HA, HJ9, HB⟩ := hcut
          cases kq with
          | zero => exact absurd HA.out (by simp [copperplatelaw02_UtfParts.j1])
          | succ kj9 =>
            have H := HA.out
            clear HA
            simp only [copperplatelaw02_UtfParts.j1] at H
            by_cases c14 : x36_9 = true
            · subst c14
              have H1 : (some false) = some r := by rw [if_pos rfl] at H; exact H
              clear H
              have H := H1
              clear H1
              exact absurd H (by have h_ := HT_.out; subst h_; decide)
            · replace c14 := Bool.eq_false_iff.mpr c14
              subst c14
              have H1 : (if t141 = (-1) then ((utf_Bad.f a1).bind fun t142 => (if a0.size + a1.size ≤ 9223372036854775807 then ((utf_Bad.f (a0 ++ a1)).bind fun t143 => ((utf_May.f a0).bind fun t144 => (if t144 = true then (if t142 = (-1) then (if t143 = (-1) then (some true) else (if t142 ≥ 0 then (some (t143 == (wrap64 ((a0.size : Int) + t142)))) else (some false))) else (if t142 ≥ 0 then (some (t143 == (wrap64 ((a0.size : Int) + t142)))) else (some false))) else (some false)))) else (none))) else (if 0 ≤ t141 then (if t141 ≤ (a0.size : Int) then ((utf_May.f (a0.extract 0 (t141 : Int).toNat)).bind fun t145 => (if t145 = true then ((utf_May.f a0).bind fun t146 => (if t146 = true then (some false) else (if t141 < (wrap64 ((a0.size : Int) - 3)) then (if a0.size + a1.size ≤ 9223372036854775807 then ((utf_Bad.f (a0 ++ a1)).bind fun t147 => (if t147 = t141 then (some true) else (if t141 ≥ (wrap64 ((a0.size : Int) - 3)) then (if t147 ≥ t141 then (some true) else ((utf_May.f (a0 ++ a1)).bind fun t148 => (some t148))) else (some false)))) else (none)) else (if t141 ≥ (wrap64 ((a0.size : Int) - 3)) then (if a0.size + a1.size ≤ 9223372036854775807 then ((utf_Bad.f (a0 ++ a1)).bind fun t149 => (if t149 ≥ t141 then (some true) else ((utf_May.f (a0 ++ a1)).bind fun t150 => (some t150)))) else (none)) else (some false))))) else (some false))) else (none)) else (none))) = some r := by rw [if_neg (show ¬ (false = true) by decide)] at H; exact H
              clear H
              have H := H1
              clear H1
              by_cases c15 : t141 = (-1)
              · rw [if_pos c15] at H
                have c15b0 : (t141 == (-1)) = true := beq_iff_eq.mpr c15
                have c15b1 : (t141 != (-1)) = false := bne_eq_false_iff_eq.mpr c15
                clear c15
                replace H := Option.bind_eq_some_iff.mp H
                obtain ⟨t142, A160, H⟩ := H
                replace H : (if a0.size + a1.size ≤ 9223372036854775807 then ((utf_Bad.f (a0 ++ a1)).bind fun t143 => ((utf_May.f a0).bind fun t144 => (if t144 = true then (if t142 = (-1) then (if t143 = (-1) then (some true) else (if t142 ≥ 0 then (some (t143 == (wrap64 ((a0.size : Int) + t142)))) else (some false))) else (if t142 ≥ 0 then (some (t143 == (wrap64 ((a0.size : Int) + t142)))) else (some false))) else (some false)))) else (none)) = some r := H
                have A16 := Aside0.mk A160
                clear A160
                by_cases c17 : a0.size + a1.size ≤ 9223372036854775807
                · rw [if_pos c17] at H
                  have c17b0 := eq_true c17
                  have c17b1 : decide (a0.size + a1.size ≤ 9223372036854775807) = true := decide_eq_true c17
                  try have c17b2 : (9223372036854775807 < a0.size + a1.size) = False := eq_false (Nat.not_lt.2 c17)
                  replace H := Option.bind_eq_some_iff.mp H
                  obtain ⟨t143, A180, H⟩ := H
                  replace H : ((utf_May.f a0).bind fun t144 => (if t144 = true then (if t142 = (-1) then (if t143 = (-1) then (some true) else (if t142 ≥ 0 then (some (t143 == (wrap64 ((a0.size : Int) + t142)))) else (some false))) else (if t142 ≥ 0 then (some (t143 == (wrap64 ((a0.size : Int) + t142)))) else (some false))) else (some false))) = some r := H
                  have A18 := Aside0.mk A180
                  clear A180
                  replace H := Option.bind_eq_some_iff.mp H
                  obtain ⟨t144, A190, H⟩ := H
                  replace H : (if t144 = true then (if t142 = (-1) then (if t143 = (-1) then (some true) else (if t142 ≥ 0 then (some (t143 == (wrap64 ((a0.size : Int) + t142)))) else (some false))) else (if t142 ≥ 0 then (some (t143 == (wrap64 ((a0.size : Int) + t142)))) else (some false))) else (some false)) = some r := H
                  have A19 := Aside0.mk A190
                  clear A190
                  by_cases c20 : t144 = true
                  · subst c20
                    have H1 : (if t142 = (-1) then (if t143 = (-1) then (some true) else (if t142 ≥ 0 then (some (t143 == (wrap64 ((a0.size : Int) + t142)))) else (some false))) else (if t142 ≥ 0 then (some (t143 == (wrap64 ((a0.size : Int) + t142)))) else (some false))) = some r := by rw [if_pos rfl] at H; exact H
                    clear H
                    have H := H1
                    clear H1
                    by_cases c21 : t142 = (-1)
                    · rw [if_pos c21] at H
                      have c21b0 : (t142 == (-1)) = true := beq_iff_eq.mpr c21
                      have c21b1 : (t142 != (-1)) = false := bne_eq_false_iff_eq.mpr c21
                      clear c21
                      by_cases c22 : t143 = (-1)
                      · rw [if_pos c22] at H
                        have c22b0 : (t143 == (-1)) = true := beq_iff_eq.mpr c22
                        have c22b1 : (t143 != (-1)) = false := bne_eq_false_iff_eq.mpr c22
                        clear c22
                        obtain rfl := Option.some.inj H
                        go_wp2_with (first | ((with_reducible refine gate_callee (f := 15) rfl ?_); refine goesL_ (some 40) rfl rfl Try.func15 (by kernel_rfl) rfl #[.string a1] rfl (by (try simp only [List.map_toArray, List.map_cons, List.map_nil]); first | done | rfl | (simp only [List.length_drop, List.length_take]; rfl)) ?_; (with_reducible refine (utf_Bad.calls a1 t142 _ A16.out).mono ?_); rintro e w23 ⟨rfl, hb⟩; refine ⟨_, rfl, ?_⟩; have n0_ := Aside0.mk (below_step (by repeat (first | (with_reducible first | exact HB.out | apply below_alloc | apply pw_below_drewN | apply below_drew1) | exact HB.out)) hb); clear HB; have HB := n0_; clear n0_; (try clear hb); (try clear hb2); (try clear hk); (try clear hi)) | ((with_reducible refine gate_callee (f := 15) rfl ?_); refine goesL_ (some 44) rfl rfl Try.func15 (by kernel_rfl) rfl #[.string (a0 ++ a1)] rfl (by (try simp only [List.map_toArray, List.map_cons, List.map_nil]); first | done | rfl | (simp only [List.length_drop, List.length_take]; rfl)) ?_; (with_reducible refine (utf_Bad.calls (a0 ++ a1) t143 _ A18.out).mono ?_); rintro e w24 ⟨rfl, hb⟩; refine ⟨_, rfl, ?_⟩; have n0_ := Aside0.mk (below_step (by repeat (first | (with_reducible first | exact HB.out | apply below_alloc | apply pw_below_drewN | apply below_drew1) | exact HB.out)) hb); clear HB; have HB := n0_; clear n0_; (try clear hb); (try clear hb2); (try clear hk); (try clear hi)) | ((with_reducible refine gate_callee (f := 17) rfl ?_); refine goesL_ (some 46) rfl rfl Try.func17 (by kernel_rfl) rfl #[.string a0] rfl (by (try simp only [List.map_toArray, List.map_cons, List.map_nil]); first | done | rfl | (simp only [List.length_drop, List.length_take]; rfl)) ?_; (with_reducible refine (utf_May.calls a0 true _ A19.out).mono ?_); rintro e w25 ⟨rfl, hb⟩; refine ⟨_, rfl, ?_⟩; have n0_ := Aside0.mk (below_step (by repeat (first | (with_reducible first | exact HB.out | apply below_alloc | apply pw_below_drewN | apply below_drew1) | exact HB.out)) hb); clear HB; have HB := n0_; clear n0_; (try clear hb); (try clear hb2); (try clear hk); (try clear hi)))
                        go_ret
                        exact ⟨by first | rfl | (simp [errW_none, errW_some] <;> rfl) | (simp [*, errW_none, errW_some] <;> rfl), by repeat (first | (with_reducible first | exact HB.out | apply below_alloc | apply pw_below_drewN | apply below_drew1) | exact HB.out)⟩
                      · rw [if_neg c22] at H
                        have c22b0 : (t143 == (-1)) = false := beq_eq_false_iff_ne.mpr c22
                        have c22b1 : (t143 != (-1)) = true := bne_iff_ne.mpr c22
                        by_cases c26 : t142 ≥ 0
                        · rw [if_pos c26] at H
                          have c26b0 : decide (0 ≤ t142) = true := decide_eq_true c26
                          clear c26
                          obtain rfl := Option.some.inj H
                          go_wp2_with (first | ((with_reducible refine gate_callee (f := 15) rfl ?_); refine goesL_ (some 40) rfl rfl Try.func15 (by kernel_rfl) rfl #[.string a1] rfl (by (try simp only [List.map_toArray, List.map_cons, List.map_nil]); first | done | rfl | (simp only [List.length_drop, List.length_take]; rfl)) ?_; (with_reducible refine (utf_Bad.calls a1 t142 _ A16.out).mono ?_); rintro e w27 ⟨rfl, hb⟩; refine ⟨_, rfl, ?_⟩; have n0_ := Aside0.mk (below_step (by repeat (first | (with_reducible first | exact HB.out | apply below_alloc | apply pw_below_drewN | apply below_drew1) | exact HB.out)) hb); clear HB; have HB := n0_; clear n0_; (try clear hb); (try clear hb2); (try clear hk); (try clear hi)) | ((with_reducible refine gate_callee (f := 15) rfl ?_); refine goesL_ (some 44) rfl rfl Try.func15 (by kernel_rfl) rfl #[.string (a0 ++ a1)] rfl (by (try simp only [List.map_toArray, List.map_cons, List.map_nil]); first | done | rfl | (simp only [List.length_drop, List.length_take]; rfl)) ?_; (with_reducible refine (utf_Bad.calls (a0 ++ a1) t143 _ A18.out).mono ?_); rintro e w28 ⟨rfl, hb⟩; refine ⟨_, rfl, ?_⟩; have n0_ := Aside0.mk (below_step (by repeat (first | (with_reducible first | exact HB.out | apply below_alloc | apply pw_below_drewN | apply below_drew1) | exact HB.out)) hb); clear HB; have HB := n0_; clear n0_; (try clear hb); (try clear hb2); (try clear hk); (try clear hi)) | ((with_reducible refine gate_callee (f := 17) rfl ?_); refine goesL_ (some 46) rfl rfl Try.func17 (by kernel_rfl) rfl #[.string a0] rfl (by (try simp only [List.map_toArray, List.map_cons, List.map_nil]); first | done | rfl | (simp only [List.length_drop, List.length_take]; rfl)) ?_; (with_reducible refine (utf_May.calls a0 true _ A19.out).mono ?_); rintro e w29 ⟨rfl, hb⟩; refine ⟨_, rfl, ?_⟩; have n0_ := Aside0.mk (below_step (by repeat (first | (with_reducible first | exact HB.out | apply below_alloc | apply pw_below_drewN | apply below_drew1) | exact HB.out)) hb); clear HB; have HB := n0_; clear n0_; (try clear hb); (try clear hb2); (try clear hk); (try clear hi)))
                          go_ret
                          exact ⟨by first | rfl | (simp [errW_none, errW_some] <;> rfl) | (simp [*, errW_none, errW_some] <;> rfl), by repeat (first | (with_reducible first | exact HB.out | apply below_alloc | apply pw_below_drewN | apply below_drew1) | exact HB.out)⟩
                        · rw [if_neg c26] at H
                          have c26b0 : decide (0 ≤ t142) = false := decide_eq_false c26
                          clear c26
                          exact absurd H (by have h_ := HT_.out; subst h_; decide)
                    · rw [if_neg c21] at H
                      have c21b0 : (t142 == (-1)) = false := beq_eq_false_iff_ne.mpr c21
                      have c21b1 : (t142 != (-1)) = true := bne_iff_ne.mpr c21
                      by_cases c30 : t142 ≥ 0
                      · rw [if_pos c30] at H
                        have c30b0 : decide (0 ≤ t142) = true := decide_eq_true c30
                        clear c30
                        obtain rfl := Option.some.inj H
                        go_wp2_with (first | ((with_reducible refine gate_callee (f := 15) rfl ?_); refine goesL_ (some 40) rfl rfl Try.func15 (by kernel_rfl) rfl #[.string a1] rfl (by (try simp only [List.map_toArray, List.map_cons, List.map_nil]); first | done | rfl | (simp only [List.length_drop, List.length_take]; rfl)) ?_; (with_reducible refine (utf_Bad.calls a1 t142 _ A16.out).mono ?_); rintro e w31 ⟨rfl, hb⟩; refine ⟨_, rfl, ?_⟩; have n0_ := Aside0.mk (below_step (by repeat (first | (with_reducible first | exact HB.out | apply below_alloc | apply pw_below_drewN | apply below_drew1) | exact HB.out)) hb); clear HB; have HB := n0_; clear n0_; (try clear hb); (try clear hb2); (try clear hk); (try clear hi)) | ((with_reducible refine gate_callee (f := 15) rfl ?_); refine goesL_ (some 44) rfl rfl Try.func15 (by kernel_rfl) rfl #[.string (a0 ++ a1)] rfl (by (try simp only [List.map_toArray, List.map_cons, List.map_nil]); first | done | rfl | (simp only [List.length_drop, List.length_take]; rfl)) ?_; (with_reducible refine (utf_Bad.calls (a0 ++ a1) t143 _ A18.out).mono ?_); rintro e w32 ⟨rfl, hb⟩; refine ⟨_, rfl, ?_⟩; have n0_ := Aside0.mk (below_step (by repeat (first | (with_reducible first | exact HB.out | apply below_alloc | apply pw_below_drewN | apply below_drew1) | exact HB.out)) hb); clear HB; have HB := n0_; clear n0_; (try clear hb); (try clear hb2); (try clear hk); (try clear hi)) | ((with_reducible refine gate_callee (f := 17) rfl ?_); refine goesL_ (some 46) rfl rfl Try.func17 (by kernel_rfl) rfl #[.string a0] rfl (by (try simp only [List.map_toArray, List.map_cons, List.map_nil]); first | done | rfl | (simp only [List.length_drop, List.length_take]; rfl)) ?_; (with_reducible refine (utf_May.calls a0 true _ A19.out).mono ?_); rintro e w33 ⟨rfl, hb⟩; refine ⟨_, rfl, ?_⟩; have n0_ := Aside0.mk (below_step (by repeat (first | (with_reducible first | exact HB.out | apply below_alloc | apply pw_below_drewN | apply below_drew1) | exact HB.out)) hb); clear HB; have HB := n0_; clear n0_; (try clear hb); (try clear hb2); (try clear hk); (try clear hi)))
                        go_ret
                        exact ⟨by first | rfl | (simp [errW_none, errW_some] <;> rfl) | (simp [*, errW_none, errW_some] <;> rfl), by repeat (first | (with_reducible first | exact HB.out | apply below_alloc | apply pw_below_drewN | apply below_drew1) | exact HB.out)⟩
                      · rw [if_neg c30] at H
                        have c30b0 : decide (0 ≤ t142) = false := decide_eq_false c30
                        clear c30
                        exact absurd H (by have h_ := HT_.out; subst h_; decide)
                  · replace c20 := Bool.eq_false_iff.mpr c20
                    subst c20
                    have H1 : (some false) = some r := by rw [if_neg (show ¬ (false = true) by decide)] at H; exact H
                    clear H
                    have H := H1
                    clear H1
                    exact absurd H (by have h_ := HT_.out; subst h_; decide)
                · rw [if_neg c17] at H
                  exact absurd H (by simp)
              · rw [if_neg c15] at H
                have c15b0 : (t141 == (-1)) = false := beq_eq_false_iff_ne.mpr c15
                have c15b1 : (t141 != (-1)) = true := bne_iff_ne.mpr c15
                by_cases c34 : 0 ≤ t141
                · rw [if_pos c34] at H
                  have c34b0 := eq_true c34
                  have c34b1 : decide (0 ≤ t141) = true := decide_eq_true c34
                  clear c34
                  by_cases c35 : t141 ≤ (a0.size : Int)
                  · rw [if_pos c35] at H
                    have c35b0 := eq_true c35
                    have c35b1 : decide (t141 ≤ (a0.size : Int)) = true := decide_eq_true c35
                    clear c35
                    replace H := Option.bind_eq_some_iff.mp H
                    obtain ⟨t145, A360, H⟩ := H
                    replace H : (if t145 = true then ((utf_May.f a0).bind fun t146 => (if t146 = true then (some false) else (if t141 < (wrap64 ((a0.size : Int) - 3)) then (if a0.size + a1.size ≤ 9223372036854775807 then ((utf_Bad.f (a0 ++ a1)).bind fun t147 => (if t147 = t141 then (some true) else (if t141 ≥ (wrap64 ((a0.size : Int) - 3)) then (if t147 ≥ t141 then (some true) else ((utf_May.f (a0 ++ a1)).bind fun t148 => (some t148))) else (some false)))) else (none)) else (if t141 ≥ (wrap64 ((a0.size : Int) - 3)) then (if a0.size + a1.size ≤ 9223372036854775807 then ((utf_Bad.f (a0 ++ a1)).bind fun t149 => (if t149 ≥ t141 then (some true) else ((utf_May.f (a0 ++ a1)).bind fun t150 => (some t150)))) else (none)) else (some false))))) else (some false)) = some r := H
                    have A36 := Aside0.mk A360
                    clear A360
                    by_cases c37 : t145 = true
                    · subst c37
                      have H1 : ((utf_May.f a0).bind fun t146 => (if t146 = true then (some false) else (if t141 < (wrap64 ((a0.size : Int) - 3)) then (if a0.size + a1.size ≤ 9223372036854775807 then ((utf_Bad.f (a0 ++ a1)).bind fun t147 => (if t147 = t141 then (some true) else (if t141 ≥ (wrap64 ((a0.size : Int) - 3)) then (if t147 ≥ t141 then (some true) else ((utf_May.f (a0 ++ a1)).bind fun t148 => (some t148))) else (some false)))) else (none)) else (if t141 ≥ (wrap64 ((a0.size : Int) - 3)) then (if a0.size + a1.size ≤ 9223372036854775807 then ((utf_Bad.f (a0 ++ a1)).bind fun t149 => (if t149 ≥ t141 then (some true) else ((utf_May.f (a0 ++ a1)).bind fun t150 => (some t150)))) else (none)) else (some false))))) = some r := by rw [if_pos rfl] at H; exact H
                      clear H
                      have H := H1
                      clear H1
                      replace H := Option.bind_eq_some_iff.mp H
                      obtain ⟨t146, A380, H⟩ := H
                      replace H : (if t146 = true then (some false) else (if t141 < (wrap64 ((a0.size : Int) - 3)) then (if a0.size + a1.size ≤ 9223372036854775807 then ((utf_Bad.f (a0 ++ a1)).bind fun t147 => (if t147 = t141 then (some true) else (if t141 ≥ (wrap64 ((a0.size : Int) - 3)) then (if t147 ≥ t141 then (some true) else ((utf_May.f (a0 ++ a1)).bind fun t148 => (some t148))) else (some false)))) else (none)) else (if t141 ≥ (wrap64 ((a0.size : Int) - 3)) then (if a0.size + a1.size ≤ 9223372036854775807 then ((utf_Bad.f (a0 ++ a1)).bind fun t149 => (if t149 ≥ t141 then (some true) else ((utf_May.f (a0 ++ a1)).bind fun t150 => (some t150)))) else (none)) else (some false)))) = some r := H
                      have A38 := Aside0.mk A380
                      clear A380
                      by_cases c39 : t146 = true
                      · subst c39
                        have H1 : (some false) = some r := by rw [if_pos rfl] at H; exact H
                        clear H
                        have H := H1
                        clear H1
                        exact absurd H (by have h_ := HT_.out; subst h_; decide)
                      · replace c39 := Bool.eq_false_iff.mpr c39
                        subst c39
                        have H1 : (if t141 < (wrap64 ((a0.size : Int) - 3)) then (if a0.size + a1.size ≤ 9223372036854775807 then ((utf_Bad.f (a0 ++ a1)).bind fun t147 => (if t147 = t141 then (some true) else (if t141 ≥ (wrap64 ((a0.size : Int) - 3)) then (if t147 ≥ t141 then (some true) else ((utf_May.f (a0 ++ a1)).bind fun t148 => (some t148))) else (some false)))) else (none)) else (if t141 ≥ (wrap64 ((a0.size : Int) - 3)) then (if a0.size + a1.size ≤ 9223372036854775807 then ((utf_Bad.f (a0 ++ a1)).bind fun t149 => (if t149 ≥ t141 then (some true) else ((utf_May.f (a0 ++ a1)).bind fun t150 => (some t150)))) else (none)) else (some false))) = some r := by rw [if_neg (show ¬ (false = true) by decide)] at H; exact H
                        clear H
                        have H := H1
                        clear H1
                        by_cases c40 : t141 < (wrap64 ((a0.size : Int) - 3))
                        · rw [if_pos c40] at H
                          have c40b0 : decide (t141 < (wrap64 ((a0.size : Int) - 3))) = true := decide_eq_true c40
                          clear c40
                          by_cases c41 : a0.size + a1.size ≤ 9223372036854775807
                          · rw [if_pos c41] at H
                            have c41b0 := eq_true c41
                            have c41b1 : decide (a0.size + a1.size ≤ 9223372036854775807) = true := decide_eq_true c41
                            try have c41b2 : (9223372036854775807 < a0.size + a1.size) = False := eq_false (Nat.not_lt.2 c41)
                            replace H := Option.bind_eq_some_iff.mp H
                            obtain ⟨t147, A420, H⟩ := H
                            replace H : (if t147 = t141 then (some true) else (if t141 ≥ (wrap64 ((a0.size : Int) - 3)) then (if t147 ≥ t141 then (some true) else ((utf_May.f (a0 ++ a1)).bind fun t148 => (some t148))) else (some false))) = some r := H
                            have A42 := Aside0.mk A420
                            clear A420
                            by_cases c43 : t147 = t141
                            · rw [if_pos c43] at H
                              have c43b0 : (t147 == t141) = true := beq_iff_eq.mpr c43
                              have c43b1 : (t147 != t141) = false := bne_eq_false_iff_eq.mpr c43
                              clear c43
                              obtain rfl := Option.some.inj H
                              (try (have hw_ : wrap64 ((a0.size : Int) - 3) = ((a0.size : Int) - 3) := (by unfold wrap64; omega); have c40b0u := c40b0; rw [hw_] at c40b0u))
                              go_wp2_with (first | ((with_reducible refine gate_callee (f := 17) rfl ?_); refine goesL_ (some 70) rfl rfl Try.func17 (by kernel_rfl) rfl #[.string (a0.extract 0 (t141 : Int).toNat)] rfl (by (try simp only [List.map_toArray, List.map_cons, List.map_nil]); first | done | rfl | (simp only [List.length_drop, List.length_take]; rfl)) ?_; (with_reducible refine (utf_May.calls (a0.extract 0 (t141 : Int).toNat) true _ A36.out).mono ?_); rintro e w44 ⟨rfl, hb⟩; refine ⟨_, rfl, ?_⟩; have n0_ := Aside0.mk (below_step (by repeat (first | (with_reducible first | exact HB.out | apply below_alloc | apply pw_below_drewN | apply below_drew1) | exact HB.out)) hb); clear HB; have HB := n0_; clear n0_; (try clear hb); (try clear hb2); (try clear hk); (try clear hi)) | (go_at_call 17; (with_reducible refine (utf_May.calls a0 false _ A38.out).mono ?_); rintro e w45 ⟨rfl, hb⟩; have n0_ := Aside0.mk (below_step (by repeat (first | (with_reducible first | exact HB.out | apply below_alloc | apply pw_below_drewN | apply below_drew1) | exact HB.out)) hb); clear HB; have HB := n0_; clear n0_; (try clear hb); (try clear hb2); (try clear hk); (try clear hi)) | (go_at_call 15; (with_reducible refine (utf_Bad.calls (a0 ++ a1) t147 _ A42.out).mono ?_); rintro e w46 ⟨rfl, hb⟩; have n0_ := Aside0.mk (below_step (by repeat (first | (with_reducible first | exact HB.out | apply below_alloc | apply pw_below_drewN | apply below_drew1) | exact HB.out)) hb); clear HB; have HB := n0_; clear n0_; (try clear hb); (try clear hb2); (try clear hk); (try clear hi)))
                              go_ret
                              exact ⟨by first | rfl | (simp [errW_none, errW_some] <;> rfl) | (simp [*, errW_none, errW_some] <;> rfl), by repeat (first | (with_reducible first | exact HB.out | apply below_alloc | apply pw_below_drewN | apply below_drew1) | exact HB.out)⟩
                            · rw [if_neg c43] at H
                              have c43b0 : (t147 == t141) = false := beq_eq_false_iff_ne.mpr c43
                              have c43b1 : (t147 != t141) = true := bne_iff_ne.mpr c43
                              by_cases c47 : t141 ≥ (wrap64 ((a0.size : Int) - 3))
                              · rw [if_pos c47] at H
                                have c47b0 : decide ((wrap64 ((a0.size : Int) - 3)) ≤ t141) = true := decide_eq_true c47
                                clear c47
                                by_cases c48 : t147 ≥ t141
                                · rw [if_pos c48] at H
                                  have c48b0 : decide (t141 ≤ t147) = true := decide_eq_true c48
                                  clear c48
                                  obtain rfl := Option.some.inj H
                                  (try (have hw_ : wrap64 ((a0.size : Int) - 3) = ((a0.size : Int) - 3) := (by unfold wrap64; omega); have c40b0u := c40b0; rw [hw_] at c40b0u))
                                  (try (have hw_ : wrap64 ((a0.size : Int) - 3) = ((a0.size : Int) - 3) := (by unfold wrap64; omega); have c47b0u := c47b0; rw [hw_] at c47b0u))
                                  go_wp2_with (first | ((with_reducible refine gate_callee (f := 17) rfl ?_); refine goesL_ (some 70) rfl rfl Try.func17 (by kernel_rfl) rfl #[.string (a0.extract 0 (t141 : Int).toNat)] rfl (by (try simp only [List.map_toArray, List.map_cons, List.map_nil]); first | done | rfl | (simp only [List.length_drop, List.length_take]; rfl)) ?_; (with_reducible refine (utf_May.calls (a0.extract 0 (t141 : Int).toNat) true _ A36.out).mono ?_); rintro e w49 ⟨rfl, hb⟩; refine ⟨_, rfl, ?_⟩; have n0_ := Aside0.mk (below_step (by repeat (first | (with_reducible first | exact HB.out | apply below_alloc | apply pw_below_drewN | apply below_drew1) | exact HB.out)) hb); clear HB; have HB := n0_; clear n0_; (try clear hb); (try clear hb2); (try clear hk); (try clear hi)) | (go_at_call 17; (with_reducible refine (utf_May.calls a0 false _ A38.out).mono ?_); rintro e w50 ⟨rfl, hb⟩; have n0_ := Aside0.mk (below_step (by repeat (first | (with_reducible first | exact HB.out | apply below_alloc | apply pw_below_drewN | apply below_drew1) | exact HB.out)) hb); clear HB; have HB := n0_; clear n0_; (try clear hb); (try clear hb2); (try clear hk); (try clear hi)) | (go_at_call 15; (with_reducible refine (utf_Bad.calls (a0 ++ a1) t147 _ A42.out).mono ?_); rintro e w51 ⟨rfl, hb⟩; have n0_ := Aside0.mk (below_step (by repeat (first | (with_reducible first | exact HB.out | apply below_alloc | apply pw_below_drewN | apply below_drew1) | exact HB.out)) hb); clear HB; have HB := n0_; clear n0_; (try clear hb); (try clear hb2); (try clear hk); (try clear hi)))
                                  go_ret
                                  exact ⟨by first | rfl | (simp [errW_none, errW_some] <;> rfl) | (simp [*, errW_none, errW_some] <;> rfl), by repeat (first | (with_reducible first | exact HB.out | apply below_alloc | apply pw_below_drewN | apply below_drew1) | exact HB.out)⟩
                                · rw [if_neg c48] at H
                                  have c48b0 : decide (t141 ≤ t147) = false := decide_eq_false c48
                                  clear c48
                                  replace H := Option.bind_eq_some_iff.mp H
                                  obtain ⟨t148, A520, H⟩ := H
                                  replace H : (some t148) = some r := H
                                  have A52 := Aside0.mk A520
                                  clear A520
                                  obtain rfl := Option.some.inj H
                                  (try (have hw_ : wrap64 ((a0.size : Int) - 3) = ((a0.size : Int) - 3) := (by unfold wrap64; omega); have c40b0u := c40b0; rw [hw_] at c40b0u))
                                  (try (have hw_ : wrap64 ((a0.size : Int) - 3) = ((a0.size : Int) - 3) := (by unfold wrap64; omega); have c47b0u := c47b0; rw [hw_] at c47b0u))
                                  go_wp2_with (first | ((with_reducible refine gate_callee (f := 17) rfl ?_); refine goesL_ (some 70) rfl rfl Try.func17 (by kernel_rfl) rfl #[.string (a0.extract 0 (t141 : Int).toNat)] rfl (by (try simp only [List.map_toArray, List.map_cons, List.map_nil]); first | done | rfl | (simp only [List.length_drop, List.length_take]; rfl)) ?_; (with_reducible refine (utf_May.calls (a0.extract 0 (t141 : Int).toNat) true _ A36.out).mono ?_); rintro e w53 ⟨rfl, hb⟩; refine ⟨_, rfl, ?_⟩; have n0_ := Aside0.mk (below_step (by repeat (first | (with_reducible first | exact HB.out | apply below_alloc | apply pw_below_drewN | apply below_drew1) | exact HB.out)) hb); clear HB; have HB := n0_; clear n0_; (try clear hb); (try clear hb2); (try clear hk); (try clear hi)) | (go_at_call 17; (with_reducible refine (utf_May.calls a0 false _ A38.out).mono ?_); rintro e w54 ⟨rfl, hb⟩; have n0_ := Aside0.mk (below_step (by repeat (first | (with_reducible first | exact HB.out | apply below_alloc | apply pw_below_drewN | apply below_drew1) | exact HB.out)) hb); clear HB; have HB := n0_; clear n0_; (try clear hb); (try clear hb2); (try clear hk); (try clear hi)) | (go_at_call 15; (with_reducible refine (utf_Bad.calls (a0 ++ a1) t147 _ A42.out).mono ?_); rintro e w55 ⟨rfl, hb⟩; have n0_ := Aside0.mk (below_step (by repeat (first | (with_reducible first | exact HB.out | apply below_alloc | apply pw_below_drewN | apply below_drew1) | exact HB.out)) hb); clear HB; have HB := n0_; clear n0_; (try clear hb); (try clear hb2); (try clear hk); (try clear hi)) | (go_at_call 17; (with_reducible refine (utf_May.calls (a0 ++ a1) t148 _ A52.out).mono ?_); rintro e w56 ⟨rfl, hb⟩; have n0_ := Aside0.mk (below_step (by repeat (first | (with_reducible first | exact HB.out | apply below_alloc | apply pw_below_drewN | apply below_drew1) | exact HB.out)) hb); clear HB; have HB := n0_; clear n0_; (try clear hb); (try clear hb2); (try clear hk); (try clear hi)))
                                  go_ret
                                  exact ⟨by first | rfl | (simp [errW_none, errW_some] <;> rfl) | (simp [*, errW_none, errW_some] <;> rfl), by repeat (first | (with_reducible first | exact HB.out | apply below_alloc | apply pw_below_drewN | apply below_drew1) | exact HB.out)⟩
                              · rw [if_neg c47] at H
                                have c47b0 : decide ((wrap64 ((a0.size : Int) - 3)) ≤ t141) = false := decide_eq_false c47
                                clear c47
                                exact absurd H (by have h_ := HT_.out; subst h_; decide)
                          · rw [if_neg c41] at H
                            exact absurd H (by simp)
                        · rw [if_neg c40] at H
                          have c40b0 : decide (t141 < (wrap64 ((a0.size : Int) - 3))) = false := decide_eq_false c40
                          clear c40
                          by_cases c57 : t141 ≥ (wrap64 ((a0.size : Int) - 3))
                          · rw [if_pos c57] at H
                            have c57b0 : decide ((wrap64 ((a0.size : Int) - 3)) ≤ t141) = true := decide_eq_true c57
                            clear c57
                            by_cases c58 : a0.size + a1.size ≤ 9223372036854775807
                            · rw [if_pos c58] at H
                              have c58b0 := eq_true c58
                              have c58b1 : decide (a0.size + a1.size ≤ 9223372036854775807) = true := decide_eq_true c58
                              try have c58b2 : (9223372036854775807 < a0.size + a1.size) = False := eq_false (Nat.not_lt.2 c58)
                              replace H := Option.bind_eq_some_iff.mp H
                              obtain ⟨t149, A590, H⟩ := H
                              replace H : (if t149 ≥ t141 then (some true) else ((utf_May.f (a0 ++ a1)).bind fun t150 => (some t150))) = some r := H
                              have A59 := Aside0.mk A590
                              clear A590
                              by_cases c60 : t149 ≥ t141
                              · rw [if_pos c60] at H
                                have c60b0 : decide (t141 ≤ t149) = true := decide_eq_true c60
                                clear c60
                                obtain rfl := Option.some.inj H
                                (try (have hw_ : wrap64 ((a0.size : Int) - 3) = ((a0.size : Int) - 3) := (by unfold wrap64; omega); have c40b0u := c40b0; rw [hw_] at c40b0u))
                                (try (have hw_ : wrap64 ((a0.size : Int) - 3) = ((a0.size : Int) - 3) := (by unfold wrap64; omega); have c57b0u := c57b0; rw [hw_] at c57b0u))
                                go_wp2_with (first | ((with_reducible refine gate_callee (f := 17) rfl ?_); refine goesL_ (some 70) rfl rfl Try.func17 (by kernel_rfl) rfl #[.string (a0.extract 0 (t141 : Int).toNat)] rfl (by (try simp only [List.map_toArray, List.map_cons, List.map_nil]); first | done | rfl | (simp only [List.length_drop, List.length_take]; rfl)) ?_; (with_reducible refine (utf_May.calls (a0.extract 0 (t141 : Int).toNat) true _ A36.out).mono ?_); rintro e w61 ⟨rfl, hb⟩; refine ⟨_, rfl, ?_⟩; have n0_ := Aside0.mk (below_step (by repeat (first | (with_reducible first | exact HB.out | apply below_alloc | apply pw_below_drewN | apply below_drew1) | exact HB.out)) hb); clear HB; have HB := n0_; clear n0_; (try clear hb); (try clear hb2); (try clear hk); (try clear hi)) | (go_at_call 17; (with_reducible refine (utf_May.calls a0 false _ A38.out).mono ?_); rintro e w62 ⟨rfl, hb⟩; have n0_ := Aside0.mk (below_step (by repeat (first | (with_reducible first | exact HB.out | apply below_alloc | apply pw_below_drewN | apply below_drew1) | exact HB.out)) hb); clear HB; have HB := n0_; clear n0_; (try clear hb); (try clear hb2); (try clear hk); (try clear hi)) | (go_at_call 15; (with_reducible refine (utf_Bad.calls (a0 ++ a1) t149 _ A59.out).mono ?_); rintro e w63 ⟨rfl, hb⟩; have n0_ := Aside0.mk (below_step (by repeat (first | (with_reducible first | exact HB.out | apply below_alloc | apply pw_below_drewN | apply below_drew1) | exact HB.out)) hb); clear HB; have HB := n0_; clear n0_; (try clear hb); (try clear hb2); (try clear hk); (try clear hi)))
                                go_ret
                                exact ⟨by first | rfl | (simp [errW_none, errW_some] <;> rfl) | (simp [*, errW_none, errW_some] <;> rfl), by repeat (first | (with_reducible first | exact HB.out | apply below_alloc | apply pw_below_drewN | apply below_drew1) | exact HB.out)⟩
                              · rw [if_neg c60] at H
                                have c60b0 : decide (t141 ≤ t149) = false := decide_eq_false c60
                                clear c60
                                replace H := Option.bind_eq_some_iff.mp H
                                obtain ⟨t150, A640, H⟩ := H
                                replace H : (some t150) = some r := H
                                have A64 := Aside0.mk A640
                                clear A640
                                obtain rfl := Option.some.inj H
                                (try (have hw_ : wrap64 ((a0.size : Int) - 3) = ((a0.size : Int) - 3) := (by unfold wrap64; omega); have c40b0u := c40b0; rw [hw_] at c40b0u))
                                (try (have hw_ : wrap64 ((a0.size : Int) - 3) = ((a0.size : Int) - 3) := (by unfold wrap64; omega); have c57b0u := c57b0; rw [hw_] at c57b0u))
                                go_wp2_with (first | ((with_reducible refine gate_callee (f := 17) rfl ?_); refine goesL_ (some 70) rfl rfl Try.func17 (by kernel_rfl) rfl #[.string (a0.extract 0 (t141 : Int).toNat)] rfl (by (try simp only [List.map_toArray, List.map_cons, List.map_nil]); first | done | rfl | (simp only [List.length_drop, List.length_take]; rfl)) ?_; (with_reducible refine (utf_May.calls (a0.extract 0 (t141 : Int).toNat) true _ A36.out).mono ?_); rintro e w65 ⟨rfl, hb⟩; refine ⟨_, rfl, ?_⟩; have n0_ := Aside0.mk (below_step (by repeat (first | (with_reducible first | exact HB.out | apply below_alloc | apply pw_below_drewN | apply below_drew1) | exact HB.out)) hb); clear HB; have HB := n0_; clear n0_; (try clear hb); (try clear hb2); (try clear hk); (try clear hi)) | (go_at_call 17; (with_reducible refine (utf_May.calls a0 false _ A38.out).mono ?_); rintro e w66 ⟨rfl, hb⟩; have n0_ := Aside0.mk (below_step (by repeat (first | (with_reducible first | exact HB.out | apply below_alloc | apply pw_below_drewN | apply below_drew1) | exact HB.out)) hb); clear HB; have HB := n0_; clear n0_; (try clear hb); (try clear hb2); (try clear hk); (try clear hi)) | (go_at_call 15; (with_reducible refine (utf_Bad.calls (a0 ++ a1) t149 _ A59.out).mono ?_); rintro e w67 ⟨rfl, hb⟩; have n0_ := Aside0.mk (below_step (by repeat (first | (with_reducible first | exact HB.out | apply below_alloc | apply pw_below_drewN | apply below_drew1) | exact HB.out)) hb); clear HB; have HB := n0_; clear n0_; (try clear hb); (try clear hb2); (try clear hk); (try clear hi)) | (go_at_call 17; (with_reducible refine (utf_May.calls (a0 ++ a1) t150 _ A64.out).mono ?_); rintro e w68 ⟨rfl, hb⟩; have n0_ := Aside0.mk (below_step (by repeat (first | (with_reducible first | exact HB.out | apply below_alloc | apply pw_below_drewN | apply below_drew1) | exact HB.out)) hb); clear HB; have HB := n0_; clear n0_; (try clear hb); (try clear hb2); (try clear hk); (try clear hi)))
                                go_ret
                                exact ⟨by first | rfl | (simp [errW_none, errW_some] <;> rfl) | (simp [*, errW_none, errW_some] <;> rfl), by repeat (first | (with_reducible first | exact HB.out | apply below_alloc | apply pw_below_drewN | apply below_drew1) | exact HB.out)⟩
                            · rw [if_neg c58] at H
                              exact absurd H (by simp)
                          · rw [if_neg c57] at H
                            have c57b0 : decide ((wrap64 ((a0.size : Int) - 3)) ≤ t141) = false := decide_eq_false c57
                            clear c57
                            exact absurd H (by have h_ := HT_.out; subst h_; decide)
                    · replace c37 := Bool.eq_false_iff.mpr c37
                      subst c37
                      have H1 : (some false) = some r := by rw [if_neg (show ¬ (false = true) by decide)] at H; exact H
                      clear H
                      have H := H1
                      clear H1
                      exact absurd H (by have h_ := HT_.out; subst h_; decide)
                  · rw [if_neg c35] at H
                    exact absurd H (by simp)
                · rw [if_neg c34] at H
                  exact absurd H (by simp)

/-- The pure statement of copperplatelaw02_UtfParts. -/
def copperplatelaw02_UtfParts.Pure : Prop := ∀ (a0 : ByteArray) (a1 : ByteArray), a0.size ≤ 140737488351232 → a1.size ≤ 140737488351232 → ∃ k, copperplatelaw02_UtfParts.f k a0 a1 = some true
def copperplatelaw02_UtfParts.PureUp : Prop := ∀ (a0 : ByteArray) (a1 : ByteArray), a0.size ≤ 140737488351232 → a1.size ≤ 140737488351232 → a0.size + a1.size ≤ 1048576 → ∃ k, copperplatelaw02_UtfParts.f k a0 a1 = some true

/-! ### copperplatelaw02_UtfOne: function 6 -/
mutual
def copperplatelaw02_UtfOne.j0 : Nat → Int → ByteArray → Bool → Bool → Option (Bool)
  | 0, _, _, _, _ => none
  | k + 1, x0, x1, x5, x16 => if x16 = true then (some x5) else ((some (([x0] : List Int) : List Int)).bind fun y152 => (if (strOfNums y152).size + x1.size ≤ 9223372036854775807 then ((utf_Next.f ((strOfNums y152) ++ x1) 0).bind fun bt155 => (if x0 = 9 then (copperplatelaw02_UtfOne.j1 k x0 bt155.1 bt155.2 true) else (if x0 = 10 then (copperplatelaw02_UtfOne.j1 k x0 bt155.1 bt155.2 true) else (if x0 = 13 then (copperplatelaw02_UtfOne.j1 k x0 bt155.1 bt155.2 true) else (if x0 ≥ 32 then (copperplatelaw02_UtfOne.j1 k x0 bt155.1 bt155.2 (decide (x0 < 128))) else (copperplatelaw02_UtfOne.j1 k x0 bt155.1 bt155.2 false)))))) else (none)))
def copperplatelaw02_UtfOne.j1 : Nat → Int → Int → Int → Bool → Option (Bool)
  | 0, _, _, _, _ => none
  | k + 1, x0, x6, x7, x8 => if x8 = true then (if x6 = (wrap64 (x0)) then (some (x7 == 1)) else (some false)) else (if x0 < 128 then (if x6 = 0 then (some (x7 == 0)) else (some false)) else (if x0 < 194 then (if x6 = 0 then (some (x7 == 0)) else (some false)) else (if x0 > 244 then (if x6 = 0 then (some (x7 == 0)) else (some false)) else (if x7 = 0 then (if x6 = 0 then (some true) else (if x7 ≥ 2 then (if x7 ≤ 4 then (some (decide (x6 ≥ 128))) else (some false)) else (some false))) else (if x7 ≥ 2 then (if x7 ≤ 4 then (some (decide (x6 ≥ 128))) else (some false)) else (some false))))))
end
def copperplatelaw02_UtfOne.f (k : Nat) (a0 : Int) (a1 : ByteArray) : Option (Bool) := (copperplatelaw02_awake.f).bind fun t151 => (if t151 = true then (copperplatelaw02_UtfOne.j0 k a0 a1 t151 (decide ((a1.size : Int) > 600))) else (copperplatelaw02_UtfOne.j0 k a0 a1 t151 true))
theorem copperplatelaw02_UtfOne.mono_l : ∀ k, (∀ y0 y1 y2 y3, LeO (copperplatelaw02_UtfOne.j0 k y0 y1 y2 y3) (copperplatelaw02_UtfOne.j0 (k + 1) y0 y1 y2 y3)) ∧ (∀ y0 y1 y2 y3, LeO (copperplatelaw02_UtfOne.j1 k y0 y1 y2 y3) (copperplatelaw02_UtfOne.j1 (k + 1) y0 y1 y2 y3))
  | 0 => ⟨fun _ _ _ _ r h => by simp [copperplatelaw02_UtfOne.j0] at h, fun _ _ _ _ r h => by simp [copperplatelaw02_UtfOne.j1] at h⟩
  | k + 1 => by
    obtain ⟨ih0, ih1⟩ := copperplatelaw02_UtfOne.mono_l k
    refine ⟨?_, ?_⟩
    · intro y0 y1 y2 y3
      unfold copperplatelaw02_UtfOne.j0
      repeat' first
      | (with_reducible exact ih0 _ _ _ _)
      | (with_reducible exact ih1 _ _ _ _)
      | (with_reducible exact LeO.refl _)
      | (with_reducible exact LeO.none _)
      | (with_reducible refine LeO.ite ?_ ?_)
      | (with_reducible refine LeO.bind ?_ (fun _ => ?_))
      | exact ih0 _ _ _ _
      | exact ih1 _ _ _ _
      | exact LeO.none _
      | refine LeO.ite ?_ ?_
      | refine LeO.bind ?_ (fun _ => ?_)
    · intro y0 y1 y2 y3
      unfold copperplatelaw02_UtfOne.j1
      repeat' first
      | (with_reducible exact ih0 _ _ _ _)
      | (with_reducible exact ih1 _ _ _ _)
      | (with_reducible exact LeO.refl _)
      | (with_reducible exact LeO.none _)
      | (with_reducible refine LeO.ite ?_ ?_)
      | (with_reducible refine LeO.bind ?_ (fun _ => ?_))
      | exact ih0 _ _ _ _
      | exact ih1 _ _ _ _
      | exact LeO.none _
      | refine LeO.ite ?_ ?_
      | refine LeO.bind ?_ (fun _ => ?_)
theorem copperplatelaw02_UtfOne.mono : ∀ a0 a1 k, LeO (copperplatelaw02_UtfOne.f k a0 a1) (copperplatelaw02_UtfOne.f (k + 1) a0 a1) := by
  intro a0 a1 k
  obtain ⟨ih0, ih1⟩ := copperplatelaw02_UtfOne.mono_l k
  unfold copperplatelaw02_UtfOne.f
  repeat' first
      | (with_reducible exact ih0 _ _ _ _)
      | (with_reducible exact ih1 _ _ _ _)
      | (with_reducible exact LeO.refl _)
      | (with_reducible exact LeO.none _)
      | (with_reducible refine LeO.ite ?_ ?_)
      | (with_reducible refine LeO.bind ?_ (fun _ => ?_))
      | exact ih0 _ _ _ _
      | exact ih1 _ _ _ _
      | exact LeO.none _
      | refine LeO.ite ?_ ?_
      | refine LeO.bind ?_ (fun _ => ?_)
set_option maxHeartbeats 8000000 in
set_option maxRecDepth 100000 in
theorem copperplatelaw02_UtfOne.calls (k : Nat) (a0 : Int) (a1 : ByteArray) (r : Bool) (w : World) (h : copperplatelaw02_UtfOne.f k a0 a1 = some r) (hT_ : r = true) :
    Calls Try.prog 6 #[.int .u8 a0, .string a1] w fun e w' => e = .returned (.bool r) ∧ Below w.heap.size w w' := by
  have HT_ := Aside0.mk hT_
  clear hT_
  have HB := Aside0.mk (Below.refl w.heap.size w)
  have H : ((copperplatelaw02_awake.f).bind fun t151 => (if t151 = true then (copperplatelaw02_UtfOne.j0 k a0 a1 t151 (decide ((a1.size : Int) > 600))) else (copperplatelaw02_UtfOne.j0 k a0 a1 t151 true))) = some r := h
  clear h
  replace H := Option.bind_eq_some_iff.mp H
  obtain ⟨t151, A30, H⟩ := H
  replace H : (if t151 = true then (copperplatelaw02_UtfOne.j0 k a0 a1 t151 (decide ((a1.size : Int) > 600))) else (copperplatelaw02_UtfOne.j0 k a0 a1 t151 true)) = some r := H
  have A3 := Aside0.mk A30
  clear A30
  have HC4 := Aside0.mk H
  clear H
  go_enter Try.func6, Try.ntmps6
  go_upto_region 2 with (first | ((with_reducible refine gate_callee (f := 9) rfl ?_); refine goesL_ (some 9) rfl rfl Try.func9 (by kernel_rfl) rfl #[] rfl (by (try simp only [List.map_toArray, List.map_cons, List.map_nil]); first | done | rfl | (simp only [List.length_drop, List.length_take]; rfl)) ?_; (with_reducible refine (copperplatelaw02_awake.calls  t151 _ A3.out).mono ?_); rintro e w5 ⟨rfl, hb⟩; refine ⟨_, rfl, ?_⟩; have n0_ := Aside0.mk (below_step (by repeat (first | (with_reducible first | exact HB.out | apply below_alloc | apply pw_below_drewN | apply below_drew1) | exact HB.out)) hb); clear HB; have HB := n0_; clear n0_; (try clear hb); (try clear hb2); (try clear hk); (try clear hi)))
  (try simp only [Act.put, List.setIfInBounds_toArray, List.set_cons_zero, List.set_cons_succ])
  go_cut [16] (fun v16 wc => ∃ (kq : Nat) (x16_3 : Bool), v16 = .bool x16_3 ∧ Aside0 (copperplatelaw02_UtfOne.j0 kq a0 a1 t151 x16_3 = some r) ∧ Aside0 (kq ≤ k) ∧ Aside0 (Below w.heap.size w wc))
  case first =>
    have H := HC4.out
    clear HC4
    by_cases c6 : t151 = true
    · subst c6
      have H1 : (copperplatelaw02_UtfOne.j0 k a0 a1 true (decide ((a1.size : Int) > 600))) = some r := by rw [if_pos rfl] at H; exact H
      clear H
      have H := H1
      clear H1
      have H' := Aside0.mk H
      clear H
      go_wp2
      go_meet
      case rel => exact ⟨_, (decide ((a1.size : Int) > 600)), (by first | rfl | (simp; done) | (simp [*]; done)), H', ⟨by first | omega | exact Nat.le_refl _⟩, ⟨by repeat (first | (with_reducible first | exact HB.out | apply below_alloc | apply pw_below_drewN | apply below_drew1) | exact HB.out)⟩⟩
    · replace c6 := Bool.eq_false_iff.mpr c6
      subst c6
      have H1 : (copperplatelaw02_UtfOne.j0 k a0 a1 false true) = some r := by rw [if_neg (show ¬ (false = true) by decide)] at H; exact H
      clear H
      have H := H1
      clear H1
      have H' := Aside0.mk H
      clear H
      go_wp2
      go_meet
      case rel => exact ⟨_, (true), (by first | rfl | (simp; done) | (simp [*]; done)), H', ⟨by first | omega | exact Nat.le_refl _⟩, ⟨by repeat (first | (with_reducible first | exact HB.out | apply below_alloc | apply pw_below_drewN | apply below_drew1) | exact HB.out)⟩⟩
  case rest =>
    clear HC4
    try clear p2
    try clear c6
    obtain ⟨kq, x16_3, rfl, HA, HJ3, HB⟩ := hcut
    cases kq with
    | zero => exact absurd HA.out (by simp [copperplatelaw02_UtfOne.j0])
    | succ kj3 =>
      have H := HA.out
      clear HA
      simp only [copperplatelaw02_UtfOne.j0] at H
      by_cases c7 : x16_3 = true
      · subst c7
        have H1 : (some t151) = some r := by rw [if_pos rfl] at H; exact H
        clear H
        have H := H1
        clear H1
        obtain rfl := Option.some.inj H
        go_wp2
        go_ret
        exact ⟨by first | rfl | (simp [errW_none, errW_some] <;> rfl) | (simp [*, errW_none, errW_some] <;> rfl), by repeat (first | (with_reducible first | exact HB.out | apply below_alloc | apply pw_below_drewN | apply below_drew1) | exact HB.out)⟩
      · replace c7 := Bool.eq_false_iff.mpr c7
        subst c7
        have H1 : ((some (([a0] : List Int) : List Int)).bind fun y152 => (if (strOfNums y152).size + a1.size ≤ 9223372036854775807 then ((utf_Next.f ((strOfNums y152) ++ a1) 0).bind fun bt155 => (if a0 = 9 then (copperplatelaw02_UtfOne.j1 kj3 a0 bt155.1 bt155.2 true) else (if a0 = 10 then (copperplatelaw02_UtfOne.j1 kj3 a0 bt155.1 bt155.2 true) else (if a0 = 13 then (copperplatelaw02_UtfOne.j1 kj3 a0 bt155.1 bt155.2 true) else (if a0 ≥ 32 then (copperplatelaw02_UtfOne.j1 kj3 a0 bt155.1 bt155.2 (decide (a0 < 128))) else (copperplatelaw02_UtfOne.j1 kj3 a0 bt155.1 bt155.2 false)))))) else (none))) = some r := by rw [if_neg (show ¬ (false = true) by decide)] at H; exact H
        clear H
        have H := H1
        clear H1
        obtain ⟨y152, hy152⟩ : ∃ y_ : List Int, y_ = (([a0] : List Int)) := ⟨_, rfl⟩
        replace H : (if (strOfNums y152).size + a1.size ≤ 9223372036854775807 then ((utf_Next.f ((strOfNums y152) ++ a1) 0).bind fun bt155 => (if a0 = 9 then (copperplatelaw02_UtfOne.j1 kj3 a0 bt155.1 bt155.2 true) else (if a0 = 10 then (copperplatelaw02_UtfOne.j1 kj3 a0 bt155.1 bt155.2 true) else (if a0 = 13 then (copperplatelaw02_UtfOne.j1 kj3 a0 bt155.1 bt155.2 true) else (if a0 ≥ 32 then (copperplatelaw02_UtfOne.j1 kj3 a0 bt155.1 bt155.2 (decide (a0 < 128))) else (copperplatelaw02_UtfOne.j1 kj3 a0 bt155.1 bt155.2 false)))))) else (none)) = some r := by first | (rw [hy152]; with_reducible exact H) | (have H2_ := (Option.bind_some _ _).symm.trans H; rw [hy152]; with_reducible exact H2_) | (have H2_ := (Option.bind_some _ _).symm.trans H; with_reducible exact H2_) | with_reducible exact H | (rw [hy152]; exact H) | exact H
        have Ny152 := Aside0.mk hy152
        clear hy152
        by_cases c8 : (strOfNums y152).size + a1.size ≤ 9223372036854775807
        · rw [if_pos c8] at H
          have c8b0 := eq_true c8
          have c8b1 : decide ((strOfNums y152).size + a1.size ≤ 9223372036854775807) = true := decide_eq_true c8
          try have c8b2 : (9223372036854775807 < (strOfNums y152).size + a1.size) = False := eq_false (Nat.not_lt.2 c8)
          replace H := Option.bind_eq_some_iff.mp H
          obtain ⟨⟨t155, t156⟩, A90, H⟩ := H
          replace H : (if a0 = 9 then (copperplatelaw02_UtfOne.j1 kj3 a0 t155 t156 true) else (if a0 = 10 then (copperplatelaw02_UtfOne.j1 kj3 a0 t155 t156 true) else (if a0 = 13 then (copperplatelaw02_UtfOne.j1 kj3 a0 t155 t156 true) else (if a0 ≥ 32 then (copperplatelaw02_UtfOne.j1 kj3 a0 t155 t156 (decide (a0 < 128))) else (copperplatelaw02_UtfOne.j1 kj3 a0 t155 t156 false))))) = some r := H
          have A9 := Aside0.mk A90
          clear A90
          have HC10 := Aside0.mk H
          clear H
          go_upto_region 5 with (first | ((with_reducible refine gate_dst (N := 20) rfl ?_); (try (refine gate_guard (by rfl) ?_; dsimp only)); refine Kd.R_lit (Kd.int .u8) _ 5 ?hg (N := 20) ?hd (xs := ([a0] : List Int)) (inner := [.int .u8 a0]) (ok := fun _ => True) (okp := fun _ => True) ?hr ?hp (fun _ hk => hk) trivial (Below.refl _ _) (Nat.le_refl _) (by simp) ?_; (case hd => rfl); (case hg => rfl); (case hr => first | (go_simp; done) | (go_simp; rfl)); (case hp => exact (Reps.one (show Kd.M (Kd.int .u8) _ _ _ a0 [.int .u8 a0] from rfl) (Reps.none _ _))); intro v153 w11 ho12 hb hg_ hnew_; clear hg_ hnew_; (first | rw [← Ny152.out] at ho12 | (simp only [Int.reduceToNat] at ho12; rw [← Ny152.out] at ho12)); have n0_ := Aside0.mk (Kd.R_lower ho12 (below_size (by repeat (first | (with_reducible first | exact HB.out | apply below_alloc | apply pw_below_drewN | apply below_drew1) | exact HB.out)))); have n1_ := Aside0.mk (below_step (by repeat (first | (with_reducible first | exact HB.out | apply below_alloc | apply pw_below_drewN | apply below_drew1) | exact HB.out)) hb); clear HB; have HO154 := n0_; have HB := n1_; clear n0_ n1_; clear hb ho12; have hcv13 := own_string (P := Try.prog) Try.underlying31 Try.underlying5 Try.underlying9 (Kd.own_of_R HO154.out)) | ((with_reducible refine gate_callee (f := 10) rfl ?_); refine goesL_ (some 24) rfl rfl Try.func10 (by kernel_rfl) rfl #[.string ((strOfNums y152) ++ a1), .int .i64 0] rfl (by (try simp only [List.map_toArray, List.map_cons, List.map_nil]); first | done | rfl | (simp only [List.length_drop, List.length_take]; rfl)) ?_; (with_reducible refine (utf_Next.calls ((strOfNums y152) ++ a1) 0 t155 t156 _ A9.out).mono ?_); rintro e w14 ⟨rfl, hb⟩; refine ⟨_, rfl, ?_⟩; have n0_ := Aside0.mk (Kd.R_below (by (with_reducible repeat (first | apply Kd.R_alloc | apply Kd.R_drewN | apply Kd.R_drew)); exact HO154.out) hb); have n1_ := Aside0.mk (below_step (by repeat (first | (with_reducible first | exact HB.out | apply below_alloc | apply pw_below_drewN | apply below_drew1) | exact HB.out)) hb); clear HO154; clear HB; have HO154 := n0_; have HB := n1_; clear n0_ n1_; (try clear hb); (try clear hb2); (try clear hk); (try clear hi)))
          (try simp only [Act.put, List.setIfInBounds_toArray, List.set_cons_zero, List.set_cons_succ])
          go_cut [8] (fun v8 wc => ∃ (kq : Nat) (x8_9 : Bool), v8 = .bool x8_9 ∧ Aside0 (copperplatelaw02_UtfOne.j1 kq a0 t155 t156 x8_9 = some r) ∧ Aside0 (kq ≤ kj3) ∧ Aside0 (Below w.heap.size w wc))
          case first =>
            have H := HC10.out
            clear HC10
            by_cases c15 : a0 = 9
            · rw [if_pos c15] at H
              have c15b0 : (a0 == 9) = true := beq_iff_eq.mpr c15
              have c15b1 : (a0 != 9) = false := bne_eq_false_iff_eq.mpr c15
              clear c15
              (first | rw [c15b0] | (simp only [i64_w, i32_w]; rw [c15b0]) | skip)
              have H' := Aside0.mk H
              clear H
              go_wp2
              go_meet
              case rel => exact ⟨_, (true), (by first | rfl | (simp; done) | (simp [*]; done)), H', ⟨by have := HJ3.out; first | omega | exact Nat.le_refl _⟩, ⟨by repeat (first | (with_reducible first | exact HB.out | apply below_alloc | apply pw_below_drewN | apply below_drew1) | exact HB.out)⟩⟩
            · rw [if_neg c15] at H
              have c15b0 : (a0 == 9) = false := beq_eq_false_iff_ne.mpr c15
              have c15b1 : (a0 != 9) = true := bne_iff_ne.mpr c15
              (first | rw [c15b0] | (simp only [i64_w, i32_w]; rw [c15b0]) | skip)
              by_cases c16 : a0 = 10
              · rw [if_pos c16] at H
                have c16b0 : (a0 == 10) = true := beq_iff_eq.mpr c16
                have c16b1 : (a0 != 10) = false := bne_eq_false_iff_eq.mpr c16
                clear c16
                have H' := Aside0.mk H
                clear H
                go_wp2
                go_meet
                case rel => exact ⟨_, (true), (by first | rfl | (simp; done) | (simp [*]; done)), H', ⟨by have := HJ3.out; first | omega | exact Nat.le_refl _⟩, ⟨by repeat (first | (with_reducible first | exact HB.out | apply below_alloc | apply pw_below_drewN | apply below_drew1) | exact HB.out)⟩⟩
              · rw [if_neg c16] at H
                have c16b0 : (a0 == 10) = false := beq_eq_false_iff_ne.mpr c16
                have c16b1 : (a0 != 10) = true := bne_iff_ne.mpr c16
                by_cases c17 : a0 = 13
                · rw [if_pos c17] at H
                  have c17b0 : (a0 == 13) = true := beq_iff_eq.mpr c17
                  have c17b1 : (a0 != 13) = false := bne_eq_false_iff_eq.mpr c17
                  clear c17
                  have H' := Aside0.mk H
                  clear H
                  go_wp2
                  go_meet
                  case rel => exact ⟨_, (true), (by first | rfl | (simp; done) | (simp [*]; done)), H', ⟨by have := HJ3.out; first | omega | exact Nat.le_refl _⟩, ⟨by repeat (first | (with_reducible first | exact HB.out | apply below_alloc | apply pw_below_drewN | apply below_drew1) | exact HB.out)⟩⟩
                · rw [if_neg c17] at H
                  have c17b0 : (a0 == 13) = false := beq_eq_false_iff_ne.mpr c17
                  have c17b1 : (a0 != 13) = true := bne_iff_ne.mpr c17
                  by_cases c18 : a0 ≥ 32
                  · rw [if_pos c18] at H
                    have c18b0 : decide (32 ≤ a0) = true := decide_eq_true c18
                    clear c18
                    have H' := Aside0.mk H
                    clear H
                    go_wp2
                    go_meet
                    case rel => exact ⟨_, (decide (a0 < 128)), (by first | rfl | (simp; done) | (simp [*]; done)), H', ⟨by have := HJ3.out; first | omega | exact Nat.le_refl _⟩, ⟨by repeat (first | (with_reducible first | exact HB.out | apply below_alloc | apply pw_below_drewN | apply below_drew1) | exact HB.out)⟩⟩
                  · rw [if_neg c18] at H
                    have c18b0 : decide (32 ≤ a0) = false := decide_eq_false c18
                    clear c18
                    have H' := Aside0.mk H
                    clear H
                    go_wp2
                    go_meet
                    case rel => exact ⟨_, (false), (by first | rfl | (simp; done) | (simp [*]; done)), H', ⟨by have := HJ3.out; first | omega | exact Nat.le_refl _⟩, ⟨by repeat (first | (with_reducible first | exact HB.out | apply below_alloc | apply pw_below_drewN | apply below_drew1) | exact HB.out)⟩⟩
          case rest =>
            clear HC10
            try clear c1
            try clear hcv1
            try clear p2
            try clear c6
            try clear c7
            try clear c8
            try clear c8b0
            try clear c8b1
            try clear c8b2
            try clear c9
            try clear c10
            try clear hcv13
            try clear c15
            try clear c15b0
            try clear c15b1
            try clear c16
            try clear c16b0
            try clear c16b1
            try clear c17
            try clear c17b0
            try clear c17b1
            try clear c18
            try clear c18b0
            try clear p2
            obtain ⟨kq, x8_9, rfl, HA, HJ9, HB⟩ := hcut
            cases kq with
            | zero => exact absurd HA.out (by simp [copperplatelaw02_UtfOne.j1])
            | succ kj9 =>
              have H := HA.out
              clear HA
              simp only [copperplatelaw02_UtfOne.j1] at H
              by_cases c19 : x8_9 = true
              · subst c19
                have H1 : (if t155 = (wrap64 (a0)) then (some (t156 == 1)) else (some false)) = some r := by rw [if_pos rfl] at H; exact H
                clear H
                have H := H1
                clear H1
                by_cases c20 : t155 = (wrap64 (a0))
                · rw [if_pos c20] at H
                  have c20b0 : (t155 == (wrap64 (a0))) = true := beq_iff_eq.mpr c20
                  have c20b1 : (t155 != (wrap64 (a0))) = false := bne_eq_false_iff_eq.mpr c20
                  clear c20
                  obtain rfl := Option.some.inj H
                  (try (have hw_ : wrap64 (a0) = (a0) := (by unfold wrap64; omega); have c20b0u := c20b0; rw [hw_] at c20b0u))
                  (try (have hw_ : wrap64 (a0) = (a0) := (by unfold wrap64; omega); have c20b1u := c20b1; rw [hw_] at c20b1u))
                  go_wp2
                  go_ret
                  exact ⟨by first | rfl | (simp [errW_none, errW_some] <;> rfl) | (simp [*, errW_none, errW_some] <;> rfl), by repeat (first | (with_reducible first | exact HB.out | apply below_alloc | apply pw_below_drewN | apply below_drew1) | exact HB.out)⟩
                · rw [if_neg c20] at H
                  have c20b0 : (t155 == (wrap64 (a0))) = false := beq_eq_false_iff_ne.mpr c20
                  have c20b1 : (t155 != (wrap64 (a0))) = true := bne_iff_ne.mpr c20
                  exact absurd H (by have h_ := HT_.out; subst h_; decide)
              · replace c19 := Bool.eq_false_iff.mpr c19
                subst c19
                have H1 : (if a0 < 128 then (if t155 = 0 then (some (t156 == 0)) else (some false)) else (if a0 < 194 then (if t155 = 0 then (some (t156 == 0)) else (some false)) else (if a0 > 244 then (if t155 = 0 then (some (t156 == 0)) else (some false)) else (if t156 = 0 then (if t155 = 0 then (some true) else (if t156 ≥ 2 then (if t156 ≤ 4 then (some (decide (t155 ≥ 128))) else (some false)) else (some false))) else (if t156 ≥ 2 then (if t156 ≤ 4 then (some (decide (t155 ≥ 128))) else (some false)) else (some false)))))) = some r := by rw [if_neg (show ¬ (false = true) by decide)] at H; exact H
                clear H
                have H := H1
                clear H1
                by_cases c21 : a0 < 128
                · rw [if_pos c21] at H
                  have c21b0 : decide (a0 < 128) = true := decide_eq_true c21
                  clear c21
                  by_cases c22 : t155 = 0
                  · rw [if_pos c22] at H
                    have c22b0 : (t155 == 0) = true := beq_iff_eq.mpr c22
                    have c22b1 : (t155 != 0) = false := bne_eq_false_iff_eq.mpr c22
                    clear c22
                    obtain rfl := Option.some.inj H
                    go_wp2
                    go_ret
                    exact ⟨by first | rfl | (simp [errW_none, errW_some] <;> rfl) | (simp [*, errW_none, errW_some] <;> rfl), by repeat (first | (with_reducible first | exact HB.out | apply below_alloc | apply pw_below_drewN | apply below_drew1) | exact HB.out)⟩
                  · rw [if_neg c22] at H
                    have c22b0 : (t155 == 0) = false := beq_eq_false_iff_ne.mpr c22
                    have c22b1 : (t155 != 0) = true := bne_iff_ne.mpr c22
                    exact absurd H (by have h_ := HT_.out; subst h_; decide)
                · rw [if_neg c21] at H
                  have c21b0 : decide (a0 < 128) = false := decide_eq_false c21
                  clear c21
                  by_cases c23 : a0 < 194
                  · rw [if_pos c23] at H
                    have c23b0 : decide (a0 < 194) = true := decide_eq_true c23
                    clear c23
                    by_cases c24 : t155 = 0
                    · rw [if_pos c24] at H
                      have c24b0 : (t155 == 0) = true := beq_iff_eq.mpr c24
                      have c24b1 : (t155 != 0) = false := bne_eq_false_iff_eq.mpr c24
                      clear c24
                      obtain rfl := Option.some.inj H
                      go_wp2
                      go_ret
                      exact ⟨by first | rfl | (simp [errW_none, errW_some] <;> rfl) | (simp [*, errW_none, errW_some] <;> rfl), by repeat (first | (with_reducible first | exact HB.out | apply below_alloc | apply pw_below_drewN | apply below_drew1) | exact HB.out)⟩
                    · rw [if_neg c24] at H
                      have c24b0 : (t155 == 0) = false := beq_eq_false_iff_ne.mpr c24
                      have c24b1 : (t155 != 0) = true := bne_iff_ne.mpr c24
                      exact absurd H (by have h_ := HT_.out; subst h_; decide)
                  · rw [if_neg c23] at H
                    have c23b0 : decide (a0 < 194) = false := decide_eq_false c23
                    clear c23
                    by_cases c25 : a0 > 244
                    · rw [if_pos c25] at H
                      have c25b0 : decide (244 < a0) = true := decide_eq_true c25
                      clear c25
                      by_cases c26 : t155 = 0
                      · rw [if_pos c26] at H
                        have c26b0 : (t155 == 0) = true := beq_iff_eq.mpr c26
                        have c26b1 : (t155 != 0) = false := bne_eq_false_iff_eq.mpr c26
                        clear c26
                        obtain rfl := Option.some.inj H
                        go_wp2
                        go_ret
                        exact ⟨by first | rfl | (simp [errW_none, errW_some] <;> rfl) | (simp [*, errW_none, errW_some] <;> rfl), by repeat (first | (with_reducible first | exact HB.out | apply below_alloc | apply pw_below_drewN | apply below_drew1) | exact HB.out)⟩
                      · rw [if_neg c26] at H
                        have c26b0 : (t155 == 0) = false := beq_eq_false_iff_ne.mpr c26
                        have c26b1 : (t155 != 0) = true := bne_iff_ne.mpr c26
                        exact absurd H (by have h_ := HT_.out; subst h_; decide)
                    · rw [if_neg c25] at H
                      have c25b0 : decide (244 < a0) = false := decide_eq_false c25
                      clear c25
                      by_cases c27 : t156 = 0
                      · rw [if_pos c27] at H
                        have c27b0 : (t156 == 0) = true := beq_iff_eq.mpr c27
                        have c27b1 : (t156 != 0) = false := bne_eq_false_iff_eq.mpr c27
                        clear c27
                        by_cases c28 : t155 = 0
                        · rw [if_pos c28] at H
                          have c28b0 : (t155 == 0) = true := beq_iff_eq.mpr c28
                          have c28b1 : (t155 != 0) = false := bne_eq_false_iff_eq.mpr c28
                          clear c28
                          obtain rfl := Option.some.inj H
                          go_wp2
                          go_ret
                          exact ⟨by first | rfl | (simp [errW_none, errW_some] <;> rfl) | (simp [*, errW_none, errW_some] <;> rfl), by repeat (first | (with_reducible first | exact HB.out | apply below_alloc | apply pw_below_drewN | apply below_drew1) | exact HB.out)⟩
                        · rw [if_neg c28] at H
                          have c28b0 : (t155 == 0) = false := beq_eq_false_iff_ne.mpr c28
                          have c28b1 : (t155 != 0) = true := bne_iff_ne.mpr c28
                          by_cases c29 : t156 ≥ 2
                          · rw [if_pos c29] at H
                            have c29b0 : decide (2 ≤ t156) = true := decide_eq_true c29
                            clear c29
                            by_cases c30 : t156 ≤ 4
                            · rw [if_pos c30] at H
                              have c30b0 : decide (t156 ≤ 4) = true := decide_eq_true c30
                              clear c30
                              obtain rfl := Option.some.inj H
                              go_wp2
                              go_ret
                              exact ⟨by first | rfl | (simp [errW_none, errW_some] <;> rfl) | (simp [*, errW_none, errW_some] <;> rfl), by repeat (first | (with_reducible first | exact HB.out | apply below_alloc | apply pw_below_drewN | apply below_drew1) | exact HB.out)⟩
                            · rw [if_neg c30] at H
                              have c30b0 : decide (t156 ≤ 4) = false := decide_eq_false c30
                              clear c30
                              exact absurd H (by have h_ := HT_.out; subst h_; decide)
                          · rw [if_neg c29] at H
                            have c29b0 : decide (2 ≤ t156) = false := decide_eq_false c29
                            clear c29
                            exact absurd H (by have h_ := HT_.out; subst h_; decide)
                      · rw [if_neg c27] at H
                        have c27b0 : (t156 == 0) = false := beq_eq_false_iff_ne.mpr c27
                        have c27b1 : (t156 != 0) = true := bne_iff_ne.mpr c27
                        by_cases c31 : t156 ≥ 2
                        · rw [if_pos c31] at H
                          have c31b0 : decide (2 ≤ t156) = true := decide_eq_true c31
                          clear c31
                          by_cases c32 : t156 ≤ 4
                          · rw [if_pos c32] at H
                            have c32b0 : decide (t156 ≤ 4) = true := decide_eq_true c32
                            clear c32
                            obtain rfl := Option.some.inj H
                            go_wp2
                            go_ret
                            exact ⟨by first | rfl | (simp [errW_none, errW_some] <;> rfl) | (simp [*, errW_none, errW_some] <;> rfl), by repeat (first | (with_reducible first | exact HB.out | apply below_alloc | apply pw_below_drewN | apply below_drew1) | exact HB.out)⟩
                          · rw [if_neg c32] at H
                            have c32b0 : decide (t156 ≤ 4) = false := decide_eq_false c32
                            clear c32
                            exact absurd H (by have h_ := HT_.out; subst h_; decide)
                        · rw [if_neg c31] at H
                          have c31b0 : decide (2 ≤ t156) = false := decide_eq_false c31
                          clear c31
                          exact absurd H (by have h_ := HT_.out; subst h_; decide)
        · rw [if_neg c8] at H
          exact absurd H (by simp)

/-- The pure statement of copperplatelaw02_UtfOne. -/
def copperplatelaw02_UtfOne.Pure : Prop := ∀ (a0 : Int) (a1 : ByteArray), (Lit.int .u8 a0).wf = true → a1.size ≤ 140737488351232 → ∃ k, copperplatelaw02_UtfOne.f k a0 a1 = some true
def copperplatelaw02_UtfOne.PureUp : Prop := ∀ (a0 : Int) (a1 : ByteArray), (Lit.int .u8 a0).wf = true → a1.size ≤ 140737488351232 → a1.size ≤ 1048576 → ∃ k, copperplatelaw02_UtfOne.f k a0 a1 = some true

end Go.Proofs.Ytbboehjbfcajdaa.PUtf
