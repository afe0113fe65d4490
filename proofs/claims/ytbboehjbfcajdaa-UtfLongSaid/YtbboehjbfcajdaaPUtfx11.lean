-- Written by a program of the session (drive.py, over the kit's print.py with contracts by hand). Not trusted: Lean checks it.
import Derived.Test.YtbboehjbfcajdaaPUtfx0
import Derived.Test.YtbboehjbfcajdaaHUtfNext
import Derived.Test.YtbboehjbfcajdaaHUtfUtfA
namespace Go.Proofs.Ytbboehjbfcajdaa.PUtf
open Go.RowKit Go.Proofs.YtbboehjbfcajdaaW.PrintWords Go.Proofs.YtbboehjbfcajdaaW.PrintLast Go.Proofs.YtbboehjbfcajdaaW.PrintMore
attribute [local go_sem] max2_int min2_int max_two min_two max_three min_three max_four min_four   -- for this text's walks alone
set_option linter.unusedVariables false
set_option linter.unusedSimpArgs false

/-! ### copperplatelaw02_UtfLong: function 7 -/
mutual
def copperplatelaw02_UtfLong.j0 : Nat → Int → Int → Bool → ByteArray → Bool → Option (Bool)
  | 0, _, _, _, _, _ => none
  | k + 1, x0, x1, x5, x6, x16 => if x16 = true then (some x5) else (if x0 < 65536 then (copperplatelaw02_UtfLong.j1 k x0 x1 x6 3) else (copperplatelaw02_UtfLong.j1 k x0 x1 x6 4))
def copperplatelaw02_UtfLong.j1 : Nat → Int → Int → ByteArray → Int → Option (Bool)
  | 0, _, _, _, _ => none
  | k + 1, x0, x1, x6, x7 => if x0 < 2048 then (if x0 < 128 then (if (x6.size : Int) = 1 then (if x1 < 1 then (if 0 < (x6.size : Int) then (some ((wrap64 (bt x6 0)) == x0)) else (none)) else (if x1 ≥ 1 then (if 0 < (x6.size : Int) then (some ((wrap64 (bt x6 0)) == x0)) else (none)) else (if 0 ≤ x1 then (if x1 < (x6.size : Int) then (if (bt x6 x1) ≥ 128 then (if (bt x6 x1) < 192 then (if 0 < (x6.size : Int) then (some ((wrap64 (bt x6 0)) == x0)) else (none)) else (some false)) else (some false)) else (none)) else (none)))) else (some false)) else (if (x6.size : Int) = 2 then (if x1 < 1 then (if 0 < (x6.size : Int) then (if (bt x6 0) ≥ 192 then (some true) else (some false)) else (none)) else (if x1 ≥ 2 then (if 0 < (x6.size : Int) then (if (bt x6 0) ≥ 192 then (some true) else (some false)) else (none)) else (if 0 ≤ x1 then (if x1 < (x6.size : Int) then (if (bt x6 x1) ≥ 128 then (if (bt x6 x1) < 192 then (if 0 < (x6.size : Int) then (if (bt x6 0) ≥ 192 then (some true) else (some false)) else (none)) else (some false)) else (some false)) else (none)) else (none)))) else (some false))) else (if x0 < 128 then (if (x6.size : Int) = 1 then (if x1 < 1 then (if 0 < (x6.size : Int) then (some ((wrap64 (bt x6 0)) == x0)) else (none)) else (if x1 ≥ 1 then (if 0 < (x6.size : Int) then (some ((wrap64 (bt x6 0)) == x0)) else (none)) else (if 0 ≤ x1 then (if x1 < (x6.size : Int) then (if (bt x6 x1) ≥ 128 then (if (bt x6 x1) < 192 then (if 0 < (x6.size : Int) then (some ((wrap64 (bt x6 0)) == x0)) else (none)) else (some false)) else (some false)) else (none)) else (none)))) else (some false)) else (if (x6.size : Int) = x7 then (if x1 < 1 then (if x7 = 1 then (if x7 > 1 then (some true) else (if 0 < (x6.size : Int) then (some ((wrap64 (bt x6 0)) == x0)) else (none))) else (if 0 < (x6.size : Int) then (if (bt x6 0) ≥ 192 then (if x7 > 1 then (some true) else (some ((wrap64 (bt x6 0)) == x0))) else (some false)) else (none))) else (if x1 ≥ x7 then (if x7 = 1 then (if x7 > 1 then (some true) else (if 0 < (x6.size : Int) then (some ((wrap64 (bt x6 0)) == x0)) else (none))) else (if 0 < (x6.size : Int) then (if (bt x6 0) ≥ 192 then (if x7 > 1 then (some true) else (some ((wrap64 (bt x6 0)) == x0))) else (some false)) else (none))) else (if 0 ≤ x1 then (if x1 < (x6.size : Int) then (if (bt x6 x1) ≥ 128 then (if (bt x6 x1) < 192 then (if x7 = 1 then (if x7 > 1 then (some true) else (if 0 < (x6.size : Int) then (some ((wrap64 (bt x6 0)) == x0)) else (none))) else (if 0 < (x6.size : Int) then (if (bt x6 0) ≥ 192 then (if x7 > 1 then (some true) else (some ((wrap64 (bt x6 0)) == x0))) else (some false)) else (none))) else (some false)) else (some false)) else (none)) else (none)))) else (some false)))
end
def copperplatelaw02_UtfLong.f (k : Nat) (a0 : Int) (a1 : Int) : Option (Bool) := (copperplatelaw02_awake.f).bind fun t157 => ((utf_Put.f a0).bind fun t158 => (if t157 = true then (copperplatelaw02_UtfLong.j0 k a0 a1 t157 t158 (t158.toList == ([] : List UInt8))) else (copperplatelaw02_UtfLong.j0 k a0 a1 t157 t158 true)))
theorem copperplatelaw02_UtfLong.mono_l : ∀ k, (∀ y0 y1 y2 y3 y4, LeO (copperplatelaw02_UtfLong.j0 k y0 y1 y2 y3 y4) (copperplatelaw02_UtfLong.j0 (k + 1) y0 y1 y2 y3 y4)) ∧ (∀ y0 y1 y2 y3, LeO (copperplatelaw02_UtfLong.j1 k y0 y1 y2 y3) (copperplatelaw02_UtfLong.j1 (k + 1) y0 y1 y2 y3))
  | 0 => ⟨fun _ _ _ _ _ r h => by simp [copperplatelaw02_UtfLong.j0] at h, fun _ _ _ _ r h => by simp [copperplatelaw02_UtfLong.j1] at h⟩
  | k + 1 => by
    obtain ⟨ih0, ih1⟩ := copperplatelaw02_UtfLong.mono_l k
    refine ⟨?_, ?_⟩
    · intro y0 y1 y2 y3 y4
      unfold copperplatelaw02_UtfLong.j0
      repeat' first
      | (with_reducible exact ih0 _ _ _ _ _)
      | (with_reducible exact ih1 _ _ _ _)
      | (with_reducible exact LeO.refl _)
      | (with_reducible exact LeO.none _)
      | (with_reducible refine LeO.ite ?_ ?_)
      | (with_reducible refine LeO.bind ?_ (fun _ => ?_))
      | exact ih0 _ _ _ _ _
      | exact ih1 _ _ _ _
      | exact LeO.none _
      | refine LeO.ite ?_ ?_
      | refine LeO.bind ?_ (fun _ => ?_)
    · intro y0 y1 y2 y3
      unfold copperplatelaw02_UtfLong.j1
      repeat' first
      | (with_reducible exact ih0 _ _ _ _ _)
      | (with_reducible exact ih1 _ _ _ _)
      | (with_reducible exact LeO.refl _)
      | (with_reducible exact LeO.none _)
      | (with_reducible refine LeO.ite ?_ ?_)
      | (with_reducible refine LeO.bind ?_ (fun _ => ?_))
      | exact ih0 _ _ _ _ _
      | exact ih1 _ _ _ _
      | exact LeO.none _
      | refine LeO.ite ?_ ?_
      | refine LeO.bind ?_ (fun _ => ?_)
theorem copperplatelaw02_UtfLong.mono : ∀ a0 a1 k, LeO (copperplatelaw02_UtfLong.f k a0 a1) (copperplatelaw02_UtfLong.f (k + 1) a0 a1) := by
  intro a0 a1 k
  obtain ⟨ih0, ih1⟩ := copperplatelaw02_UtfLong.mono_l k
  unfold copperplatelaw02_UtfLong.f
  repeat' first
      | (with_reducible exact ih0 _ _ _ _ _)
      | (with_reducible exact ih1 _ _ _ _)
      | (with_reducible exact LeO.refl _)
      | (with_reducible exact LeO.none _)
      | (with_reducible refine LeO.ite ?_ ?_)
      | (with_reducible refine LeO.bind ?_ (fun _ => ?_))
      | exact ih0 _ _ _ _ _
      | exact ih1 _ _ _ _
      | exact LeO.none _
      | refine LeO.ite ?_ ?_
      | refine LeO.bind ?_ (fun _ => ?_)
set_option maxHeartbeats 8000000 in
set_option maxRecDepth 100000 in
theorem copperplatelaw02_UtfLong.calls (k : Nat) (a0 : Int) (a1 : Int) (r : Bool) (w : World) (h : copperplatelaw02_UtfLong.f k a0 a1 = some r) (hT_ : r = true) :
    Calls Try.prog 7 #[.int .i64 a0, .int .i64 a1] w fun e w' => e = .returned (.bool r) ∧ Below w.heap.size w w' := by
  have HT_ := Aside0.mk hT_
  clear hT_
  have HB := Aside0.mk (Below.refl w.heap.size w)
  have H : ((copperplatelaw02_awake.f).bind fun t157 => ((utf_Put.f a0).bind fun t158 => (if t157 = true then (copperplatelaw02_UtfLong.j0 k a0 a1 t157 t158 (t158.toList == ([] : List UInt8))) else (copperplatelaw02_UtfLong.j0 k a0 a1 t157 t158 true)))) = some r := h
  clear h
  replace H := Option.bind_eq_some_iff.mp H
  obtain ⟨t157, A30, H⟩ := H
  replace H : ((utf_Put.f a0).bind fun t158 => (if t157 = true then (copperplatelaw02_UtfLong.j0 k a0 a1 t157 t158 (t158.toList == ([] : List UInt8))) else (copperplatelaw02_UtfLong.j0 k a0 a1 t157 t158 true))) = some r := H
  have A3 := Aside0.mk A30
  clear A30
  replace H := Option.bind_eq_some_iff.mp H
  obtain ⟨t158, A40, H⟩ := H
  replace H : (if t157 = true then (copperplatelaw02_UtfLong.j0 k a0 a1 t157 t158 (t158.toList == ([] : List UInt8))) else (copperplatelaw02_UtfLong.j0 k a0 a1 t157 t158 true)) = some r := H
  have A4 := Aside0.mk A40
  clear A40
  have HC5 := Aside0.mk H
  clear H
  go_enter Try.func7, Try.ntmps7
  go_upto_region 3 with (first | ((with_reducible refine gate_callee (f := 9) rfl ?_); refine goesL_ (some 8) rfl rfl Try.func9 (by kernel_rfl) rfl #[] rfl (by (try simp only [List.map_toArray, List.map_cons, List.map_nil]); first | done | rfl | (simp only [List.length_drop, List.length_take]; rfl)) ?_; (with_reducible refine (copperplatelaw02_awake.calls  t157 _ A3.out).mono ?_); rintro e w6 ⟨rfl, hb⟩; refine ⟨_, rfl, ?_⟩; have n0_ := Aside0.mk (below_step (by repeat (first | (with_reducible first | exact HB.out | apply below_alloc | apply pw_below_drewN | apply below_drew1) | exact HB.out)) hb); clear HB; have HB := n0_; clear n0_; (try clear hb); (try clear hb2); (try clear hk); (try clear hi)) | ((with_reducible refine gate_callee (f := 13) rfl ?_); refine goesL_ (some 10) rfl rfl Try.func13 (by kernel_rfl) rfl #[.int .i64 a0] rfl (by (try simp only [List.map_toArray, List.map_cons, List.map_nil]); first | done | rfl | (simp only [List.length_drop, List.length_take]; rfl)) ?_; (with_reducible refine (utf_Put.calls a0 t158 _ A4.out).mono ?_); rintro e w7 ⟨rfl, hb⟩; refine ⟨_, rfl, ?_⟩; have n0_ := Aside0.mk (below_step (by repeat (first | (with_reducible first | exact HB.out | apply below_alloc | apply pw_below_drewN | apply below_drew1) | exact HB.out)) hb); clear HB; have HB := n0_; clear n0_; (try clear hb); (try clear hb2); (try clear hk); (try clear hi)))
  (try simp only [Act.put, List.setIfInBounds_toArray, List.set_cons_zero, List.set_cons_succ])
  go_cut [16] (fun v16 wc => ∃ (kq : Nat) (x16_4 : Bool), v16 = .bool x16_4 ∧ Aside0 (copperplatelaw02_UtfLong.j0 kq a0 a1 t157 t158 x16_4 = some r) ∧ Aside0 (kq ≤ k) ∧ Aside0 (Below w.heap.size w wc))
  case first =>
    have H := HC5.out
    clear HC5
    by_cases c8 : t157 = true
    · subst c8
      have H1 : (copperplatelaw02_UtfLong.j0 k a0 a1 true t158 (t158.toList == ([] : List UInt8))) = some r := by rw [if_pos rfl] at H; exact H
      clear H
      have H := H1
      clear H1
      have H' := Aside0.mk H
      clear H
      go_wp2
      go_meet
      case rel => exact ⟨_, ((t158.toList == ([] : List UInt8))), (by first | rfl | (simp; done) | (simp [*]; done)), H', ⟨by first | omega | exact Nat.le_refl _⟩, ⟨by repeat (first | (with_reducible first | exact HB.out | apply below_alloc | apply pw_below_drewN | apply below_drew1) | exact HB.out)⟩⟩
    · replace c8 := Bool.eq_false_iff.mpr c8
      subst c8
      have H1 : (copperplatelaw02_UtfLong.j0 k a0 a1 false t158 true) = some r := by rw [if_neg (show ¬ (false = true) by decide)] at H; exact H
      clear H
      have H := H1
      clear H1
      have H' := Aside0.mk H
      clear H
      go_wp2
      go_meet
      case rel => exact ⟨_, (true), (by first | rfl | (simp; done) | (simp [*]; done)), H', ⟨by first | omega | exact Nat.le_refl _⟩, ⟨by repeat (first | (with_reducible first | exact HB.out | apply below_alloc | apply pw_below_drewN | apply below_drew1) | exact HB.out)⟩⟩
  case rest =>
    clear HC5
    try clear c1
    try clear p2
    try clear c7
    try clear c8
    obtain ⟨kq, x16_4, rfl, HA, HJ4, HB⟩ := hcut
    cases kq with
    | zero => exact absurd HA.out (by simp [copperplatelaw02_UtfLong.j0])
    | succ kj4 =>
      have H := HA.out
      clear HA
      simp only [copperplatelaw02_UtfLong.j0] at H
      by_cases c9 : x16_4 = true
      · subst c9
        have H1 : (some t157) = some r := by rw [if_pos rfl] at H; exact H
        clear H
        have H := H1
        clear H1
        obtain rfl := Option.some.inj H
        go_wp2
        go_ret
        exact ⟨by first | rfl | (simp [errW_none, errW_some] <;> rfl) | (simp [*, errW_none, errW_some] <;> rfl), by repeat (first | (with_reducible first | exact HB.out | apply below_alloc | apply pw_below_drewN | apply below_drew1) | exact HB.out)⟩
      · replace c9 := Bool.eq_false_iff.mpr c9
        subst c9
        have H1 : (if a0 < 65536 then (copperplatelaw02_UtfLong.j1 kj4 a0 a1 t158 3) else (copperplatelaw02_UtfLong.j1 kj4 a0 a1 t158 4)) = some r := by rw [if_neg (show ¬ (false = true) by decide)] at H; exact H
        clear H
        have H := H1
        clear H1
        have HC10 := Aside0.mk H
        clear H
        go_upto_if 19 with (fail)
        go_cut [7] (fun v7 wc => ∃ (kq : Nat) (x7_9 : Int), v7 = .int .i64 x7_9 ∧ Aside0 (copperplatelaw02_UtfLong.j1 kq a0 a1 t158 x7_9 = some r) ∧ Aside0 (kq ≤ kj4) ∧ Aside0 (Below w.heap.size w wc))
        case first =>
          have H := HC10.out
          clear HC10
          by_cases c11 : a0 < 65536
          · rw [if_pos c11] at H
            have c11b0 : decide (a0 < 65536) = true := decide_eq_true c11
            clear c11
            (first | rw [c11b0] | (simp only [i64_w, i32_w]; rw [c11b0]) | skip)
            have H' := Aside0.mk H
            clear H
            go_wp2
            go_meet
            case rel => exact ⟨_, (3), (by first | rfl | (simp; done) | (simp [*]; done)), H', ⟨by have := HJ4.out; first | omega | exact Nat.le_refl _⟩, ⟨by repeat (first | (with_reducible first | exact HB.out | apply below_alloc | apply pw_below_drewN | apply below_drew1) | exact HB.out)⟩⟩
          · rw [if_neg c11] at H
            have c11b0 : decide (a0 < 65536) = false := decide_eq_false c11
            clear c11
            (first | rw [c11b0] | (simp only [i64_w, i32_w]; rw [c11b0]) | skip)
            have H' := Aside0.mk H
            clear H
            go_wp2
            go_meet
            case rel => exact ⟨_, (4), (by first | rfl | (simp; done) | (simp [*]; done)), H', ⟨by have := HJ4.out; first | omega | exact Nat.le_refl _⟩, ⟨by repeat (first | (with_reducible first | exact HB.out | apply below_alloc | apply pw_below_drewN | apply below_drew1) | exact HB.out)⟩⟩
        case rest =>
          clear HC10
          try clear c1
          try clear p2
          try clear c7
          try clear c8
          try clear c9
          try clear c11
          try clear c11b0
          try clear p2
          obtain ⟨kq, x7_9, rfl, HA, HJ9, HB⟩ := hcut
          cases kq with
          | zero => exact absurd HA.out (by simp [copperplatelaw02_UtfLong.j1])
          | succ kj9 =>
            have H := HA.out
            clear HA
            simp only [copperplatelaw02_UtfLong.j1] at H
            by_cases c12 : a0 < 2048
            · rw [if_pos c12] at H
              have c12b0 : decide (a0 < 2048) = true := decide_eq_true c12
              clear c12
              by_cases c13 : a0 < 128
              · rw [if_pos c13] at H
                have c13b0 : decide (a0 < 128) = true := decide_eq_true c13
                clear c13
                by_cases c14 : (t158.size : Int) = 1
                · rw [if_pos c14] at H
                  have c14b0 : ((t158.size : Int) == 1) = true := beq_iff_eq.mpr c14
                  have c14b1 : ((t158.size : Int) != 1) = false := bne_eq_false_iff_eq.mpr c14
                  clear c14
                  by_cases c15 : a1 < 1
                  · rw [if_pos c15] at H
                    have c15b0 : decide (a1 < 1) = true := decide_eq_true c15
                    clear c15
                    by_cases c16 : 0 < (t158.size : Int)
                    · rw [if_pos c16] at H
                      have c16b0 : decide (0 < (t158.size : Int)) = true := decide_eq_true c16
                      have c16b1 : decide (0 < t158.size) = true := decide_eq_true (by omega)
                      clear c16
                      obtain rfl := Option.some.inj H
                      have p17 : 0 ≤ (0 : Int) := (by omega)
                      have q17 : 0 < t158.size := (by have : (0 : Int) < (t158.size : Int) := of_decide_eq_true (by first | (with_reducible assumption) | assumption); omega)
                      have hx17 : ∀ h : 0 < t158.size, ((t158[0]'h).toNat : Int) = bt t158 0 := bt_at t158 0
                      clear p17
                      have qi17 : (0 < (t158.size : Int)) = True := eq_true (of_decide_eq_true (by first | (with_reducible assumption) | assumption))
                      replace q17 := eq_true q17
                      go_wp2
                      go_ret
                      exact ⟨by first | rfl | (simp [errW_none, errW_some] <;> rfl) | (simp [*, errW_none, errW_some] <;> rfl), by repeat (first | (with_reducible first | exact HB.out | apply below_alloc | apply pw_below_drewN | apply below_drew1) | exact HB.out)⟩
                    · rw [if_neg c16] at H
                      exact absurd H (by simp)
                  · rw [if_neg c15] at H
                    have c15b0 : decide (a1 < 1) = false := decide_eq_false c15
                    clear c15
                    by_cases c18 : a1 ≥ 1
                    · rw [if_pos c18] at H
                      have c18b0 : decide (1 ≤ a1) = true := decide_eq_true c18
                      clear c18
                      by_cases c19 : 0 < (t158.size : Int)
                      · rw [if_pos c19] at H
                        have c19b0 : decide (0 < (t158.size : Int)) = true := decide_eq_true c19
                        have c19b1 : decide (0 < t158.size) = true := decide_eq_true (by omega)
                        clear c19
                        obtain rfl := Option.some.inj H
                        have p20 : 0 ≤ (0 : Int) := (by omega)
                        have q20 : 0 < t158.size := (by have : (0 : Int) < (t158.size : Int) := of_decide_eq_true (by first | (with_reducible assumption) | assumption); omega)
                        have hx20 : ∀ h : 0 < t158.size, ((t158[0]'h).toNat : Int) = bt t158 0 := bt_at t158 0
                        clear p20
                        have qi20 : (0 < (t158.size : Int)) = True := eq_true (of_decide_eq_true (by first | (with_reducible assumption) | assumption))
                        replace q20 := eq_true q20
                        go_wp2
                        go_ret
                        exact ⟨by first | rfl | (simp [errW_none, errW_some] <;> rfl) | (simp [*, errW_none, errW_some] <;> rfl), by repeat (first | (with_reducible first | exact HB.out | apply below_alloc | apply pw_below_drewN | apply below_drew1) | exact HB.out)⟩
                      · rw [if_neg c19] at H
                        exact absurd H (by simp)
                    · rw [if_neg c18] at H
                      have c18b0 : decide (1 ≤ a1) = false := decide_eq_false c18
                      clear c18
                      by_cases c21 : 0 ≤ a1
                      · rw [if_pos c21] at H
                        have c21b0 : decide (0 ≤ a1) = true := decide_eq_true c21
                        clear c21
                        by_cases c22 : a1 < (t158.size : Int)
                        · rw [if_pos c22] at H
                          have c22b0 : decide (a1 < (t158.size : Int)) = true := decide_eq_true c22
                          clear c22
                          by_cases c24 : (bt t158 a1) ≥ 128
                          · rw [if_pos c24] at H
                            have c24b0 : decide (128 ≤ (bt t158 a1)) = true := decide_eq_true c24
                            clear c24
                            by_cases c26 : (bt t158 a1) < 192
                            · rw [if_pos c26] at H
                              have c26b0 : decide ((bt t158 a1) < 192) = true := decide_eq_true c26
                              clear c26
                              by_cases c27 : 0 < (t158.size : Int)
                              · rw [if_pos c27] at H
                                have c27b0 : decide (0 < (t158.size : Int)) = true := decide_eq_true c27
                                have c27b1 : decide (0 < t158.size) = true := decide_eq_true (by omega)
                                clear c27
                                obtain rfl := Option.some.inj H
                                have p23 : 0 ≤ (a1 : Int) := of_decide_eq_true (by first | (with_reducible assumption) | assumption)
                                have q23 : a1 < (t158.size : Int) := of_decide_eq_true (by first | (with_reducible assumption) | assumption)
                                have hx23 := bt_at t158 a1
                                replace p23 := eq_true p23
                                replace q23 := eq_true q23
                                have p25 : 0 ≤ (a1 : Int) := of_decide_eq_true (by first | (with_reducible assumption) | assumption)
                                have q25 : a1 < (t158.size : Int) := of_decide_eq_true (by first | (with_reducible assumption) | assumption)
                                have hx25 := bt_at t158 a1
                                replace p25 := eq_true p25
                                replace q25 := eq_true q25
                                have p28 : 0 ≤ (0 : Int) := (by omega)
                                have q28 : 0 < t158.size := (by have : (0 : Int) < (t158.size : Int) := of_decide_eq_true (by first | (with_reducible assumption) | assumption); omega)
                                have hx28 : ∀ h : 0 < t158.size, ((t158[0]'h).toNat : Int) = bt t158 0 := bt_at t158 0
                                clear p28
                                have qi28 : (0 < (t158.size : Int)) = True := eq_true (of_decide_eq_true (by first | (with_reducible assumption) | assumption))
                                replace q28 := eq_true q28
                                go_wp2
                                go_ret
                                exact ⟨by first | rfl | (simp [errW_none, errW_some] <;> rfl) | (simp [*, errW_none, errW_some] <;> rfl), by repeat (first | (with_reducible first | exact HB.out | apply below_alloc | apply pw_below_drewN | apply below_drew1) | exact HB.out)⟩
                              · rw [if_neg c27] at H
                                exact absurd H (by simp)
                            · rw [if_neg c26] at H
                              have c26b0 : decide ((bt t158 a1) < 192) = false := decide_eq_false c26
                              clear c26
                              exact absurd H (by have h_ := HT_.out; subst h_; decide)
                          · rw [if_neg c24] at H
                            have c24b0 : decide (128 ≤ (bt t158 a1)) = false := decide_eq_false c24
                            clear c24
                            exact absurd H (by have h_ := HT_.out; subst h_; decide)
                        · rw [if_neg c22] at H
                          exact absurd H (by simp)
                      · rw [if_neg c21] at H
                        exact absurd H (by simp)
                · rw [if_neg c14] at H
                  have c14b0 : ((t158.size : Int) == 1) = false := beq_eq_false_iff_ne.mpr c14
                  have c14b1 : ((t158.size : Int) != 1) = true := bne_iff_ne.mpr c14
                  exact absurd H (by have h_ := HT_.out; subst h_; decide)
              · rw [if_neg c13] at H
                have c13b0 : decide (a0 < 128) = false := decide_eq_false c13
                clear c13
                by_cases c29 : (t158.size : Int) = 2
                · rw [if_pos c29] at H
                  have c29b0 : ((t158.size : Int) == 2) = true := beq_iff_eq.mpr c29
                  have c29b1 : ((t158.size : Int) != 2) = false := bne_eq_false_iff_eq.mpr c29
                  clear c29
                  by_cases c30 : a1 < 1
                  · rw [if_pos c30] at H
                    have c30b0 : decide (a1 < 1) = true := decide_eq_true c30
                    clear c30
                    by_cases c31 : 0 < (t158.size : Int)
                    · rw [if_pos c31] at H
                      have c31b0 : decide (0 < (t158.size : Int)) = true := decide_eq_true c31
                      have c31b1 : decide (0 < t158.size) = true := decide_eq_true (by omega)
                      clear c31
                      by_cases c33 : (bt t158 0) ≥ 192
                      · rw [if_pos c33] at H
                        have c33b0 : decide (192 ≤ (bt t158 0)) = true := decide_eq_true c33
                        clear c33
                        obtain rfl := Option.some.inj H
                        have p32 : 0 ≤ (0 : Int) := (by omega)
                        have q32 : 0 < t158.size := (by have : (0 : Int) < (t158.size : Int) := of_decide_eq_true (by first | (with_reducible assumption) | assumption); omega)
                        have hx32 : ∀ h : 0 < t158.size, ((t158[0]'h).toNat : Int) = bt t158 0 := bt_at t158 0
                        clear p32
                        have qi32 : (0 < (t158.size : Int)) = True := eq_true (of_decide_eq_true (by first | (with_reducible assumption) | assumption))
                        replace q32 := eq_true q32
                        go_wp2
                        go_ret
                        exact ⟨by first | rfl | (simp [errW_none, errW_some] <;> rfl) | (simp [*, errW_none, errW_some] <;> rfl), by repeat (first | (with_reducible first | exact HB.out | apply below_alloc | apply pw_below_drewN | apply below_drew1) | exact HB.out)⟩
                      · rw [if_neg c33] at H
                        have c33b0 : decide (192 ≤ (bt t158 0)) = false := decide_eq_false c33
                        clear c33
                        exact absurd H (by have h_ := HT_.out; subst h_; decide)
                    · rw [if_neg c31] at H
                      exact absurd H (by simp)
                  · rw [if_neg c30] at H
                    have c30b0 : decide (a1 < 1) = false := decide_eq_false c30
                    clear c30
                    by_cases c34 : a1 ≥ 2
                    · rw [if_pos c34] at H
                      have c34b0 : decide (2 ≤ a1) = true := decide_eq_true c34
                      clear c34
                      by_cases c35 : 0 < (t158.size : Int)
                      · rw [if_pos c35] at H
                        have c35b0 : decide (0 < (t158.size : Int)) = true := decide_eq_true c35
                        have c35b1 : decide (0 < t158.size) = true := decide_eq_true (by omega)
                        clear c35
                        by_cases c37 : (bt t158 0) ≥ 192
                        · rw [if_pos c37] at H
                          have c37b0 : decide (192 ≤ (bt t158 0)) = true := decide_eq_true c37
                          clear c37
                          obtain rfl := Option.some.inj H
                          have p36 : 0 ≤ (0 : Int) := (by omega)
                          have q36 : 0 < t158.size := (by have : (0 : Int) < (t158.size : Int) := of_decide_eq_true (by first | (with_reducible assumption) | assumption); omega)
                          have hx36 : ∀ h : 0 < t158.size, ((t158[0]'h).toNat : Int) = bt t158 0 := bt_at t158 0
                          clear p36
                          have qi36 : (0 < (t158.size : Int)) = True := eq_true (of_decide_eq_true (by first | (with_reducible assumption) | assumption))
                          replace q36 := eq_true q36
                          go_wp2
                          go_ret
                          exact ⟨by first | rfl | (simp [errW_none, errW_some] <;> rfl) | (simp [*, errW_none, errW_some] <;> rfl), by repeat (first | (with_reducible first | exact HB.out | apply below_alloc | apply pw_below_drewN | apply below_drew1) | exact HB.out)⟩
                        · rw [if_neg c37] at H
                          have c37b0 : decide (192 ≤ (bt t158 0)) = false := decide_eq_false c37
                          clear c37
                          exact absurd H (by have h_ := HT_.out; subst h_; decide)
                      · rw [if_neg c35] at H
                        exact absurd H (by simp)
                    · rw [if_neg c34] at H
                      have c34b0 : decide (2 ≤ a1) = false := decide_eq_false c34
                      clear c34
                      by_cases c38 : 0 ≤ a1
                      · rw [if_pos c38] at H
                        have c38b0 : decide (0 ≤ a1) = true := decide_eq_true c38
                        clear c38
                        by_cases c39 : a1 < (t158.size : Int)
                        · rw [if_pos c39] at H
                          have c39b0 : decide (a1 < (t158.size : Int)) = true := decide_eq_true c39
                          clear c39
                          by_cases c41 : (bt t158 a1) ≥ 128
                          · rw [if_pos c41] at H
                            have c41b0 : decide (128 ≤ (bt t158 a1)) = true := decide_eq_true c41
                            clear c41
                            by_cases c43 : (bt t158 a1) < 192
                            · rw [if_pos c43] at H
                              have c43b0 : decide ((bt t158 a1) < 192) = true := decide_eq_true c43
                              clear c43
                              by_cases c44 : 0 < (t158.size : Int)
                              · rw [if_pos c44] at H
                                have c44b0 : decide (0 < (t158.size : Int)) = true := decide_eq_true c44
                                have c44b1 : decide (0 < t158.size) = true := decide_eq_true (by omega)
                                clear c44
                                by_cases c46 : (bt t158 0) ≥ 192
                                · rw [if_pos c46] at H
                                  have c46b0 : decide (192 ≤ (bt t158 0)) = true := decide_eq_true c46
                                  clear c46
                                  obtain rfl := Option.some.inj H
                                  have p40 : 0 ≤ (a1 : Int) := of_decide_eq_true (by first | (with_reducible assumption) | assumption)
                                  have q40 : a1 < (t158.size : Int) := of_decide_eq_true (by first | (with_reducible assumption) | assumption)
                                  have hx40 := bt_at t158 a1
                                  replace p40 := eq_true p40
                                  replace q40 := eq_true q40
                                  have p42 : 0 ≤ (a1 : Int) := of_decide_eq_true (by first | (with_reducible assumption) | assumption)
                                  have q42 : a1 < (t158.size : Int) := of_decide_eq_true (by first | (with_reducible assumption) | assumption)
                                  have hx42 := bt_at t158 a1
                                  replace p42 := eq_true p42
                                  replace q42 := eq_true q42
                                  have p45 : 0 ≤ (0 : Int) := (by omega)
                                  have q45 : 0 < t158.size := (by have : (0 : Int) < (t158.size : Int) := of_decide_eq_true (by first | (with_reducible assumption) | assumption); omega)
                                  have hx45 : ∀ h : 0 < t158.size, ((t158[0]'h).toNat : Int) = bt t158 0 := bt_at t158 0
                                  clear p45
                                  have qi45 : (0 < (t158.size : Int)) = True := eq_true (of_decide_eq_true (by first | (with_reducible assumption) | assumption))
                                  replace q45 := eq_true q45
                                  go_wp2
                                  go_ret
                                  exact ⟨by first | rfl | (simp [errW_none, errW_some] <;> rfl) | (simp [*, errW_none, errW_some] <;> rfl), by repeat (first | (with_reducible first | exact HB.out | apply below_alloc | apply pw_below_drewN | apply below_drew1) | exact HB.out)⟩
                                · rw [if_neg c46] at H
                                  have c46b0 : decide (192 ≤ (bt t158 0)) = false := decide_eq_false c46
                                  clear c46
                                  exact absurd H (by have h_ := HT_.out; subst h_; decide)
                              · rw [if_neg c44] at H
                                exact absurd H (by simp)
                            · rw [if_neg c43] at H
                              have c43b0 : decide ((bt t158 a1) < 192) = false := decide_eq_false c43
                              clear c43
                              exact absurd H (by have h_ := HT_.out; subst h_; decide)
                          · rw [if_neg c41] at H
                            have c41b0 : decide (128 ≤ (bt t158 a1)) = false := decide_eq_false c41
                            clear c41
                            exact absurd H (by have h_ := HT_.out; subst h_; decide)
                        · rw [if_neg c39] at H
                          exact absurd H (by simp)
                      · rw [if_neg c38] at H
                        exact absurd H (by simp)
                · rw [if_neg c29] at H
                  have c29b0 : ((t158.size : Int) == 2) = false := beq_eq_false_iff_ne.mpr c29
                  have c29b1 : ((t158.size : Int) != 2) = true := bne_iff_ne.mpr c29
                  exact absurd H (by have h_ := HT_.out; subst h_; decide)
            · rw [if_neg c12] at H
              have c12b0 : decide (a0 < 2048) = false := decide_eq_false c12
              clear c12
              by_cases c47 : a0 < 128
              · rw [if_pos c47] at H
                have c47b0 : decide (a0 < 128) = true := decide_eq_true c47
                clear c47
                by_cases c48 : (t158.size : Int) = 1
                · rw [if_pos c48] at H
                  have c48b0 : ((t158.size : Int) == 1) = true := beq_iff_eq.mpr c48
                  have c48b1 : ((t158.size : Int) != 1) = false := bne_eq_false_iff_eq.mpr c48
                  clear c48
                  by_cases c49 : a1 < 1
                  · rw [if_pos c49] at H
                    have c49b0 : decide (a1 < 1) = true := decide_eq_true c49
                    clear c49
                    by_cases c50 : 0 < (t158.size : Int)
                    · rw [if_pos c50] at H
                      have c50b0 : decide (0 < (t158.size : Int)) = true := decide_eq_true c50
                      have c50b1 : decide (0 < t158.size) = true := decide_eq_true (by omega)
                      clear c50
                      obtain rfl := Option.some.inj H
                      have p51 : 0 ≤ (0 : Int) := (by omega)
                      have q51 : 0 < t158.size := (by have : (0 : Int) < (t158.size : Int) := of_decide_eq_true (by first | (with_reducible assumption) | assumption); omega)
                      have hx51 : ∀ h : 0 < t158.size, ((t158[0]'h).toNat : Int) = bt t158 0 := bt_at t158 0
                      clear p51
                      have qi51 : (0 < (t158.size : Int)) = True := eq_true (of_decide_eq_true (by first | (with_reducible assumption) | assumption))
                      replace q51 := eq_true q51
                      go_wp2
                      go_ret
                      exact ⟨by first | rfl | (simp [errW_none, errW_some] <;> rfl) | (simp [*, errW_none, errW_some] <;> rfl), by repeat (first | (with_reducible first | exact HB.out | apply below_alloc | apply pw_below_drewN | apply below_drew1) | exact HB.out)⟩
                    · rw [if_neg c50] at H
                      exact absurd H (by simp)
                  · rw [if_neg c49] at H
                    have c49b0 : decide (a1 < 1) = false := decide_eq_false c49
                    clear c49
                    by_cases c52 : a1 ≥ 1
                    · rw [if_pos c52] at H
                      have c52b0 : decide (1 ≤ a1) = true := decide_eq_true c52
                      clear c52
                      by_cases c53 : 0 < (t158.size : Int)
                      · rw [if_pos c53] at H
                        have c53b0 : decide (0 < (t158.size : Int)) = true := decide_eq_true c53
                        have c53b1 : decide (0 < t158.size) = true := decide_eq_true (by omega)
                        clear c53
                        obtain rfl := Option.some.inj H
                        have p54 : 0 ≤ (0 : Int) := (by omega)
                        have q54 : 0 < t158.size := (by have : (0 : Int) < (t158.size : Int) := of_decide_eq_true (by first | (with_reducible assumption) | assumption); omega)
                        have hx54 : ∀ h : 0 < t158.size, ((t158[0]'h).toNat : Int) = bt t158 0 := bt_at t158 0
                        clear p54
                        have qi54 : (0 < (t158.size : Int)) = True := eq_true (of_decide_eq_true (by first | (with_reducible assumption) | assumption))
                        replace q54 := eq_true q54
                        go_wp2
                        go_ret
                        exact ⟨by first | rfl | (simp [errW_none, errW_some] <;> rfl) | (simp [*, errW_none, errW_some] <;> rfl), by repeat (first | (with_reducible first | exact HB.out | apply below_alloc | apply pw_below_drewN | apply below_drew1) | exact HB.out)⟩
                      · rw [if_neg c53] at H
                        exact absurd H (by simp)
                    · rw [if_neg c52] at H
                      have c52b0 : decide (1 ≤ a1) = false := decide_eq_false c52
                      clear c52
                      by_cases c55 : 0 ≤ a1
                      · rw [if_pos c55] at H
                        have c55b0 : decide (0 ≤ a1) = true := decide_eq_true c55
                        clear c55
                        by_cases c56 : a1 < (t158.size : Int)
                        · rw [if_pos c56] at H
                          have c56b0 : decide (a1 < (t158.size : Int)) = true := decide_eq_true c56
                          clear c56
                          by_cases c58 : (bt t158 a1) ≥ 128
                          · rw [if_pos c58] at H
                            have c58b0 : decide (128 ≤ (bt t158 a1)) = true := decide_eq_true c58
                            clear c58
                            by_cases c60 : (bt t158 a1) < 192
                            · rw [if_pos c60] at H
                              have c60b0 : decide ((bt t158 a1) < 192) = true := decide_eq_true c60
                              clear c60
                              by_cases c61 : 0 < (t158.size : Int)
                              · rw [if_pos c61] at H
                                have c61b0 : decide (0 < (t158.size : Int)) = true := decide_eq_true c61
                                have c61b1 : decide (0 < t158.size) = true := decide_eq_true (by omega)
                                clear c61
                                obtain rfl := Option.some.inj H
                                have p57 : 0 ≤ (a1 : Int) := of_decide_eq_true (by first | (with_reducible assumption) | assumption)
                                have q57 : a1 < (t158.size : Int) := of_decide_eq_true (by first | (with_reducible assumption) | assumption)
                                have hx57 := bt_at t158 a1
                                replace p57 := eq_true p57
                                replace q57 := eq_true q57
                                have p59 : 0 ≤ (a1 : Int) := of_decide_eq_true (by first | (with_reducible assumption) | assumption)
                                have q59 : a1 < (t158.size : Int) := of_decide_eq_true (by first | (with_reducible assumption) | assumption)
                                have hx59 := bt_at t158 a1
                                replace p59 := eq_true p59
                                replace q59 := eq_true q59
                                have p62 : 0 ≤ (0 : Int) := (by omega)
                                have q62 : 0 < t158.size := (by have : (0 : Int) < (t158.size : Int) := of_decide_eq_true (by first | (with_reducible assumption) | assumption); omega)
                                have hx62 : ∀ h : 0 < t158.size, ((t158[0]'h).toNat : Int) = bt t158 0 := bt_at t158 0
                                clear p62
                                have qi62 : (0 < (t158.size : Int)) = True := eq_true (of_decide_eq_true (by first | (with_reducible assumption) | assumption))
                                replace q62 := eq_true q62
                                go_wp2
                                go_ret
                                exact ⟨by first | rfl | (simp [errW_none, errW_some] <;> rfl) | (simp [*, errW_none, errW_some] <;> rfl), by repeat (first | (with_reducible first | exact HB.out | apply below_alloc | apply pw_below_drewN | apply below_drew1) | exact HB.out)⟩
                              · rw [if_neg c61] at H
                                exact absurd H (by simp)
                            · rw [if_neg c60] at H
                              have c60b0 : decide ((bt t158 a1) < 192) = false := decide_eq_false c60
                              clear c60
                              exact absurd H (by have h_ := HT_.out; subst h_; decide)
                          · rw [if_neg c58] at H
                            have c58b0 : decide (128 ≤ (bt t158 a1)) = false := decide_eq_false c58
                            clear c58
                            exact absurd H (by have h_ := HT_.out; subst h_; decide)
                        · rw [if_neg c56] at H
                          exact absurd H (by simp)
                      · rw [if_neg c55] at H
                        exact absurd H (by simp)
                · rw [if_neg c48] at H
                  have c48b0 : ((t158.size : Int) == 1) = false := beq_eq_false_iff_ne.mpr c48
                  have c48b1 : ((t158.size : Int) != 1) = true := bne_iff_ne.mpr c48
                  exact absurd H (by have h_ := HT_.out; subst h_; decide)
              · rw [if_neg c47] at H
                have c47b0 : decide (a0 < 128) = false := decide_eq_false c47
                clear c47
                by_cases c63 : (t158.size : Int) = x7_9
                · rw [if_pos c63] at H
                  have c63b0 : ((t158.size : Int) == x7_9) = true := beq_iff_eq.mpr c63
                  have c63b1 : ((t158.size : Int) != x7_9) = false := bne_eq_false_iff_eq.mpr c63
                  clear c63
                  by_cases c64 : a1 < 1
                  · rw [if_pos c64] at H
                    have c64b0 : decide (a1 < 1) = true := decide_eq_true c64
                    clear c64
                    by_cases c65 : x7_9 = 1
                    · rw [if_pos c65] at H
                      have c65b0 : (x7_9 == 1) = true := beq_iff_eq.mpr c65
                      have c65b1 : (x7_9 != 1) = false := bne_eq_false_iff_eq.mpr c65
                      clear c65
                      by_cases c66 : x7_9 > 1
                      · rw [if_pos c66] at H
                        have c66b0 : decide (1 < x7_9) = true := decide_eq_true c66
                        clear c66
                        obtain rfl := Option.some.inj H
                        go_wp2
                        go_ret
                        exact ⟨by first | rfl | (simp [errW_none, errW_some] <;> rfl) | (simp [*, errW_none, errW_some] <;> rfl), by repeat (first | (with_reducible first | exact HB.out | apply below_alloc | apply pw_below_drewN | apply below_drew1) | exact HB.out)⟩
                      · rw [if_neg c66] at H
                        have c66b0 : decide (1 < x7_9) = false := decide_eq_false c66
                        clear c66
                        by_cases c67 : 0 < (t158.size : Int)
                        · rw [if_pos c67] at H
                          have c67b0 : decide (0 < (t158.size : Int)) = true := decide_eq_true c67
                          have c67b1 : decide (0 < t158.size) = true := decide_eq_true (by omega)
                          clear c67
                          obtain rfl := Option.some.inj H
                          have p68 : 0 ≤ (0 : Int) := (by omega)
                          have q68 : 0 < t158.size := (by have : (0 : Int) < (t158.size : Int) := of_decide_eq_true (by first | (with_reducible assumption) | assumption); omega)
                          have hx68 : ∀ h : 0 < t158.size, ((t158[0]'h).toNat : Int) = bt t158 0 := bt_at t158 0
                          clear p68
                          have qi68 : (0 < (t158.size : Int)) = True := eq_true (of_decide_eq_true (by first | (with_reducible assumption) | assumption))
                          replace q68 := eq_true q68
                          go_wp2
                          go_ret
                          exact ⟨by first | rfl | (simp [errW_none, errW_some] <;> rfl) | (simp [*, errW_none, errW_some] <;> rfl), by repeat (first | (with_reducible first | exact HB.out | apply below_alloc | apply pw_below_drewN | apply below_drew1) | exact HB.out)⟩
                        · rw [if_neg c67] at H
                          exact absurd H (by simp)
                    · rw [if_neg c65] at H
                      have c65b0 : (x7_9 == 1) = false := beq_eq_false_iff_ne.mpr c65
                      have c65b1 : (x7_9 != 1) = true := bne_iff_ne.mpr c65
                      by_cases c69 : 0 < (t158.size : Int)
                      · rw [if_pos c69] at H
                        have c69b0 : decide (0 < (t158.size : Int)) = true := decide_eq_true c69
                        have c69b1 : decide (0 < t158.size) = true := decide_eq_true (by omega)
                        clear c69
                        by_cases c71 : (bt t158 0) ≥ 192
                        · rw [if_pos c71] at H
                          have c71b0 : decide (192 ≤ (bt t158 0)) = true := decide_eq_true c71
                          clear c71
                          by_cases c72 : x7_9 > 1
                          · rw [if_pos c72] at H
                            have c72b0 : decide (1 < x7_9) = true := decide_eq_true c72
                            clear c72
                            obtain rfl := Option.some.inj H
                            have p70 : 0 ≤ (0 : Int) := (by omega)
                            have q70 : 0 < t158.size := (by have : (0 : Int) < (t158.size : Int) := of_decide_eq_true (by first | (with_reducible assumption) | assumption); omega)
                            have hx70 : ∀ h : 0 < t158.size, ((t158[0]'h).toNat : Int) = bt t158 0 := bt_at t158 0
                            clear p70
                            have qi70 : (0 < (t158.size : Int)) = True := eq_true (of_decide_eq_true (by first | (with_reducible assumption) | assumption))
                            replace q70 := eq_true q70
                            go_wp2
                            go_ret
                            exact ⟨by first | rfl | (simp [errW_none, errW_some] <;> rfl) | (simp [*, errW_none, errW_some] <;> rfl), by repeat (first | (with_reducible first | exact HB.out | apply below_alloc | apply pw_below_drewN | apply below_drew1) | exact HB.out)⟩
                          · rw [if_neg c72] at H
                            have c72b0 : decide (1 < x7_9) = false := decide_eq_false c72
                            clear c72
                            obtain rfl := Option.some.inj H
                            have p70 : 0 ≤ (0 : Int) := (by omega)
                            have q70 : 0 < t158.size := (by have : (0 : Int) < (t158.size : Int) := of_decide_eq_true (by first | (with_reducible assumption) | assumption); omega)
                            have hx70 : ∀ h : 0 < t158.size, ((t158[0]'h).toNat : Int) = bt t158 0 := bt_at t158 0
                            clear p70
                            have qi70 : (0 < (t158.size : Int)) = True := eq_true (of_decide_eq_true (by first | (with_reducible assumption) | assumption))
                            replace q70 := eq_true q70
                            have p73 : 0 ≤ (0 : Int) := (by omega)
                            have q73 : 0 < t158.size := (by have : (0 : Int) < (t158.size : Int) := of_decide_eq_true (by first | (with_reducible assumption) | assumption); omega)
                            have hx73 : ∀ h : 0 < t158.size, ((t158[0]'h).toNat : Int) = bt t158 0 := bt_at t158 0
                            clear p73
                            have qi73 : (0 < (t158.size : Int)) = True := eq_true (of_decide_eq_true (by first | (with_reducible assumption) | assumption))
                            replace q73 := eq_true q73
                            go_wp2
                            go_ret
                            exact ⟨by first | rfl | (simp [errW_none, errW_some] <;> rfl) | (simp [*, errW_none, errW_some] <;> rfl), by repeat (first | (with_reducible first | exact HB.out | apply below_alloc | apply pw_below_drewN | apply below_drew1) | exact HB.out)⟩
                        · rw [if_neg c71] at H
                          have c71b0 : decide (192 ≤ (bt t158 0)) = false := decide_eq_false c71
                          clear c71
                          exact absurd H (by have h_ := HT_.out; subst h_; decide)
                      · rw [if_neg c69] at H
                        exact absurd H (by simp)
                  · rw [if_neg c64] at H
                    have c64b0 : decide (a1 < 1) = false := decide_eq_false c64
                    clear c64
                    by_cases c74 : a1 ≥ x7_9
                    · rw [if_pos c74] at H
                      have c74b0 : decide (x7_9 ≤ a1) = true := decide_eq_true c74
                      clear c74
                      by_cases c75 : x7_9 = 1
                      · rw [if_pos c75] at H
                        have c75b0 : (x7_9 == 1) = true := beq_iff_eq.mpr c75
                        have c75b1 : (x7_9 != 1) = false := bne_eq_false_iff_eq.mpr c75
                        clear c75
                        by_cases c76 : x7_9 > 1
                        · rw [if_pos c76] at H
                          have c76b0 : decide (1 < x7_9) = true := decide_eq_true c76
                          clear c76
                          obtain rfl := Option.some.inj H
                          go_wp2
                          go_ret
                          exact ⟨by first | rfl | (simp [errW_none, errW_some] <;> rfl) | (simp [*, errW_none, errW_some] <;> rfl), by repeat (first | (with_reducible first | exact HB.out | apply below_alloc | apply pw_below_drewN | apply below_drew1) | exact HB.out)⟩
                        · rw [if_neg c76] at H
                          have c76b0 : decide (1 < x7_9) = false := decide_eq_false c76
                          clear c76
                          by_cases c77 : 0 < (t158.size : Int)
                          · rw [if_pos c77] at H
                            have c77b0 : decide (0 < (t158.size : Int)) = true := decide_eq_true c77
                            have c77b1 : decide (0 < t158.size) = true := decide_eq_true (by omega)
                            clear c77
                            obtain rfl := Option.some.inj H
                            have p78 : 0 ≤ (0 : Int) := (by omega)
                            have q78 : 0 < t158.size := (by have : (0 : Int) < (t158.size : Int) := of_decide_eq_true (by first | (with_reducible assumption) | assumption); omega)
                            have hx78 : ∀ h : 0 < t158.size, ((t158[0]'h).toNat : Int) = bt t158 0 := bt_at t158 0
                            clear p78
                            have qi78 : (0 < (t158.size : Int)) = True := eq_true (of_decide_eq_true (by first | (with_reducible assumption) | assumption))
                            replace q78 := eq_true q78
                            go_wp2
                            go_ret
                            exact ⟨by first | rfl | (simp [errW_none, errW_some] <;> rfl) | (simp [*, errW_none, errW_some] <;> rfl), by repeat (first | (with_reducible first | exact HB.out | apply below_alloc | apply pw_below_drewN | apply below_drew1) | exact HB.out)⟩
                          · rw [if_neg c77] at H
                            exact absurd H (by simp)
                      · rw [if_neg c75] at H
                        have c75b0 : (x7_9 == 1) = false := beq_eq_false_iff_ne.mpr c75
                        have c75b1 : (x7_9 != 1) = true := bne_iff_ne.mpr c75
                        by_cases c79 : 0 < (t158.size : Int)
                        · rw [if_pos c79] at H
                          have c79b0 : decide (0 < (t158.size : Int)) = true := decide_eq_true c79
                          have c79b1 : decide (0 < t158.size) = true := decide_eq_true (by omega)
                          clear c79
                          by_cases c81 : (bt t158 0) ≥ 192
                          · rw [if_pos c81] at H
                            have c81b0 : decide (192 ≤ (bt t158 0)) = true := decide_eq_true c81
                            clear c81
                            by_cases c82 : x7_9 > 1
                            · rw [if_pos c82] at H
                              have c82b0 : decide (1 < x7_9) = true := decide_eq_true c82
                              clear c82
                              obtain rfl := Option.some.inj H
                              have p80 : 0 ≤ (0 : Int) := (by omega)
                              have q80 : 0 < t158.size := (by have : (0 : Int) < (t158.size : Int) := of_decide_eq_true (by first | (with_reducible assumption) | assumption); omega)
                              have hx80 : ∀ h : 0 < t158.size, ((t158[0]'h).toNat : Int) = bt t158 0 := bt_at t158 0
                              clear p80
                              have qi80 : (0 < (t158.size : Int)) = True := eq_true (of_decide_eq_true (by first | (with_reducible assumption) | assumption))
                              replace q80 := eq_true q80
                              go_wp2
                              go_ret
                              exact ⟨by first | rfl | (simp [errW_none, errW_some] <;> rfl) | (simp [*, errW_none, errW_some] <;> rfl), by repeat (first | (with_reducible first | exact HB.out | apply below_alloc | apply pw_below_drewN | apply below_drew1) | exact HB.out)⟩
                            · rw [if_neg c82] at H
                              have c82b0 : decide (1 < x7_9) = false := decide_eq_false c82
                              clear c82
                              obtain rfl := Option.some.inj H
                              have p80 : 0 ≤ (0 : Int) := (by omega)
                              have q80 : 0 < t158.size := (by have : (0 : Int) < (t158.size : Int) := of_decide_eq_true (by first | (with_reducible assumption) | assumption); omega)
                              have hx80 : ∀ h : 0 < t158.size, ((t158[0]'h).toNat : Int) = bt t158 0 := bt_at t158 0
                              clear p80
                              have qi80 : (0 < (t158.size : Int)) = True := eq_true (of_decide_eq_true (by first | (with_reducible assumption) | assumption))
                              replace q80 := eq_true q80
                              have p83 : 0 ≤ (0 : Int) := (by omega)
                              have q83 : 0 < t158.size := (by have : (0 : Int) < (t158.size : Int) := of_decide_eq_true (by first | (with_reducible assumption) | assumption); omega)
                              have hx83 : ∀ h : 0 < t158.size, ((t158[0]'h).toNat : Int) = bt t158 0 := bt_at t158 0
                              clear p83
                              have qi83 : (0 < (t158.size : Int)) = True := eq_true (of_decide_eq_true (by first | (with_reducible assumption) | assumption))
                              replace q83 := eq_true q83
                              go_wp2
                              go_ret
                              exact ⟨by first | rfl | (simp [errW_none, errW_some] <;> rfl) | (simp [*, errW_none, errW_some] <;> rfl), by repeat (first | (with_reducible first | exact HB.out | apply below_alloc | apply pw_below_drewN | apply below_drew1) | exact HB.out)⟩
                          · rw [if_neg c81] at H
                            have c81b0 : decide (192 ≤ (bt t158 0)) = false := decide_eq_false c81
                            clear c81
                            exact absurd H (by have h_ := HT_.out; subst h_; decide)
                        · rw [if_neg c79] at H
                          exact absurd H (by simp)
                    · rw [if_neg c74] at H
                      have c74b0 : decide (x7_9 ≤ a1) = false := decide_eq_false c74
                      clear c74
                      by_cases c84 : 0 ≤ a1
                      · rw [if_pos c84] at H
                        have c84b0 : decide (0 ≤ a1) = true := decide_eq_true c84
                        clear c84
                        by_cases c85 : a1 < (t158.size : Int)
                        · rw [if_pos c85] at H
                          have c85b0 : decide (a1 < (t158.size : Int)) = true := decide_eq_true c85
                          clear c85
                          by_cases c87 : (bt t158 a1) ≥ 128
                          · rw [if_pos c87] at H
                            have c87b0 : decide (128 ≤ (bt t158 a1)) = true := decide_eq_true c87
                            clear c87
                            by_cases c89 : (bt t158 a1) < 192
                            · rw [if_pos c89] at H
                              have c89b0 : decide ((bt t158 a1) < 192) = true := decide_eq_true c89
                              clear c89
                              by_cases c90 : x7_9 = 1
                              · rw [if_pos c90] at H
                                have c90b0 : (x7_9 == 1) = true := beq_iff_eq.mpr c90
                                have c90b1 : (x7_9 != 1) = false := bne_eq_false_iff_eq.mpr c90
                                clear c90
                                by_cases c91 : x7_9 > 1
                                · rw [if_pos c91] at H
                                  have c91b0 : decide (1 < x7_9) = true := decide_eq_true c91
                                  clear c91
                                  obtain rfl := Option.some.inj H
                                  have p86 : 0 ≤ (a1 : Int) := of_decide_eq_true (by first | (with_reducible assumption) | assumption)
                                  have q86 : a1 < (t158.size : Int) := of_decide_eq_true (by first | (with_reducible assumption) | assumption)
                                  have hx86 := bt_at t158 a1
                                  replace p86 := eq_true p86
                                  replace q86 := eq_true q86
                                  have p88 : 0 ≤ (a1 : Int) := of_decide_eq_true (by first | (with_reducible assumption) | assumption)
                                  have q88 : a1 < (t158.size : Int) := of_decide_eq_true (by first | (with_reducible assumption) | assumption)
                                  have hx88 := bt_at t158 a1
                                  replace p88 := eq_true p88
                                  replace q88 := eq_true q88
                                  go_wp2
                                  go_ret
                                  exact ⟨by first | rfl | (simp [errW_none, errW_some] <;> rfl) | (simp [*, errW_none, errW_some] <;> rfl), by repeat (first | (with_reducible first | exact HB.out | apply below_alloc | apply pw_below_drewN | apply below_drew1) | exact HB.out)⟩
                                · rw [if_neg c91] at H
                                  have c91b0 : decide (1 < x7_9) = false := decide_eq_false c91
                                  clear c91
                                  by_cases c92 : 0 < (t158.size : Int)
                                  · rw [if_pos c92] at H
                                    have c92b0 : decide (0 < (t158.size : Int)) = true := decide_eq_true c92
                                    have c92b1 : decide (0 < t158.size) = true := decide_eq_true (by omega)
                                    clear c92
                                    obtain rfl := Option.some.inj H
                                    have p86 : 0 ≤ (a1 : Int) := of_decide_eq_true (by first | (with_reducible assumption) | assumption)
                                    have q86 : a1 < (t158.size : Int) := of_decide_eq_true (by first | (with_reducible assumption) | assumption)
                                    have hx86 := bt_at t158 a1
                                    replace p86 := eq_true p86
                                    replace q86 := eq_true q86
                                    have p88 : 0 ≤ (a1 : Int) := of_decide_eq_true (by first | (with_reducible assumption) | assumption)
                                    have q88 : a1 < (t158.size : Int) := of_decide_eq_true (by first | (with_reducible assumption) | assumption)
                                    have hx88 := bt_at t158 a1
                                    replace p88 := eq_true p88
                                    replace q88 := eq_true q88
                                    have p93 : 0 ≤ (0 : Int) := (by omega)
                                    have q93 : 0 < t158.size := (by have : (0 : Int) < (t158.size : Int) := of_decide_eq_true (by first | (with_reducible assumption) | assumption); omega)
                                    have hx93 : ∀ h : 0 < t158.size, ((t158[0]'h).toNat : Int) = bt t158 0 := bt_at t158 0
                                    clear p93
                                    have qi93 : (0 < (t158.size : Int)) = True := eq_true (of_decide_eq_true (by first | (with_reducible assumption) | assumption))
                                    replace q93 := eq_true q93
                                    go_wp2
                                    go_ret
                                    exact ⟨by first | rfl | (simp [errW_none, errW_some] <;> rfl) | (simp [*, errW_none, errW_some] <;> rfl), by repeat (first | (with_reducible first | exact HB.out | apply below_alloc | apply pw_below_drewN | apply below_drew1) | exact HB.out)⟩
                                  · rw [if_neg c92] at H
                                    exact absurd H (by simp)
                              · rw [if_neg c90] at H
                                have c90b0 : (x7_9 == 1) = false := beq_eq_false_iff_ne.mpr c90
                                have c90b1 : (x7_9 != 1) = true := bne_iff_ne.mpr c90
                                by_cases c94 : 0 < (t158.size : Int)
                                · rw [if_pos c94] at H
                                  have c94b0 : decide (0 < (t158.size : Int)) = true := decide_eq_true c94
                                  have c94b1 : decide (0 < t158.size) = true := decide_eq_true (by omega)
                                  clear c94
                                  by_cases c96 : (bt t158 0) ≥ 192
                                  · rw [if_pos c96] at H
                                    have c96b0 : decide (192 ≤ (bt t158 0)) = true := decide_eq_true c96
                                    clear c96
                                    by_cases c97 : x7_9 > 1
                                    · rw [if_pos c97] at H
                                      have c97b0 : decide (1 < x7_9) = true := decide_eq_true c97
                                      clear c97
                                      obtain rfl := Option.some.inj H
                                      have p86 : 0 ≤ (a1 : Int) := of_decide_eq_true (by first | (with_reducible assumption) | assumption)
                                      have q86 : a1 < (t158.size : Int) := of_decide_eq_true (by first | (with_reducible assumption) | assumption)
                                      have hx86 := bt_at t158 a1
                                      replace p86 := eq_true p86
                                      replace q86 := eq_true q86
                                      have p88 : 0 ≤ (a1 : Int) := of_decide_eq_true (by first | (with_reducible assumption) | assumption)
                                      have q88 : a1 < (t158.size : Int) := of_decide_eq_true (by first | (with_reducible assumption) | assumption)
                                      have hx88 := bt_at t158 a1
                                      replace p88 := eq_true p88
                                      replace q88 := eq_true q88
                                      have p95 : 0 ≤ (0 : Int) := (by omega)
                                      have q95 : 0 < t158.size := (by have : (0 : Int) < (t158.size : Int) := of_decide_eq_true (by first | (with_reducible assumption) | assumption); omega)
                                      have hx95 : ∀ h : 0 < t158.size, ((t158[0]'h).toNat : Int) = bt t158 0 := bt_at t158 0
                                      clear p95
                                      have qi95 : (0 < (t158.size : Int)) = True := eq_true (of_decide_eq_true (by first | (with_reducible assumption) | assumption))
                                      replace q95 := eq_true q95
                                      go_wp2
                                      go_ret
                                      exact ⟨by first | rfl | (simp [errW_none, errW_some] <;> rfl) | (simp [*, errW_none, errW_some] <;> rfl), by repeat (first | (with_reducible first | exact HB.out | apply below_alloc | apply pw_below_drewN | apply below_drew1) | exact HB.out)⟩
                                    · rw [if_neg c97] at H
                                      have c97b0 : decide (1 < x7_9) = false := decide_eq_false c97
                                      clear c97
                                      obtain rfl := Option.some.inj H
                                      have p86 : 0 ≤ (a1 : Int) := of_decide_eq_true (by first | (with_reducible assumption) | assumption)
                                      have q86 : a1 < (t158.size : Int) := of_decide_eq_true (by first | (with_reducible assumption) | assumption)
                                      have hx86 := bt_at t158 a1
                                      replace p86 := eq_true p86
                                      replace q86 := eq_true q86
                                      have p88 : 0 ≤ (a1 : Int) := of_decide_eq_true (by first | (with_reducible assumption) | assumption)
                                      have q88 : a1 < (t158.size : Int) := of_decide_eq_true (by first | (with_reducible assumption) | assumption)
                                      have hx88 := bt_at t158 a1
                                      replace p88 := eq_true p88
                                      replace q88 := eq_true q88
                                      have p95 : 0 ≤ (0 : Int) := (by omega)
                                      have q95 : 0 < t158.size := (by have : (0 : Int) < (t158.size : Int) := of_decide_eq_true (by first | (with_reducible assumption) | assumption); omega)
                                      have hx95 : ∀ h : 0 < t158.size, ((t158[0]'h).toNat : Int) = bt t158 0 := bt_at t158 0
                                      clear p95
                                      have qi95 : (0 < (t158.size : Int)) = True := eq_true (of_decide_eq_true (by first | (with_reducible assumption) | assumption))
                                      replace q95 := eq_true q95
                                      have p98 : 0 ≤ (0 : Int) := (by omega)
                                      have q98 : 0 < t158.size := (by have : (0 : Int) < (t158.size : Int) := of_decide_eq_true (by first | (with_reducible assumption) | assumption); omega)
                                      have hx98 : ∀ h : 0 < t158.size, ((t158[0]'h).toNat : Int) = bt t158 0 := bt_at t158 0
                                      clear p98
                                      have qi98 : (0 < (t158.size : Int)) = True := eq_true (of_decide_eq_true (by first | (with_reducible assumption) | assumption))
                                      replace q98 := eq_true q98
                                      go_wp2
                                      go_ret
                                      exact ⟨by first | rfl | (simp [errW_none, errW_some] <;> rfl) | (simp [*, errW_none, errW_some] <;> rfl), by repeat (first | (with_reducible first | exact HB.out | apply below_alloc | apply pw_below_drewN | apply below_drew1) | exact HB.out)⟩
                                  · rw [if_neg c96] at H
                                    have c96b0 : decide (192 ≤ (bt t158 0)) = false := decide_eq_false c96
                                    clear c96
                                    exact absurd H (by have h_ := HT_.out; subst h_; decide)
                                · rw [if_neg c94] at H
                                  exact absurd H (by simp)
                            · rw [if_neg c89] at H
                              have c89b0 : decide ((bt t158 a1) < 192) = false := decide_eq_false c89
                              clear c89
                              exact absurd H (by have h_ := HT_.out; subst h_; decide)
                          · rw [if_neg c87] at H
                            have c87b0 : decide (128 ≤ (bt t158 a1)) = false := decide_eq_false c87
                            clear c87
                            exact absurd H (by have h_ := HT_.out; subst h_; decide)
                        · rw [if_neg c85] at H
                          exact absurd H (by simp)
                      · rw [if_neg c84] at H
                        exact absurd H (by simp)
                · rw [if_neg c63] at H
                  have c63b0 : ((t158.size : Int) == x7_9) = false := beq_eq_false_iff_ne.mpr c63
                  have c63b1 : ((t158.size : Int) != x7_9) = true := bne_iff_ne.mpr c63
                  exact absurd H (by have h_ := HT_.out; subst h_; decide)

/-- The pure statement of copperplatelaw02_UtfLong. -/
def copperplatelaw02_UtfLong.Pure : Prop := ∀ (a0 : Int) (a1 : Int), (Lit.int .i64 a0).wf = true → (Lit.int .i64 a1).wf = true → ∃ k, copperplatelaw02_UtfLong.f k a0 a1 = some true

end Go.Proofs.Ytbboehjbfcajdaa.PUtf
