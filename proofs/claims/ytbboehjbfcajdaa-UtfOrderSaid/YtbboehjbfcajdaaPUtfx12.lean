-- Written by a program of the session (drive.py, over the kit's print.py with contracts by hand). Not trusted: Lean checks it.
import Derived.Test.YtbboehjbfcajdaaPUtfx0
import Derived.Test.YtbboehjbfcajdaaHUtfNext
import Derived.Test.YtbboehjbfcajdaaHUtfUtfA
namespace Go.Proofs.Ytbboehjbfcajdaa.PUtf
open Go.RowKit Go.Proofs.YtbboehjbfcajdaaW.PrintWords Go.Proofs.YtbboehjbfcajdaaW.PrintLast Go.Proofs.YtbboehjbfcajdaaW.PrintMore
attribute [local go_sem] max2_int min2_int max_two min_two max_three min_three max_four min_four   -- for this text's walks alone
set_option linter.unusedVariables false
set_option linter.unusedSimpArgs false

/-! ### copperplatelaw02_UtfOrder: function 8 -/
def copperplatelaw02_UtfOrder.f (a0 : Int) (a1 : Int) : Option (Bool) := (copperplatelaw02_awake.f).bind fun t159 => ((utf_Put.f a0).bind fun t160 => ((utf_Put.f a1).bind fun t161 => (if t159 = true then (if t160.toList = ([] : List UInt8) then (some true) else (if t161.toList = ([] : List UInt8) then (some true) else (if ((Op.bytesLess t160.toList t161.toList) == (decide (a0 < a1))) = true then (some ((t160.toList == t161.toList) == (a0 == a1))) else (some false)))) else (some false))))
set_option maxHeartbeats 8000000 in
set_option maxRecDepth 100000 in
theorem copperplatelaw02_UtfOrder.calls (a0 : Int) (a1 : Int) (r : Bool) (w : World) (h : copperplatelaw02_UtfOrder.f a0 a1 = some r) (hT_ : r = true) :
    Calls Try.prog 8 #[.int .i64 a0, .int .i64 a1] w fun e w' => e = .returned (.bool r) ∧ Below w.heap.size w w' := by
  have HT_ := Aside0.mk hT_
  clear hT_
  have HB := Aside0.mk (Below.refl w.heap.size w)
  have H : ((copperplatelaw02_awake.f).bind fun t159 => ((utf_Put.f a0).bind fun t160 => ((utf_Put.f a1).bind fun t161 => (if t159 = true then (if t160.toList = ([] : List UInt8) then (some true) else (if t161.toList = ([] : List UInt8) then (some true) else (if ((Op.bytesLess t160.toList t161.toList) == (decide (a0 < a1))) = true then (some ((t160.toList == t161.toList) == (a0 == a1))) else (some false)))) else (some false))))) = some r := h
  clear h
  replace H := Option.bind_eq_some_iff.mp H
  obtain ⟨t159, A30, H⟩ := H
  replace H : ((utf_Put.f a0).bind fun t160 => ((utf_Put.f a1).bind fun t161 => (if t159 = true then (if t160.toList = ([] : List UInt8) then (some true) else (if t161.toList = ([] : List UInt8) then (some true) else (if ((Op.bytesLess t160.toList t161.toList) == (decide (a0 < a1))) = true then (some ((t160.toList == t161.toList) == (a0 == a1))) else (some false)))) else (some false)))) = some r := H
  have A3 := Aside0.mk A30
  clear A30
  replace H := Option.bind_eq_some_iff.mp H
  obtain ⟨t160, A40, H⟩ := H
  replace H : ((utf_Put.f a1).bind fun t161 => (if t159 = true then (if t160.toList = ([] : List UInt8) then (some true) else (if t161.toList = ([] : List UInt8) then (some true) else (if ((Op.bytesLess t160.toList t161.toList) == (decide (a0 < a1))) = true then (some ((t160.toList == t161.toList) == (a0 == a1))) else (some false)))) else (some false))) = some r := H
  have A4 := Aside0.mk A40
  clear A40
  replace H := Option.bind_eq_some_iff.mp H
  obtain ⟨t161, A50, H⟩ := H
  replace H : (if t159 = true then (if t160.toList = ([] : List UInt8) then (some true) else (if t161.toList = ([] : List UInt8) then (some true) else (if ((Op.bytesLess t160.toList t161.toList) == (decide (a0 < a1))) = true then (some ((t160.toList == t161.toList) == (a0 == a1))) else (some false)))) else (some false)) = some r := H
  have A5 := Aside0.mk A50
  clear A50
  by_cases c6 : t159 = true
  · subst c6
    have H1 : (if t160.toList = ([] : List UInt8) then (some true) else (if t161.toList = ([] : List UInt8) then (some true) else (if ((Op.bytesLess t160.toList t161.toList) == (decide (a0 < a1))) = true then (some ((t160.toList == t161.toList) == (a0 == a1))) else (some false)))) = some r := by rw [if_pos rfl] at H; exact H
    clear H
    have H := H1
    clear H1
    by_cases c7 : t160.toList = ([] : List UInt8)
    · rw [if_pos c7] at H
      have c7b0 : (t160.toList == ([] : List UInt8)) = true := beq_iff_eq.mpr c7
      have c7b1 : (t160.toList != ([] : List UInt8)) = false := bne_eq_false_iff_eq.mpr c7
      clear c7
      obtain rfl := Option.some.inj H
      go_enter Try.func8, Try.ntmps8
      go_wp2_with (first | ((with_reducible refine gate_callee (f := 9) rfl ?_); refine goesL_ (some 8) rfl rfl Try.func9 (by kernel_rfl) rfl #[] rfl (by (try simp only [List.map_toArray, List.map_cons, List.map_nil]); first | done | rfl | (simp only [List.length_drop, List.length_take]; rfl)) ?_; (with_reducible refine (copperplatelaw02_awake.calls  true _ A3.out).mono ?_); rintro e w8 ⟨rfl, hb⟩; refine ⟨_, rfl, ?_⟩; have n0_ := Aside0.mk (below_step (by repeat (first | (with_reducible first | exact HB.out | apply below_alloc | apply pw_below_drewN | apply below_drew1) | exact HB.out)) hb); clear HB; have HB := n0_; clear n0_; (try clear hb); (try clear hb2); (try clear hk); (try clear hi)) | ((with_reducible refine gate_callee (f := 13) rfl ?_); refine goesL_ (some 10) rfl rfl Try.func13 (by kernel_rfl) rfl #[.int .i64 a0] rfl (by (try simp only [List.map_toArray, List.map_cons, List.map_nil]); first | done | rfl | (simp only [List.length_drop, List.length_take]; rfl)) ?_; (with_reducible refine (utf_Put.calls a0 t160 _ A4.out).mono ?_); rintro e w9 ⟨rfl, hb⟩; refine ⟨_, rfl, ?_⟩; have n0_ := Aside0.mk (below_step (by repeat (first | (with_reducible first | exact HB.out | apply below_alloc | apply pw_below_drewN | apply below_drew1) | exact HB.out)) hb); clear HB; have HB := n0_; clear n0_; (try clear hb); (try clear hb2); (try clear hk); (try clear hi)) | ((with_reducible refine gate_callee (f := 13) rfl ?_); refine goesL_ (some 12) rfl rfl Try.func13 (by kernel_rfl) rfl #[.int .i64 a1] rfl (by (try simp only [List.map_toArray, List.map_cons, List.map_nil]); first | done | rfl | (simp only [List.length_drop, List.length_take]; rfl)) ?_; (with_reducible refine (utf_Put.calls a1 t161 _ A5.out).mono ?_); rintro e w10 ⟨rfl, hb⟩; refine ⟨_, rfl, ?_⟩; have n0_ := Aside0.mk (below_step (by repeat (first | (with_reducible first | exact HB.out | apply below_alloc | apply pw_below_drewN | apply below_drew1) | exact HB.out)) hb); clear HB; have HB := n0_; clear n0_; (try clear hb); (try clear hb2); (try clear hk); (try clear hi)))
      go_ret
      exact ⟨by first | rfl | (simp [errW_none, errW_some] <;> rfl) | (simp [*, errW_none, errW_some] <;> rfl), by repeat (first | (with_reducible first | exact HB.out | apply below_alloc | apply pw_below_drewN | apply below_drew1) | exact HB.out)⟩
    · rw [if_neg c7] at H
      have c7b0 : (t160.toList == ([] : List UInt8)) = false := beq_eq_false_iff_ne.mpr c7
      have c7b1 : (t160.toList != ([] : List UInt8)) = true := bne_iff_ne.mpr c7
      by_cases c11 : t161.toList = ([] : List UInt8)
      · rw [if_pos c11] at H
        have c11b0 : (t161.toList == ([] : List UInt8)) = true := beq_iff_eq.mpr c11
        have c11b1 : (t161.toList != ([] : List UInt8)) = false := bne_eq_false_iff_eq.mpr c11
        clear c11
        obtain rfl := Option.some.inj H
        go_enter Try.func8, Try.ntmps8
        go_wp2_with (first | ((with_reducible refine gate_callee (f := 9) rfl ?_); refine goesL_ (some 8) rfl rfl Try.func9 (by kernel_rfl) rfl #[] rfl (by (try simp only [List.map_toArray, List.map_cons, List.map_nil]); first | done | rfl | (simp only [List.length_drop, List.length_take]; rfl)) ?_; (with_reducible refine (copperplatelaw02_awake.calls  true _ A3.out).mono ?_); rintro e w12 ⟨rfl, hb⟩; refine ⟨_, rfl, ?_⟩; have n0_ := Aside0.mk (below_step (by repeat (first | (with_reducible first | exact HB.out | apply below_alloc | apply pw_below_drewN | apply below_drew1) | exact HB.out)) hb); clear HB; have HB := n0_; clear n0_; (try clear hb); (try clear hb2); (try clear hk); (try clear hi)) | ((with_reducible refine gate_callee (f := 13) rfl ?_); refine goesL_ (some 10) rfl rfl Try.func13 (by kernel_rfl) rfl #[.int .i64 a0] rfl (by (try simp only [List.map_toArray, List.map_cons, List.map_nil]); first | done | rfl | (simp only [List.length_drop, List.length_take]; rfl)) ?_; (with_reducible refine (utf_Put.calls a0 t160 _ A4.out).mono ?_); rintro e w13 ⟨rfl, hb⟩; refine ⟨_, rfl, ?_⟩; have n0_ := Aside0.mk (below_step (by repeat (first | (with_reducible first | exact HB.out | apply below_alloc | apply pw_below_drewN | apply below_drew1) | exact HB.out)) hb); clear HB; have HB := n0_; clear n0_; (try clear hb); (try clear hb2); (try clear hk); (try clear hi)) | ((with_reducible refine gate_callee (f := 13) rfl ?_); refine goesL_ (some 12) rfl rfl Try.func13 (by kernel_rfl) rfl #[.int .i64 a1] rfl (by (try simp only [List.map_toArray, List.map_cons, List.map_nil]); first | done | rfl | (simp only [List.length_drop, List.length_take]; rfl)) ?_; (with_reducible refine (utf_Put.calls a1 t161 _ A5.out).mono ?_); rintro e w14 ⟨rfl, hb⟩; refine ⟨_, rfl, ?_⟩; have n0_ := Aside0.mk (below_step (by repeat (first | (with_reducible first | exact HB.out | apply below_alloc | apply pw_below_drewN | apply below_drew1) | exact HB.out)) hb); clear HB; have HB := n0_; clear n0_; (try clear hb); (try clear hb2); (try clear hk); (try clear hi)))
        go_ret
        exact ⟨by first | rfl | (simp [errW_none, errW_some] <;> rfl) | (simp [*, errW_none, errW_some] <;> rfl), by repeat (first | (with_reducible first | exact HB.out | apply below_alloc | apply pw_below_drewN | apply below_drew1) | exact HB.out)⟩
      · rw [if_neg c11] at H
        have c11b0 : (t161.toList == ([] : List UInt8)) = false := beq_eq_false_iff_ne.mpr c11
        have c11b1 : (t161.toList != ([] : List UInt8)) = true := bne_iff_ne.mpr c11
        by_cases c15 : ((Op.bytesLess t160.toList t161.toList) == (decide (a0 < a1))) = true
        · rw [if_pos c15] at H
          have c15b0 : ((Op.bytesLess t160.toList t161.toList) == (decide (a0 < a1))) = true := c15
          (try (have c15b1 : decide ((Op.bytesLess t160.toList t161.toList) = (decide (a0 < a1))) = true := by simpa using c15))
          (try (have c15b2 : ((Op.bytesLess t160.toList t161.toList) == (decide (a0 < a1))) = true := by simpa using c15))
          clear c15
          obtain rfl := Option.some.inj H
          go_enter Try.func8, Try.ntmps8
          go_wp2_with (first | ((with_reducible refine gate_callee (f := 9) rfl ?_); refine goesL_ (some 8) rfl rfl Try.func9 (by kernel_rfl) rfl #[] rfl (by (try simp only [List.map_toArray, List.map_cons, List.map_nil]); first | done | rfl | (simp only [List.length_drop, List.length_take]; rfl)) ?_; (with_reducible refine (copperplatelaw02_awake.calls  true _ A3.out).mono ?_); rintro e w16 ⟨rfl, hb⟩; refine ⟨_, rfl, ?_⟩; have n0_ := Aside0.mk (below_step (by repeat (first | (with_reducible first | exact HB.out | apply below_alloc | apply pw_below_drewN | apply below_drew1) | exact HB.out)) hb); clear HB; have HB := n0_; clear n0_; (try clear hb); (try clear hb2); (try clear hk); (try clear hi)) | ((with_reducible refine gate_callee (f := 13) rfl ?_); refine goesL_ (some 10) rfl rfl Try.func13 (by kernel_rfl) rfl #[.int .i64 a0] rfl (by (try simp only [List.map_toArray, List.map_cons, List.map_nil]); first | done | rfl | (simp only [List.length_drop, List.length_take]; rfl)) ?_; (with_reducible refine (utf_Put.calls a0 t160 _ A4.out).mono ?_); rintro e w17 ⟨rfl, hb⟩; refine ⟨_, rfl, ?_⟩; have n0_ := Aside0.mk (below_step (by repeat (first | (with_reducible first | exact HB.out | apply below_alloc | apply pw_below_drewN | apply below_drew1) | exact HB.out)) hb); clear HB; have HB := n0_; clear n0_; (try clear hb); (try clear hb2); (try clear hk); (try clear hi)) | ((with_reducible refine gate_callee (f := 13) rfl ?_); refine goesL_ (some 12) rfl rfl Try.func13 (by kernel_rfl) rfl #[.int .i64 a1] rfl (by (try simp only [List.map_toArray, List.map_cons, List.map_nil]); first | done | rfl | (simp only [List.length_drop, List.length_take]; rfl)) ?_; (with_reducible refine (utf_Put.calls a1 t161 _ A5.out).mono ?_); rintro e w18 ⟨rfl, hb⟩; refine ⟨_, rfl, ?_⟩; have n0_ := Aside0.mk (below_step (by repeat (first | (with_reducible first | exact HB.out | apply below_alloc | apply pw_below_drewN | apply below_drew1) | exact HB.out)) hb); clear HB; have HB := n0_; clear n0_; (try clear hb); (try clear hb2); (try clear hk); (try clear hi)))
          go_ret
          exact ⟨by first | rfl | (simp [errW_none, errW_some] <;> rfl) | (simp [*, errW_none, errW_some] <;> rfl), by repeat (first | (with_reducible first | exact HB.out | apply below_alloc | apply pw_below_drewN | apply below_drew1) | exact HB.out)⟩
        · rw [if_neg c15] at H
          have c15b0 : ((Op.bytesLess t160.toList t161.toList) == (decide (a0 < a1))) = false := by simpa using c15
          (try (have c15b1 : decide ((Op.bytesLess t160.toList t161.toList) = (decide (a0 < a1))) = false := by simpa using c15))
          (try (have c15b2 : ((Op.bytesLess t160.toList t161.toList) == (decide (a0 < a1))) = false := by simpa using c15))
          (try (have c15b3 : ¬ ((Op.bytesLess t160.toList t161.toList) = (decide (a0 < a1))) := by simpa using c15))
          clear c15
          exact absurd H (by have h_ := HT_.out; subst h_; decide)
  · replace c6 := Bool.eq_false_iff.mpr c6
    subst c6
    have H1 : (some false) = some r := by rw [if_neg (show ¬ (false = true) by decide)] at H; exact H
    clear H
    have H := H1
    clear H1
    exact absurd H (by have h_ := HT_.out; subst h_; decide)

/-- The pure statement of copperplatelaw02_UtfOrder. -/
def copperplatelaw02_UtfOrder.Pure : Prop := ∀ (a0 : Int) (a1 : Int), (Lit.int .i64 a0).wf = true → (Lit.int .i64 a1).wf = true → copperplatelaw02_UtfOrder.f a0 a1 = some true

end Go.Proofs.Ytbboehjbfcajdaa.PUtf
