-- Written by a program of the session (drive.py, over the kit's print.py with contracts by hand). Not trusted: Lean checks it.
import Derived.Test.YtjibfhlacbgkgaaPSpanx0
import Derived.Test.YtjibfhlacbgkgaaPSpanx4
import Derived.Test.YtjibfhlacbgkgaaPSpanx18
import Derived.Test.YtjibfhlacbgkgaaHSpanNext
import Derived.Test.YtjibfhlacbgkgaaHSpanSpanA
namespace Go.Proofs.Ytjibfhlacbgkgaa.PSpan
open Go.RowKit Go.Proofs.YtjibfhlacbgkgaaW.PrintWords Go.Proofs.YtjibfhlacbgkgaaW.PrintLast Go.Proofs.YtjibfhlacbgkgaaW.PrintMore
attribute [local go_sem] max2_int min2_int max_two min_two max_three min_three max_four min_four   -- for this text's walks alone
set_option linter.unusedVariables false
set_option linter.unusedSimpArgs false

/-! ### copperplatelaw17_SpanCols: function 9 -/
def copperplatelaw17_SpanCols.j0 : Nat → ByteArray → ByteArray → Int → Bool → Bool → Option (Bool)
  | 0, _, _, _, _, _ => none
  | k + 1, x0, x1, x2, x7, x27 => if x27 = true then (some x7) else ((span_Cols.f k x0).bind fun t254 => ((utf_Put.f x2).bind fun t255 => (if x0.size + x1.size ≤ 9223372036854775807 then ((span_Cols.f k (x0 ++ x1)).bind fun t256 => ((span_Cols.f k x1).bind fun t257 => (if t256 = (wrap64 (t254 + t257)) then (if t254 ≤ (x0.size : Int) then (if t255.toList = ([] : List UInt8) then (some ((x0.toList == ([] : List UInt8)) == (t254 == 0))) else (if x0.size + t255.size ≤ 9223372036854775807 then ((span_Cols.f k (x0 ++ t255)).bind fun t258 => (if t258 = (wrap64 (t254 + 1)) then (some ((x0.toList == ([] : List UInt8)) == (t254 == 0))) else (some false))) else (none))) else (some false)) else (some false)))) else (none))))
def copperplatelaw17_SpanCols.f (k : Nat) (a0 : ByteArray) (a1 : ByteArray) (a2 : Int) : Option (Bool) := (copperplatelaw17_awake.f).bind fun t252 => (if t252 = true then (if (a0.size : Int) > 300 then (copperplatelaw17_SpanCols.j0 k a0 a1 a2 t252 true) else (if (a1.size : Int) > 300 then (copperplatelaw17_SpanCols.j0 k a0 a1 a2 t252 true) else ((utf_May.f a0).bind fun t253 => (copperplatelaw17_SpanCols.j0 k a0 a1 a2 t252 (!t253))))) else (copperplatelaw17_SpanCols.j0 k a0 a1 a2 t252 true))
theorem copperplatelaw17_SpanCols.mono_l : ∀ k, (∀ y0 y1 y2 y3 y4, LeO (copperplatelaw17_SpanCols.j0 k y0 y1 y2 y3 y4) (copperplatelaw17_SpanCols.j0 (k + 1) y0 y1 y2 y3 y4))
  | 0 => fun _ _ _ _ _ r h => by simp [copperplatelaw17_SpanCols.j0] at h
  | k + 1 => by
    have ih0 := copperplatelaw17_SpanCols.mono_l k
    · intro y0 y1 y2 y3 y4
      unfold copperplatelaw17_SpanCols.j0
      repeat' first
      | (with_reducible exact ih0 _ _ _ _ _)
      | (with_reducible exact span_Cols.mono _ _)
      | (with_reducible exact LeO.refl _)
      | (with_reducible exact LeO.none _)
      | (with_reducible refine LeO.ite ?_ ?_)
      | (with_reducible refine LeO.bind ?_ (fun _ => ?_))
      | exact ih0 _ _ _ _ _
      | exact span_Cols.mono _ _
      | exact LeO.none _
      | refine LeO.ite ?_ ?_
      | refine LeO.bind ?_ (fun _ => ?_)
theorem copperplatelaw17_SpanCols.mono : ∀ a0 a1 a2 k, LeO (copperplatelaw17_SpanCols.f k a0 a1 a2) (copperplatelaw17_SpanCols.f (k + 1) a0 a1 a2) := by
  intro a0 a1 a2 k
  have ih0 := copperplatelaw17_SpanCols.mono_l k
  unfold copperplatelaw17_SpanCols.f
  repeat' first
      | (with_reducible exact ih0 _ _ _ _ _)
      | (with_reducible exact span_Cols.mono _ _)
      | (with_reducible exact LeO.refl _)
      | (with_reducible exact LeO.none _)
      | (with_reducible refine LeO.ite ?_ ?_)
      | (with_reducible refine LeO.bind ?_ (fun _ => ?_))
      | exact ih0 _ _ _ _ _
      | exact span_Cols.mono _ _
      | exact LeO.none _
      | refine LeO.ite ?_ ?_
      | refine LeO.bind ?_ (fun _ => ?_)
set_option maxHeartbeats 8000000 in
set_option maxRecDepth 100000 in
theorem copperplatelaw17_SpanCols.calls (k : Nat) (a0 : ByteArray) (a1 : ByteArray) (a2 : Int) (r : Bool) (w : World) (h : copperplatelaw17_SpanCols.f k a0 a1 a2 = some r) (hT_ : r = true) :
    Calls Try.prog 9 #[.string a0, .string a1, .int .i64 a2] w fun e w' => e = .returned (.bool r) ∧ Below w.heap.size w w' := by
  have HT_ := Aside0.mk hT_
  clear hT_
  have HB := Aside0.mk (Below.refl w.heap.size w)
  have H : ((copperplatelaw17_awake.f).bind fun t252 => (if t252 = true then (if (a0.size : Int) > 300 then (copperplatelaw17_SpanCols.j0 k a0 a1 a2 t252 true) else (if (a1.size : Int) > 300 then (copperplatelaw17_SpanCols.j0 k a0 a1 a2 t252 true) else ((utf_May.f a0).bind fun t253 => (copperplatelaw17_SpanCols.j0 k a0 a1 a2 t252 (!t253))))) else (copperplatelaw17_SpanCols.j0 k a0 a1 a2 t252 true))) = some r := h
  clear h
  replace H := Option.bind_eq_some_iff.mp H
  obtain ⟨t252, A40, H⟩ := H
  replace H : (if t252 = true then (if (a0.size : Int) > 300 then (copperplatelaw17_SpanCols.j0 k a0 a1 a2 t252 true) else (if (a1.size : Int) > 300 then (copperplatelaw17_SpanCols.j0 k a0 a1 a2 t252 true) else ((utf_May.f a0).bind fun t253 => (copperplatelaw17_SpanCols.j0 k a0 a1 a2 t252 (!t253))))) else (copperplatelaw17_SpanCols.j0 k a0 a1 a2 t252 true)) = some r := H
  have A4 := Aside0.mk A40
  clear A40
  have HC5 := Aside0.mk H
  clear H
  go_enter Try.func9, Try.ntmps9
  go_upto_region 2 with (first | ((with_reducible refine gate_callee (f := 10) rfl ?_); refine goesL_ (some 10) rfl rfl Try.func10 (by kernel_rfl) rfl #[] rfl (by (try simp only [List.map_toArray, List.map_cons, List.map_nil]); first | done | rfl | (simp only [List.length_drop, List.length_take]; rfl)) ?_; (with_reducible refine (copperplatelaw17_awake.calls  t252 _ A4.out).mono ?_); (try clear A4); rintro e w6 ⟨rfl, hb⟩; refine ⟨_, rfl, ?_⟩; have n0_ := Aside0.mk (below_step (by repeat (first | (with_reducible first | exact HB.out | apply below_alloc | apply pw_below_drewN | apply below_drew1) | exact HB.out)) hb); clear HB; have HB := n0_; clear n0_; (try clear hb); (try clear hb2); (try clear hk); (try clear hi)))
  (try simp only [Act.put, List.setIfInBounds_toArray, List.set_cons_zero, List.set_cons_succ])
  go_cut [27] (fun v27 wc => ∃ (kq : Nat) (x27_4 : Bool), v27 = .bool x27_4 ∧ Aside0 (copperplatelaw17_SpanCols.j0 kq a0 a1 a2 t252 x27_4 = some r) ∧ Aside0 (kq ≤ k) ∧ Aside0 (Below w.heap.size w wc))
  case first =>
    have H := HC5.out
    clear HC5
    by_cases c7 : t252 = true
    · subst c7
      have H1 : (if (a0.size : Int) > 300 then (copperplatelaw17_SpanCols.j0 k a0 a1 a2 true true) else (if (a1.size : Int) > 300 then (copperplatelaw17_SpanCols.j0 k a0 a1 a2 true true) else ((utf_May.f a0).bind fun t253 => (copperplatelaw17_SpanCols.j0 k a0 a1 a2 true (!t253))))) = some r := by rw [if_pos rfl] at H; exact H
      clear H
      have H := H1
      clear H1
      by_cases c8 : (a0.size : Int) > 300
      · rw [if_pos c8] at H
        have c8b0 : decide (300 < (a0.size : Int)) = true := decide_eq_true c8
        have c8b1 : decide (300 < a0.size) = true := decide_eq_true (by omega)
        clear c8
        (first | rw [c8b0] | (simp only [i64_w, i32_w]; rw [c8b0]) | skip)
        have H' := Aside0.mk H
        clear H
        go_wp2
        go_meet
        case rel => exact ⟨_, (true), (by first | rfl | (simp; done) | (simp [*]; done)), H', ⟨by first | omega | exact Nat.le_refl _⟩, ⟨by repeat (first | (with_reducible first | exact HB.out | apply below_alloc | apply pw_below_drewN | apply below_drew1) | exact HB.out)⟩⟩
      · rw [if_neg c8] at H
        have c8b0 : decide (300 < (a0.size : Int)) = false := decide_eq_false c8
        have c8b1 : decide (300 < a0.size) = false := decide_eq_false (by omega)
        clear c8
        (first | rw [c8b0] | (simp only [i64_w, i32_w]; rw [c8b0]) | skip)
        by_cases c9 : (a1.size : Int) > 300
        · rw [if_pos c9] at H
          have c9b0 : decide (300 < (a1.size : Int)) = true := decide_eq_true c9
          have c9b1 : decide (300 < a1.size) = true := decide_eq_true (by omega)
          clear c9
          have H' := Aside0.mk H
          clear H
          go_wp2
          go_meet
          case rel => exact ⟨_, (true), (by first | rfl | (simp; done) | (simp [*]; done)), H', ⟨by first | omega | exact Nat.le_refl _⟩, ⟨by repeat (first | (with_reducible first | exact HB.out | apply below_alloc | apply pw_below_drewN | apply below_drew1) | exact HB.out)⟩⟩
        · rw [if_neg c9] at H
          have c9b0 : decide (300 < (a1.size : Int)) = false := decide_eq_false c9
          have c9b1 : decide (300 < a1.size) = false := decide_eq_false (by omega)
          clear c9
          replace H := Option.bind_eq_some_iff.mp H
          obtain ⟨t253, A100, H⟩ := H
          replace H : (copperplatelaw17_SpanCols.j0 k a0 a1 a2 true (!t253)) = some r := H
          have A10 := Aside0.mk A100
          clear A100
          have H' := Aside0.mk H
          clear H
          go_wp2_with (first | (go_at_call 22; (with_reducible refine (utf_May.calls a0 t253 _ A10.out).mono ?_); (try clear A10); rintro e w11 ⟨rfl, hb⟩; have n0_ := Aside0.mk (below_step (by repeat (first | (with_reducible first | exact HB.out | apply below_alloc | apply pw_below_drewN | apply below_drew1) | exact HB.out)) hb); clear HB; have HB := n0_; clear n0_; (try clear hb); (try clear hb2); (try clear hk); (try clear hi)))
          go_meet
          case rel => exact ⟨_, (!t253), (by first | rfl | (simp; done) | (simp [*]; done)), H', ⟨by first | omega | exact Nat.le_refl _⟩, ⟨by repeat (first | (with_reducible first | exact HB.out | apply below_alloc | apply pw_below_drewN | apply below_drew1) | exact HB.out)⟩⟩
    · replace c7 := Bool.eq_false_iff.mpr c7
      subst c7
      have H1 : (copperplatelaw17_SpanCols.j0 k a0 a1 a2 false true) = some r := by rw [if_neg (show ¬ (false = true) by decide)] at H; exact H
      clear H
      have H := H1
      clear H1
      have H' := Aside0.mk H
      clear H
      go_wp2
      go_meet
      case rel => exact ⟨_, (true), (by first | rfl | (simp; done) | (simp [*]; done)), H', ⟨by first | omega | exact Nat.le_refl _⟩, ⟨by repeat (first | (with_reducible first | exact HB.out | apply below_alloc | apply pw_below_drewN | apply below_drew1) | exact HB.out)⟩⟩
  case rest =>
    clear HC5
    try clear c1
    try clear p2
    try clear c7
    try clear c8
    try clear c8b0
    try clear c8b1
    try clear c9
    try clear c9b0
    try clear c9b1
    try clear c10
    obtain ⟨kq, x27_4, rfl, HA, HJ4, HB⟩ := hcut
    cases kq with
    | zero => exact absurd HA.out (by simp [copperplatelaw17_SpanCols.j0])
    | succ kj4 =>
      have H := HA.out
      clear HA
      simp only [copperplatelaw17_SpanCols.j0] at H
      by_cases c12 : x27_4 = true
      · subst c12
        have H1 : (some t252) = some r := by rw [if_pos rfl] at H; exact H
        clear H
        have H := H1
        clear H1
        obtain rfl := Option.some.inj H
        go_wp2
        go_ret
        exact ⟨by first | rfl | (simp [errW_none, errW_some] <;> rfl) | (simp [*, errW_none, errW_some] <;> rfl), by repeat (first | (with_reducible first | exact HB.out | apply below_alloc | apply pw_below_drewN | apply below_drew1) | exact HB.out)⟩
      · replace c12 := Bool.eq_false_iff.mpr c12
        subst c12
        have H1 : ((span_Cols.f kj4 a0).bind fun t254 => ((utf_Put.f a2).bind fun t255 => (if a0.size + a1.size ≤ 9223372036854775807 then ((span_Cols.f kj4 (a0 ++ a1)).bind fun t256 => ((span_Cols.f kj4 a1).bind fun t257 => (if t256 = (wrap64 (t254 + t257)) then (if t254 ≤ (a0.size : Int) then (if t255.toList = ([] : List UInt8) then (some ((a0.toList == ([] : List UInt8)) == (t254 == 0))) else (if a0.size + t255.size ≤ 9223372036854775807 then ((span_Cols.f kj4 (a0 ++ t255)).bind fun t258 => (if t258 = (wrap64 (t254 + 1)) then (some ((a0.toList == ([] : List UInt8)) == (t254 == 0))) else (some false))) else (none))) else (some false)) else (some false)))) else (none)))) = some r := by rw [if_neg (show ¬ (false = true) by decide)] at H; exact H
        clear H
        have H := H1
        clear H1
        replace H := Option.bind_eq_some_iff.mp H
        obtain ⟨t254, A130, H⟩ := H
        replace H : ((utf_Put.f a2).bind fun t255 => (if a0.size + a1.size ≤ 9223372036854775807 then ((span_Cols.f kj4 (a0 ++ a1)).bind fun t256 => ((span_Cols.f kj4 a1).bind fun t257 => (if t256 = (wrap64 (t254 + t257)) then (if t254 ≤ (a0.size : Int) then (if t255.toList = ([] : List UInt8) then (some ((a0.toList == ([] : List UInt8)) == (t254 == 0))) else (if a0.size + t255.size ≤ 9223372036854775807 then ((span_Cols.f kj4 (a0 ++ t255)).bind fun t258 => (if t258 = (wrap64 (t254 + 1)) then (some ((a0.toList == ([] : List UInt8)) == (t254 == 0))) else (some false))) else (none))) else (some false)) else (some false)))) else (none))) = some r := H
        have A13 := Aside0.mk A130
        clear A130
        replace H := Option.bind_eq_some_iff.mp H
        obtain ⟨t255, A140, H⟩ := H
        replace H : (if a0.size + a1.size ≤ 9223372036854775807 then ((span_Cols.f kj4 (a0 ++ a1)).bind fun t256 => ((span_Cols.f kj4 a1).bind fun t257 => (if t256 = (wrap64 (t254 + t257)) then (if t254 ≤ (a0.size : Int) then (if t255.toList = ([] : List UInt8) then (some ((a0.toList == ([] : List UInt8)) == (t254 == 0))) else (if a0.size + t255.size ≤ 9223372036854775807 then ((span_Cols.f kj4 (a0 ++ t255)).bind fun t258 => (if t258 = (wrap64 (t254 + 1)) then (some ((a0.toList == ([] : List UInt8)) == (t254 == 0))) else (some false))) else (none))) else (some false)) else (some false)))) else (none)) = some r := H
        have A14 := Aside0.mk A140
        clear A140
        by_cases c15 : a0.size + a1.size ≤ 9223372036854775807
        · rw [if_pos c15] at H
          have c15b0 := eq_true c15
          have c15b1 : decide (a0.size + a1.size ≤ 9223372036854775807) = true := decide_eq_true c15
          try have c15b2 : (9223372036854775807 < a0.size + a1.size) = False := eq_false (Nat.not_lt.2 c15)
          replace H := Option.bind_eq_some_iff.mp H
          obtain ⟨t256, A160, H⟩ := H
          replace H : ((span_Cols.f kj4 a1).bind fun t257 => (if t256 = (wrap64 (t254 + t257)) then (if t254 ≤ (a0.size : Int) then (if t255.toList = ([] : List UInt8) then (some ((a0.toList == ([] : List UInt8)) == (t254 == 0))) else (if a0.size + t255.size ≤ 9223372036854775807 then ((span_Cols.f kj4 (a0 ++ t255)).bind fun t258 => (if t258 = (wrap64 (t254 + 1)) then (some ((a0.toList == ([] : List UInt8)) == (t254 == 0))) else (some false))) else (none))) else (some false)) else (some false))) = some r := H
          have A16 := Aside0.mk A160
          clear A160
          replace H := Option.bind_eq_some_iff.mp H
          obtain ⟨t257, A170, H⟩ := H
          replace H : (if t256 = (wrap64 (t254 + t257)) then (if t254 ≤ (a0.size : Int) then (if t255.toList = ([] : List UInt8) then (some ((a0.toList == ([] : List UInt8)) == (t254 == 0))) else (if a0.size + t255.size ≤ 9223372036854775807 then ((span_Cols.f kj4 (a0 ++ t255)).bind fun t258 => (if t258 = (wrap64 (t254 + 1)) then (some ((a0.toList == ([] : List UInt8)) == (t254 == 0))) else (some false))) else (none))) else (some false)) else (some false)) = some r := H
          have A17 := Aside0.mk A170
          clear A170
          by_cases c18 : t256 = (wrap64 (t254 + t257))
          · rw [if_pos c18] at H
            have c18b0 : (t256 == (wrap64 (t254 + t257))) = true := beq_iff_eq.mpr c18
            have c18b1 : (t256 != (wrap64 (t254 + t257))) = false := bne_eq_false_iff_eq.mpr c18
            clear c18
            by_cases c19 : t254 ≤ (a0.size : Int)
            · rw [if_pos c19] at H
              have c19b0 : decide (t254 ≤ (a0.size : Int)) = true := decide_eq_true c19
              clear c19
              by_cases c20 : t255.toList = ([] : List UInt8)
              · rw [if_pos c20] at H
                have c20b0 : (t255.toList == ([] : List UInt8)) = true := beq_iff_eq.mpr c20
                have c20b1 : (t255.toList != ([] : List UInt8)) = false := bne_eq_false_iff_eq.mpr c20
                clear c20
                obtain rfl := Option.some.inj H
                (try (have hw_ : wrap64 (t254 + t257) = (t254 + t257) := (by unfold wrap64; omega); have c18b0u := c18b0; rw [hw_] at c18b0u))
                (try (have hw_ : wrap64 (t254 + t257) = (t254 + t257) := (by unfold wrap64; omega); have c18b1u := c18b1; rw [hw_] at c18b1u))
                go_wp2_with (first | ((with_reducible refine gate_callee (f := 14) rfl ?_); refine goesL_ (some 30) rfl rfl Try.func14 (by kernel_rfl) rfl #[.string a0] rfl (by (try simp only [List.map_toArray, List.map_cons, List.map_nil]); first | done | rfl | (simp only [List.length_drop, List.length_take]; rfl)) ?_; (with_reducible refine (span_Cols.calls kj4 a0 t254 _ A13.out).mono ?_); (try clear A13); rintro e w21 ⟨rfl, hb⟩; refine ⟨_, rfl, ?_⟩; have n0_ := Aside0.mk (below_step (by repeat (first | (with_reducible first | exact HB.out | apply below_alloc | apply pw_below_drewN | apply below_drew1) | exact HB.out)) hb); clear HB; have HB := n0_; clear n0_; (try clear hb); (try clear hb2); (try clear hk); (try clear hi)) | ((with_reducible refine gate_callee (f := 23) rfl ?_); refine goesL_ (some 32) rfl rfl Try.func23 (by kernel_rfl) rfl #[.int .i64 a2] rfl (by (try simp only [List.map_toArray, List.map_cons, List.map_nil]); first | done | rfl | (simp only [List.length_drop, List.length_take]; rfl)) ?_; (with_reducible refine (utf_Put.calls a2 t255 _ A14.out).mono ?_); (try clear A14); rintro e w22 ⟨rfl, hb⟩; refine ⟨_, rfl, ?_⟩; have n0_ := Aside0.mk (below_step (by repeat (first | (with_reducible first | exact HB.out | apply below_alloc | apply pw_below_drewN | apply below_drew1) | exact HB.out)) hb); clear HB; have HB := n0_; clear n0_; (try clear hb); (try clear hb2); (try clear hk); (try clear hi)) | ((with_reducible refine gate_callee (f := 14) rfl ?_); refine goesL_ (some 36) rfl rfl Try.func14 (by kernel_rfl) rfl #[.string (a0 ++ a1)] rfl (by (try simp only [List.map_toArray, List.map_cons, List.map_nil]); first | done | rfl | (simp only [List.length_drop, List.length_take]; rfl)) ?_; (with_reducible refine (span_Cols.calls kj4 (a0 ++ a1) t256 _ A16.out).mono ?_); (try clear A16); rintro e w23 ⟨rfl, hb⟩; refine ⟨_, rfl, ?_⟩; have n0_ := Aside0.mk (below_step (by repeat (first | (with_reducible first | exact HB.out | apply below_alloc | apply pw_below_drewN | apply below_drew1) | exact HB.out)) hb); clear HB; have HB := n0_; clear n0_; (try clear hb); (try clear hb2); (try clear hk); (try clear hi)) | ((with_reducible refine gate_callee (f := 14) rfl ?_); refine goesL_ (some 39) rfl rfl Try.func14 (by kernel_rfl) rfl #[.string a1] rfl (by (try simp only [List.map_toArray, List.map_cons, List.map_nil]); first | done | rfl | (simp only [List.length_drop, List.length_take]; rfl)) ?_; (with_reducible refine (span_Cols.calls kj4 a1 t257 _ A17.out).mono ?_); (try clear A17); rintro e w24 ⟨rfl, hb⟩; refine ⟨_, rfl, ?_⟩; have n0_ := Aside0.mk (below_step (by repeat (first | (with_reducible first | exact HB.out | apply below_alloc | apply pw_below_drewN | apply below_drew1) | exact HB.out)) hb); clear HB; have HB := n0_; clear n0_; (try clear hb); (try clear hb2); (try clear hk); (try clear hi)))
                go_ret
                exact ⟨by first | rfl | (simp [errW_none, errW_some] <;> rfl) | (simp [*, errW_none, errW_some] <;> rfl), by repeat (first | (with_reducible first | exact HB.out | apply below_alloc | apply pw_below_drewN | apply below_drew1) | exact HB.out)⟩
              · rw [if_neg c20] at H
                have c20b0 : (t255.toList == ([] : List UInt8)) = false := beq_eq_false_iff_ne.mpr c20
                have c20b1 : (t255.toList != ([] : List UInt8)) = true := bne_iff_ne.mpr c20
                by_cases c25 : a0.size + t255.size ≤ 9223372036854775807
                · rw [if_pos c25] at H
                  have c25b0 := eq_true c25
                  have c25b1 : decide (a0.size + t255.size ≤ 9223372036854775807) = true := decide_eq_true c25
                  try have c25b2 : (9223372036854775807 < a0.size + t255.size) = False := eq_false (Nat.not_lt.2 c25)
                  replace H := Option.bind_eq_some_iff.mp H
                  obtain ⟨t258, A260, H⟩ := H
                  replace H : (if t258 = (wrap64 (t254 + 1)) then (some ((a0.toList == ([] : List UInt8)) == (t254 == 0))) else (some false)) = some r := H
                  have A26 := Aside0.mk A260
                  clear A260
                  by_cases c27 : t258 = (wrap64 (t254 + 1))
                  · rw [if_pos c27] at H
                    have c27b0 : (t258 == (wrap64 (t254 + 1))) = true := beq_iff_eq.mpr c27
                    have c27b1 : (t258 != (wrap64 (t254 + 1))) = false := bne_eq_false_iff_eq.mpr c27
                    clear c27
                    obtain rfl := Option.some.inj H
                    (try (have hw_ : wrap64 (t254 + t257) = (t254 + t257) := (by unfold wrap64; omega); have c18b0u := c18b0; rw [hw_] at c18b0u))
                    (try (have hw_ : wrap64 (t254 + t257) = (t254 + t257) := (by unfold wrap64; omega); have c18b1u := c18b1; rw [hw_] at c18b1u))
                    (try (have hw_ : wrap64 (t254 + 1) = (t254 + 1) := (by unfold wrap64; omega); have c27b0u := c27b0; rw [hw_] at c27b0u))
                    (try (have hw_ : wrap64 (t254 + 1) = (t254 + 1) := (by unfold wrap64; omega); have c27b1u := c27b1; rw [hw_] at c27b1u))
                    go_wp2_with (first | ((with_reducible refine gate_callee (f := 14) rfl ?_); refine goesL_ (some 30) rfl rfl Try.func14 (by kernel_rfl) rfl #[.string a0] rfl (by (try simp only [List.map_toArray, List.map_cons, List.map_nil]); first | done | rfl | (simp only [List.length_drop, List.length_take]; rfl)) ?_; (with_reducible refine (span_Cols.calls kj4 a0 t254 _ A13.out).mono ?_); (try clear A13); rintro e w28 ⟨rfl, hb⟩; refine ⟨_, rfl, ?_⟩; have n0_ := Aside0.mk (below_step (by repeat (first | (with_reducible first | exact HB.out | apply below_alloc | apply pw_below_drewN | apply below_drew1) | exact HB.out)) hb); clear HB; have HB := n0_; clear n0_; (try clear hb); (try clear hb2); (try clear hk); (try clear hi)) | ((with_reducible refine gate_callee (f := 23) rfl ?_); refine goesL_ (some 32) rfl rfl Try.func23 (by kernel_rfl) rfl #[.int .i64 a2] rfl (by (try simp only [List.map_toArray, List.map_cons, List.map_nil]); first | done | rfl | (simp only [List.length_drop, List.length_take]; rfl)) ?_; (with_reducible refine (utf_Put.calls a2 t255 _ A14.out).mono ?_); (try clear A14); rintro e w29 ⟨rfl, hb⟩; refine ⟨_, rfl, ?_⟩; have n0_ := Aside0.mk (below_step (by repeat (first | (with_reducible first | exact HB.out | apply below_alloc | apply pw_below_drewN | apply below_drew1) | exact HB.out)) hb); clear HB; have HB := n0_; clear n0_; (try clear hb); (try clear hb2); (try clear hk); (try clear hi)) | ((with_reducible refine gate_callee (f := 14) rfl ?_); refine goesL_ (some 36) rfl rfl Try.func14 (by kernel_rfl) rfl #[.string (a0 ++ a1)] rfl (by (try simp only [List.map_toArray, List.map_cons, List.map_nil]); first | done | rfl | (simp only [List.length_drop, List.length_take]; rfl)) ?_; (with_reducible refine (span_Cols.calls kj4 (a0 ++ a1) t256 _ A16.out).mono ?_); (try clear A16); rintro e w30 ⟨rfl, hb⟩; refine ⟨_, rfl, ?_⟩; have n0_ := Aside0.mk (below_step (by repeat (first | (with_reducible first | exact HB.out | apply below_alloc | apply pw_below_drewN | apply below_drew1) | exact HB.out)) hb); clear HB; have HB := n0_; clear n0_; (try clear hb); (try clear hb2); (try clear hk); (try clear hi)) | ((with_reducible refine gate_callee (f := 14) rfl ?_); refine goesL_ (some 39) rfl rfl Try.func14 (by kernel_rfl) rfl #[.string a1] rfl (by (try simp only [List.map_toArray, List.map_cons, List.map_nil]); first | done | rfl | (simp only [List.length_drop, List.length_take]; rfl)) ?_; (with_reducible refine (span_Cols.calls kj4 a1 t257 _ A17.out).mono ?_); (try clear A17); rintro e w31 ⟨rfl, hb⟩; refine ⟨_, rfl, ?_⟩; have n0_ := Aside0.mk (below_step (by repeat (first | (with_reducible first | exact HB.out | apply below_alloc | apply pw_below_drewN | apply below_drew1) | exact HB.out)) hb); clear HB; have HB := n0_; clear n0_; (try clear hb); (try clear hb2); (try clear hk); (try clear hi)) | (go_at_call 14; (with_reducible refine (span_Cols.calls kj4 (a0 ++ t255) t258 _ A26.out).mono ?_); (try clear A26); rintro e w32 ⟨rfl, hb⟩; have n0_ := Aside0.mk (below_step (by repeat (first | (with_reducible first | exact HB.out | apply below_alloc | apply pw_below_drewN | apply below_drew1) | exact HB.out)) hb); clear HB; have HB := n0_; clear n0_; (try clear hb); (try clear hb2); (try clear hk); (try clear hi)))
                    go_ret
                    exact ⟨by first | rfl | (simp [errW_none, errW_some] <;> rfl) | (simp [*, errW_none, errW_some] <;> rfl), by repeat (first | (with_reducible first | exact HB.out | apply below_alloc | apply pw_below_drewN | apply below_drew1) | exact HB.out)⟩
                  · rw [if_neg c27] at H
                    have c27b0 : (t258 == (wrap64 (t254 + 1))) = false := beq_eq_false_iff_ne.mpr c27
                    have c27b1 : (t258 != (wrap64 (t254 + 1))) = true := bne_iff_ne.mpr c27
                    exact absurd H (by have h_ := HT_.out; subst h_; decide)
                · rw [if_neg c25] at H
                  exact absurd H (by simp)
            · rw [if_neg c19] at H
              have c19b0 : decide (t254 ≤ (a0.size : Int)) = false := decide_eq_false c19
              clear c19
              exact absurd H (by have h_ := HT_.out; subst h_; decide)
          · rw [if_neg c18] at H
            have c18b0 : (t256 == (wrap64 (t254 + t257))) = false := beq_eq_false_iff_ne.mpr c18
            have c18b1 : (t256 != (wrap64 (t254 + t257))) = true := bne_iff_ne.mpr c18
            exact absurd H (by have h_ := HT_.out; subst h_; decide)
        · rw [if_neg c15] at H
          exact absurd H (by simp)

/-- The pure statement of copperplatelaw17_SpanCols. -/
def copperplatelaw17_SpanCols.Pure : Prop := ∀ (a0 : ByteArray) (a1 : ByteArray) (a2 : Int), a0.size ≤ 140737488351232 → a1.size ≤ 140737488351232 → (Lit.int .i64 a2).wf = true → ∃ k, copperplatelaw17_SpanCols.f k a0 a1 a2 = some true
def copperplatelaw17_SpanCols.PureUp : Prop := ∀ (a0 : ByteArray) (a1 : ByteArray) (a2 : Int), a0.size ≤ 140737488351232 → a1.size ≤ 140737488351232 → (Lit.int .i64 a2).wf = true → a0.size + a1.size ≤ 1048576 → ∃ k, copperplatelaw17_SpanCols.f k a0 a1 a2 = some true

end Go.Proofs.Ytjibfhlacbgkgaa.PSpan
