-- Written by a program of the session (drive.py, over the kit's print.py with contracts by hand). Not trusted: Lean checks it.
import Derived.Test.YtjibfhlacbgkgaaPSpanx0
import Derived.Test.YtjibfhlacbgkgaaPSpanx4
import Derived.Test.YtjibfhlacbgkgaaHSpanFlat
import Derived.Test.YtjibfhlacbgkgaaHSpanSpanA
namespace Go.Proofs.Ytjibfhlacbgkgaa.PSpan
open Go.RowKit Go.Proofs.YtjibfhlacbgkgaaW.PrintWords Go.Proofs.YtjibfhlacbgkgaaW.PrintLast Go.Proofs.YtjibfhlacbgkgaaW.PrintMore
attribute [local go_sem] max2_int min2_int max_two min_two max_three min_three max_four min_four   -- for this text's walks alone
set_option linter.unusedVariables false
set_option linter.unusedSimpArgs false

/-! ### copperplatelaw17_SpanFlat: function 5 -/
def copperplatelaw17_SpanFlat.j0 : Nat → Int → ByteArray → Bool → Bool → Option (Bool)
  | 0, _, _, _, _ => none
  | k + 1, x0, x1, x5, x17 => if x17 = true then (some x5) else ((span_Flat.f x0 x1).bind fun bt119 => ((span_Breaks.f x0 x1).bind fun t121 => (if x0 ≥ 0 then (if x0 ≤ 9 then (if (bt119.2 == (x0 != 5)) = true then (if x0 = 0 then (if bt119.1.toList = x1.toList then (if t121 = true then (if x0 = 2 then ((span_Cols.f k bt119.1).bind fun t122 => (some (decide (t122 ≤ (bt119.1.size : Int))))) else (if x0 = 3 then ((span_Cols.f k bt119.1).bind fun t123 => (some (decide (t123 ≤ (bt119.1.size : Int))))) else (if x0 = 4 then ((span_Cols.f k bt119.1).bind fun t124 => (some (decide (t124 ≤ (bt119.1.size : Int))))) else (if x0 = 5 then ((span_Cols.f k bt119.1).bind fun t125 => (some (decide (t125 ≤ (bt119.1.size : Int))))) else (some false))))) else ((span_Cols.f k bt119.1).bind fun t126 => (some (decide (t126 ≤ (bt119.1.size : Int)))))) else (some false)) else (if t121 = true then (if x0 = 2 then (if (bt119.1.size : Int) ≤ 2 then ((span_Cols.f k bt119.1).bind fun t127 => (some (decide (t127 ≤ (bt119.1.size : Int))))) else (some false)) else (if x0 = 3 then (if (bt119.1.size : Int) ≤ 2 then ((span_Cols.f k bt119.1).bind fun t128 => (some (decide (t128 ≤ (bt119.1.size : Int))))) else (some false)) else (if x0 = 4 then (if (bt119.1.size : Int) ≤ 2 then ((span_Cols.f k bt119.1).bind fun t129 => (some (decide (t129 ≤ (bt119.1.size : Int))))) else (some false)) else (if x0 = 5 then (if (bt119.1.size : Int) ≤ 2 then ((span_Cols.f k bt119.1).bind fun t130 => (some (decide (t130 ≤ (bt119.1.size : Int))))) else (some false)) else (some false))))) else (if (bt119.1.size : Int) ≤ 2 then ((span_Cols.f k bt119.1).bind fun t131 => (some (decide (t131 ≤ (bt119.1.size : Int))))) else (some false)))) else (some false)) else (if (bt119.2 == false) = true then (if x0 = 0 then (if bt119.1.toList = x1.toList then (if t121 = true then (if x0 = 2 then ((span_Cols.f k bt119.1).bind fun t132 => (some (decide (t132 ≤ (bt119.1.size : Int))))) else (if x0 = 3 then ((span_Cols.f k bt119.1).bind fun t133 => (some (decide (t133 ≤ (bt119.1.size : Int))))) else (if x0 = 4 then ((span_Cols.f k bt119.1).bind fun t134 => (some (decide (t134 ≤ (bt119.1.size : Int))))) else (if x0 = 5 then ((span_Cols.f k bt119.1).bind fun t135 => (some (decide (t135 ≤ (bt119.1.size : Int))))) else (some false))))) else ((span_Cols.f k bt119.1).bind fun t136 => (some (decide (t136 ≤ (bt119.1.size : Int)))))) else (some false)) else (if t121 = true then (if x0 = 2 then (if (bt119.1.size : Int) ≤ 2 then ((span_Cols.f k bt119.1).bind fun t137 => (some (decide (t137 ≤ (bt119.1.size : Int))))) else (some false)) else (if x0 = 3 then (if (bt119.1.size : Int) ≤ 2 then ((span_Cols.f k bt119.1).bind fun t138 => (some (decide (t138 ≤ (bt119.1.size : Int))))) else (some false)) else (if x0 = 4 then (if (bt119.1.size : Int) ≤ 2 then ((span_Cols.f k bt119.1).bind fun t139 => (some (decide (t139 ≤ (bt119.1.size : Int))))) else (some false)) else (if x0 = 5 then (if (bt119.1.size : Int) ≤ 2 then ((span_Cols.f k bt119.1).bind fun t140 => (some (decide (t140 ≤ (bt119.1.size : Int))))) else (some false)) else (some false))))) else (if (bt119.1.size : Int) ≤ 2 then ((span_Cols.f k bt119.1).bind fun t141 => (some (decide (t141 ≤ (bt119.1.size : Int))))) else (some false)))) else (some false))) else (if (bt119.2 == false) = true then (if x0 = 0 then (if bt119.1.toList = x1.toList then (if t121 = true then (if x0 = 2 then ((span_Cols.f k bt119.1).bind fun t142 => (some (decide (t142 ≤ (bt119.1.size : Int))))) else (if x0 = 3 then ((span_Cols.f k bt119.1).bind fun t143 => (some (decide (t143 ≤ (bt119.1.size : Int))))) else (if x0 = 4 then ((span_Cols.f k bt119.1).bind fun t144 => (some (decide (t144 ≤ (bt119.1.size : Int))))) else (if x0 = 5 then ((span_Cols.f k bt119.1).bind fun t145 => (some (decide (t145 ≤ (bt119.1.size : Int))))) else (some false))))) else ((span_Cols.f k bt119.1).bind fun t146 => (some (decide (t146 ≤ (bt119.1.size : Int)))))) else (some false)) else (if t121 = true then (if x0 = 2 then (if (bt119.1.size : Int) ≤ 2 then ((span_Cols.f k bt119.1).bind fun t147 => (some (decide (t147 ≤ (bt119.1.size : Int))))) else (some false)) else (if x0 = 3 then (if (bt119.1.size : Int) ≤ 2 then ((span_Cols.f k bt119.1).bind fun t148 => (some (decide (t148 ≤ (bt119.1.size : Int))))) else (some false)) else (if x0 = 4 then (if (bt119.1.size : Int) ≤ 2 then ((span_Cols.f k bt119.1).bind fun t149 => (some (decide (t149 ≤ (bt119.1.size : Int))))) else (some false)) else (if x0 = 5 then (if (bt119.1.size : Int) ≤ 2 then ((span_Cols.f k bt119.1).bind fun t150 => (some (decide (t150 ≤ (bt119.1.size : Int))))) else (some false)) else (some false))))) else (if (bt119.1.size : Int) ≤ 2 then ((span_Cols.f k bt119.1).bind fun t151 => (some (decide (t151 ≤ (bt119.1.size : Int))))) else (some false)))) else (some false)))))
def copperplatelaw17_SpanFlat.f (k : Nat) (a0 : Int) (a1 : ByteArray) : Option (Bool) := (copperplatelaw17_awake.f).bind fun t118 => (if t118 = true then (copperplatelaw17_SpanFlat.j0 k a0 a1 t118 (decide ((a1.size : Int) > 300))) else (copperplatelaw17_SpanFlat.j0 k a0 a1 t118 true))
theorem copperplatelaw17_SpanFlat.mono_l : ∀ k, (∀ y0 y1 y2 y3, LeO (copperplatelaw17_SpanFlat.j0 k y0 y1 y2 y3) (copperplatelaw17_SpanFlat.j0 (k + 1) y0 y1 y2 y3))
  | 0 => fun _ _ _ _ r h => by simp [copperplatelaw17_SpanFlat.j0] at h
  | k + 1 => by
    have ih0 := copperplatelaw17_SpanFlat.mono_l k
    · intro y0 y1 y2 y3
      unfold copperplatelaw17_SpanFlat.j0
      repeat' first
      | (with_reducible exact ih0 _ _ _ _)
      | (with_reducible exact span_Cols.mono _ _)
      | (with_reducible exact LeO.refl _)
      | (with_reducible exact LeO.none _)
      | (with_reducible refine LeO.ite ?_ ?_)
      | (with_reducible refine LeO.bind ?_ (fun _ => ?_))
      | exact ih0 _ _ _ _
      | exact span_Cols.mono _ _
      | exact LeO.none _
      | refine LeO.ite ?_ ?_
      | refine LeO.bind ?_ (fun _ => ?_)
theorem copperplatelaw17_SpanFlat.mono : ∀ a0 a1 k, LeO (copperplatelaw17_SpanFlat.f k a0 a1) (copperplatelaw17_SpanFlat.f (k + 1) a0 a1) := by
  intro a0 a1 k
  have ih0 := copperplatelaw17_SpanFlat.mono_l k
  unfold copperplatelaw17_SpanFlat.f
  repeat' first
      | (with_reducible exact ih0 _ _ _ _)
      | (with_reducible exact span_Cols.mono _ _)
      | (with_reducible exact LeO.refl _)
      | (with_reducible exact LeO.none _)
      | (with_reducible refine LeO.ite ?_ ?_)
      | (with_reducible refine LeO.bind ?_ (fun _ => ?_))
      | exact ih0 _ _ _ _
      | exact span_Cols.mono _ _
      | exact LeO.none _
      | refine LeO.ite ?_ ?_
      | refine LeO.bind ?_ (fun _ => ?_)
set_option maxHeartbeats 8000000 in
set_option maxRecDepth 100000 in
theorem copperplatelaw17_SpanFlat.calls (k : Nat) (a0 : Int) (a1 : ByteArray) (r : Bool) (w : World) (h : copperplatelaw17_SpanFlat.f k a0 a1 = some r) (hT_ : r = true) :
    Calls Try.prog 5 #[.int .i64 a0, .string a1] w fun e w' => e = .returned (.bool r) ∧ Below w.heap.size w w' := by
  have hu23 := Try.underlying23
  have HT_ := Aside0.mk hT_
  clear hT_
  have HB := Aside0.mk (Below.refl w.heap.size w)
  have H : ((copperplatelaw17_awake.f).bind fun t118 => (if t118 = true then (copperplatelaw17_SpanFlat.j0 k a0 a1 t118 (decide ((a1.size : Int) > 300))) else (copperplatelaw17_SpanFlat.j0 k a0 a1 t118 true))) = some r := h
  clear h
  replace H := Option.bind_eq_some_iff.mp H
  obtain ⟨t118, A30, H⟩ := H
  replace H : (if t118 = true then (copperplatelaw17_SpanFlat.j0 k a0 a1 t118 (decide ((a1.size : Int) > 300))) else (copperplatelaw17_SpanFlat.j0 k a0 a1 t118 true)) = some r := H
  have A3 := Aside0.mk A30
  clear A30
  have HC4 := Aside0.mk H
  clear H
  go_enter Try.func5, Try.ntmps5
  go_upto_region 2 with (first | ((with_reducible refine gate_callee (f := 10) rfl ?_); refine goesL_ (some 10) rfl rfl Try.func10 (by kernel_rfl) rfl #[] rfl (by (try simp only [List.map_toArray, List.map_cons, List.map_nil]); first | done | rfl | (simp only [List.length_drop, List.length_take]; rfl)) ?_; (with_reducible refine (copperplatelaw17_awake.calls  t118 _ A3.out).mono ?_); (try clear A3); rintro e w5 ⟨rfl, hb⟩; refine ⟨_, rfl, ?_⟩; have n0_ := Aside0.mk (below_step (by repeat (first | (with_reducible first | exact HB.out | apply below_alloc | apply pw_below_drewN | apply below_drew1) | exact HB.out)) hb); clear HB; have HB := n0_; clear n0_; (try clear hb); (try clear hb2); (try clear hk); (try clear hi)))
  (try simp only [Act.put, List.setIfInBounds_toArray, List.set_cons_zero, List.set_cons_succ])
  go_cut [17] (fun v17 wc => ∃ (kq : Nat) (x17_3 : Bool), v17 = .bool x17_3 ∧ Aside0 (copperplatelaw17_SpanFlat.j0 kq a0 a1 t118 x17_3 = some r) ∧ Aside0 (kq ≤ k) ∧ Aside0 (Below w.heap.size w wc))
  case first =>
    have H := HC4.out
    clear HC4
    by_cases c6 : t118 = true
    · subst c6
      have H1 : (copperplatelaw17_SpanFlat.j0 k a0 a1 true (decide ((a1.size : Int) > 300))) = some r := by rw [if_pos rfl] at H; exact H
      clear H
      have H := H1
      clear H1
      have H' := Aside0.mk H
      clear H
      go_wp2
      go_meet
      case rel => exact ⟨_, (decide ((a1.size : Int) > 300)), (by first | rfl | (simp; done) | (simp [*]; done)), H', ⟨by first | omega | exact Nat.le_refl _⟩, ⟨by repeat (first | (with_reducible first | exact HB.out | apply below_alloc | apply pw_below_drewN | apply below_drew1) | exact HB.out)⟩⟩
    · replace c6 := Bool.eq_false_iff.mpr c6
      subst c6
      have H1 : (copperplatelaw17_SpanFlat.j0 k a0 a1 false true) = some r := by rw [if_neg (show ¬ (false = true) by decide)] at H; exact H
      clear H
      have H := H1
      clear H1
      have H' := Aside0.mk H
      clear H
      go_wp2
      go_meet
      case rel => exact ⟨_, (true), (by first | rfl | (simp; done) | (simp [*]; done)), H', ⟨by first | omega | exact Nat.le_refl _⟩, ⟨by repeat (first | (with_reducible first | exact HB.out | apply below_alloc | apply pw_below_drewN | apply below_drew1) | exact HB.out)⟩⟩
  case rest =>
    clear HC4
    try clear c1
    try clear p2
    try clear c5
    try clear c6
    obtain ⟨kq, x17_3, rfl, HA, HJ3, HB⟩ := hcut
    cases kq with
    | zero => exact absurd HA.out (by simp [copperplatelaw17_SpanFlat.j0])
    | succ kj3 =>
      have H := HA.out
      clear HA
      simp only [copperplatelaw17_SpanFlat.j0] at H
      by_cases c7 : x17_3 = true
      · subst c7
        have H1 : (some t118) = some r := by rw [if_pos rfl] at H; exact H
        clear H
        have H := H1
        clear H1
        obtain rfl := Option.some.inj H
        go_wp2
        go_ret
        exact ⟨by first | rfl | (simp [errW_none, errW_some] <;> rfl) | (simp [*, errW_none, errW_some] <;> rfl), by repeat (first | (with_reducible first | exact HB.out | apply below_alloc | apply pw_below_drewN | apply below_drew1) | exact HB.out)⟩
      · replace c7 := Bool.eq_false_iff.mpr c7
        subst c7
        have H1 : ((span_Flat.f a0 a1).bind fun bt119 => ((span_Breaks.f a0 a1).bind fun t121 => (if a0 ≥ 0 then (if a0 ≤ 9 then (if (bt119.2 == (a0 != 5)) = true then (if a0 = 0 then (if bt119.1.toList = a1.toList then (if t121 = true then (if a0 = 2 then ((span_Cols.f kj3 bt119.1).bind fun t122 => (some (decide (t122 ≤ (bt119.1.size : Int))))) else (if a0 = 3 then ((span_Cols.f kj3 bt119.1).bind fun t123 => (some (decide (t123 ≤ (bt119.1.size : Int))))) else (if a0 = 4 then ((span_Cols.f kj3 bt119.1).bind fun t124 => (some (decide (t124 ≤ (bt119.1.size : Int))))) else (if a0 = 5 then ((span_Cols.f kj3 bt119.1).bind fun t125 => (some (decide (t125 ≤ (bt119.1.size : Int))))) else (some false))))) else ((span_Cols.f kj3 bt119.1).bind fun t126 => (some (decide (t126 ≤ (bt119.1.size : Int)))))) else (some false)) else (if t121 = true then (if a0 = 2 then (if (bt119.1.size : Int) ≤ 2 then ((span_Cols.f kj3 bt119.1).bind fun t127 => (some (decide (t127 ≤ (bt119.1.size : Int))))) else (some false)) else (if a0 = 3 then (if (bt119.1.size : Int) ≤ 2 then ((span_Cols.f kj3 bt119.1).bind fun t128 => (some (decide (t128 ≤ (bt119.1.size : Int))))) else (some false)) else (if a0 = 4 then (if (bt119.1.size : Int) ≤ 2 then ((span_Cols.f kj3 bt119.1).bind fun t129 => (some (decide (t129 ≤ (bt119.1.size : Int))))) else (some false)) else (if a0 = 5 then (if (bt119.1.size : Int) ≤ 2 then ((span_Cols.f kj3 bt119.1).bind fun t130 => (some (decide (t130 ≤ (bt119.1.size : Int))))) else (some false)) else (some false))))) else (if (bt119.1.size : Int) ≤ 2 then ((span_Cols.f kj3 bt119.1).bind fun t131 => (some (decide (t131 ≤ (bt119.1.size : Int))))) else (some false)))) else (some false)) else (if (bt119.2 == false) = true then (if a0 = 0 then (if bt119.1.toList = a1.toList then (if t121 = true then (if a0 = 2 then ((span_Cols.f kj3 bt119.1).bind fun t132 => (some (decide (t132 ≤ (bt119.1.size : Int))))) else (if a0 = 3 then ((span_Cols.f kj3 bt119.1).bind fun t133 => (some (decide (t133 ≤ (bt119.1.size : Int))))) else (if a0 = 4 then ((span_Cols.f kj3 bt119.1).bind fun t134 => (some (decide (t134 ≤ (bt119.1.size : Int))))) else (if a0 = 5 then ((span_Cols.f kj3 bt119.1).bind fun t135 => (some (decide (t135 ≤ (bt119.1.size : Int))))) else (some false))))) else ((span_Cols.f kj3 bt119.1).bind fun t136 => (some (decide (t136 ≤ (bt119.1.size : Int)))))) else (some false)) else (if t121 = true then (if a0 = 2 then (if (bt119.1.size : Int) ≤ 2 then ((span_Cols.f kj3 bt119.1).bind fun t137 => (some (decide (t137 ≤ (bt119.1.size : Int))))) else (some false)) else (if a0 = 3 then (if (bt119.1.size : Int) ≤ 2 then ((span_Cols.f kj3 bt119.1).bind fun t138 => (some (decide (t138 ≤ (bt119.1.size : Int))))) else (some false)) else (if a0 = 4 then (if (bt119.1.size : Int) ≤ 2 then ((span_Cols.f kj3 bt119.1).bind fun t139 => (some (decide (t139 ≤ (bt119.1.size : Int))))) else (some false)) else (if a0 = 5 then (if (bt119.1.size : Int) ≤ 2 then ((span_Cols.f kj3 bt119.1).bind fun t140 => (some (decide (t140 ≤ (bt119.1.size : Int))))) else (some false)) else (some false))))) else (if (bt119.1.size : Int) ≤ 2 then ((span_Cols.f kj3 bt119.1).bind fun t141 => (some (decide (t141 ≤ (bt119.1.size : Int))))) else (some false)))) else (some false))) else (if (bt119.2 == false) = true then (if a0 = 0 then (if bt119.1.toList = a1.toList then (if t121 = true then (if a0 = 2 then ((span_Cols.f kj3 bt119.1).bind fun t142 => (some (decide (t142 ≤ (bt119.1.size : Int))))) else (if a0 = 3 then ((span_Cols.f kj3 bt119.1).bind fun t143 => (some (decide (t143 ≤ (bt119.1.size : Int))))) else (if a0 = 4 then ((span_Cols.f kj3 bt119.1).bind fun t144 => (some (decide (t144 ≤ (bt119.1.size : Int))))) else (if a0 = 5 then ((span_Cols.f kj3 bt119.1).bind fun t145 => (some (decide (t145 ≤ (bt119.1.size : Int))))) else (some false))))) else ((span_Cols.f kj3 bt119.1).bind fun t146 => (some (decide (t146 ≤ (bt119.1.size : Int)))))) else (some false)) else (if t121 = true then (if a0 = 2 then (if (bt119.1.size : Int) ≤ 2 then ((span_Cols.f kj3 bt119.1).bind fun t147 => (some (decide (t147 ≤ (bt119.1.size : Int))))) else (some false)) else (if a0 = 3 then (if (bt119.1.size : Int) ≤ 2 then ((span_Cols.f kj3 bt119.1).bind fun t148 => (some (decide (t148 ≤ (bt119.1.size : Int))))) else (some false)) else (if a0 = 4 then (if (bt119.1.size : Int) ≤ 2 then ((span_Cols.f kj3 bt119.1).bind fun t149 => (some (decide (t149 ≤ (bt119.1.size : Int))))) else (some false)) else (if a0 = 5 then (if (bt119.1.size : Int) ≤ 2 then ((span_Cols.f kj3 bt119.1).bind fun t150 => (some (decide (t150 ≤ (bt119.1.size : Int))))) else (some false)) else (some false))))) else (if (bt119.1.size : Int) ≤ 2 then ((span_Cols.f kj3 bt119.1).bind fun t151 => (some (decide (t151 ≤ (bt119.1.size : Int))))) else (some false)))) else (some false))))) = some r := by rw [if_neg (show ¬ (false = true) by decide)] at H; exact H
        clear H
        have H := H1
        clear H1
        replace H := Option.bind_eq_some_iff.mp H
        obtain ⟨⟨t119, t120⟩, A80, H⟩ := H
        replace H : ((span_Breaks.f a0 a1).bind fun t121 => (if a0 ≥ 0 then (if a0 ≤ 9 then (if (t120 == (a0 != 5)) = true then (if a0 = 0 then (if t119.toList = a1.toList then (if t121 = true then (if a0 = 2 then ((span_Cols.f kj3 t119).bind fun t122 => (some (decide (t122 ≤ (t119.size : Int))))) else (if a0 = 3 then ((span_Cols.f kj3 t119).bind fun t123 => (some (decide (t123 ≤ (t119.size : Int))))) else (if a0 = 4 then ((span_Cols.f kj3 t119).bind fun t124 => (some (decide (t124 ≤ (t119.size : Int))))) else (if a0 = 5 then ((span_Cols.f kj3 t119).bind fun t125 => (some (decide (t125 ≤ (t119.size : Int))))) else (some false))))) else ((span_Cols.f kj3 t119).bind fun t126 => (some (decide (t126 ≤ (t119.size : Int)))))) else (some false)) else (if t121 = true then (if a0 = 2 then (if (t119.size : Int) ≤ 2 then ((span_Cols.f kj3 t119).bind fun t127 => (some (decide (t127 ≤ (t119.size : Int))))) else (some false)) else (if a0 = 3 then (if (t119.size : Int) ≤ 2 then ((span_Cols.f kj3 t119).bind fun t128 => (some (decide (t128 ≤ (t119.size : Int))))) else (some false)) else (if a0 = 4 then (if (t119.size : Int) ≤ 2 then ((span_Cols.f kj3 t119).bind fun t129 => (some (decide (t129 ≤ (t119.size : Int))))) else (some false)) else (if a0 = 5 then (if (t119.size : Int) ≤ 2 then ((span_Cols.f kj3 t119).bind fun t130 => (some (decide (t130 ≤ (t119.size : Int))))) else (some false)) else (some false))))) else (if (t119.size : Int) ≤ 2 then ((span_Cols.f kj3 t119).bind fun t131 => (some (decide (t131 ≤ (t119.size : Int))))) else (some false)))) else (some false)) else (if (t120 == false) = true then (if a0 = 0 then (if t119.toList = a1.toList then (if t121 = true then (if a0 = 2 then ((span_Cols.f kj3 t119).bind fun t132 => (some (decide (t132 ≤ (t119.size : Int))))) else (if a0 = 3 then ((span_Cols.f kj3 t119).bind fun t133 => (some (decide (t133 ≤ (t119.size : Int))))) else (if a0 = 4 then ((span_Cols.f kj3 t119).bind fun t134 => (some (decide (t134 ≤ (t119.size : Int))))) else (if a0 = 5 then ((span_Cols.f kj3 t119).bind fun t135 => (some (decide (t135 ≤ (t119.size : Int))))) else (some false))))) else ((span_Cols.f kj3 t119).bind fun t136 => (some (decide (t136 ≤ (t119.size : Int)))))) else (some false)) else (if t121 = true then (if a0 = 2 then (if (t119.size : Int) ≤ 2 then ((span_Cols.f kj3 t119).bind fun t137 => (some (decide (t137 ≤ (t119.size : Int))))) else (some false)) else (if a0 = 3 then (if (t119.size : Int) ≤ 2 then ((span_Cols.f kj3 t119).bind fun t138 => (some (decide (t138 ≤ (t119.size : Int))))) else (some false)) else (if a0 = 4 then (if (t119.size : Int) ≤ 2 then ((span_Cols.f kj3 t119).bind fun t139 => (some (decide (t139 ≤ (t119.size : Int))))) else (some false)) else (if a0 = 5 then (if (t119.size : Int) ≤ 2 then ((span_Cols.f kj3 t119).bind fun t140 => (some (decide (t140 ≤ (t119.size : Int))))) else (some false)) else (some false))))) else (if (t119.size : Int) ≤ 2 then ((span_Cols.f kj3 t119).bind fun t141 => (some (decide (t141 ≤ (t119.size : Int))))) else (some false)))) else (some false))) else (if (t120 == false) = true then (if a0 = 0 then (if t119.toList = a1.toList then (if t121 = true then (if a0 = 2 then ((span_Cols.f kj3 t119).bind fun t142 => (some (decide (t142 ≤ (t119.size : Int))))) else (if a0 = 3 then ((span_Cols.f kj3 t119).bind fun t143 => (some (decide (t143 ≤ (t119.size : Int))))) else (if a0 = 4 then ((span_Cols.f kj3 t119).bind fun t144 => (some (decide (t144 ≤ (t119.size : Int))))) else (if a0 = 5 then ((span_Cols.f kj3 t119).bind fun t145 => (some (decide (t145 ≤ (t119.size : Int))))) else (some false))))) else ((span_Cols.f kj3 t119).bind fun t146 => (some (decide (t146 ≤ (t119.size : Int)))))) else (some false)) else (if t121 = true then (if a0 = 2 then (if (t119.size : Int) ≤ 2 then ((span_Cols.f kj3 t119).bind fun t147 => (some (decide (t147 ≤ (t119.size : Int))))) else (some false)) else (if a0 = 3 then (if (t119.size : Int) ≤ 2 then ((span_Cols.f kj3 t119).bind fun t148 => (some (decide (t148 ≤ (t119.size : Int))))) else (some false)) else (if a0 = 4 then (if (t119.size : Int) ≤ 2 then ((span_Cols.f kj3 t119).bind fun t149 => (some (decide (t149 ≤ (t119.size : Int))))) else (some false)) else (if a0 = 5 then (if (t119.size : Int) ≤ 2 then ((span_Cols.f kj3 t119).bind fun t150 => (some (decide (t150 ≤ (t119.size : Int))))) else (some false)) else (some false))))) else (if (t119.size : Int) ≤ 2 then ((span_Cols.f kj3 t119).bind fun t151 => (some (decide (t151 ≤ (t119.size : Int))))) else (some false)))) else (some false)))) = some r := H
        have A8 := Aside0.mk A80
        clear A80
        replace H := Option.bind_eq_some_iff.mp H
        obtain ⟨t121, A90, H⟩ := H
        replace H : (if a0 ≥ 0 then (if a0 ≤ 9 then (if (t120 == (a0 != 5)) = true then (if a0 = 0 then (if t119.toList = a1.toList then (if t121 = true then (if a0 = 2 then ((span_Cols.f kj3 t119).bind fun t122 => (some (decide (t122 ≤ (t119.size : Int))))) else (if a0 = 3 then ((span_Cols.f kj3 t119).bind fun t123 => (some (decide (t123 ≤ (t119.size : Int))))) else (if a0 = 4 then ((span_Cols.f kj3 t119).bind fun t124 => (some (decide (t124 ≤ (t119.size : Int))))) else (if a0 = 5 then ((span_Cols.f kj3 t119).bind fun t125 => (some (decide (t125 ≤ (t119.size : Int))))) else (some false))))) else ((span_Cols.f kj3 t119).bind fun t126 => (some (decide (t126 ≤ (t119.size : Int)))))) else (some false)) else (if t121 = true then (if a0 = 2 then (if (t119.size : Int) ≤ 2 then ((span_Cols.f kj3 t119).bind fun t127 => (some (decide (t127 ≤ (t119.size : Int))))) else (some false)) else (if a0 = 3 then (if (t119.size : Int) ≤ 2 then ((span_Cols.f kj3 t119).bind fun t128 => (some (decide (t128 ≤ (t119.size : Int))))) else (some false)) else (if a0 = 4 then (if (t119.size : Int) ≤ 2 then ((span_Cols.f kj3 t119).bind fun t129 => (some (decide (t129 ≤ (t119.size : Int))))) else (some false)) else (if a0 = 5 then (if (t119.size : Int) ≤ 2 then ((span_Cols.f kj3 t119).bind fun t130 => (some (decide (t130 ≤ (t119.size : Int))))) else (some false)) else (some false))))) else (if (t119.size : Int) ≤ 2 then ((span_Cols.f kj3 t119).bind fun t131 => (some (decide (t131 ≤ (t119.size : Int))))) else (some false)))) else (some false)) else (if (t120 == false) = true then (if a0 = 0 then (if t119.toList = a1.toList then (if t121 = true then (if a0 = 2 then ((span_Cols.f kj3 t119).bind fun t132 => (some (decide (t132 ≤ (t119.size : Int))))) else (if a0 = 3 then ((span_Cols.f kj3 t119).bind fun t133 => (some (decide (t133 ≤ (t119.size : Int))))) else (if a0 = 4 then ((span_Cols.f kj3 t119).bind fun t134 => (some (decide (t134 ≤ (t119.size : Int))))) else (if a0 = 5 then ((span_Cols.f kj3 t119).bind fun t135 => (some (decide (t135 ≤ (t119.size : Int))))) else (some false))))) else ((span_Cols.f kj3 t119).bind fun t136 => (some (decide (t136 ≤ (t119.size : Int)))))) else (some false)) else (if t121 = true then (if a0 = 2 then (if (t119.size : Int) ≤ 2 then ((span_Cols.f kj3 t119).bind fun t137 => (some (decide (t137 ≤ (t119.size : Int))))) else (some false)) else (if a0 = 3 then (if (t119.size : Int) ≤ 2 then ((span_Cols.f kj3 t119).bind fun t138 => (some (decide (t138 ≤ (t119.size : Int))))) else (some false)) else (if a0 = 4 then (if (t119.size : Int) ≤ 2 then ((span_Cols.f kj3 t119).bind fun t139 => (some (decide (t139 ≤ (t119.size : Int))))) else (some false)) else (if a0 = 5 then (if (t119.size : Int) ≤ 2 then ((span_Cols.f kj3 t119).bind fun t140 => (some (decide (t140 ≤ (t119.size : Int))))) else (some false)) else (some false))))) else (if (t119.size : Int) ≤ 2 then ((span_Cols.f kj3 t119).bind fun t141 => (some (decide (t141 ≤ (t119.size : Int))))) else (some false)))) else (some false))) else (if (t120 == false) = true then (if a0 = 0 then (if t119.toList = a1.toList then (if t121 = true then (if a0 = 2 then ((span_Cols.f kj3 t119).bind fun t142 => (some (decide (t142 ≤ (t119.size : Int))))) else (if a0 = 3 then ((span_Cols.f kj3 t119).bind fun t143 => (some (decide (t143 ≤ (t119.size : Int))))) else (if a0 = 4 then ((span_Cols.f kj3 t119).bind fun t144 => (some (decide (t144 ≤ (t119.size : Int))))) else (if a0 = 5 then ((span_Cols.f kj3 t119).bind fun t145 => (some (decide (t145 ≤ (t119.size : Int))))) else (some false))))) else ((span_Cols.f kj3 t119).bind fun t146 => (some (decide (t146 ≤ (t119.size : Int)))))) else (some false)) else (if t121 = true then (if a0 = 2 then (if (t119.size : Int) ≤ 2 then ((span_Cols.f kj3 t119).bind fun t147 => (some (decide (t147 ≤ (t119.size : Int))))) else (some false)) else (if a0 = 3 then (if (t119.size : Int) ≤ 2 then ((span_Cols.f kj3 t119).bind fun t148 => (some (decide (t148 ≤ (t119.size : Int))))) else (some false)) else (if a0 = 4 then (if (t119.size : Int) ≤ 2 then ((span_Cols.f kj3 t119).bind fun t149 => (some (decide (t149 ≤ (t119.size : Int))))) else (some false)) else (if a0 = 5 then (if (t119.size : Int) ≤ 2 then ((span_Cols.f kj3 t119).bind fun t150 => (some (decide (t150 ≤ (t119.size : Int))))) else (some false)) else (some false))))) else (if (t119.size : Int) ≤ 2 then ((span_Cols.f kj3 t119).bind fun t151 => (some (decide (t151 ≤ (t119.size : Int))))) else (some false)))) else (some false))) = some r := H
        have A9 := Aside0.mk A90
        clear A90
        by_cases c10 : a0 ≥ 0
        · rw [if_pos c10] at H
          have c10b0 : decide (0 ≤ a0) = true := decide_eq_true c10
          clear c10
          by_cases c11 : a0 ≤ 9
          · rw [if_pos c11] at H
            have c11b0 : decide (a0 ≤ 9) = true := decide_eq_true c11
            clear c11
            by_cases c12 : (t120 == (a0 != 5)) = true
            · rw [if_pos c12] at H
              have c12b0 : (t120 == (a0 != 5)) = true := c12
              (try (have c12b1 : decide (t120 = (a0 != 5)) = true := by simpa using c12))
              (try (have c12b2 : (t120 == (a0 != 5)) = true := by simpa using c12))
              clear c12
              by_cases c13 : a0 = 0
              · rw [if_pos c13] at H
                have c13b0 : (a0 == 0) = true := beq_iff_eq.mpr c13
                have c13b1 : (a0 != 0) = false := bne_eq_false_iff_eq.mpr c13
                clear c13
                by_cases c14 : t119.toList = a1.toList
                · rw [if_pos c14] at H
                  have c14b0 : (t119.toList == a1.toList) = true := beq_iff_eq.mpr c14
                  have c14b1 : (t119.toList != a1.toList) = false := bne_eq_false_iff_eq.mpr c14
                  clear c14
                  by_cases c15 : t121 = true
                  · subst c15
                    have H1 : (if a0 = 2 then ((span_Cols.f kj3 t119).bind fun t122 => (some (decide (t122 ≤ (t119.size : Int))))) else (if a0 = 3 then ((span_Cols.f kj3 t119).bind fun t123 => (some (decide (t123 ≤ (t119.size : Int))))) else (if a0 = 4 then ((span_Cols.f kj3 t119).bind fun t124 => (some (decide (t124 ≤ (t119.size : Int))))) else (if a0 = 5 then ((span_Cols.f kj3 t119).bind fun t125 => (some (decide (t125 ≤ (t119.size : Int))))) else (some false))))) = some r := by rw [if_pos rfl] at H; exact H
                    clear H
                    have H := H1
                    clear H1
                    by_cases c16 : a0 = 2
                    · rw [if_pos c16] at H
                      have c16b0 : (a0 == 2) = true := beq_iff_eq.mpr c16
                      have c16b1 : (a0 != 2) = false := bne_eq_false_iff_eq.mpr c16
                      clear c16
                      replace H := Option.bind_eq_some_iff.mp H
                      obtain ⟨t122, A170, H⟩ := H
                      replace H : (some (decide (t122 ≤ (t119.size : Int)))) = some r := H
                      have A17 := Aside0.mk A170
                      clear A170
                      obtain rfl := Option.some.inj H
                      go_wp2_with (first | ((with_reducible refine gate_callee (f := 11) rfl ?_); refine goesL_ (some 23) rfl rfl Try.func11 (by kernel_rfl) rfl #[.agg #[.int .i64 a0, .string a1]] rfl (by (try simp only [List.map_toArray, List.map_cons, List.map_nil]); first | done | rfl | (simp only [List.length_drop, List.length_take]; rfl)) ?_; (with_reducible refine (span_Flat.calls a0 a1 t119 t120 _ A8.out).mono ?_); (try clear A8); rintro e w18 ⟨rfl, hb⟩; refine ⟨_, rfl, ?_⟩; have n0_ := Aside0.mk (below_step (by repeat (first | (with_reducible first | exact HB.out | apply below_alloc | apply pw_below_drewN | apply below_drew1) | exact HB.out)) hb); clear HB; have HB := n0_; clear n0_; (try clear hb); (try clear hb2); (try clear hk); (try clear hi)) | ((with_reducible refine gate_callee (f := 16) rfl ?_); refine goesL_ (some 29) rfl rfl Try.func16 (by kernel_rfl) rfl #[.agg #[.int .i64 a0, .string a1]] rfl (by (try simp only [List.map_toArray, List.map_cons, List.map_nil]); first | done | rfl | (simp only [List.length_drop, List.length_take]; rfl)) ?_; (with_reducible refine (span_Breaks.calls a0 a1 true _ A9.out).mono ?_); (try clear A9); rintro e w19 ⟨rfl, hb⟩; refine ⟨_, rfl, ?_⟩; have n0_ := Aside0.mk (below_step (by repeat (first | (with_reducible first | exact HB.out | apply below_alloc | apply pw_below_drewN | apply below_drew1) | exact HB.out)) hb); clear HB; have HB := n0_; clear n0_; (try clear hb); (try clear hb2); (try clear hk); (try clear hi)) | (go_at_call 14; (with_reducible refine (span_Cols.calls kj3 t119 t122 _ A17.out).mono ?_); (try clear A17); rintro e w20 ⟨rfl, hb⟩; have n0_ := Aside0.mk (below_step (by repeat (first | (with_reducible first | exact HB.out | apply below_alloc | apply pw_below_drewN | apply below_drew1) | exact HB.out)) hb); clear HB; have HB := n0_; clear n0_; (try clear hb); (try clear hb2); (try clear hk); (try clear hi)))
                      go_ret
                      exact ⟨by first | rfl | (simp [errW_none, errW_some] <;> rfl) | (simp [*, errW_none, errW_some] <;> rfl), by repeat (first | (with_reducible first | exact HB.out | apply below_alloc | apply pw_below_drewN | apply below_drew1) | exact HB.out)⟩
                    · rw [if_neg c16] at H
                      have c16b0 : (a0 == 2) = false := beq_eq_false_iff_ne.mpr c16
                      have c16b1 : (a0 != 2) = true := bne_iff_ne.mpr c16
                      by_cases c21 : a0 = 3
                      · rw [if_pos c21] at H
                        have c21b0 : (a0 == 3) = true := beq_iff_eq.mpr c21
                        have c21b1 : (a0 != 3) = false := bne_eq_false_iff_eq.mpr c21
                        clear c21
                        replace H := Option.bind_eq_some_iff.mp H
                        obtain ⟨t123, A220, H⟩ := H
                        replace H : (some (decide (t123 ≤ (t119.size : Int)))) = some r := H
                        have A22 := Aside0.mk A220
                        clear A220
                        obtain rfl := Option.some.inj H
                        go_wp2_with (first | ((with_reducible refine gate_callee (f := 11) rfl ?_); refine goesL_ (some 23) rfl rfl Try.func11 (by kernel_rfl) rfl #[.agg #[.int .i64 a0, .string a1]] rfl (by (try simp only [List.map_toArray, List.map_cons, List.map_nil]); first | done | rfl | (simp only [List.length_drop, List.length_take]; rfl)) ?_; (with_reducible refine (span_Flat.calls a0 a1 t119 t120 _ A8.out).mono ?_); (try clear A8); rintro e w23 ⟨rfl, hb⟩; refine ⟨_, rfl, ?_⟩; have n0_ := Aside0.mk (below_step (by repeat (first | (with_reducible first | exact HB.out | apply below_alloc | apply pw_below_drewN | apply below_drew1) | exact HB.out)) hb); clear HB; have HB := n0_; clear n0_; (try clear hb); (try clear hb2); (try clear hk); (try clear hi)) | ((with_reducible refine gate_callee (f := 16) rfl ?_); refine goesL_ (some 29) rfl rfl Try.func16 (by kernel_rfl) rfl #[.agg #[.int .i64 a0, .string a1]] rfl (by (try simp only [List.map_toArray, List.map_cons, List.map_nil]); first | done | rfl | (simp only [List.length_drop, List.length_take]; rfl)) ?_; (with_reducible refine (span_Breaks.calls a0 a1 true _ A9.out).mono ?_); (try clear A9); rintro e w24 ⟨rfl, hb⟩; refine ⟨_, rfl, ?_⟩; have n0_ := Aside0.mk (below_step (by repeat (first | (with_reducible first | exact HB.out | apply below_alloc | apply pw_below_drewN | apply below_drew1) | exact HB.out)) hb); clear HB; have HB := n0_; clear n0_; (try clear hb); (try clear hb2); (try clear hk); (try clear hi)) | (go_at_call 14; (with_reducible refine (span_Cols.calls kj3 t119 t123 _ A22.out).mono ?_); (try clear A22); rintro e w25 ⟨rfl, hb⟩; have n0_ := Aside0.mk (below_step (by repeat (first | (with_reducible first | exact HB.out | apply below_alloc | apply pw_below_drewN | apply below_drew1) | exact HB.out)) hb); clear HB; have HB := n0_; clear n0_; (try clear hb); (try clear hb2); (try clear hk); (try clear hi)))
                        go_ret
                        exact ⟨by first | rfl | (simp [errW_none, errW_some] <;> rfl) | (simp [*, errW_none, errW_some] <;> rfl), by repeat (first | (with_reducible first | exact HB.out | apply below_alloc | apply pw_below_drewN | apply below_drew1) | exact HB.out)⟩
                      · rw [if_neg c21] at H
                        have c21b0 : (a0 == 3) = false := beq_eq_false_iff_ne.mpr c21
                        have c21b1 : (a0 != 3) = true := bne_iff_ne.mpr c21
                        by_cases c26 : a0 = 4
                        · rw [if_pos c26] at H
                          have c26b0 : (a0 == 4) = true := beq_iff_eq.mpr c26
                          have c26b1 : (a0 != 4) = false := bne_eq_false_iff_eq.mpr c26
                          clear c26
                          replace H := Option.bind_eq_some_iff.mp H
                          obtain ⟨t124, A270, H⟩ := H
                          replace H : (some (decide (t124 ≤ (t119.size : Int)))) = some r := H
                          have A27 := Aside0.mk A270
                          clear A270
                          obtain rfl := Option.some.inj H
                          go_wp2_with (first | ((with_reducible refine gate_callee (f := 11) rfl ?_); refine goesL_ (some 23) rfl rfl Try.func11 (by kernel_rfl) rfl #[.agg #[.int .i64 a0, .string a1]] rfl (by (try simp only [List.map_toArray, List.map_cons, List.map_nil]); first | done | rfl | (simp only [List.length_drop, List.length_take]; rfl)) ?_; (with_reducible refine (span_Flat.calls a0 a1 t119 t120 _ A8.out).mono ?_); (try clear A8); rintro e w28 ⟨rfl, hb⟩; refine ⟨_, rfl, ?_⟩; have n0_ := Aside0.mk (below_step (by repeat (first | (with_reducible first | exact HB.out | apply below_alloc | apply pw_below_drewN | apply below_drew1) | exact HB.out)) hb); clear HB; have HB := n0_; clear n0_; (try clear hb); (try clear hb2); (try clear hk); (try clear hi)) | ((with_reducible refine gate_callee (f := 16) rfl ?_); refine goesL_ (some 29) rfl rfl Try.func16 (by kernel_rfl) rfl #[.agg #[.int .i64 a0, .string a1]] rfl (by (try simp only [List.map_toArray, List.map_cons, List.map_nil]); first | done | rfl | (simp only [List.length_drop, List.length_take]; rfl)) ?_; (with_reducible refine (span_Breaks.calls a0 a1 true _ A9.out).mono ?_); (try clear A9); rintro e w29 ⟨rfl, hb⟩; refine ⟨_, rfl, ?_⟩; have n0_ := Aside0.mk (below_step (by repeat (first | (with_reducible first | exact HB.out | apply below_alloc | apply pw_below_drewN | apply below_drew1) | exact HB.out)) hb); clear HB; have HB := n0_; clear n0_; (try clear hb); (try clear hb2); (try clear hk); (try clear hi)) | (go_at_call 14; (with_reducible refine (span_Cols.calls kj3 t119 t124 _ A27.out).mono ?_); (try clear A27); rintro e w30 ⟨rfl, hb⟩; have n0_ := Aside0.mk (below_step (by repeat (first | (with_reducible first | exact HB.out | apply below_alloc | apply pw_below_drewN | apply below_drew1) | exact HB.out)) hb); clear HB; have HB := n0_; clear n0_; (try clear hb); (try clear hb2); (try clear hk); (try clear hi)))
                          go_ret
                          exact ⟨by first | rfl | (simp [errW_none, errW_some] <;> rfl) | (simp [*, errW_none, errW_some] <;> rfl), by repeat (first | (with_reducible first | exact HB.out | apply below_alloc | apply pw_below_drewN | apply below_drew1) | exact HB.out)⟩
                        · rw [if_neg c26] at H
                          have c26b0 : (a0 == 4) = false := beq_eq_false_iff_ne.mpr c26
                          have c26b1 : (a0 != 4) = true := bne_iff_ne.mpr c26
                          by_cases c31 : a0 = 5
                          · rw [if_pos c31] at H
                            have c31b0 : (a0 == 5) = true := beq_iff_eq.mpr c31
                            have c31b1 : (a0 != 5) = false := bne_eq_false_iff_eq.mpr c31
                            (try (have hz_ : t120 = false := (by have h_ := c12b0; rw [c31b1] at h_; exact beq_iff_eq.1 h_)))
                            (try (have hz_ : t120 = false := (by have h_ := c12b0; rw [c31b1] at h_; exact beq_iff_eq.1 h_)))
                            clear c31
                            replace H := Option.bind_eq_some_iff.mp H
                            obtain ⟨t125, A320, H⟩ := H
                            replace H : (some (decide (t125 ≤ (t119.size : Int)))) = some r := H
                            have A32 := Aside0.mk A320
                            clear A320
                            obtain rfl := Option.some.inj H
                            go_wp2_with (first | ((with_reducible refine gate_callee (f := 11) rfl ?_); refine goesL_ (some 23) rfl rfl Try.func11 (by kernel_rfl) rfl #[.agg #[.int .i64 a0, .string a1]] rfl (by (try simp only [List.map_toArray, List.map_cons, List.map_nil]); first | done | rfl | (simp only [List.length_drop, List.length_take]; rfl)) ?_; (with_reducible refine (span_Flat.calls a0 a1 t119 t120 _ A8.out).mono ?_); (try clear A8); rintro e w33 ⟨rfl, hb⟩; refine ⟨_, rfl, ?_⟩; have n0_ := Aside0.mk (below_step (by repeat (first | (with_reducible first | exact HB.out | apply below_alloc | apply pw_below_drewN | apply below_drew1) | exact HB.out)) hb); clear HB; have HB := n0_; clear n0_; (try clear hb); (try clear hb2); (try clear hk); (try clear hi)) | ((with_reducible refine gate_callee (f := 16) rfl ?_); refine goesL_ (some 29) rfl rfl Try.func16 (by kernel_rfl) rfl #[.agg #[.int .i64 a0, .string a1]] rfl (by (try simp only [List.map_toArray, List.map_cons, List.map_nil]); first | done | rfl | (simp only [List.length_drop, List.length_take]; rfl)) ?_; (with_reducible refine (span_Breaks.calls a0 a1 true _ A9.out).mono ?_); (try clear A9); rintro e w34 ⟨rfl, hb⟩; refine ⟨_, rfl, ?_⟩; have n0_ := Aside0.mk (below_step (by repeat (first | (with_reducible first | exact HB.out | apply below_alloc | apply pw_below_drewN | apply below_drew1) | exact HB.out)) hb); clear HB; have HB := n0_; clear n0_; (try clear hb); (try clear hb2); (try clear hk); (try clear hi)) | (go_at_call 14; (with_reducible refine (span_Cols.calls kj3 t119 t125 _ A32.out).mono ?_); (try clear A32); rintro e w35 ⟨rfl, hb⟩; have n0_ := Aside0.mk (below_step (by repeat (first | (with_reducible first | exact HB.out | apply below_alloc | apply pw_below_drewN | apply below_drew1) | exact HB.out)) hb); clear HB; have HB := n0_; clear n0_; (try clear hb); (try clear hb2); (try clear hk); (try clear hi)))
                            go_ret
                            exact ⟨by first | rfl | (simp [errW_none, errW_some] <;> rfl) | (simp [*, errW_none, errW_some] <;> rfl), by repeat (first | (with_reducible first | exact HB.out | apply below_alloc | apply pw_below_drewN | apply below_drew1) | exact HB.out)⟩
                          · rw [if_neg c31] at H
                            have c31b0 : (a0 == 5) = false := beq_eq_false_iff_ne.mpr c31
                            have c31b1 : (a0 != 5) = true := bne_iff_ne.mpr c31
                            exact absurd H (by have h_ := HT_.out; subst h_; decide)
                  · replace c15 := Bool.eq_false_iff.mpr c15
                    subst c15
                    have H1 : ((span_Cols.f kj3 t119).bind fun t126 => (some (decide (t126 ≤ (t119.size : Int))))) = some r := by rw [if_neg (show ¬ (false = true) by decide)] at H; exact H
                    clear H
                    have H := H1
                    clear H1
                    replace H := Option.bind_eq_some_iff.mp H
                    obtain ⟨t126, A360, H⟩ := H
                    replace H : (some (decide (t126 ≤ (t119.size : Int)))) = some r := H
                    have A36 := Aside0.mk A360
                    clear A360
                    obtain rfl := Option.some.inj H
                    go_wp2_with (first | ((with_reducible refine gate_callee (f := 11) rfl ?_); refine goesL_ (some 23) rfl rfl Try.func11 (by kernel_rfl) rfl #[.agg #[.int .i64 a0, .string a1]] rfl (by (try simp only [List.map_toArray, List.map_cons, List.map_nil]); first | done | rfl | (simp only [List.length_drop, List.length_take]; rfl)) ?_; (with_reducible refine (span_Flat.calls a0 a1 t119 t120 _ A8.out).mono ?_); (try clear A8); rintro e w37 ⟨rfl, hb⟩; refine ⟨_, rfl, ?_⟩; have n0_ := Aside0.mk (below_step (by repeat (first | (with_reducible first | exact HB.out | apply below_alloc | apply pw_below_drewN | apply below_drew1) | exact HB.out)) hb); clear HB; have HB := n0_; clear n0_; (try clear hb); (try clear hb2); (try clear hk); (try clear hi)) | ((with_reducible refine gate_callee (f := 16) rfl ?_); refine goesL_ (some 29) rfl rfl Try.func16 (by kernel_rfl) rfl #[.agg #[.int .i64 a0, .string a1]] rfl (by (try simp only [List.map_toArray, List.map_cons, List.map_nil]); first | done | rfl | (simp only [List.length_drop, List.length_take]; rfl)) ?_; (with_reducible refine (span_Breaks.calls a0 a1 false _ A9.out).mono ?_); (try clear A9); rintro e w38 ⟨rfl, hb⟩; refine ⟨_, rfl, ?_⟩; have n0_ := Aside0.mk (below_step (by repeat (first | (with_reducible first | exact HB.out | apply below_alloc | apply pw_below_drewN | apply below_drew1) | exact HB.out)) hb); clear HB; have HB := n0_; clear n0_; (try clear hb); (try clear hb2); (try clear hk); (try clear hi)) | (go_at_call 14; (with_reducible refine (span_Cols.calls kj3 t119 t126 _ A36.out).mono ?_); (try clear A36); rintro e w39 ⟨rfl, hb⟩; have n0_ := Aside0.mk (below_step (by repeat (first | (with_reducible first | exact HB.out | apply below_alloc | apply pw_below_drewN | apply below_drew1) | exact HB.out)) hb); clear HB; have HB := n0_; clear n0_; (try clear hb); (try clear hb2); (try clear hk); (try clear hi)))
                    go_ret
                    exact ⟨by first | rfl | (simp [errW_none, errW_some] <;> rfl) | (simp [*, errW_none, errW_some] <;> rfl), by repeat (first | (with_reducible first | exact HB.out | apply below_alloc | apply pw_below_drewN | apply below_drew1) | exact HB.out)⟩
                · rw [if_neg c14] at H
                  have c14b0 : (t119.toList == a1.toList) = false := beq_eq_false_iff_ne.mpr c14
                  have c14b1 : (t119.toList != a1.toList) = true := bne_iff_ne.mpr c14
                  exact absurd H (by have h_ := HT_.out; subst h_; decide)
              · rw [if_neg c13] at H
                have c13b0 : (a0 == 0) = false := beq_eq_false_iff_ne.mpr c13
                have c13b1 : (a0 != 0) = true := bne_iff_ne.mpr c13
                by_cases c40 : t121 = true
                · subst c40
                  have H1 : (if a0 = 2 then (if (t119.size : Int) ≤ 2 then ((span_Cols.f kj3 t119).bind fun t127 => (some (decide (t127 ≤ (t119.size : Int))))) else (some false)) else (if a0 = 3 then (if (t119.size : Int) ≤ 2 then ((span_Cols.f kj3 t119).bind fun t128 => (some (decide (t128 ≤ (t119.size : Int))))) else (some false)) else (if a0 = 4 then (if (t119.size : Int) ≤ 2 then ((span_Cols.f kj3 t119).bind fun t129 => (some (decide (t129 ≤ (t119.size : Int))))) else (some false)) else (if a0 = 5 then (if (t119.size : Int) ≤ 2 then ((span_Cols.f kj3 t119).bind fun t130 => (some (decide (t130 ≤ (t119.size : Int))))) else (some false)) else (some false))))) = some r := by rw [if_pos rfl] at H; exact H
                  clear H
                  have H := H1
                  clear H1
                  by_cases c41 : a0 = 2
                  · rw [if_pos c41] at H
                    have c41b0 : (a0 == 2) = true := beq_iff_eq.mpr c41
                    have c41b1 : (a0 != 2) = false := bne_eq_false_iff_eq.mpr c41
                    clear c41
                    by_cases c42 : (t119.size : Int) ≤ 2
                    · rw [if_pos c42] at H
                      have c42b0 : decide ((t119.size : Int) ≤ 2) = true := decide_eq_true c42
                      have c42b1 : decide (t119.size ≤ 2) = true := decide_eq_true (by omega)
                      clear c42
                      replace H := Option.bind_eq_some_iff.mp H
                      obtain ⟨t127, A430, H⟩ := H
                      replace H : (some (decide (t127 ≤ (t119.size : Int)))) = some r := H
                      have A43 := Aside0.mk A430
                      clear A430
                      obtain rfl := Option.some.inj H
                      go_wp2_with (first | ((with_reducible refine gate_callee (f := 11) rfl ?_); refine goesL_ (some 23) rfl rfl Try.func11 (by kernel_rfl) rfl #[.agg #[.int .i64 a0, .string a1]] rfl (by (try simp only [List.map_toArray, List.map_cons, List.map_nil]); first | done | rfl | (simp only [List.length_drop, List.length_take]; rfl)) ?_; (with_reducible refine (span_Flat.calls a0 a1 t119 t120 _ A8.out).mono ?_); (try clear A8); rintro e w44 ⟨rfl, hb⟩; refine ⟨_, rfl, ?_⟩; have n0_ := Aside0.mk (below_step (by repeat (first | (with_reducible first | exact HB.out | apply below_alloc | apply pw_below_drewN | apply below_drew1) | exact HB.out)) hb); clear HB; have HB := n0_; clear n0_; (try clear hb); (try clear hb2); (try clear hk); (try clear hi)) | ((with_reducible refine gate_callee (f := 16) rfl ?_); refine goesL_ (some 29) rfl rfl Try.func16 (by kernel_rfl) rfl #[.agg #[.int .i64 a0, .string a1]] rfl (by (try simp only [List.map_toArray, List.map_cons, List.map_nil]); first | done | rfl | (simp only [List.length_drop, List.length_take]; rfl)) ?_; (with_reducible refine (span_Breaks.calls a0 a1 true _ A9.out).mono ?_); (try clear A9); rintro e w45 ⟨rfl, hb⟩; refine ⟨_, rfl, ?_⟩; have n0_ := Aside0.mk (below_step (by repeat (first | (with_reducible first | exact HB.out | apply below_alloc | apply pw_below_drewN | apply below_drew1) | exact HB.out)) hb); clear HB; have HB := n0_; clear n0_; (try clear hb); (try clear hb2); (try clear hk); (try clear hi)) | (go_at_call 14; (with_reducible refine (span_Cols.calls kj3 t119 t127 _ A43.out).mono ?_); (try clear A43); rintro e w46 ⟨rfl, hb⟩; have n0_ := Aside0.mk (below_step (by repeat (first | (with_reducible first | exact HB.out | apply below_alloc | apply pw_below_drewN | apply below_drew1) | exact HB.out)) hb); clear HB; have HB := n0_; clear n0_; (try clear hb); (try clear hb2); (try clear hk); (try clear hi)))
                      go_ret
                      exact ⟨by first | rfl | (simp [errW_none, errW_some] <;> rfl) | (simp [*, errW_none, errW_some] <;> rfl), by repeat (first | (with_reducible first | exact HB.out | apply below_alloc | apply pw_below_drewN | apply below_drew1) | exact HB.out)⟩
                    · rw [if_neg c42] at H
                      have c42b0 : decide ((t119.size : Int) ≤ 2) = false := decide_eq_false c42
                      have c42b1 : decide (t119.size ≤ 2) = false := decide_eq_false (by omega)
                      clear c42
                      exact absurd H (by have h_ := HT_.out; subst h_; decide)
                  · rw [if_neg c41] at H
                    have c41b0 : (a0 == 2) = false := beq_eq_false_iff_ne.mpr c41
                    have c41b1 : (a0 != 2) = true := bne_iff_ne.mpr c41
                    by_cases c47 : a0 = 3
                    · rw [if_pos c47] at H
                      have c47b0 : (a0 == 3) = true := beq_iff_eq.mpr c47
                      have c47b1 : (a0 != 3) = false := bne_eq_false_iff_eq.mpr c47
                      clear c47
                      by_cases c48 : (t119.size : Int) ≤ 2
                      · rw [if_pos c48] at H
                        have c48b0 : decide ((t119.size : Int) ≤ 2) = true := decide_eq_true c48
                        have c48b1 : decide (t119.size ≤ 2) = true := decide_eq_true (by omega)
                        clear c48
                        replace H := Option.bind_eq_some_iff.mp H
                        obtain ⟨t128, A490, H⟩ := H
                        replace H : (some (decide (t128 ≤ (t119.size : Int)))) = some r := H
                        have A49 := Aside0.mk A490
                        clear A490
                        obtain rfl := Option.some.inj H
                        go_wp2_with (first | ((with_reducible refine gate_callee (f := 11) rfl ?_); refine goesL_ (some 23) rfl rfl Try.func11 (by kernel_rfl) rfl #[.agg #[.int .i64 a0, .string a1]] rfl (by (try simp only [List.map_toArray, List.map_cons, List.map_nil]); first | done | rfl | (simp only [List.length_drop, List.length_take]; rfl)) ?_; (with_reducible refine (span_Flat.calls a0 a1 t119 t120 _ A8.out).mono ?_); (try clear A8); rintro e w50 ⟨rfl, hb⟩; refine ⟨_, rfl, ?_⟩; have n0_ := Aside0.mk (below_step (by repeat (first | (with_reducible first | exact HB.out | apply below_alloc | apply pw_below_drewN | apply below_drew1) | exact HB.out)) hb); clear HB; have HB := n0_; clear n0_; (try clear hb); (try clear hb2); (try clear hk); (try clear hi)) | ((with_reducible refine gate_callee (f := 16) rfl ?_); refine goesL_ (some 29) rfl rfl Try.func16 (by kernel_rfl) rfl #[.agg #[.int .i64 a0, .string a1]] rfl (by (try simp only [List.map_toArray, List.map_cons, List.map_nil]); first | done | rfl | (simp only [List.length_drop, List.length_take]; rfl)) ?_; (with_reducible refine (span_Breaks.calls a0 a1 true _ A9.out).mono ?_); (try clear A9); rintro e w51 ⟨rfl, hb⟩; refine ⟨_, rfl, ?_⟩; have n0_ := Aside0.mk (below_step (by repeat (first | (with_reducible first | exact HB.out | apply below_alloc | apply pw_below_drewN | apply below_drew1) | exact HB.out)) hb); clear HB; have HB := n0_; clear n0_; (try clear hb); (try clear hb2); (try clear hk); (try clear hi)) | (go_at_call 14; (with_reducible refine (span_Cols.calls kj3 t119 t128 _ A49.out).mono ?_); (try clear A49); rintro e w52 ⟨rfl, hb⟩; have n0_ := Aside0.mk (below_step (by repeat (first | (with_reducible first | exact HB.out | apply below_alloc | apply pw_below_drewN | apply below_drew1) | exact HB.out)) hb); clear HB; have HB := n0_; clear n0_; (try clear hb); (try clear hb2); (try clear hk); (try clear hi)))
                        go_ret
                        exact ⟨by first | rfl | (simp [errW_none, errW_some] <;> rfl) | (simp [*, errW_none, errW_some] <;> rfl), by repeat (first | (with_reducible first | exact HB.out | apply below_alloc | apply pw_below_drewN | apply below_drew1) | exact HB.out)⟩
                      · rw [if_neg c48] at H
                        have c48b0 : decide ((t119.size : Int) ≤ 2) = false := decide_eq_false c48
                        have c48b1 : decide (t119.size ≤ 2) = false := decide_eq_false (by omega)
                        clear c48
                        exact absurd H (by have h_ := HT_.out; subst h_; decide)
                    · rw [if_neg c47] at H
                      have c47b0 : (a0 == 3) = false := beq_eq_false_iff_ne.mpr c47
                      have c47b1 : (a0 != 3) = true := bne_iff_ne.mpr c47
                      by_cases c53 : a0 = 4
                      · rw [if_pos c53] at H
                        have c53b0 : (a0 == 4) = true := beq_iff_eq.mpr c53
                        have c53b1 : (a0 != 4) = false := bne_eq_false_iff_eq.mpr c53
                        clear c53
                        by_cases c54 : (t119.size : Int) ≤ 2
                        · rw [if_pos c54] at H
                          have c54b0 : decide ((t119.size : Int) ≤ 2) = true := decide_eq_true c54
                          have c54b1 : decide (t119.size ≤ 2) = true := decide_eq_true (by omega)
                          clear c54
                          replace H := Option.bind_eq_some_iff.mp H
                          obtain ⟨t129, A550, H⟩ := H
                          replace H : (some (decide (t129 ≤ (t119.size : Int)))) = some r := H
                          have A55 := Aside0.mk A550
                          clear A550
                          obtain rfl := Option.some.inj H
                          go_wp2_with (first | ((with_reducible refine gate_callee (f := 11) rfl ?_); refine goesL_ (some 23) rfl rfl Try.func11 (by kernel_rfl) rfl #[.agg #[.int .i64 a0, .string a1]] rfl (by (try simp only [List.map_toArray, List.map_cons, List.map_nil]); first | done | rfl | (simp only [List.length_drop, List.length_take]; rfl)) ?_; (with_reducible refine (span_Flat.calls a0 a1 t119 t120 _ A8.out).mono ?_); (try clear A8); rintro e w56 ⟨rfl, hb⟩; refine ⟨_, rfl, ?_⟩; have n0_ := Aside0.mk (below_step (by repeat (first | (with_reducible first | exact HB.out | apply below_alloc | apply pw_below_drewN | apply below_drew1) | exact HB.out)) hb); clear HB; have HB := n0_; clear n0_; (try clear hb); (try clear hb2); (try clear hk); (try clear hi)) | ((with_reducible refine gate_callee (f := 16) rfl ?_); refine goesL_ (some 29) rfl rfl Try.func16 (by kernel_rfl) rfl #[.agg #[.int .i64 a0, .string a1]] rfl (by (try simp only [List.map_toArray, List.map_cons, List.map_nil]); first | done | rfl | (simp only [List.length_drop, List.length_take]; rfl)) ?_; (with_reducible refine (span_Breaks.calls a0 a1 true _ A9.out).mono ?_); (try clear A9); rintro e w57 ⟨rfl, hb⟩; refine ⟨_, rfl, ?_⟩; have n0_ := Aside0.mk (below_step (by repeat (first | (with_reducible first | exact HB.out | apply below_alloc | apply pw_below_drewN | apply below_drew1) | exact HB.out)) hb); clear HB; have HB := n0_; clear n0_; (try clear hb); (try clear hb2); (try clear hk); (try clear hi)) | (go_at_call 14; (with_reducible refine (span_Cols.calls kj3 t119 t129 _ A55.out).mono ?_); (try clear A55); rintro e w58 ⟨rfl, hb⟩; have n0_ := Aside0.mk (below_step (by repeat (first | (with_reducible first | exact HB.out | apply below_alloc | apply pw_below_drewN | apply below_drew1) | exact HB.out)) hb); clear HB; have HB := n0_; clear n0_; (try clear hb); (try clear hb2); (try clear hk); (try clear hi)))
                          go_ret
                          exact ⟨by first | rfl | (simp [errW_none, errW_some] <;> rfl) | (simp [*, errW_none, errW_some] <;> rfl), by repeat (first | (with_reducible first | exact HB.out | apply below_alloc | apply pw_below_drewN | apply below_drew1) | exact HB.out)⟩
                        · rw [if_neg c54] at H
                          have c54b0 : decide ((t119.size : Int) ≤ 2) = false := decide_eq_false c54
                          have c54b1 : decide (t119.size ≤ 2) = false := decide_eq_false (by omega)
                          clear c54
                          exact absurd H (by have h_ := HT_.out; subst h_; decide)
                      · rw [if_neg c53] at H
                        have c53b0 : (a0 == 4) = false := beq_eq_false_iff_ne.mpr c53
                        have c53b1 : (a0 != 4) = true := bne_iff_ne.mpr c53
                        by_cases c59 : a0 = 5
                        · rw [if_pos c59] at H
                          have c59b0 : (a0 == 5) = true := beq_iff_eq.mpr c59
                          have c59b1 : (a0 != 5) = false := bne_eq_false_iff_eq.mpr c59
                          (try (have hz_ : t120 = false := (by have h_ := c12b0; rw [c59b1] at h_; exact beq_iff_eq.1 h_)))
                          (try (have hz_ : t120 = false := (by have h_ := c12b0; rw [c59b1] at h_; exact beq_iff_eq.1 h_)))
                          clear c59
                          by_cases c60 : (t119.size : Int) ≤ 2
                          · rw [if_pos c60] at H
                            have c60b0 : decide ((t119.size : Int) ≤ 2) = true := decide_eq_true c60
                            have c60b1 : decide (t119.size ≤ 2) = true := decide_eq_true (by omega)
                            clear c60
                            replace H := Option.bind_eq_some_iff.mp H
                            obtain ⟨t130, A610, H⟩ := H
                            replace H : (some (decide (t130 ≤ (t119.size : Int)))) = some r := H
                            have A61 := Aside0.mk A610
                            clear A610
                            obtain rfl := Option.some.inj H
                            go_wp2_with (first | ((with_reducible refine gate_callee (f := 11) rfl ?_); refine goesL_ (some 23) rfl rfl Try.func11 (by kernel_rfl) rfl #[.agg #[.int .i64 a0, .string a1]] rfl (by (try simp only [List.map_toArray, List.map_cons, List.map_nil]); first | done | rfl | (simp only [List.length_drop, List.length_take]; rfl)) ?_; (with_reducible refine (span_Flat.calls a0 a1 t119 t120 _ A8.out).mono ?_); (try clear A8); rintro e w62 ⟨rfl, hb⟩; refine ⟨_, rfl, ?_⟩; have n0_ := Aside0.mk (below_step (by repeat (first | (with_reducible first | exact HB.out | apply below_alloc | apply pw_below_drewN | apply below_drew1) | exact HB.out)) hb); clear HB; have HB := n0_; clear n0_; (try clear hb); (try clear hb2); (try clear hk); (try clear hi)) | ((with_reducible refine gate_callee (f := 16) rfl ?_); refine goesL_ (some 29) rfl rfl Try.func16 (by kernel_rfl) rfl #[.agg #[.int .i64 a0, .string a1]] rfl (by (try simp only [List.map_toArray, List.map_cons, List.map_nil]); first | done | rfl | (simp only [List.length_drop, List.length_take]; rfl)) ?_; (with_reducible refine (span_Breaks.calls a0 a1 true _ A9.out).mono ?_); (try clear A9); rintro e w63 ⟨rfl, hb⟩; refine ⟨_, rfl, ?_⟩; have n0_ := Aside0.mk (below_step (by repeat (first | (with_reducible first | exact HB.out | apply below_alloc | apply pw_below_drewN | apply below_drew1) | exact HB.out)) hb); clear HB; have HB := n0_; clear n0_; (try clear hb); (try clear hb2); (try clear hk); (try clear hi)) | (go_at_call 14; (with_reducible refine (span_Cols.calls kj3 t119 t130 _ A61.out).mono ?_); (try clear A61); rintro e w64 ⟨rfl, hb⟩; have n0_ := Aside0.mk (below_step (by repeat (first | (with_reducible first | exact HB.out | apply below_alloc | apply pw_below_drewN | apply below_drew1) | exact HB.out)) hb); clear HB; have HB := n0_; clear n0_; (try clear hb); (try clear hb2); (try clear hk); (try clear hi)))
                            go_ret
                            exact ⟨by first | rfl | (simp [errW_none, errW_some] <;> rfl) | (simp [*, errW_none, errW_some] <;> rfl), by repeat (first | (with_reducible first | exact HB.out | apply below_alloc | apply pw_below_drewN | apply below_drew1) | exact HB.out)⟩
                          · rw [if_neg c60] at H
                            have c60b0 : decide ((t119.size : Int) ≤ 2) = false := decide_eq_false c60
                            have c60b1 : decide (t119.size ≤ 2) = false := decide_eq_false (by omega)
                            clear c60
                            exact absurd H (by have h_ := HT_.out; subst h_; decide)
                        · rw [if_neg c59] at H
                          have c59b0 : (a0 == 5) = false := beq_eq_false_iff_ne.mpr c59
                          have c59b1 : (a0 != 5) = true := bne_iff_ne.mpr c59
                          exact absurd H (by have h_ := HT_.out; subst h_; decide)
                · replace c40 := Bool.eq_false_iff.mpr c40
                  subst c40
                  have H1 : (if (t119.size : Int) ≤ 2 then ((span_Cols.f kj3 t119).bind fun t131 => (some (decide (t131 ≤ (t119.size : Int))))) else (some false)) = some r := by rw [if_neg (show ¬ (false = true) by decide)] at H; exact H
                  clear H
                  have H := H1
                  clear H1
                  by_cases c65 : (t119.size : Int) ≤ 2
                  · rw [if_pos c65] at H
                    have c65b0 : decide ((t119.size : Int) ≤ 2) = true := decide_eq_true c65
                    have c65b1 : decide (t119.size ≤ 2) = true := decide_eq_true (by omega)
                    clear c65
                    replace H := Option.bind_eq_some_iff.mp H
                    obtain ⟨t131, A660, H⟩ := H
                    replace H : (some (decide (t131 ≤ (t119.size : Int)))) = some r := H
                    have A66 := Aside0.mk A660
                    clear A660
                    obtain rfl := Option.some.inj H
                    go_wp2_with (first | ((with_reducible refine gate_callee (f := 11) rfl ?_); refine goesL_ (some 23) rfl rfl Try.func11 (by kernel_rfl) rfl #[.agg #[.int .i64 a0, .string a1]] rfl (by (try simp only [List.map_toArray, List.map_cons, List.map_nil]); first | done | rfl | (simp only [List.length_drop, List.length_take]; rfl)) ?_; (with_reducible refine (span_Flat.calls a0 a1 t119 t120 _ A8.out).mono ?_); (try clear A8); rintro e w67 ⟨rfl, hb⟩; refine ⟨_, rfl, ?_⟩; have n0_ := Aside0.mk (below_step (by repeat (first | (with_reducible first | exact HB.out | apply below_alloc | apply pw_below_drewN | apply below_drew1) | exact HB.out)) hb); clear HB; have HB := n0_; clear n0_; (try clear hb); (try clear hb2); (try clear hk); (try clear hi)) | ((with_reducible refine gate_callee (f := 16) rfl ?_); refine goesL_ (some 29) rfl rfl Try.func16 (by kernel_rfl) rfl #[.agg #[.int .i64 a0, .string a1]] rfl (by (try simp only [List.map_toArray, List.map_cons, List.map_nil]); first | done | rfl | (simp only [List.length_drop, List.length_take]; rfl)) ?_; (with_reducible refine (span_Breaks.calls a0 a1 false _ A9.out).mono ?_); (try clear A9); rintro e w68 ⟨rfl, hb⟩; refine ⟨_, rfl, ?_⟩; have n0_ := Aside0.mk (below_step (by repeat (first | (with_reducible first | exact HB.out | apply below_alloc | apply pw_below_drewN | apply below_drew1) | exact HB.out)) hb); clear HB; have HB := n0_; clear n0_; (try clear hb); (try clear hb2); (try clear hk); (try clear hi)) | (go_at_call 14; (with_reducible refine (span_Cols.calls kj3 t119 t131 _ A66.out).mono ?_); (try clear A66); rintro e w69 ⟨rfl, hb⟩; have n0_ := Aside0.mk (below_step (by repeat (first | (with_reducible first | exact HB.out | apply below_alloc | apply pw_below_drewN | apply below_drew1) | exact HB.out)) hb); clear HB; have HB := n0_; clear n0_; (try clear hb); (try clear hb2); (try clear hk); (try clear hi)))
                    go_ret
                    exact ⟨by first | rfl | (simp [errW_none, errW_some] <;> rfl) | (simp [*, errW_none, errW_some] <;> rfl), by repeat (first | (with_reducible first | exact HB.out | apply below_alloc | apply pw_below_drewN | apply below_drew1) | exact HB.out)⟩
                  · rw [if_neg c65] at H
                    have c65b0 : decide ((t119.size : Int) ≤ 2) = false := decide_eq_false c65
                    have c65b1 : decide (t119.size ≤ 2) = false := decide_eq_false (by omega)
                    clear c65
                    exact absurd H (by have h_ := HT_.out; subst h_; decide)
            · rw [if_neg c12] at H
              have c12b0 : (t120 == (a0 != 5)) = false := by simpa using c12
              (try (have c12b1 : decide (t120 = (a0 != 5)) = false := by simpa using c12))
              (try (have c12b2 : (t120 == (a0 != 5)) = false := by simpa using c12))
              (try (have c12b3 : ¬ (t120 = (a0 != 5)) := by simpa using c12))
              clear c12
              exact absurd H (by have h_ := HT_.out; subst h_; decide)
          · rw [if_neg c11] at H
            have c11b0 : decide (a0 ≤ 9) = false := decide_eq_false c11
            clear c11
            by_cases c70 : (t120 == false) = true
            · rw [if_pos c70] at H
              have c70b0 : (t120 == false) = true := c70
              (try (have c70b1 : decide (t120 = false) = true := by simpa using c70))
              (try (have c70b2 : (t120 == false) = true := by simpa using c70))
              clear c70
              by_cases c71 : a0 = 0
              · rw [if_pos c71] at H
                have c71b0 : (a0 == 0) = true := beq_iff_eq.mpr c71
                have c71b1 : (a0 != 0) = false := bne_eq_false_iff_eq.mpr c71
                clear c71
                by_cases c72 : t119.toList = a1.toList
                · rw [if_pos c72] at H
                  have c72b0 : (t119.toList == a1.toList) = true := beq_iff_eq.mpr c72
                  have c72b1 : (t119.toList != a1.toList) = false := bne_eq_false_iff_eq.mpr c72
                  clear c72
                  by_cases c73 : t121 = true
                  · subst c73
                    have H1 : (if a0 = 2 then ((span_Cols.f kj3 t119).bind fun t132 => (some (decide (t132 ≤ (t119.size : Int))))) else (if a0 = 3 then ((span_Cols.f kj3 t119).bind fun t133 => (some (decide (t133 ≤ (t119.size : Int))))) else (if a0 = 4 then ((span_Cols.f kj3 t119).bind fun t134 => (some (decide (t134 ≤ (t119.size : Int))))) else (if a0 = 5 then ((span_Cols.f kj3 t119).bind fun t135 => (some (decide (t135 ≤ (t119.size : Int))))) else (some false))))) = some r := by rw [if_pos rfl] at H; exact H
                    clear H
                    have H := H1
                    clear H1
                    by_cases c74 : a0 = 2
                    · rw [if_pos c74] at H
                      have c74b0 : (a0 == 2) = true := beq_iff_eq.mpr c74
                      have c74b1 : (a0 != 2) = false := bne_eq_false_iff_eq.mpr c74
                      clear c74
                      replace H := Option.bind_eq_some_iff.mp H
                      obtain ⟨t132, A750, H⟩ := H
                      replace H : (some (decide (t132 ≤ (t119.size : Int)))) = some r := H
                      have A75 := Aside0.mk A750
                      clear A750
                      obtain rfl := Option.some.inj H
                      go_wp2_with (first | ((with_reducible refine gate_callee (f := 11) rfl ?_); refine goesL_ (some 23) rfl rfl Try.func11 (by kernel_rfl) rfl #[.agg #[.int .i64 a0, .string a1]] rfl (by (try simp only [List.map_toArray, List.map_cons, List.map_nil]); first | done | rfl | (simp only [List.length_drop, List.length_take]; rfl)) ?_; (with_reducible refine (span_Flat.calls a0 a1 t119 t120 _ A8.out).mono ?_); (try clear A8); rintro e w76 ⟨rfl, hb⟩; refine ⟨_, rfl, ?_⟩; have n0_ := Aside0.mk (below_step (by repeat (first | (with_reducible first | exact HB.out | apply below_alloc | apply pw_below_drewN | apply below_drew1) | exact HB.out)) hb); clear HB; have HB := n0_; clear n0_; (try clear hb); (try clear hb2); (try clear hk); (try clear hi)) | ((with_reducible refine gate_callee (f := 16) rfl ?_); refine goesL_ (some 29) rfl rfl Try.func16 (by kernel_rfl) rfl #[.agg #[.int .i64 a0, .string a1]] rfl (by (try simp only [List.map_toArray, List.map_cons, List.map_nil]); first | done | rfl | (simp only [List.length_drop, List.length_take]; rfl)) ?_; (with_reducible refine (span_Breaks.calls a0 a1 true _ A9.out).mono ?_); (try clear A9); rintro e w77 ⟨rfl, hb⟩; refine ⟨_, rfl, ?_⟩; have n0_ := Aside0.mk (below_step (by repeat (first | (with_reducible first | exact HB.out | apply below_alloc | apply pw_below_drewN | apply below_drew1) | exact HB.out)) hb); clear HB; have HB := n0_; clear n0_; (try clear hb); (try clear hb2); (try clear hk); (try clear hi)) | (go_at_call 14; (with_reducible refine (span_Cols.calls kj3 t119 t132 _ A75.out).mono ?_); (try clear A75); rintro e w78 ⟨rfl, hb⟩; have n0_ := Aside0.mk (below_step (by repeat (first | (with_reducible first | exact HB.out | apply below_alloc | apply pw_below_drewN | apply below_drew1) | exact HB.out)) hb); clear HB; have HB := n0_; clear n0_; (try clear hb); (try clear hb2); (try clear hk); (try clear hi)))
                      go_ret
                      exact ⟨by first | rfl | (simp [errW_none, errW_some] <;> rfl) | (simp [*, errW_none, errW_some] <;> rfl), by repeat (first | (with_reducible first | exact HB.out | apply below_alloc | apply pw_below_drewN | apply below_drew1) | exact HB.out)⟩
                    · rw [if_neg c74] at H
                      have c74b0 : (a0 == 2) = false := beq_eq_false_iff_ne.mpr c74
                      have c74b1 : (a0 != 2) = true := bne_iff_ne.mpr c74
                      by_cases c79 : a0 = 3
                      · rw [if_pos c79] at H
                        have c79b0 : (a0 == 3) = true := beq_iff_eq.mpr c79
                        have c79b1 : (a0 != 3) = false := bne_eq_false_iff_eq.mpr c79
                        clear c79
                        replace H := Option.bind_eq_some_iff.mp H
                        obtain ⟨t133, A800, H⟩ := H
                        replace H : (some (decide (t133 ≤ (t119.size : Int)))) = some r := H
                        have A80 := Aside0.mk A800
                        clear A800
                        obtain rfl := Option.some.inj H
                        go_wp2_with (first | ((with_reducible refine gate_callee (f := 11) rfl ?_); refine goesL_ (some 23) rfl rfl Try.func11 (by kernel_rfl) rfl #[.agg #[.int .i64 a0, .string a1]] rfl (by (try simp only [List.map_toArray, List.map_cons, List.map_nil]); first | done | rfl | (simp only [List.length_drop, List.length_take]; rfl)) ?_; (with_reducible refine (span_Flat.calls a0 a1 t119 t120 _ A8.out).mono ?_); (try clear A8); rintro e w81 ⟨rfl, hb⟩; refine ⟨_, rfl, ?_⟩; have n0_ := Aside0.mk (below_step (by repeat (first | (with_reducible first | exact HB.out | apply below_alloc | apply pw_below_drewN | apply below_drew1) | exact HB.out)) hb); clear HB; have HB := n0_; clear n0_; (try clear hb); (try clear hb2); (try clear hk); (try clear hi)) | ((with_reducible refine gate_callee (f := 16) rfl ?_); refine goesL_ (some 29) rfl rfl Try.func16 (by kernel_rfl) rfl #[.agg #[.int .i64 a0, .string a1]] rfl (by (try simp only [List.map_toArray, List.map_cons, List.map_nil]); first | done | rfl | (simp only [List.length_drop, List.length_take]; rfl)) ?_; (with_reducible refine (span_Breaks.calls a0 a1 true _ A9.out).mono ?_); (try clear A9); rintro e w82 ⟨rfl, hb⟩; refine ⟨_, rfl, ?_⟩; have n0_ := Aside0.mk (below_step (by repeat (first | (with_reducible first | exact HB.out | apply below_alloc | apply pw_below_drewN | apply below_drew1) | exact HB.out)) hb); clear HB; have HB := n0_; clear n0_; (try clear hb); (try clear hb2); (try clear hk); (try clear hi)) | (go_at_call 14; (with_reducible refine (span_Cols.calls kj3 t119 t133 _ A80.out).mono ?_); (try clear A80); rintro e w83 ⟨rfl, hb⟩; have n0_ := Aside0.mk (below_step (by repeat (first | (with_reducible first | exact HB.out | apply below_alloc | apply pw_below_drewN | apply below_drew1) | exact HB.out)) hb); clear HB; have HB := n0_; clear n0_; (try clear hb); (try clear hb2); (try clear hk); (try clear hi)))
                        go_ret
                        exact ⟨by first | rfl | (simp [errW_none, errW_some] <;> rfl) | (simp [*, errW_none, errW_some] <;> rfl), by repeat (first | (with_reducible first | exact HB.out | apply below_alloc | apply pw_below_drewN | apply below_drew1) | exact HB.out)⟩
                      · rw [if_neg c79] at H
                        have c79b0 : (a0 == 3) = false := beq_eq_false_iff_ne.mpr c79
                        have c79b1 : (a0 != 3) = true := bne_iff_ne.mpr c79
                        by_cases c84 : a0 = 4
                        · rw [if_pos c84] at H
                          have c84b0 : (a0 == 4) = true := beq_iff_eq.mpr c84
                          have c84b1 : (a0 != 4) = false := bne_eq_false_iff_eq.mpr c84
                          clear c84
                          replace H := Option.bind_eq_some_iff.mp H
                          obtain ⟨t134, A850, H⟩ := H
                          replace H : (some (decide (t134 ≤ (t119.size : Int)))) = some r := H
                          have A85 := Aside0.mk A850
                          clear A850
                          obtain rfl := Option.some.inj H
                          go_wp2_with (first | ((with_reducible refine gate_callee (f := 11) rfl ?_); refine goesL_ (some 23) rfl rfl Try.func11 (by kernel_rfl) rfl #[.agg #[.int .i64 a0, .string a1]] rfl (by (try simp only [List.map_toArray, List.map_cons, List.map_nil]); first | done | rfl | (simp only [List.length_drop, List.length_take]; rfl)) ?_; (with_reducible refine (span_Flat.calls a0 a1 t119 t120 _ A8.out).mono ?_); (try clear A8); rintro e w86 ⟨rfl, hb⟩; refine ⟨_, rfl, ?_⟩; have n0_ := Aside0.mk (below_step (by repeat (first | (with_reducible first | exact HB.out | apply below_alloc | apply pw_below_drewN | apply below_drew1) | exact HB.out)) hb); clear HB; have HB := n0_; clear n0_; (try clear hb); (try clear hb2); (try clear hk); (try clear hi)) | ((with_reducible refine gate_callee (f := 16) rfl ?_); refine goesL_ (some 29) rfl rfl Try.func16 (by kernel_rfl) rfl #[.agg #[.int .i64 a0, .string a1]] rfl (by (try simp only [List.map_toArray, List.map_cons, List.map_nil]); first | done | rfl | (simp only [List.length_drop, List.length_take]; rfl)) ?_; (with_reducible refine (span_Breaks.calls a0 a1 true _ A9.out).mono ?_); (try clear A9); rintro e w87 ⟨rfl, hb⟩; refine ⟨_, rfl, ?_⟩; have n0_ := Aside0.mk (below_step (by repeat (first | (with_reducible first | exact HB.out | apply below_alloc | apply pw_below_drewN | apply below_drew1) | exact HB.out)) hb); clear HB; have HB := n0_; clear n0_; (try clear hb); (try clear hb2); (try clear hk); (try clear hi)) | (go_at_call 14; (with_reducible refine (span_Cols.calls kj3 t119 t134 _ A85.out).mono ?_); (try clear A85); rintro e w88 ⟨rfl, hb⟩; have n0_ := Aside0.mk (below_step (by repeat (first | (with_reducible first | exact HB.out | apply below_alloc | apply pw_below_drewN | apply below_drew1) | exact HB.out)) hb); clear HB; have HB := n0_; clear n0_; (try clear hb); (try clear hb2); (try clear hk); (try clear hi)))
                          go_ret
                          exact ⟨by first | rfl | (simp [errW_none, errW_some] <;> rfl) | (simp [*, errW_none, errW_some] <;> rfl), by repeat (first | (with_reducible first | exact HB.out | apply below_alloc | apply pw_below_drewN | apply below_drew1) | exact HB.out)⟩
                        · rw [if_neg c84] at H
                          have c84b0 : (a0 == 4) = false := beq_eq_false_iff_ne.mpr c84
                          have c84b1 : (a0 != 4) = true := bne_iff_ne.mpr c84
                          by_cases c89 : a0 = 5
                          · rw [if_pos c89] at H
                            have c89b0 : (a0 == 5) = true := beq_iff_eq.mpr c89
                            have c89b1 : (a0 != 5) = false := bne_eq_false_iff_eq.mpr c89
                            (try (have hz_ : t120 = false := (by have h_ := c12b0; rw [c89b1] at h_; exact beq_iff_eq.1 h_)))
                            (try (have hz_ : t120 = false := (by have h_ := c12b0; rw [c89b1] at h_; exact beq_iff_eq.1 h_)))
                            clear c89
                            replace H := Option.bind_eq_some_iff.mp H
                            obtain ⟨t135, A900, H⟩ := H
                            replace H : (some (decide (t135 ≤ (t119.size : Int)))) = some r := H
                            have A90 := Aside0.mk A900
                            clear A900
                            obtain rfl := Option.some.inj H
                            go_wp2_with (first | ((with_reducible refine gate_callee (f := 11) rfl ?_); refine goesL_ (some 23) rfl rfl Try.func11 (by kernel_rfl) rfl #[.agg #[.int .i64 a0, .string a1]] rfl (by (try simp only [List.map_toArray, List.map_cons, List.map_nil]); first | done | rfl | (simp only [List.length_drop, List.length_take]; rfl)) ?_; (with_reducible refine (span_Flat.calls a0 a1 t119 t120 _ A8.out).mono ?_); (try clear A8); rintro e w91 ⟨rfl, hb⟩; refine ⟨_, rfl, ?_⟩; have n0_ := Aside0.mk (below_step (by repeat (first | (with_reducible first | exact HB.out | apply below_alloc | apply pw_below_drewN | apply below_drew1) | exact HB.out)) hb); clear HB; have HB := n0_; clear n0_; (try clear hb); (try clear hb2); (try clear hk); (try clear hi)) | ((with_reducible refine gate_callee (f := 16) rfl ?_); refine goesL_ (some 29) rfl rfl Try.func16 (by kernel_rfl) rfl #[.agg #[.int .i64 a0, .string a1]] rfl (by (try simp only [List.map_toArray, List.map_cons, List.map_nil]); first | done | rfl | (simp only [List.length_drop, List.length_take]; rfl)) ?_; (with_reducible refine (span_Breaks.calls a0 a1 true _ A9.out).mono ?_); (try clear A9); rintro e w92 ⟨rfl, hb⟩; refine ⟨_, rfl, ?_⟩; have n0_ := Aside0.mk (below_step (by repeat (first | (with_reducible first | exact HB.out | apply below_alloc | apply pw_below_drewN | apply below_drew1) | exact HB.out)) hb); clear HB; have HB := n0_; clear n0_; (try clear hb); (try clear hb2); (try clear hk); (try clear hi)) | (go_at_call 14; (with_reducible refine (span_Cols.calls kj3 t119 t135 _ A90.out).mono ?_); (try clear A90); rintro e w93 ⟨rfl, hb⟩; have n0_ := Aside0.mk (below_step (by repeat (first | (with_reducible first | exact HB.out | apply below_alloc | apply pw_below_drewN | apply below_drew1) | exact HB.out)) hb); clear HB; have HB := n0_; clear n0_; (try clear hb); (try clear hb2); (try clear hk); (try clear hi)))
                            go_ret
                            exact ⟨by first | rfl | (simp [errW_none, errW_some] <;> rfl) | (simp [*, errW_none, errW_some] <;> rfl), by repeat (first | (with_reducible first | exact HB.out | apply below_alloc | apply pw_below_drewN | apply below_drew1) | exact HB.out)⟩
                          · rw [if_neg c89] at H
                            have c89b0 : (a0 == 5) = false := beq_eq_false_iff_ne.mpr c89
                            have c89b1 : (a0 != 5) = true := bne_iff_ne.mpr c89
                            exact absurd H (by have h_ := HT_.out; subst h_; decide)
                  · replace c73 := Bool.eq_false_iff.mpr c73
                    subst c73
                    have H1 : ((span_Cols.f kj3 t119).bind fun t136 => (some (decide (t136 ≤ (t119.size : Int))))) = some r := by rw [if_neg (show ¬ (false = true) by decide)] at H; exact H
                    clear H
                    have H := H1
                    clear H1
                    replace H := Option.bind_eq_some_iff.mp H
                    obtain ⟨t136, A940, H⟩ := H
                    replace H : (some (decide (t136 ≤ (t119.size : Int)))) = some r := H
                    have A94 := Aside0.mk A940
                    clear A940
                    obtain rfl := Option.some.inj H
                    go_wp2_with (first | ((with_reducible refine gate_callee (f := 11) rfl ?_); refine goesL_ (some 23) rfl rfl Try.func11 (by kernel_rfl) rfl #[.agg #[.int .i64 a0, .string a1]] rfl (by (try simp only [List.map_toArray, List.map_cons, List.map_nil]); first | done | rfl | (simp only [List.length_drop, List.length_take]; rfl)) ?_; (with_reducible refine (span_Flat.calls a0 a1 t119 t120 _ A8.out).mono ?_); (try clear A8); rintro e w95 ⟨rfl, hb⟩; refine ⟨_, rfl, ?_⟩; have n0_ := Aside0.mk (below_step (by repeat (first | (with_reducible first | exact HB.out | apply below_alloc | apply pw_below_drewN | apply below_drew1) | exact HB.out)) hb); clear HB; have HB := n0_; clear n0_; (try clear hb); (try clear hb2); (try clear hk); (try clear hi)) | ((with_reducible refine gate_callee (f := 16) rfl ?_); refine goesL_ (some 29) rfl rfl Try.func16 (by kernel_rfl) rfl #[.agg #[.int .i64 a0, .string a1]] rfl (by (try simp only [List.map_toArray, List.map_cons, List.map_nil]); first | done | rfl | (simp only [List.length_drop, List.length_take]; rfl)) ?_; (with_reducible refine (span_Breaks.calls a0 a1 false _ A9.out).mono ?_); (try clear A9); rintro e w96 ⟨rfl, hb⟩; refine ⟨_, rfl, ?_⟩; have n0_ := Aside0.mk (below_step (by repeat (first | (with_reducible first | exact HB.out | apply below_alloc | apply pw_below_drewN | apply below_drew1) | exact HB.out)) hb); clear HB; have HB := n0_; clear n0_; (try clear hb); (try clear hb2); (try clear hk); (try clear hi)) | (go_at_call 14; (with_reducible refine (span_Cols.calls kj3 t119 t136 _ A94.out).mono ?_); (try clear A94); rintro e w97 ⟨rfl, hb⟩; have n0_ := Aside0.mk (below_step (by repeat (first | (with_reducible first | exact HB.out | apply below_alloc | apply pw_below_drewN | apply below_drew1) | exact HB.out)) hb); clear HB; have HB := n0_; clear n0_; (try clear hb); (try clear hb2); (try clear hk); (try clear hi)))
                    go_ret
                    exact ⟨by first | rfl | (simp [errW_none, errW_some] <;> rfl) | (simp [*, errW_none, errW_some] <;> rfl), by repeat (first | (with_reducible first | exact HB.out | apply below_alloc | apply pw_below_drewN | apply below_drew1) | exact HB.out)⟩
                · rw [if_neg c72] at H
                  have c72b0 : (t119.toList == a1.toList) = false := beq_eq_false_iff_ne.mpr c72
                  have c72b1 : (t119.toList != a1.toList) = true := bne_iff_ne.mpr c72
                  exact absurd H (by have h_ := HT_.out; subst h_; decide)
              · rw [if_neg c71] at H
                have c71b0 : (a0 == 0) = false := beq_eq_false_iff_ne.mpr c71
                have c71b1 : (a0 != 0) = true := bne_iff_ne.mpr c71
                by_cases c98 : t121 = true
                · subst c98
                  have H1 : (if a0 = 2 then (if (t119.size : Int) ≤ 2 then ((span_Cols.f kj3 t119).bind fun t137 => (some (decide (t137 ≤ (t119.size : Int))))) else (some false)) else (if a0 = 3 then (if (t119.size : Int) ≤ 2 then ((span_Cols.f kj3 t119).bind fun t138 => (some (decide (t138 ≤ (t119.size : Int))))) else (some false)) else (if a0 = 4 then (if (t119.size : Int) ≤ 2 then ((span_Cols.f kj3 t119).bind fun t139 => (some (decide (t139 ≤ (t119.size : Int))))) else (some false)) else (if a0 = 5 then (if (t119.size : Int) ≤ 2 then ((span_Cols.f kj3 t119).bind fun t140 => (some (decide (t140 ≤ (t119.size : Int))))) else (some false)) else (some false))))) = some r := by rw [if_pos rfl] at H; exact H
                  clear H
                  have H := H1
                  clear H1
                  by_cases c99 : a0 = 2
                  · rw [if_pos c99] at H
                    have c99b0 : (a0 == 2) = true := beq_iff_eq.mpr c99
                    have c99b1 : (a0 != 2) = false := bne_eq_false_iff_eq.mpr c99
                    clear c99
                    by_cases c100 : (t119.size : Int) ≤ 2
                    · rw [if_pos c100] at H
                      have c100b0 : decide ((t119.size : Int) ≤ 2) = true := decide_eq_true c100
                      have c100b1 : decide (t119.size ≤ 2) = true := decide_eq_true (by omega)
                      clear c100
                      replace H := Option.bind_eq_some_iff.mp H
                      obtain ⟨t137, A1010, H⟩ := H
                      replace H : (some (decide (t137 ≤ (t119.size : Int)))) = some r := H
                      have A101 := Aside0.mk A1010
                      clear A1010
                      obtain rfl := Option.some.inj H
                      go_wp2_with (first | ((with_reducible refine gate_callee (f := 11) rfl ?_); refine goesL_ (some 23) rfl rfl Try.func11 (by kernel_rfl) rfl #[.agg #[.int .i64 a0, .string a1]] rfl (by (try simp only [List.map_toArray, List.map_cons, List.map_nil]); first | done | rfl | (simp only [List.length_drop, List.length_take]; rfl)) ?_; (with_reducible refine (span_Flat.calls a0 a1 t119 t120 _ A8.out).mono ?_); (try clear A8); rintro e w102 ⟨rfl, hb⟩; refine ⟨_, rfl, ?_⟩; have n0_ := Aside0.mk (below_step (by repeat (first | (with_reducible first | exact HB.out | apply below_alloc | apply pw_below_drewN | apply below_drew1) | exact HB.out)) hb); clear HB; have HB := n0_; clear n0_; (try clear hb); (try clear hb2); (try clear hk); (try clear hi)) | ((with_reducible refine gate_callee (f := 16) rfl ?_); refine goesL_ (some 29) rfl rfl Try.func16 (by kernel_rfl) rfl #[.agg #[.int .i64 a0, .string a1]] rfl (by (try simp only [List.map_toArray, List.map_cons, List.map_nil]); first | done | rfl | (simp only [List.length_drop, List.length_take]; rfl)) ?_; (with_reducible refine (span_Breaks.calls a0 a1 true _ A9.out).mono ?_); (try clear A9); rintro e w103 ⟨rfl, hb⟩; refine ⟨_, rfl, ?_⟩; have n0_ := Aside0.mk (below_step (by repeat (first | (with_reducible first | exact HB.out | apply below_alloc | apply pw_below_drewN | apply below_drew1) | exact HB.out)) hb); clear HB; have HB := n0_; clear n0_; (try clear hb); (try clear hb2); (try clear hk); (try clear hi)) | (go_at_call 14; (with_reducible refine (span_Cols.calls kj3 t119 t137 _ A101.out).mono ?_); (try clear A101); rintro e w104 ⟨rfl, hb⟩; have n0_ := Aside0.mk (below_step (by repeat (first | (with_reducible first | exact HB.out | apply below_alloc | apply pw_below_drewN | apply below_drew1) | exact HB.out)) hb); clear HB; have HB := n0_; clear n0_; (try clear hb); (try clear hb2); (try clear hk); (try clear hi)))
                      go_ret
                      exact ⟨by first | rfl | (simp [errW_none, errW_some] <;> rfl) | (simp [*, errW_none, errW_some] <;> rfl), by repeat (first | (with_reducible first | exact HB.out | apply below_alloc | apply pw_below_drewN | apply below_drew1) | exact HB.out)⟩
                    · rw [if_neg c100] at H
                      have c100b0 : decide ((t119.size : Int) ≤ 2) = false := decide_eq_false c100
                      have c100b1 : decide (t119.size ≤ 2) = false := decide_eq_false (by omega)
                      clear c100
                      exact absurd H (by have h_ := HT_.out; subst h_; decide)
                  · rw [if_neg c99] at H
                    have c99b0 : (a0 == 2) = false := beq_eq_false_iff_ne.mpr c99
                    have c99b1 : (a0 != 2) = true := bne_iff_ne.mpr c99
                    by_cases c105 : a0 = 3
                    · rw [if_pos c105] at H
                      have c105b0 : (a0 == 3) = true := beq_iff_eq.mpr c105
                      have c105b1 : (a0 != 3) = false := bne_eq_false_iff_eq.mpr c105
                      clear c105
                      by_cases c106 : (t119.size : Int) ≤ 2
                      · rw [if_pos c106] at H
                        have c106b0 : decide ((t119.size : Int) ≤ 2) = true := decide_eq_true c106
                        have c106b1 : decide (t119.size ≤ 2) = true := decide_eq_true (by omega)
                        clear c106
                        replace H := Option.bind_eq_some_iff.mp H
                        obtain ⟨t138, A1070, H⟩ := H
                        replace H : (some (decide (t138 ≤ (t119.size : Int)))) = some r := H
                        have A107 := Aside0.mk A1070
                        clear A1070
                        obtain rfl := Option.some.inj H
                        go_wp2_with (first | ((with_reducible refine gate_callee (f := 11) rfl ?_); refine goesL_ (some 23) rfl rfl Try.func11 (by kernel_rfl) rfl #[.agg #[.int .i64 a0, .string a1]] rfl (by (try simp only [List.map_toArray, List.map_cons, List.map_nil]); first | done | rfl | (simp only [List.length_drop, List.length_take]; rfl)) ?_; (with_reducible refine (span_Flat.calls a0 a1 t119 t120 _ A8.out).mono ?_); (try clear A8); rintro e w108 ⟨rfl, hb⟩; refine ⟨_, rfl, ?_⟩; have n0_ := Aside0.mk (below_step (by repeat (first | (with_reducible first | exact HB.out | apply below_alloc | apply pw_below_drewN | apply below_drew1) | exact HB.out)) hb); clear HB; have HB := n0_; clear n0_; (try clear hb); (try clear hb2); (try clear hk); (try clear hi)) | ((with_reducible refine gate_callee (f := 16) rfl ?_); refine goesL_ (some 29) rfl rfl Try.func16 (by kernel_rfl) rfl #[.agg #[.int .i64 a0, .string a1]] rfl (by (try simp only [List.map_toArray, List.map_cons, List.map_nil]); first | done | rfl | (simp only [List.length_drop, List.length_take]; rfl)) ?_; (with_reducible refine (span_Breaks.calls a0 a1 true _ A9.out).mono ?_); (try clear A9); rintro e w109 ⟨rfl, hb⟩; refine ⟨_, rfl, ?_⟩; have n0_ := Aside0.mk (below_step (by repeat (first | (with_reducible first | exact HB.out | apply below_alloc | apply pw_below_drewN | apply below_drew1) | exact HB.out)) hb); clear HB; have HB := n0_; clear n0_; (try clear hb); (try clear hb2); (try clear hk); (try clear hi)) | (go_at_call 14; (with_reducible refine (span_Cols.calls kj3 t119 t138 _ A107.out).mono ?_); (try clear A107); rintro e w110 ⟨rfl, hb⟩; have n0_ := Aside0.mk (below_step (by repeat (first | (with_reducible first | exact HB.out | apply below_alloc | apply pw_below_drewN | apply below_drew1) | exact HB.out)) hb); clear HB; have HB := n0_; clear n0_; (try clear hb); (try clear hb2); (try clear hk); (try clear hi)))
                        go_ret
                        exact ⟨by first | rfl | (simp [errW_none, errW_some] <;> rfl) | (simp [*, errW_none, errW_some] <;> rfl), by repeat (first | (with_reducible first | exact HB.out | apply below_alloc | apply pw_below_drewN | apply below_drew1) | exact HB.out)⟩
                      · rw [if_neg c106] at H
                        have c106b0 : decide ((t119.size : Int) ≤ 2) = false := decide_eq_false c106
                        have c106b1 : decide (t119.size ≤ 2) = false := decide_eq_false (by omega)
                        clear c106
                        exact absurd H (by have h_ := HT_.out; subst h_; decide)
                    · rw [if_neg c105] at H
                      have c105b0 : (a0 == 3) = false := beq_eq_false_iff_ne.mpr c105
                      have c105b1 : (a0 != 3) = true := bne_iff_ne.mpr c105
                      by_cases c111 : a0 = 4
                      · rw [if_pos c111] at H
                        have c111b0 : (a0 == 4) = true := beq_iff_eq.mpr c111
                        have c111b1 : (a0 != 4) = false := bne_eq_false_iff_eq.mpr c111
                        clear c111
                        by_cases c112 : (t119.size : Int) ≤ 2
                        · rw [if_pos c112] at H
                          have c112b0 : decide ((t119.size : Int) ≤ 2) = true := decide_eq_true c112
                          have c112b1 : decide (t119.size ≤ 2) = true := decide_eq_true (by omega)
                          clear c112
                          replace H := Option.bind_eq_some_iff.mp H
                          obtain ⟨t139, A1130, H⟩ := H
                          replace H : (some (decide (t139 ≤ (t119.size : Int)))) = some r := H
                          have A113 := Aside0.mk A1130
                          clear A1130
                          obtain rfl := Option.some.inj H
                          go_wp2_with (first | ((with_reducible refine gate_callee (f := 11) rfl ?_); refine goesL_ (some 23) rfl rfl Try.func11 (by kernel_rfl) rfl #[.agg #[.int .i64 a0, .string a1]] rfl (by (try simp only [List.map_toArray, List.map_cons, List.map_nil]); first | done | rfl | (simp only [List.length_drop, List.length_take]; rfl)) ?_; (with_reducible refine (span_Flat.calls a0 a1 t119 t120 _ A8.out).mono ?_); (try clear A8); rintro e w114 ⟨rfl, hb⟩; refine ⟨_, rfl, ?_⟩; have n0_ := Aside0.mk (below_step (by repeat (first | (with_reducible first | exact HB.out | apply below_alloc | apply pw_below_drewN | apply below_drew1) | exact HB.out)) hb); clear HB; have HB := n0_; clear n0_; (try clear hb); (try clear hb2); (try clear hk); (try clear hi)) | ((with_reducible refine gate_callee (f := 16) rfl ?_); refine goesL_ (some 29) rfl rfl Try.func16 (by kernel_rfl) rfl #[.agg #[.int .i64 a0, .string a1]] rfl (by (try simp only [List.map_toArray, List.map_cons, List.map_nil]); first | done | rfl | (simp only [List.length_drop, List.length_take]; rfl)) ?_; (with_reducible refine (span_Breaks.calls a0 a1 true _ A9.out).mono ?_); (try clear A9); rintro e w115 ⟨rfl, hb⟩; refine ⟨_, rfl, ?_⟩; have n0_ := Aside0.mk (below_step (by repeat (first | (with_reducible first | exact HB.out | apply below_alloc | apply pw_below_drewN | apply below_drew1) | exact HB.out)) hb); clear HB; have HB := n0_; clear n0_; (try clear hb); (try clear hb2); (try clear hk); (try clear hi)) | (go_at_call 14; (with_reducible refine (span_Cols.calls kj3 t119 t139 _ A113.out).mono ?_); (try clear A113); rintro e w116 ⟨rfl, hb⟩; have n0_ := Aside0.mk (below_step (by repeat (first | (with_reducible first | exact HB.out | apply below_alloc | apply pw_below_drewN | apply below_drew1) | exact HB.out)) hb); clear HB; have HB := n0_; clear n0_; (try clear hb); (try clear hb2); (try clear hk); (try clear hi)))
                          go_ret
                          exact ⟨by first | rfl | (simp [errW_none, errW_some] <;> rfl) | (simp [*, errW_none, errW_some] <;> rfl), by repeat (first | (with_reducible first | exact HB.out | apply below_alloc | apply pw_below_drewN | apply below_drew1) | exact HB.out)⟩
                        · rw [if_neg c112] at H
                          have c112b0 : decide ((t119.size : Int) ≤ 2) = false := decide_eq_false c112
                          have c112b1 : decide (t119.size ≤ 2) = false := decide_eq_false (by omega)
                          clear c112
                          exact absurd H (by have h_ := HT_.out; subst h_; decide)
                      · rw [if_neg c111] at H
                        have c111b0 : (a0 == 4) = false := beq_eq_false_iff_ne.mpr c111
                        have c111b1 : (a0 != 4) = true := bne_iff_ne.mpr c111
                        by_cases c117 : a0 = 5
                        · rw [if_pos c117] at H
                          have c117b0 : (a0 == 5) = true := beq_iff_eq.mpr c117
                          have c117b1 : (a0 != 5) = false := bne_eq_false_iff_eq.mpr c117
                          (try (have hz_ : t120 = false := (by have h_ := c12b0; rw [c117b1] at h_; exact beq_iff_eq.1 h_)))
                          (try (have hz_ : t120 = false := (by have h_ := c12b0; rw [c117b1] at h_; exact beq_iff_eq.1 h_)))
                          clear c117
                          by_cases c118 : (t119.size : Int) ≤ 2
                          · rw [if_pos c118] at H
                            have c118b0 : decide ((t119.size : Int) ≤ 2) = true := decide_eq_true c118
                            have c118b1 : decide (t119.size ≤ 2) = true := decide_eq_true (by omega)
                            clear c118
                            replace H := Option.bind_eq_some_iff.mp H
                            obtain ⟨t140, A1190, H⟩ := H
                            replace H : (some (decide (t140 ≤ (t119.size : Int)))) = some r := H
                            have A119 := Aside0.mk A1190
                            clear A1190
                            obtain rfl := Option.some.inj H
                            go_wp2_with (first | ((with_reducible refine gate_callee (f := 11) rfl ?_); refine goesL_ (some 23) rfl rfl Try.func11 (by kernel_rfl) rfl #[.agg #[.int .i64 a0, .string a1]] rfl (by (try simp only [List.map_toArray, List.map_cons, List.map_nil]); first | done | rfl | (simp only [List.length_drop, List.length_take]; rfl)) ?_; (with_reducible refine (span_Flat.calls a0 a1 t119 t120 _ A8.out).mono ?_); (try clear A8); rintro e w120 ⟨rfl, hb⟩; refine ⟨_, rfl, ?_⟩; have n0_ := Aside0.mk (below_step (by repeat (first | (with_reducible first | exact HB.out | apply below_alloc | apply pw_below_drewN | apply below_drew1) | exact HB.out)) hb); clear HB; have HB := n0_; clear n0_; (try clear hb); (try clear hb2); (try clear hk); (try clear hi)) | ((with_reducible refine gate_callee (f := 16) rfl ?_); refine goesL_ (some 29) rfl rfl Try.func16 (by kernel_rfl) rfl #[.agg #[.int .i64 a0, .string a1]] rfl (by (try simp only [List.map_toArray, List.map_cons, List.map_nil]); first | done | rfl | (simp only [List.length_drop, List.length_take]; rfl)) ?_; (with_reducible refine (span_Breaks.calls a0 a1 true _ A9.out).mono ?_); (try clear A9); rintro e w121 ⟨rfl, hb⟩; refine ⟨_, rfl, ?_⟩; have n0_ := Aside0.mk (below_step (by repeat (first | (with_reducible first | exact HB.out | apply below_alloc | apply pw_below_drewN | apply below_drew1) | exact HB.out)) hb); clear HB; have HB := n0_; clear n0_; (try clear hb); (try clear hb2); (try clear hk); (try clear hi)) | (go_at_call 14; (with_reducible refine (span_Cols.calls kj3 t119 t140 _ A119.out).mono ?_); (try clear A119); rintro e w122 ⟨rfl, hb⟩; have n0_ := Aside0.mk (below_step (by repeat (first | (with_reducible first | exact HB.out | apply below_alloc | apply pw_below_drewN | apply below_drew1) | exact HB.out)) hb); clear HB; have HB := n0_; clear n0_; (try clear hb); (try clear hb2); (try clear hk); (try clear hi)))
                            go_ret
                            exact ⟨by first | rfl | (simp [errW_none, errW_some] <;> rfl) | (simp [*, errW_none, errW_some] <;> rfl), by repeat (first | (with_reducible first | exact HB.out | apply below_alloc | apply pw_below_drewN | apply below_drew1) | exact HB.out)⟩
                          · rw [if_neg c118] at H
                            have c118b0 : decide ((t119.size : Int) ≤ 2) = false := decide_eq_false c118
                            have c118b1 : decide (t119.size ≤ 2) = false := decide_eq_false (by omega)
                            clear c118
                            exact absurd H (by have h_ := HT_.out; subst h_; decide)
                        · rw [if_neg c117] at H
                          have c117b0 : (a0 == 5) = false := beq_eq_false_iff_ne.mpr c117
                          have c117b1 : (a0 != 5) = true := bne_iff_ne.mpr c117
                          exact absurd H (by have h_ := HT_.out; subst h_; decide)
                · replace c98 := Bool.eq_false_iff.mpr c98
                  subst c98
                  have H1 : (if (t119.size : Int) ≤ 2 then ((span_Cols.f kj3 t119).bind fun t141 => (some (decide (t141 ≤ (t119.size : Int))))) else (some false)) = some r := by rw [if_neg (show ¬ (false = true) by decide)] at H; exact H
                  clear H
                  have H := H1
                  clear H1
                  by_cases c123 : (t119.size : Int) ≤ 2
                  · rw [if_pos c123] at H
                    have c123b0 : decide ((t119.size : Int) ≤ 2) = true := decide_eq_true c123
                    have c123b1 : decide (t119.size ≤ 2) = true := decide_eq_true (by omega)
                    clear c123
                    replace H := Option.bind_eq_some_iff.mp H
                    obtain ⟨t141, A1240, H⟩ := H
                    replace H : (some (decide (t141 ≤ (t119.size : Int)))) = some r := H
                    have A124 := Aside0.mk A1240
                    clear A1240
                    obtain rfl := Option.some.inj H
                    go_wp2_with (first | ((with_reducible refine gate_callee (f := 11) rfl ?_); refine goesL_ (some 23) rfl rfl Try.func11 (by kernel_rfl) rfl #[.agg #[.int .i64 a0, .string a1]] rfl (by (try simp only [List.map_toArray, List.map_cons, List.map_nil]); first | done | rfl | (simp only [List.length_drop, List.length_take]; rfl)) ?_; (with_reducible refine (span_Flat.calls a0 a1 t119 t120 _ A8.out).mono ?_); (try clear A8); rintro e w125 ⟨rfl, hb⟩; refine ⟨_, rfl, ?_⟩; have n0_ := Aside0.mk (below_step (by repeat (first | (with_reducible first | exact HB.out | apply below_alloc | apply pw_below_drewN | apply below_drew1) | exact HB.out)) hb); clear HB; have HB := n0_; clear n0_; (try clear hb); (try clear hb2); (try clear hk); (try clear hi)) | ((with_reducible refine gate_callee (f := 16) rfl ?_); refine goesL_ (some 29) rfl rfl Try.func16 (by kernel_rfl) rfl #[.agg #[.int .i64 a0, .string a1]] rfl (by (try simp only [List.map_toArray, List.map_cons, List.map_nil]); first | done | rfl | (simp only [List.length_drop, List.length_take]; rfl)) ?_; (with_reducible refine (span_Breaks.calls a0 a1 false _ A9.out).mono ?_); (try clear A9); rintro e w126 ⟨rfl, hb⟩; refine ⟨_, rfl, ?_⟩; have n0_ := Aside0.mk (below_step (by repeat (first | (with_reducible first | exact HB.out | apply below_alloc | apply pw_below_drewN | apply below_drew1) | exact HB.out)) hb); clear HB; have HB := n0_; clear n0_; (try clear hb); (try clear hb2); (try clear hk); (try clear hi)) | (go_at_call 14; (with_reducible refine (span_Cols.calls kj3 t119 t141 _ A124.out).mono ?_); (try clear A124); rintro e w127 ⟨rfl, hb⟩; have n0_ := Aside0.mk (below_step (by repeat (first | (with_reducible first | exact HB.out | apply below_alloc | apply pw_below_drewN | apply below_drew1) | exact HB.out)) hb); clear HB; have HB := n0_; clear n0_; (try clear hb); (try clear hb2); (try clear hk); (try clear hi)))
                    go_ret
                    exact ⟨by first | rfl | (simp [errW_none, errW_some] <;> rfl) | (simp [*, errW_none, errW_some] <;> rfl), by repeat (first | (with_reducible first | exact HB.out | apply below_alloc | apply pw_below_drewN | apply below_drew1) | exact HB.out)⟩
                  · rw [if_neg c123] at H
                    have c123b0 : decide ((t119.size : Int) ≤ 2) = false := decide_eq_false c123
                    have c123b1 : decide (t119.size ≤ 2) = false := decide_eq_false (by omega)
                    clear c123
                    exact absurd H (by have h_ := HT_.out; subst h_; decide)
            · rw [if_neg c70] at H
              have c70b0 : (t120 == false) = false := by simpa using c70
              (try (have c70b1 : decide (t120 = false) = false := by simpa using c70))
              (try (have c70b2 : (t120 == false) = false := by simpa using c70))
              (try (have c70b3 : ¬ (t120 = false) := by simpa using c70))
              clear c70
              exact absurd H (by have h_ := HT_.out; subst h_; decide)
        · rw [if_neg c10] at H
          have c10b0 : decide (0 ≤ a0) = false := decide_eq_false c10
          clear c10
          by_cases c128 : (t120 == false) = true
          · rw [if_pos c128] at H
            have c128b0 : (t120 == false) = true := c128
            (try (have c128b1 : decide (t120 = false) = true := by simpa using c128))
            (try (have c128b2 : (t120 == false) = true := by simpa using c128))
            clear c128
            by_cases c129 : a0 = 0
            · rw [if_pos c129] at H
              have c129b0 : (a0 == 0) = true := beq_iff_eq.mpr c129
              have c129b1 : (a0 != 0) = false := bne_eq_false_iff_eq.mpr c129
              clear c129
              by_cases c130 : t119.toList = a1.toList
              · rw [if_pos c130] at H
                have c130b0 : (t119.toList == a1.toList) = true := beq_iff_eq.mpr c130
                have c130b1 : (t119.toList != a1.toList) = false := bne_eq_false_iff_eq.mpr c130
                clear c130
                by_cases c131 : t121 = true
                · subst c131
                  have H1 : (if a0 = 2 then ((span_Cols.f kj3 t119).bind fun t142 => (some (decide (t142 ≤ (t119.size : Int))))) else (if a0 = 3 then ((span_Cols.f kj3 t119).bind fun t143 => (some (decide (t143 ≤ (t119.size : Int))))) else (if a0 = 4 then ((span_Cols.f kj3 t119).bind fun t144 => (some (decide (t144 ≤ (t119.size : Int))))) else (if a0 = 5 then ((span_Cols.f kj3 t119).bind fun t145 => (some (decide (t145 ≤ (t119.size : Int))))) else (some false))))) = some r := by rw [if_pos rfl] at H; exact H
                  clear H
                  have H := H1
                  clear H1
                  by_cases c132 : a0 = 2
                  · rw [if_pos c132] at H
                    have c132b0 : (a0 == 2) = true := beq_iff_eq.mpr c132
                    have c132b1 : (a0 != 2) = false := bne_eq_false_iff_eq.mpr c132
                    clear c132
                    replace H := Option.bind_eq_some_iff.mp H
                    obtain ⟨t142, A1330, H⟩ := H
                    replace H : (some (decide (t142 ≤ (t119.size : Int)))) = some r := H
                    have A133 := Aside0.mk A1330
                    clear A1330
                    obtain rfl := Option.some.inj H
                    go_wp2_with (first | ((with_reducible refine gate_callee (f := 11) rfl ?_); refine goesL_ (some 23) rfl rfl Try.func11 (by kernel_rfl) rfl #[.agg #[.int .i64 a0, .string a1]] rfl (by (try simp only [List.map_toArray, List.map_cons, List.map_nil]); first | done | rfl | (simp only [List.length_drop, List.length_take]; rfl)) ?_; (with_reducible refine (span_Flat.calls a0 a1 t119 t120 _ A8.out).mono ?_); (try clear A8); rintro e w134 ⟨rfl, hb⟩; refine ⟨_, rfl, ?_⟩; have n0_ := Aside0.mk (below_step (by repeat (first | (with_reducible first | exact HB.out | apply below_alloc | apply pw_below_drewN | apply below_drew1) | exact HB.out)) hb); clear HB; have HB := n0_; clear n0_; (try clear hb); (try clear hb2); (try clear hk); (try clear hi)) | ((with_reducible refine gate_callee (f := 16) rfl ?_); refine goesL_ (some 29) rfl rfl Try.func16 (by kernel_rfl) rfl #[.agg #[.int .i64 a0, .string a1]] rfl (by (try simp only [List.map_toArray, List.map_cons, List.map_nil]); first | done | rfl | (simp only [List.length_drop, List.length_take]; rfl)) ?_; (with_reducible refine (span_Breaks.calls a0 a1 true _ A9.out).mono ?_); (try clear A9); rintro e w135 ⟨rfl, hb⟩; refine ⟨_, rfl, ?_⟩; have n0_ := Aside0.mk (below_step (by repeat (first | (with_reducible first | exact HB.out | apply below_alloc | apply pw_below_drewN | apply below_drew1) | exact HB.out)) hb); clear HB; have HB := n0_; clear n0_; (try clear hb); (try clear hb2); (try clear hk); (try clear hi)) | (go_at_call 14; (with_reducible refine (span_Cols.calls kj3 t119 t142 _ A133.out).mono ?_); (try clear A133); rintro e w136 ⟨rfl, hb⟩; have n0_ := Aside0.mk (below_step (by repeat (first | (with_reducible first | exact HB.out | apply below_alloc | apply pw_below_drewN | apply below_drew1) | exact HB.out)) hb); clear HB; have HB := n0_; clear n0_; (try clear hb); (try clear hb2); (try clear hk); (try clear hi)))
                    go_ret
                    exact ⟨by first | rfl | (simp [errW_none, errW_some] <;> rfl) | (simp [*, errW_none, errW_some] <;> rfl), by repeat (first | (with_reducible first | exact HB.out | apply below_alloc | apply pw_below_drewN | apply below_drew1) | exact HB.out)⟩
                  · rw [if_neg c132] at H
                    have c132b0 : (a0 == 2) = false := beq_eq_false_iff_ne.mpr c132
                    have c132b1 : (a0 != 2) = true := bne_iff_ne.mpr c132
                    by_cases c137 : a0 = 3
                    · rw [if_pos c137] at H
                      have c137b0 : (a0 == 3) = true := beq_iff_eq.mpr c137
                      have c137b1 : (a0 != 3) = false := bne_eq_false_iff_eq.mpr c137
                      clear c137
                      replace H := Option.bind_eq_some_iff.mp H
                      obtain ⟨t143, A1380, H⟩ := H
                      replace H : (some (decide (t143 ≤ (t119.size : Int)))) = some r := H
                      have A138 := Aside0.mk A1380
                      clear A1380
                      obtain rfl := Option.some.inj H
                      go_wp2_with (first | ((with_reducible refine gate_callee (f := 11) rfl ?_); refine goesL_ (some 23) rfl rfl Try.func11 (by kernel_rfl) rfl #[.agg #[.int .i64 a0, .string a1]] rfl (by (try simp only [List.map_toArray, List.map_cons, List.map_nil]); first | done | rfl | (simp only [List.length_drop, List.length_take]; rfl)) ?_; (with_reducible refine (span_Flat.calls a0 a1 t119 t120 _ A8.out).mono ?_); (try clear A8); rintro e w139 ⟨rfl, hb⟩; refine ⟨_, rfl, ?_⟩; have n0_ := Aside0.mk (below_step (by repeat (first | (with_reducible first | exact HB.out | apply below_alloc | apply pw_below_drewN | apply below_drew1) | exact HB.out)) hb); clear HB; have HB := n0_; clear n0_; (try clear hb); (try clear hb2); (try clear hk); (try clear hi)) | ((with_reducible refine gate_callee (f := 16) rfl ?_); refine goesL_ (some 29) rfl rfl Try.func16 (by kernel_rfl) rfl #[.agg #[.int .i64 a0, .string a1]] rfl (by (try simp only [List.map_toArray, List.map_cons, List.map_nil]); first | done | rfl | (simp only [List.length_drop, List.length_take]; rfl)) ?_; (with_reducible refine (span_Breaks.calls a0 a1 true _ A9.out).mono ?_); (try clear A9); rintro e w140 ⟨rfl, hb⟩; refine ⟨_, rfl, ?_⟩; have n0_ := Aside0.mk (below_step (by repeat (first | (with_reducible first | exact HB.out | apply below_alloc | apply pw_below_drewN | apply below_drew1) | exact HB.out)) hb); clear HB; have HB := n0_; clear n0_; (try clear hb); (try clear hb2); (try clear hk); (try clear hi)) | (go_at_call 14; (with_reducible refine (span_Cols.calls kj3 t119 t143 _ A138.out).mono ?_); (try clear A138); rintro e w141 ⟨rfl, hb⟩; have n0_ := Aside0.mk (below_step (by repeat (first | (with_reducible first | exact HB.out | apply below_alloc | apply pw_below_drewN | apply below_drew1) | exact HB.out)) hb); clear HB; have HB := n0_; clear n0_; (try clear hb); (try clear hb2); (try clear hk); (try clear hi)))
                      go_ret
                      exact ⟨by first | rfl | (simp [errW_none, errW_some] <;> rfl) | (simp [*, errW_none, errW_some] <;> rfl), by repeat (first | (with_reducible first | exact HB.out | apply below_alloc | apply pw_below_drewN | apply below_drew1) | exact HB.out)⟩
                    · rw [if_neg c137] at H
                      have c137b0 : (a0 == 3) = false := beq_eq_false_iff_ne.mpr c137
                      have c137b1 : (a0 != 3) = true := bne_iff_ne.mpr c137
                      by_cases c142 : a0 = 4
                      · rw [if_pos c142] at H
                        have c142b0 : (a0 == 4) = true := beq_iff_eq.mpr c142
                        have c142b1 : (a0 != 4) = false := bne_eq_false_iff_eq.mpr c142
                        clear c142
                        replace H := Option.bind_eq_some_iff.mp H
                        obtain ⟨t144, A1430, H⟩ := H
                        replace H : (some (decide (t144 ≤ (t119.size : Int)))) = some r := H
                        have A143 := Aside0.mk A1430
                        clear A1430
                        obtain rfl := Option.some.inj H
                        go_wp2_with (first | ((with_reducible refine gate_callee (f := 11) rfl ?_); refine goesL_ (some 23) rfl rfl Try.func11 (by kernel_rfl) rfl #[.agg #[.int .i64 a0, .string a1]] rfl (by (try simp only [List.map_toArray, List.map_cons, List.map_nil]); first | done | rfl | (simp only [List.length_drop, List.length_take]; rfl)) ?_; (with_reducible refine (span_Flat.calls a0 a1 t119 t120 _ A8.out).mono ?_); (try clear A8); rintro e w144 ⟨rfl, hb⟩; refine ⟨_, rfl, ?_⟩; have n0_ := Aside0.mk (below_step (by repeat (first | (with_reducible first | exact HB.out | apply below_alloc | apply pw_below_drewN | apply below_drew1) | exact HB.out)) hb); clear HB; have HB := n0_; clear n0_; (try clear hb); (try clear hb2); (try clear hk); (try clear hi)) | ((with_reducible refine gate_callee (f := 16) rfl ?_); refine goesL_ (some 29) rfl rfl Try.func16 (by kernel_rfl) rfl #[.agg #[.int .i64 a0, .string a1]] rfl (by (try simp only [List.map_toArray, List.map_cons, List.map_nil]); first | done | rfl | (simp only [List.length_drop, List.length_take]; rfl)) ?_; (with_reducible refine (span_Breaks.calls a0 a1 true _ A9.out).mono ?_); (try clear A9); rintro e w145 ⟨rfl, hb⟩; refine ⟨_, rfl, ?_⟩; have n0_ := Aside0.mk (below_step (by repeat (first | (with_reducible first | exact HB.out | apply below_alloc | apply pw_below_drewN | apply below_drew1) | exact HB.out)) hb); clear HB; have HB := n0_; clear n0_; (try clear hb); (try clear hb2); (try clear hk); (try clear hi)) | (go_at_call 14; (with_reducible refine (span_Cols.calls kj3 t119 t144 _ A143.out).mono ?_); (try clear A143); rintro e w146 ⟨rfl, hb⟩; have n0_ := Aside0.mk (below_step (by repeat (first | (with_reducible first | exact HB.out | apply below_alloc | apply pw_below_drewN | apply below_drew1) | exact HB.out)) hb); clear HB; have HB := n0_; clear n0_; (try clear hb); (try clear hb2); (try clear hk); (try clear hi)))
                        go_ret
                        exact ⟨by first | rfl | (simp [errW_none, errW_some] <;> rfl) | (simp [*, errW_none, errW_some] <;> rfl), by repeat (first | (with_reducible first | exact HB.out | apply below_alloc | apply pw_below_drewN | apply below_drew1) | exact HB.out)⟩
                      · rw [if_neg c142] at H
                        have c142b0 : (a0 == 4) = false := beq_eq_false_iff_ne.mpr c142
                        have c142b1 : (a0 != 4) = true := bne_iff_ne.mpr c142
                        by_cases c147 : a0 = 5
                        · rw [if_pos c147] at H
                          have c147b0 : (a0 == 5) = true := beq_iff_eq.mpr c147
                          have c147b1 : (a0 != 5) = false := bne_eq_false_iff_eq.mpr c147
                          (try (have hz_ : t120 = false := (by have h_ := c12b0; rw [c147b1] at h_; exact beq_iff_eq.1 h_)))
                          (try (have hz_ : t120 = false := (by have h_ := c12b0; rw [c147b1] at h_; exact beq_iff_eq.1 h_)))
                          clear c147
                          replace H := Option.bind_eq_some_iff.mp H
                          obtain ⟨t145, A1480, H⟩ := H
                          replace H : (some (decide (t145 ≤ (t119.size : Int)))) = some r := H
                          have A148 := Aside0.mk A1480
                          clear A1480
                          obtain rfl := Option.some.inj H
                          go_wp2_with (first | ((with_reducible refine gate_callee (f := 11) rfl ?_); refine goesL_ (some 23) rfl rfl Try.func11 (by kernel_rfl) rfl #[.agg #[.int .i64 a0, .string a1]] rfl (by (try simp only [List.map_toArray, List.map_cons, List.map_nil]); first | done | rfl | (simp only [List.length_drop, List.length_take]; rfl)) ?_; (with_reducible refine (span_Flat.calls a0 a1 t119 t120 _ A8.out).mono ?_); (try clear A8); rintro e w149 ⟨rfl, hb⟩; refine ⟨_, rfl, ?_⟩; have n0_ := Aside0.mk (below_step (by repeat (first | (with_reducible first | exact HB.out | apply below_alloc | apply pw_below_drewN | apply below_drew1) | exact HB.out)) hb); clear HB; have HB := n0_; clear n0_; (try clear hb); (try clear hb2); (try clear hk); (try clear hi)) | ((with_reducible refine gate_callee (f := 16) rfl ?_); refine goesL_ (some 29) rfl rfl Try.func16 (by kernel_rfl) rfl #[.agg #[.int .i64 a0, .string a1]] rfl (by (try simp only [List.map_toArray, List.map_cons, List.map_nil]); first | done | rfl | (simp only [List.length_drop, List.length_take]; rfl)) ?_; (with_reducible refine (span_Breaks.calls a0 a1 true _ A9.out).mono ?_); (try clear A9); rintro e w150 ⟨rfl, hb⟩; refine ⟨_, rfl, ?_⟩; have n0_ := Aside0.mk (below_step (by repeat (first | (with_reducible first | exact HB.out | apply below_alloc | apply pw_below_drewN | apply below_drew1) | exact HB.out)) hb); clear HB; have HB := n0_; clear n0_; (try clear hb); (try clear hb2); (try clear hk); (try clear hi)) | (go_at_call 14; (with_reducible refine (span_Cols.calls kj3 t119 t145 _ A148.out).mono ?_); (try clear A148); rintro e w151 ⟨rfl, hb⟩; have n0_ := Aside0.mk (below_step (by repeat (first | (with_reducible first | exact HB.out | apply below_alloc | apply pw_below_drewN | apply below_drew1) | exact HB.out)) hb); clear HB; have HB := n0_; clear n0_; (try clear hb); (try clear hb2); (try clear hk); (try clear hi)))
                          go_ret
                          exact ⟨by first | rfl | (simp [errW_none, errW_some] <;> rfl) | (simp [*, errW_none, errW_some] <;> rfl), by repeat (first | (with_reducible first | exact HB.out | apply below_alloc | apply pw_below_drewN | apply below_drew1) | exact HB.out)⟩
                        · rw [if_neg c147] at H
                          have c147b0 : (a0 == 5) = false := beq_eq_false_iff_ne.mpr c147
                          have c147b1 : (a0 != 5) = true := bne_iff_ne.mpr c147
                          exact absurd H (by have h_ := HT_.out; subst h_; decide)
                · replace c131 := Bool.eq_false_iff.mpr c131
                  subst c131
                  have H1 : ((span_Cols.f kj3 t119).bind fun t146 => (some (decide (t146 ≤ (t119.size : Int))))) = some r := by rw [if_neg (show ¬ (false = true) by decide)] at H; exact H
                  clear H
                  have H := H1
                  clear H1
                  replace H := Option.bind_eq_some_iff.mp H
                  obtain ⟨t146, A1520, H⟩ := H
                  replace H : (some (decide (t146 ≤ (t119.size : Int)))) = some r := H
                  have A152 := Aside0.mk A1520
                  clear A1520
                  obtain rfl := Option.some.inj H
                  go_wp2_with (first | ((with_reducible refine gate_callee (f := 11) rfl ?_); refine goesL_ (some 23) rfl rfl Try.func11 (by kernel_rfl) rfl #[.agg #[.int .i64 a0, .string a1]] rfl (by (try simp only [List.map_toArray, List.map_cons, List.map_nil]); first | done | rfl | (simp only [List.length_drop, List.length_take]; rfl)) ?_; (with_reducible refine (span_Flat.calls a0 a1 t119 t120 _ A8.out).mono ?_); (try clear A8); rintro e w153 ⟨rfl, hb⟩; refine ⟨_, rfl, ?_⟩; have n0_ := Aside0.mk (below_step (by repeat (first | (with_reducible first | exact HB.out | apply below_alloc | apply pw_below_drewN | apply below_drew1) | exact HB.out)) hb); clear HB; have HB := n0_; clear n0_; (try clear hb); (try clear hb2); (try clear hk); (try clear hi)) | ((with_reducible refine gate_callee (f := 16) rfl ?_); refine goesL_ (some 29) rfl rfl Try.func16 (by kernel_rfl) rfl #[.agg #[.int .i64 a0, .string a1]] rfl (by (try simp only [List.map_toArray, List.map_cons, List.map_nil]); first | done | rfl | (simp only [List.length_drop, List.length_take]; rfl)) ?_; (with_reducible refine (span_Breaks.calls a0 a1 false _ A9.out).mono ?_); (try clear A9); rintro e w154 ⟨rfl, hb⟩; refine ⟨_, rfl, ?_⟩; have n0_ := Aside0.mk (below_step (by repeat (first | (with_reducible first | exact HB.out | apply below_alloc | apply pw_below_drewN | apply below_drew1) | exact HB.out)) hb); clear HB; have HB := n0_; clear n0_; (try clear hb); (try clear hb2); (try clear hk); (try clear hi)) | (go_at_call 14; (with_reducible refine (span_Cols.calls kj3 t119 t146 _ A152.out).mono ?_); (try clear A152); rintro e w155 ⟨rfl, hb⟩; have n0_ := Aside0.mk (below_step (by repeat (first | (with_reducible first | exact HB.out | apply below_alloc | apply pw_below_drewN | apply below_drew1) | exact HB.out)) hb); clear HB; have HB := n0_; clear n0_; (try clear hb); (try clear hb2); (try clear hk); (try clear hi)))
                  go_ret
                  exact ⟨by first | rfl | (simp [errW_none, errW_some] <;> rfl) | (simp [*, errW_none, errW_some] <;> rfl), by repeat (first | (with_reducible first | exact HB.out | apply below_alloc | apply pw_below_drewN | apply below_drew1) | exact HB.out)⟩
              · rw [if_neg c130] at H
                have c130b0 : (t119.toList == a1.toList) = false := beq_eq_false_iff_ne.mpr c130
                have c130b1 : (t119.toList != a1.toList) = true := bne_iff_ne.mpr c130
                exact absurd H (by have h_ := HT_.out; subst h_; decide)
            · rw [if_neg c129] at H
              have c129b0 : (a0 == 0) = false := beq_eq_false_iff_ne.mpr c129
              have c129b1 : (a0 != 0) = true := bne_iff_ne.mpr c129
              by_cases c156 : t121 = true
              · subst c156
                have H1 : (if a0 = 2 then (if (t119.size : Int) ≤ 2 then ((span_Cols.f kj3 t119).bind fun t147 => (some (decide (t147 ≤ (t119.size : Int))))) else (some false)) else (if a0 = 3 then (if (t119.size : Int) ≤ 2 then ((span_Cols.f kj3 t119).bind fun t148 => (some (decide (t148 ≤ (t119.size : Int))))) else (some false)) else (if a0 = 4 then (if (t119.size : Int) ≤ 2 then ((span_Cols.f kj3 t119).bind fun t149 => (some (decide (t149 ≤ (t119.size : Int))))) else (some false)) else (if a0 = 5 then (if (t119.size : Int) ≤ 2 then ((span_Cols.f kj3 t119).bind fun t150 => (some (decide (t150 ≤ (t119.size : Int))))) else (some false)) else (some false))))) = some r := by rw [if_pos rfl] at H; exact H
                clear H
                have H := H1
                clear H1
                by_cases c157 : a0 = 2
                · rw [if_pos c157] at H
                  have c157b0 : (a0 == 2) = true := beq_iff_eq.mpr c157
                  have c157b1 : (a0 != 2) = false := bne_eq_false_iff_eq.mpr c157
                  clear c157
                  by_cases c158 : (t119.size : Int) ≤ 2
                  · rw [if_pos c158] at H
                    have c158b0 : decide ((t119.size : Int) ≤ 2) = true := decide_eq_true c158
                    have c158b1 : decide (t119.size ≤ 2) = true := decide_eq_true (by omega)
                    clear c158
                    replace H := Option.bind_eq_some_iff.mp H
                    obtain ⟨t147, A1590, H⟩ := H
                    replace H : (some (decide (t147 ≤ (t119.size : Int)))) = some r := H
                    have A159 := Aside0.mk A1590
                    clear A1590
                    obtain rfl := Option.some.inj H
                    go_wp2_with (first | ((with_reducible refine gate_callee (f := 11) rfl ?_); refine goesL_ (some 23) rfl rfl Try.func11 (by kernel_rfl) rfl #[.agg #[.int .i64 a0, .string a1]] rfl (by (try simp only [List.map_toArray, List.map_cons, List.map_nil]); first | done | rfl | (simp only [List.length_drop, List.length_take]; rfl)) ?_; (with_reducible refine (span_Flat.calls a0 a1 t119 t120 _ A8.out).mono ?_); (try clear A8); rintro e w160 ⟨rfl, hb⟩; refine ⟨_, rfl, ?_⟩; have n0_ := Aside0.mk (below_step (by repeat (first | (with_reducible first | exact HB.out | apply below_alloc | apply pw_below_drewN | apply below_drew1) | exact HB.out)) hb); clear HB; have HB := n0_; clear n0_; (try clear hb); (try clear hb2); (try clear hk); (try clear hi)) | ((with_reducible refine gate_callee (f := 16) rfl ?_); refine goesL_ (some 29) rfl rfl Try.func16 (by kernel_rfl) rfl #[.agg #[.int .i64 a0, .string a1]] rfl (by (try simp only [List.map_toArray, List.map_cons, List.map_nil]); first | done | rfl | (simp only [List.length_drop, List.length_take]; rfl)) ?_; (with_reducible refine (span_Breaks.calls a0 a1 true _ A9.out).mono ?_); (try clear A9); rintro e w161 ⟨rfl, hb⟩; refine ⟨_, rfl, ?_⟩; have n0_ := Aside0.mk (below_step (by repeat (first | (with_reducible first | exact HB.out | apply below_alloc | apply pw_below_drewN | apply below_drew1) | exact HB.out)) hb); clear HB; have HB := n0_; clear n0_; (try clear hb); (try clear hb2); (try clear hk); (try clear hi)) | (go_at_call 14; (with_reducible refine (span_Cols.calls kj3 t119 t147 _ A159.out).mono ?_); (try clear A159); rintro e w162 ⟨rfl, hb⟩; have n0_ := Aside0.mk (below_step (by repeat (first | (with_reducible first | exact HB.out | apply below_alloc | apply pw_below_drewN | apply below_drew1) | exact HB.out)) hb); clear HB; have HB := n0_; clear n0_; (try clear hb); (try clear hb2); (try clear hk); (try clear hi)))
                    go_ret
                    exact ⟨by first | rfl | (simp [errW_none, errW_some] <;> rfl) | (simp [*, errW_none, errW_some] <;> rfl), by repeat (first | (with_reducible first | exact HB.out | apply below_alloc | apply pw_below_drewN | apply below_drew1) | exact HB.out)⟩
                  · rw [if_neg c158] at H
                    have c158b0 : decide ((t119.size : Int) ≤ 2) = false := decide_eq_false c158
                    have c158b1 : decide (t119.size ≤ 2) = false := decide_eq_false (by omega)
                    clear c158
                    exact absurd H (by have h_ := HT_.out; subst h_; decide)
                · rw [if_neg c157] at H
                  have c157b0 : (a0 == 2) = false := beq_eq_false_iff_ne.mpr c157
                  have c157b1 : (a0 != 2) = true := bne_iff_ne.mpr c157
                  by_cases c163 : a0 = 3
                  · rw [if_pos c163] at H
                    have c163b0 : (a0 == 3) = true := beq_iff_eq.mpr c163
                    have c163b1 : (a0 != 3) = false := bne_eq_false_iff_eq.mpr c163
                    clear c163
                    by_cases c164 : (t119.size : Int) ≤ 2
                    · rw [if_pos c164] at H
                      have c164b0 : decide ((t119.size : Int) ≤ 2) = true := decide_eq_true c164
                      have c164b1 : decide (t119.size ≤ 2) = true := decide_eq_true (by omega)
                      clear c164
                      replace H := Option.bind_eq_some_iff.mp H
                      obtain ⟨t148, A1650, H⟩ := H
                      replace H : (some (decide (t148 ≤ (t119.size : Int)))) = some r := H
                      have A165 := Aside0.mk A1650
                      clear A1650
                      obtain rfl := Option.some.inj H
                      go_wp2_with (first | ((with_reducible refine gate_callee (f := 11) rfl ?_); refine goesL_ (some 23) rfl rfl Try.func11 (by kernel_rfl) rfl #[.agg #[.int .i64 a0, .string a1]] rfl (by (try simp only [List.map_toArray, List.map_cons, List.map_nil]); first | done | rfl | (simp only [List.length_drop, List.length_take]; rfl)) ?_; (with_reducible refine (span_Flat.calls a0 a1 t119 t120 _ A8.out).mono ?_); (try clear A8); rintro e w166 ⟨rfl, hb⟩; refine ⟨_, rfl, ?_⟩; have n0_ := Aside0.mk (below_step (by repeat (first | (with_reducible first | exact HB.out | apply below_alloc | apply pw_below_drewN | apply below_drew1) | exact HB.out)) hb); clear HB; have HB := n0_; clear n0_; (try clear hb); (try clear hb2); (try clear hk); (try clear hi)) | ((with_reducible refine gate_callee (f := 16) rfl ?_); refine goesL_ (some 29) rfl rfl Try.func16 (by kernel_rfl) rfl #[.agg #[.int .i64 a0, .string a1]] rfl (by (try simp only [List.map_toArray, List.map_cons, List.map_nil]); first | done | rfl | (simp only [List.length_drop, List.length_take]; rfl)) ?_; (with_reducible refine (span_Breaks.calls a0 a1 true _ A9.out).mono ?_); (try clear A9); rintro e w167 ⟨rfl, hb⟩; refine ⟨_, rfl, ?_⟩; have n0_ := Aside0.mk (below_step (by repeat (first | (with_reducible first | exact HB.out | apply below_alloc | apply pw_below_drewN | apply below_drew1) | exact HB.out)) hb); clear HB; have HB := n0_; clear n0_; (try clear hb); (try clear hb2); (try clear hk); (try clear hi)) | (go_at_call 14; (with_reducible refine (span_Cols.calls kj3 t119 t148 _ A165.out).mono ?_); (try clear A165); rintro e w168 ⟨rfl, hb⟩; have n0_ := Aside0.mk (below_step (by repeat (first | (with_reducible first | exact HB.out | apply below_alloc | apply pw_below_drewN | apply below_drew1) | exact HB.out)) hb); clear HB; have HB := n0_; clear n0_; (try clear hb); (try clear hb2); (try clear hk); (try clear hi)))
                      go_ret
                      exact ⟨by first | rfl | (simp [errW_none, errW_some] <;> rfl) | (simp [*, errW_none, errW_some] <;> rfl), by repeat (first | (with_reducible first | exact HB.out | apply below_alloc | apply pw_below_drewN | apply below_drew1) | exact HB.out)⟩
                    · rw [if_neg c164] at H
                      have c164b0 : decide ((t119.size : Int) ≤ 2) = false := decide_eq_false c164
                      have c164b1 : decide (t119.size ≤ 2) = false := decide_eq_false (by omega)
                      clear c164
                      exact absurd H (by have h_ := HT_.out; subst h_; decide)
                  · rw [if_neg c163] at H
                    have c163b0 : (a0 == 3) = false := beq_eq_false_iff_ne.mpr c163
                    have c163b1 : (a0 != 3) = true := bne_iff_ne.mpr c163
                    by_cases c169 : a0 = 4
                    · rw [if_pos c169] at H
                      have c169b0 : (a0 == 4) = true := beq_iff_eq.mpr c169
                      have c169b1 : (a0 != 4) = false := bne_eq_false_iff_eq.mpr c169
                      clear c169
                      by_cases c170 : (t119.size : Int) ≤ 2
                      · rw [if_pos c170] at H
                        have c170b0 : decide ((t119.size : Int) ≤ 2) = true := decide_eq_true c170
                        have c170b1 : decide (t119.size ≤ 2) = true := decide_eq_true (by omega)
                        clear c170
                        replace H := Option.bind_eq_some_iff.mp H
                        obtain ⟨t149, A1710, H⟩ := H
                        replace H : (some (decide (t149 ≤ (t119.size : Int)))) = some r := H
                        have A171 := Aside0.mk A1710
                        clear A1710
                        obtain rfl := Option.some.inj H
                        go_wp2_with (first | ((with_reducible refine gate_callee (f := 11) rfl ?_); refine goesL_ (some 23) rfl rfl Try.func11 (by kernel_rfl) rfl #[.agg #[.int .i64 a0, .string a1]] rfl (by (try simp only [List.map_toArray, List.map_cons, List.map_nil]); first | done | rfl | (simp only [List.length_drop, List.length_take]; rfl)) ?_; (with_reducible refine (span_Flat.calls a0 a1 t119 t120 _ A8.out).mono ?_); (try clear A8); rintro e w172 ⟨rfl, hb⟩; refine ⟨_, rfl, ?_⟩; have n0_ := Aside0.mk (below_step (by repeat (first | (with_reducible first | exact HB.out | apply below_alloc | apply pw_below_drewN | apply below_drew1) | exact HB.out)) hb); clear HB; have HB := n0_; clear n0_; (try clear hb); (try clear hb2); (try clear hk); (try clear hi)) | ((with_reducible refine gate_callee (f := 16) rfl ?_); refine goesL_ (some 29) rfl rfl Try.func16 (by kernel_rfl) rfl #[.agg #[.int .i64 a0, .string a1]] rfl (by (try simp only [List.map_toArray, List.map_cons, List.map_nil]); first | done | rfl | (simp only [List.length_drop, List.length_take]; rfl)) ?_; (with_reducible refine (span_Breaks.calls a0 a1 true _ A9.out).mono ?_); (try clear A9); rintro e w173 ⟨rfl, hb⟩; refine ⟨_, rfl, ?_⟩; have n0_ := Aside0.mk (below_step (by repeat (first | (with_reducible first | exact HB.out | apply below_alloc | apply pw_below_drewN | apply below_drew1) | exact HB.out)) hb); clear HB; have HB := n0_; clear n0_; (try clear hb); (try clear hb2); (try clear hk); (try clear hi)) | (go_at_call 14; (with_reducible refine (span_Cols.calls kj3 t119 t149 _ A171.out).mono ?_); (try clear A171); rintro e w174 ⟨rfl, hb⟩; have n0_ := Aside0.mk (below_step (by repeat (first | (with_reducible first | exact HB.out | apply below_alloc | apply pw_below_drewN | apply below_drew1) | exact HB.out)) hb); clear HB; have HB := n0_; clear n0_; (try clear hb); (try clear hb2); (try clear hk); (try clear hi)))
                        go_ret
                        exact ⟨by first | rfl | (simp [errW_none, errW_some] <;> rfl) | (simp [*, errW_none, errW_some] <;> rfl), by repeat (first | (with_reducible first | exact HB.out | apply below_alloc | apply pw_below_drewN | apply below_drew1) | exact HB.out)⟩
                      · rw [if_neg c170] at H
                        have c170b0 : decide ((t119.size : Int) ≤ 2) = false := decide_eq_false c170
                        have c170b1 : decide (t119.size ≤ 2) = false := decide_eq_false (by omega)
                        clear c170
                        exact absurd H (by have h_ := HT_.out; subst h_; decide)
                    · rw [if_neg c169] at H
                      have c169b0 : (a0 == 4) = false := beq_eq_false_iff_ne.mpr c169
                      have c169b1 : (a0 != 4) = true := bne_iff_ne.mpr c169
                      by_cases c175 : a0 = 5
                      · rw [if_pos c175] at H
                        have c175b0 : (a0 == 5) = true := beq_iff_eq.mpr c175
                        have c175b1 : (a0 != 5) = false := bne_eq_false_iff_eq.mpr c175
                        (try (have hz_ : t120 = false := (by have h_ := c12b0; rw [c175b1] at h_; exact beq_iff_eq.1 h_)))
                        (try (have hz_ : t120 = false := (by have h_ := c12b0; rw [c175b1] at h_; exact beq_iff_eq.1 h_)))
                        clear c175
                        by_cases c176 : (t119.size : Int) ≤ 2
                        · rw [if_pos c176] at H
                          have c176b0 : decide ((t119.size : Int) ≤ 2) = true := decide_eq_true c176
                          have c176b1 : decide (t119.size ≤ 2) = true := decide_eq_true (by omega)
                          clear c176
                          replace H := Option.bind_eq_some_iff.mp H
                          obtain ⟨t150, A1770, H⟩ := H
                          replace H : (some (decide (t150 ≤ (t119.size : Int)))) = some r := H
                          have A177 := Aside0.mk A1770
                          clear A1770
                          obtain rfl := Option.some.inj H
                          go_wp2_with (first | ((with_reducible refine gate_callee (f := 11) rfl ?_); refine goesL_ (some 23) rfl rfl Try.func11 (by kernel_rfl) rfl #[.agg #[.int .i64 a0, .string a1]] rfl (by (try simp only [List.map_toArray, List.map_cons, List.map_nil]); first | done | rfl | (simp only [List.length_drop, List.length_take]; rfl)) ?_; (with_reducible refine (span_Flat.calls a0 a1 t119 t120 _ A8.out).mono ?_); (try clear A8); rintro e w178 ⟨rfl, hb⟩; refine ⟨_, rfl, ?_⟩; have n0_ := Aside0.mk (below_step (by repeat (first | (with_reducible first | exact HB.out | apply below_alloc | apply pw_below_drewN | apply below_drew1) | exact HB.out)) hb); clear HB; have HB := n0_; clear n0_; (try clear hb); (try clear hb2); (try clear hk); (try clear hi)) | ((with_reducible refine gate_callee (f := 16) rfl ?_); refine goesL_ (some 29) rfl rfl Try.func16 (by kernel_rfl) rfl #[.agg #[.int .i64 a0, .string a1]] rfl (by (try simp only [List.map_toArray, List.map_cons, List.map_nil]); first | done | rfl | (simp only [List.length_drop, List.length_take]; rfl)) ?_; (with_reducible refine (span_Breaks.calls a0 a1 true _ A9.out).mono ?_); (try clear A9); rintro e w179 ⟨rfl, hb⟩; refine ⟨_, rfl, ?_⟩; have n0_ := Aside0.mk (below_step (by repeat (first | (with_reducible first | exact HB.out | apply below_alloc | apply pw_below_drewN | apply below_drew1) | exact HB.out)) hb); clear HB; have HB := n0_; clear n0_; (try clear hb); (try clear hb2); (try clear hk); (try clear hi)) | (go_at_call 14; (with_reducible refine (span_Cols.calls kj3 t119 t150 _ A177.out).mono ?_); (try clear A177); rintro e w180 ⟨rfl, hb⟩; have n0_ := Aside0.mk (below_step (by repeat (first | (with_reducible first | exact HB.out | apply below_alloc | apply pw_below_drewN | apply below_drew1) | exact HB.out)) hb); clear HB; have HB := n0_; clear n0_; (try clear hb); (try clear hb2); (try clear hk); (try clear hi)))
                          go_ret
                          exact ⟨by first | rfl | (simp [errW_none, errW_some] <;> rfl) | (simp [*, errW_none, errW_some] <;> rfl), by repeat (first | (with_reducible first | exact HB.out | apply below_alloc | apply pw_below_drewN | apply below_drew1) | exact HB.out)⟩
                        · rw [if_neg c176] at H
                          have c176b0 : decide ((t119.size : Int) ≤ 2) = false := decide_eq_false c176
                          have c176b1 : decide (t119.size ≤ 2) = false := decide_eq_false (by omega)
                          clear c176
                          exact absurd H (by have h_ := HT_.out; subst h_; decide)
                      · rw [if_neg c175] at H
                        have c175b0 : (a0 == 5) = false := beq_eq_false_iff_ne.mpr c175
                        have c175b1 : (a0 != 5) = true := bne_iff_ne.mpr c175
                        exact absurd H (by have h_ := HT_.out; subst h_; decide)
              · replace c156 := Bool.eq_false_iff.mpr c156
                subst c156
                have H1 : (if (t119.size : Int) ≤ 2 then ((span_Cols.f kj3 t119).bind fun t151 => (some (decide (t151 ≤ (t119.size : Int))))) else (some false)) = some r := by rw [if_neg (show ¬ (false = true) by decide)] at H; exact H
                clear H
                have H := H1
                clear H1
                by_cases c181 : (t119.size : Int) ≤ 2
                · rw [if_pos c181] at H
                  have c181b0 : decide ((t119.size : Int) ≤ 2) = true := decide_eq_true c181
                  have c181b1 : decide (t119.size ≤ 2) = true := decide_eq_true (by omega)
                  clear c181
                  replace H := Option.bind_eq_some_iff.mp H
                  obtain ⟨t151, A1820, H⟩ := H
                  replace H : (some (decide (t151 ≤ (t119.size : Int)))) = some r := H
                  have A182 := Aside0.mk A1820
                  clear A1820
                  obtain rfl := Option.some.inj H
                  go_wp2_with (first | ((with_reducible refine gate_callee (f := 11) rfl ?_); refine goesL_ (some 23) rfl rfl Try.func11 (by kernel_rfl) rfl #[.agg #[.int .i64 a0, .string a1]] rfl (by (try simp only [List.map_toArray, List.map_cons, List.map_nil]); first | done | rfl | (simp only [List.length_drop, List.length_take]; rfl)) ?_; (with_reducible refine (span_Flat.calls a0 a1 t119 t120 _ A8.out).mono ?_); (try clear A8); rintro e w183 ⟨rfl, hb⟩; refine ⟨_, rfl, ?_⟩; have n0_ := Aside0.mk (below_step (by repeat (first | (with_reducible first | exact HB.out | apply below_alloc | apply pw_below_drewN | apply below_drew1) | exact HB.out)) hb); clear HB; have HB := n0_; clear n0_; (try clear hb); (try clear hb2); (try clear hk); (try clear hi)) | ((with_reducible refine gate_callee (f := 16) rfl ?_); refine goesL_ (some 29) rfl rfl Try.func16 (by kernel_rfl) rfl #[.agg #[.int .i64 a0, .string a1]] rfl (by (try simp only [List.map_toArray, List.map_cons, List.map_nil]); first | done | rfl | (simp only [List.length_drop, List.length_take]; rfl)) ?_; (with_reducible refine (span_Breaks.calls a0 a1 false _ A9.out).mono ?_); (try clear A9); rintro e w184 ⟨rfl, hb⟩; refine ⟨_, rfl, ?_⟩; have n0_ := Aside0.mk (below_step (by repeat (first | (with_reducible first | exact HB.out | apply below_alloc | apply pw_below_drewN | apply below_drew1) | exact HB.out)) hb); clear HB; have HB := n0_; clear n0_; (try clear hb); (try clear hb2); (try clear hk); (try clear hi)) | (go_at_call 14; (with_reducible refine (span_Cols.calls kj3 t119 t151 _ A182.out).mono ?_); (try clear A182); rintro e w185 ⟨rfl, hb⟩; have n0_ := Aside0.mk (below_step (by repeat (first | (with_reducible first | exact HB.out | apply below_alloc | apply pw_below_drewN | apply below_drew1) | exact HB.out)) hb); clear HB; have HB := n0_; clear n0_; (try clear hb); (try clear hb2); (try clear hk); (try clear hi)))
                  go_ret
                  exact ⟨by first | rfl | (simp [errW_none, errW_some] <;> rfl) | (simp [*, errW_none, errW_some] <;> rfl), by repeat (first | (with_reducible first | exact HB.out | apply below_alloc | apply pw_below_drewN | apply below_drew1) | exact HB.out)⟩
                · rw [if_neg c181] at H
                  have c181b0 : decide ((t119.size : Int) ≤ 2) = false := decide_eq_false c181
                  have c181b1 : decide (t119.size ≤ 2) = false := decide_eq_false (by omega)
                  clear c181
                  exact absurd H (by have h_ := HT_.out; subst h_; decide)
          · rw [if_neg c128] at H
            have c128b0 : (t120 == false) = false := by simpa using c128
            (try (have c128b1 : decide (t120 = false) = false := by simpa using c128))
            (try (have c128b2 : (t120 == false) = false := by simpa using c128))
            (try (have c128b3 : ¬ (t120 = false) := by simpa using c128))
            clear c128
            exact absurd H (by have h_ := HT_.out; subst h_; decide)

/-- The pure statement of copperplatelaw17_SpanFlat. -/
def copperplatelaw17_SpanFlat.Pure : Prop := ∀ (a0 : Int) (a1 : ByteArray), (Lit.int .i64 a0).wf = true → a1.size ≤ 140737488351232 → ∃ k, copperplatelaw17_SpanFlat.f k a0 a1 = some true
def copperplatelaw17_SpanFlat.PureUp : Prop := ∀ (a0 : Int) (a1 : ByteArray), (Lit.int .i64 a0).wf = true → a1.size ≤ 140737488351232 → a1.size ≤ 1048576 → ∃ k, copperplatelaw17_SpanFlat.f k a0 a1 = some true

end Go.Proofs.Ytjibfhlacbgkgaa.PSpan
