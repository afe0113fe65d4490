-- Written by a program of the session (drive.py, over the kit's print.py with contracts by hand). Not trusted: Lean checks it.
import Derived.Test.YtjibfhlacbgkgaaPSpanZx0
import Derived.Test.YtjibfhlacbgkgaaPSpanZx4
import Derived.Test.YtjibfhlacbgkgaaHSpanZMatchM
import Derived.Test.YtjibfhlacbgkgaaHSpanZNeed
import Derived.Test.YtjibfhlacbgkgaaHSpanZSpanA
namespace Go.Proofs.Ytjibfhlacbgkgaa.PSpanZ
open Go.RowKit Go.Proofs.YtjibfhlacbgkgaaW.PrintWords Go.Proofs.YtjibfhlacbgkgaaW.PrintLast Go.Proofs.YtjibfhlacbgkgaaW.PrintMore
attribute [local go_sem] max2_int min2_int max_two min_two max_three min_three max_four min_four   -- for this text's walks alone
set_option linter.unusedVariables false
set_option linter.unusedSimpArgs false

/-! ### copperplatelaw17_SpanHard: function 4 -/
mutual
def copperplatelaw17_SpanHard.j0 : Nat → List (S23) → Int → Int → ByteArray → Bool → Bool → Option (Bool)
  | 0, _, _, _, _, _, _ => none
  | k + 1, x0, x1, x2, x3, x9, x41 => if x41 = true then (some x9) else ((span_Match.f x0 x1).bind fun t119 => ((span_Need.f x0 x1).bind fun t120 => (if t119 < 0 then (copperplatelaw17_SpanHard.j1 k x0 x1 x2 x3 t119 t120 true) else (if x2 > t119 then (copperplatelaw17_SpanHard.j1 k x0 x1 x2 x3 t119 t120 true) else (copperplatelaw17_SpanHard.j1 k x0 x1 x2 x3 t119 t120 (decide (t119 ≥ (x0.length : Int))))))))
def copperplatelaw17_SpanHard.j1 : Nat → List (S23) → Int → Int → ByteArray → Int → Int → Bool → Option (Bool)
  | 0, _, _, _, _, _, _, _ => none
  | k + 1, x0, x1, x2, x3, x10, x11, x61 => if x61 = true then (if x10 ≥ (-1) then (if x10 < (x0.length : Int) then (if x10 ≥ 0 then (some true) else (some (x11 == (-1)))) else (some false)) else (some false)) else (if 0 ≤ x2 then (if x2 ≤ (x0.length : Int) then ((some (x0.take (x2 : Int).toNat : List (S23))).bind fun y121 => (if ([] : List (S23)).length + y121.length < 5864062014805 then ((some (([] : List (S23)) ++ y121 : List (S23))).bind fun y125 => ((some (([(⟨5, (⟨#[]⟩ : ByteArray)⟩ : S23)] : List (S23)) : List (S23))).bind fun y128 => (if y125.length + y128.length < 5864062014805 then ((some (y125 ++ y128 : List (S23))).bind fun y131 => ((some (x0.drop (x2 : Int).toNat : List (S23))).bind fun y134 => (if y131.length + y134.length < 5864062014805 then ((some (x0.take (x2 : Int).toNat : List (S23))).bind fun y141 => (if ([] : List (S23)).length + y141.length < 5864062014805 then ((some (([] : List (S23)) ++ y141 : List (S23))).bind fun y145 => ((some (([(⟨0, x3⟩ : S23)] : List (S23)) : List (S23))).bind fun y148 => (if y145.length + y148.length < 5864062014805 then ((some (y145 ++ y148 : List (S23))).bind fun y151 => ((some (x0.drop (x2 : Int).toNat : List (S23))).bind fun y154 => (if y151.length + y154.length < 5864062014805 then ((some (y151 ++ y154 : List (S23))).bind fun y158 => ((span_Need.f (y131 ++ y134) x1).bind fun t161 => (if t161 = (-1) then (if x11 = (-1) then ((span_Need.f y158 x1).bind fun t162 => (if t162 = (-1) then ((span_Match.f y158 x1).bind fun t163 => (some (t163 == (wrap64 (x10 + 1))))) else (if x11 ≥ 0 then ((span_Cols.f k x3).bind fun t164 => (if t162 = (wrap64 (x11 + t164)) then ((span_Match.f y158 x1).bind fun t165 => (some (t165 == (wrap64 (x10 + 1))))) else (some false))) else (some false)))) else (if x11 ≥ 0 then ((span_Need.f y158 x1).bind fun t166 => ((span_Cols.f k x3).bind fun t167 => (if t166 = (wrap64 (x11 + t167)) then ((span_Match.f y158 x1).bind fun t168 => (some (t168 == (wrap64 (x10 + 1))))) else (some false)))) else (some false))) else (some false)))) else (none)))) else (none)))) else (none))) else (none)))) else (none)))) else (none))) else (none)) else (none))
end
def copperplatelaw17_SpanHard.f (k : Nat) (l0 : List (S23)) (a1 : Int) (a2 : Int) (a3 : ByteArray) : Option (Bool) := (copperplatelaw17_awake.f).bind fun t118 => (if t118 = true then (if (l0.length : Int) > 300 then (copperplatelaw17_SpanHard.j0 k l0 a1 a2 a3 t118 true) else (if a1 < 0 then (copperplatelaw17_SpanHard.j0 k l0 a1 a2 a3 t118 true) else (if a2 ≤ a1 then (copperplatelaw17_SpanHard.j0 k l0 a1 a2 a3 t118 true) else (if a2 > (l0.length : Int) then (copperplatelaw17_SpanHard.j0 k l0 a1 a2 a3 t118 true) else (copperplatelaw17_SpanHard.j0 k l0 a1 a2 a3 t118 (decide ((a3.size : Int) > 300))))))) else (copperplatelaw17_SpanHard.j0 k l0 a1 a2 a3 t118 true))
theorem copperplatelaw17_SpanHard.mono_l : ∀ k, (∀ y0 y1 y2 y3 y4 y5, LeO (copperplatelaw17_SpanHard.j0 k y0 y1 y2 y3 y4 y5) (copperplatelaw17_SpanHard.j0 (k + 1) y0 y1 y2 y3 y4 y5)) ∧ (∀ y0 y1 y2 y3 y4 y5 y6, LeO (copperplatelaw17_SpanHard.j1 k y0 y1 y2 y3 y4 y5 y6) (copperplatelaw17_SpanHard.j1 (k + 1) y0 y1 y2 y3 y4 y5 y6))
  | 0 => ⟨fun _ _ _ _ _ _ r h => by simp [copperplatelaw17_SpanHard.j0] at h, fun _ _ _ _ _ _ _ r h => by simp [copperplatelaw17_SpanHard.j1] at h⟩
  | k + 1 => by
    obtain ⟨ih0, ih1⟩ := copperplatelaw17_SpanHard.mono_l k
    refine ⟨?_, ?_⟩
    · intro y0 y1 y2 y3 y4 y5
      unfold copperplatelaw17_SpanHard.j0
      repeat' first
      | (with_reducible exact ih0 _ _ _ _ _ _)
      | (with_reducible exact ih1 _ _ _ _ _ _ _)
      | (with_reducible exact span_Cols.mono _ _)
      | (with_reducible exact LeO.refl _)
      | (with_reducible exact LeO.none _)
      | (with_reducible refine LeO.ite ?_ ?_)
      | (with_reducible refine LeO.bind ?_ (fun _ => ?_))
      | exact ih0 _ _ _ _ _ _
      | exact ih1 _ _ _ _ _ _ _
      | exact span_Cols.mono _ _
      | exact LeO.none _
      | refine LeO.ite ?_ ?_
      | refine LeO.bind ?_ (fun _ => ?_)
    · intro y0 y1 y2 y3 y4 y5 y6
      unfold copperplatelaw17_SpanHard.j1
      repeat' first
      | (with_reducible exact ih0 _ _ _ _ _ _)
      | (with_reducible exact ih1 _ _ _ _ _ _ _)
      | (with_reducible exact span_Cols.mono _ _)
      | (with_reducible exact LeO.refl _)
      | (with_reducible exact LeO.none _)
      | (with_reducible refine LeO.ite ?_ ?_)
      | (with_reducible refine LeO.bind ?_ (fun _ => ?_))
      | exact ih0 _ _ _ _ _ _
      | exact ih1 _ _ _ _ _ _ _
      | exact span_Cols.mono _ _
      | exact LeO.none _
      | refine LeO.ite ?_ ?_
      | refine LeO.bind ?_ (fun _ => ?_)
theorem copperplatelaw17_SpanHard.mono : ∀ a0 a1 a2 a3 k, LeO (copperplatelaw17_SpanHard.f k a0 a1 a2 a3) (copperplatelaw17_SpanHard.f (k + 1) a0 a1 a2 a3) := by
  intro a0 a1 a2 a3 k
  obtain ⟨ih0, ih1⟩ := copperplatelaw17_SpanHard.mono_l k
  unfold copperplatelaw17_SpanHard.f
  repeat' first
      | (with_reducible exact ih0 _ _ _ _ _ _)
      | (with_reducible exact ih1 _ _ _ _ _ _ _)
      | (with_reducible exact span_Cols.mono _ _)
      | (with_reducible exact LeO.refl _)
      | (with_reducible exact LeO.none _)
      | (with_reducible refine LeO.ite ?_ ?_)
      | (with_reducible refine LeO.bind ?_ (fun _ => ?_))
      | exact ih0 _ _ _ _ _ _
      | exact ih1 _ _ _ _ _ _ _
      | exact span_Cols.mono _ _
      | exact LeO.none _
      | refine LeO.ite ?_ ?_
      | refine LeO.bind ?_ (fun _ => ?_)
def copperplatelaw17_SpanHard.T8 : Bool × List (List Nat × List Nat) := (true, [([], []), ([], []), ([0, 1], [0, 1]), ([2], [2]), ([], []), ([4], [4]), ([3, 5, 3], [3, 5]), ([], []), ([], []), ([7, 8], [7, 8]), ([6, 9, 6], [6, 9]), ([10, 10, 0, 1, 2, 3, 4, 5, 6, 7, 8, 9, 10], [10])])
def copperplatelaw17_SpanHard.B8 : List Nat := [0, 0, 3, 7, 0, 16, 63, 0, 0, 384, 1023, 2047]
theorem copperplatelaw17_SpanHard.tab8 : rtab .any (opsOf Try.f4 8) = copperplatelaw17_SpanHard.T8 := by kernel_rfl
theorem copperplatelaw17_SpanHard.bits8 : waitsOk copperplatelaw17_SpanHard.T8.2 copperplatelaw17_SpanHard.B8 = true := by kernel_rfl
def copperplatelaw17_SpanHard.T9 : Bool × List (List Nat × List Nat) := (true, [([], []), ([], []), ([0, 1], [0, 1]), ([2], [2]), ([], []), ([4], [4]), ([5], [5]), ([3, 6, 3], [3, 6]), ([], []), ([], []), ([8, 9], [8, 9]), ([7, 10, 7], [7, 10]), ([11, 11, 0, 1, 2, 3, 4, 5, 6, 7, 8, 9, 10, 11], [11])])
def copperplatelaw17_SpanHard.B9 : List Nat := [0, 0, 3, 7, 0, 16, 48, 127, 0, 0, 768, 2047, 4095]
theorem copperplatelaw17_SpanHard.tab9 : rtab .any (opsOf Try.f4 9) = copperplatelaw17_SpanHard.T9 := by kernel_rfl
theorem copperplatelaw17_SpanHard.bits9 : waitsOk copperplatelaw17_SpanHard.T9.2 copperplatelaw17_SpanHard.B9 = true := by kernel_rfl
set_option maxHeartbeats 8000000 in
set_option maxRecDepth 100000 in
theorem copperplatelaw17_SpanHard.calls (k : Nat) (A0 : Option Addr) (c0 : Nat) (l0 : List (S23)) (a1 : Int) (a2 : Int) (a3 : ByteArray) (r : Bool) (w : World) (hr0 : Kd.C k23 w A0 l0.length l0) (hc0 : l0.length ≤ c0) (h : copperplatelaw17_SpanHard.f k l0 a1 a2 a3 = some r) (hT_ : r = true) :
    Calls Try.prog 4 #[.slice A0 l0.length c0, .int .i64 a1, .int .i64 a2, .string a3] w fun e w' => e = .returned (.bool r) ∧ Below w.heap.size w w' := by
  have hu23 := Try.underlying23
  have HT_ := Aside0.mk hT_
  clear hT_
  have HR0 := Aside0.mk hr0
  have HC0 := Aside0.mk hc0
  clear hr0 hc0
  have HB := Aside0.mk (Below.refl w.heap.size w)
  have H : ((copperplatelaw17_awake.f).bind fun t118 => (if t118 = true then (if (l0.length : Int) > 300 then (copperplatelaw17_SpanHard.j0 k l0 a1 a2 a3 t118 true) else (if a1 < 0 then (copperplatelaw17_SpanHard.j0 k l0 a1 a2 a3 t118 true) else (if a2 ≤ a1 then (copperplatelaw17_SpanHard.j0 k l0 a1 a2 a3 t118 true) else (if a2 > (l0.length : Int) then (copperplatelaw17_SpanHard.j0 k l0 a1 a2 a3 t118 true) else (copperplatelaw17_SpanHard.j0 k l0 a1 a2 a3 t118 (decide ((a3.size : Int) > 300))))))) else (copperplatelaw17_SpanHard.j0 k l0 a1 a2 a3 t118 true))) = some r := h
  clear h
  replace H := Option.bind_eq_some_iff.mp H
  obtain ⟨t118, A50, H⟩ := H
  replace H : (if t118 = true then (if (l0.length : Int) > 300 then (copperplatelaw17_SpanHard.j0 k l0 a1 a2 a3 t118 true) else (if a1 < 0 then (copperplatelaw17_SpanHard.j0 k l0 a1 a2 a3 t118 true) else (if a2 ≤ a1 then (copperplatelaw17_SpanHard.j0 k l0 a1 a2 a3 t118 true) else (if a2 > (l0.length : Int) then (copperplatelaw17_SpanHard.j0 k l0 a1 a2 a3 t118 true) else (copperplatelaw17_SpanHard.j0 k l0 a1 a2 a3 t118 (decide ((a3.size : Int) > 300))))))) else (copperplatelaw17_SpanHard.j0 k l0 a1 a2 a3 t118 true)) = some r := H
  have A5 := Aside0.mk A50
  clear A50
  have HC6 := Aside0.mk H
  clear H
  go_enter Try.func4, Try.ntmps4
  go_upto_region 2 with (first | ((with_reducible refine gate_callee (f := 10) rfl ?_); refine goesL_ (some 14) rfl rfl Try.func10 (by kernel_rfl) rfl #[] rfl (by (try simp only [List.map_toArray, List.map_cons, List.map_nil]); first | done | rfl | (simp only [List.length_drop, List.length_take]; rfl)) ?_; (with_reducible refine (copperplatelaw17_awake.calls  t118 _ A5.out).mono ?_); rintro e w7 ⟨rfl, hb⟩; refine ⟨_, rfl, ?_⟩; have n0_ := Aside0.mk (below_step (by repeat (first | (with_reducible first | exact HB.out | apply below_alloc | apply pw_below_drewN | apply below_drew1) | exact HB.out)) hb); clear HB; have HB := n0_; clear n0_; (try clear hb); (try clear hb2); (try clear hk); (try clear hi)))
  (try simp only [Act.put, List.setIfInBounds_toArray, List.set_cons_zero, List.set_cons_succ])
  go_cut [41] (fun v41 wc => ∃ (kq : Nat) (x41_5 : Bool), v41 = .bool x41_5 ∧ Aside0 (copperplatelaw17_SpanHard.j0 kq l0 a1 a2 a3 t118 x41_5 = some r) ∧ Aside0 (kq ≤ k) ∧ Aside0 (Below w.heap.size w wc))
  case first =>
    have H := HC6.out
    clear HC6
    by_cases c8 : t118 = true
    · subst c8
      have H1 : (if (l0.length : Int) > 300 then (copperplatelaw17_SpanHard.j0 k l0 a1 a2 a3 true true) else (if a1 < 0 then (copperplatelaw17_SpanHard.j0 k l0 a1 a2 a3 true true) else (if a2 ≤ a1 then (copperplatelaw17_SpanHard.j0 k l0 a1 a2 a3 true true) else (if a2 > (l0.length : Int) then (copperplatelaw17_SpanHard.j0 k l0 a1 a2 a3 true true) else (copperplatelaw17_SpanHard.j0 k l0 a1 a2 a3 true (decide ((a3.size : Int) > 300))))))) = some r := by rw [if_pos rfl] at H; exact H
      clear H
      have H := H1
      clear H1
      by_cases c9 : (l0.length : Int) > 300
      · rw [if_pos c9] at H
        have c9b0 : decide (300 < (l0.length : Int)) = true := decide_eq_true c9
        have c9b1 : decide (300 < l0.length) = true := decide_eq_true (by omega)
        clear c9
        (first | rw [c9b0] | (simp only [i64_w, i32_w]; rw [c9b0]) | skip)
        have H' := Aside0.mk H
        clear H
        go_wp2
        go_meet
        case rel => exact ⟨_, (true), (by first | rfl | (simp; done) | (simp [*]; done)), H', ⟨by first | omega | exact Nat.le_refl _⟩, ⟨by repeat (first | (with_reducible first | exact HB.out | apply below_alloc | apply pw_below_drewN | apply below_drew1) | exact HB.out)⟩⟩
      · rw [if_neg c9] at H
        have c9b0 : decide (300 < (l0.length : Int)) = false := decide_eq_false c9
        have c9b1 : decide (300 < l0.length) = false := decide_eq_false (by omega)
        clear c9
        (first | rw [c9b0] | (simp only [i64_w, i32_w]; rw [c9b0]) | skip)
        by_cases c10 : a1 < 0
        · rw [if_pos c10] at H
          have c10b0 : decide (a1 < 0) = true := decide_eq_true c10
          clear c10
          have H' := Aside0.mk H
          clear H
          go_wp2
          go_meet
          case rel => exact ⟨_, (true), (by first | rfl | (simp; done) | (simp [*]; done)), H', ⟨by first | omega | exact Nat.le_refl _⟩, ⟨by repeat (first | (with_reducible first | exact HB.out | apply below_alloc | apply pw_below_drewN | apply below_drew1) | exact HB.out)⟩⟩
        · rw [if_neg c10] at H
          have c10b0 : decide (a1 < 0) = false := decide_eq_false c10
          clear c10
          by_cases c11 : a2 ≤ a1
          · rw [if_pos c11] at H
            have c11b0 : decide (a2 ≤ a1) = true := decide_eq_true c11
            clear c11
            have H' := Aside0.mk H
            clear H
            go_wp2
            go_meet
            case rel => exact ⟨_, (true), (by first | rfl | (simp; done) | (simp [*]; done)), H', ⟨by first | omega | exact Nat.le_refl _⟩, ⟨by repeat (first | (with_reducible first | exact HB.out | apply below_alloc | apply pw_below_drewN | apply below_drew1) | exact HB.out)⟩⟩
          · rw [if_neg c11] at H
            have c11b0 : decide (a2 ≤ a1) = false := decide_eq_false c11
            clear c11
            by_cases c12 : a2 > (l0.length : Int)
            · rw [if_pos c12] at H
              have c12b0 : decide ((l0.length : Int) < a2) = true := decide_eq_true c12
              clear c12
              have H' := Aside0.mk H
              clear H
              go_wp2
              go_meet
              case rel => exact ⟨_, (true), (by first | rfl | (simp; done) | (simp [*]; done)), H', ⟨by first | omega | exact Nat.le_refl _⟩, ⟨by repeat (first | (with_reducible first | exact HB.out | apply below_alloc | apply pw_below_drewN | apply below_drew1) | exact HB.out)⟩⟩
            · rw [if_neg c12] at H
              have c12b0 : decide ((l0.length : Int) < a2) = false := decide_eq_false c12
              clear c12
              have H' := Aside0.mk H
              clear H
              go_wp2
              go_meet
              case rel => exact ⟨_, (decide ((a3.size : Int) > 300)), (by first | rfl | (simp; done) | (simp [*]; done)), H', ⟨by first | omega | exact Nat.le_refl _⟩, ⟨by repeat (first | (with_reducible first | exact HB.out | apply below_alloc | apply pw_below_drewN | apply below_drew1) | exact HB.out)⟩⟩
    · replace c8 := Bool.eq_false_iff.mpr c8
      subst c8
      have H1 : (copperplatelaw17_SpanHard.j0 k l0 a1 a2 a3 false true) = some r := by rw [if_neg (show ¬ (false = true) by decide)] at H; exact H
      clear H
      have H := H1
      clear H1
      have H' := Aside0.mk H
      clear H
      go_wp2
      go_meet
      case rel => exact ⟨_, (true), (by first | rfl | (simp; done) | (simp [*]; done)), H', ⟨by first | omega | exact Nat.le_refl _⟩, ⟨by repeat (first | (with_reducible first | exact HB.out | apply below_alloc | apply pw_below_drewN | apply below_drew1) | exact HB.out)⟩⟩
  case rest =>
    clear HC6
    try clear c1
    try clear p2
    try clear c4
    try clear c8
    try clear c9
    try clear c9b0
    try clear c9b1
    try clear c10
    try clear c10b0
    try clear c11
    try clear c11b0
    try clear c12
    try clear c12b0
    obtain ⟨kq, x41_5, rfl, HA, HJ5, HB⟩ := hcut
    cases kq with
    | zero => exact absurd HA.out (by simp [copperplatelaw17_SpanHard.j0])
    | succ kj5 =>
      have H := HA.out
      clear HA
      simp only [copperplatelaw17_SpanHard.j0] at H
      by_cases c13 : x41_5 = true
      · subst c13
        have H1 : (some t118) = some r := by rw [if_pos rfl] at H; exact H
        clear H
        have H := H1
        clear H1
        obtain rfl := Option.some.inj H
        go_wp2
        go_ret
        exact ⟨by first | rfl | (simp [errW_none, errW_some] <;> rfl) | (simp [*, errW_none, errW_some] <;> rfl), by repeat (first | (with_reducible first | exact HB.out | apply below_alloc | apply pw_below_drewN | apply below_drew1) | exact HB.out)⟩
      · replace c13 := Bool.eq_false_iff.mpr c13
        subst c13
        have H1 : ((span_Match.f l0 a1).bind fun t119 => ((span_Need.f l0 a1).bind fun t120 => (if t119 < 0 then (copperplatelaw17_SpanHard.j1 kj5 l0 a1 a2 a3 t119 t120 true) else (if a2 > t119 then (copperplatelaw17_SpanHard.j1 kj5 l0 a1 a2 a3 t119 t120 true) else (copperplatelaw17_SpanHard.j1 kj5 l0 a1 a2 a3 t119 t120 (decide (t119 ≥ (l0.length : Int)))))))) = some r := by rw [if_neg (show ¬ (false = true) by decide)] at H; exact H
        clear H
        have H := H1
        clear H1
        replace H := Option.bind_eq_some_iff.mp H
        obtain ⟨t119, A140, H⟩ := H
        replace H : ((span_Need.f l0 a1).bind fun t120 => (if t119 < 0 then (copperplatelaw17_SpanHard.j1 kj5 l0 a1 a2 a3 t119 t120 true) else (if a2 > t119 then (copperplatelaw17_SpanHard.j1 kj5 l0 a1 a2 a3 t119 t120 true) else (copperplatelaw17_SpanHard.j1 kj5 l0 a1 a2 a3 t119 t120 (decide (t119 ≥ (l0.length : Int))))))) = some r := H
        have A14 := Aside0.mk A140
        clear A140
        replace H := Option.bind_eq_some_iff.mp H
        obtain ⟨t120, A150, H⟩ := H
        replace H : (if t119 < 0 then (copperplatelaw17_SpanHard.j1 kj5 l0 a1 a2 a3 t119 t120 true) else (if a2 > t119 then (copperplatelaw17_SpanHard.j1 kj5 l0 a1 a2 a3 t119 t120 true) else (copperplatelaw17_SpanHard.j1 kj5 l0 a1 a2 a3 t119 t120 (decide (t119 ≥ (l0.length : Int)))))) = some r := H
        have A15 := Aside0.mk A150
        clear A150
        have HC16 := Aside0.mk H
        clear H
        go_upto_region 6 with (first | ((with_reducible refine gate_callee (f := 17) rfl ?_); refine goesL_ (some 45) rfl rfl Try.func17 (by kernel_rfl) rfl #[.slice A0 l0.length c0, .int .i64 a1] rfl (by (try simp only [List.map_toArray, List.map_cons, List.map_nil]); first | done | rfl | (simp only [List.length_drop, List.length_take]; rfl)) ?_; (with_reducible refine (span_Match.calls _ _ l0 a1 t119 _ ?side1 ?side2 A14.out).mono ?_); (case side1 => repeat (first | exact (Kd.C_below HR0.out HB.out) | (with_reducible refine Kd.C_alloc ?_ _) | (with_reducible refine Kd.C_drewN ?_ _) | (with_reducible refine Kd.C_drew ?_))); (case side2 => exact HC0.out); rintro e w17 ⟨rfl, hb⟩; refine ⟨_, rfl, ?_⟩; have n0_ := Aside0.mk (below_step (by repeat (first | (with_reducible first | exact HB.out | apply below_alloc | apply pw_below_drewN | apply below_drew1) | exact HB.out)) hb); clear HB; have HB := n0_; clear n0_; (try clear hb); (try clear hb2); (try clear hk); (try clear hi)) | ((with_reducible refine gate_callee (f := 19) rfl ?_); refine goesL_ (some 48) rfl rfl Try.func19 (by kernel_rfl) rfl #[.slice A0 l0.length c0, .int .i64 a1] rfl (by (try simp only [List.map_toArray, List.map_cons, List.map_nil]); first | done | rfl | (simp only [List.length_drop, List.length_take]; rfl)) ?_; (with_reducible refine (span_Need.calls _ _ l0 a1 t120 _ ?side1 ?side2 A15.out).mono ?_); (case side1 => repeat (first | exact (Kd.C_below HR0.out HB.out) | (with_reducible refine Kd.C_alloc ?_ _) | (with_reducible refine Kd.C_drewN ?_ _) | (with_reducible refine Kd.C_drew ?_))); (case side2 => exact HC0.out); rintro e w18 ⟨rfl, hb⟩; refine ⟨_, rfl, ?_⟩; have n0_ := Aside0.mk (below_step (by repeat (first | (with_reducible first | exact HB.out | apply below_alloc | apply pw_below_drewN | apply below_drew1) | exact HB.out)) hb); clear HB; have HB := n0_; clear n0_; (try clear hb); (try clear hb2); (try clear hk); (try clear hi)))
        (try simp only [Act.put, List.setIfInBounds_toArray, List.set_cons_zero, List.set_cons_succ])
        go_cut [61] (fun v61 wc => ∃ (kq : Nat) (x61_15 : Bool), v61 = .bool x61_15 ∧ Aside0 (copperplatelaw17_SpanHard.j1 kq l0 a1 a2 a3 t119 t120 x61_15 = some r) ∧ Aside0 (kq ≤ kj5) ∧ Aside0 (Below w.heap.size w wc))
        case first =>
          have H := HC16.out
          clear HC16
          by_cases c19 : t119 < 0
          · rw [if_pos c19] at H
            have c19b0 : decide (t119 < 0) = true := decide_eq_true c19
            clear c19
            (first | rw [c19b0] | (simp only [i64_w, i32_w]; rw [c19b0]) | skip)
            have H' := Aside0.mk H
            clear H
            go_wp2
            go_meet
            case rel => exact ⟨_, (true), (by first | rfl | (simp; done) | (simp [*]; done)), H', ⟨by have := HJ5.out; first | omega | exact Nat.le_refl _⟩, ⟨by repeat (first | (with_reducible first | exact HB.out | apply below_alloc | apply pw_below_drewN | apply below_drew1) | exact HB.out)⟩⟩
          · rw [if_neg c19] at H
            have c19b0 : decide (t119 < 0) = false := decide_eq_false c19
            clear c19
            (first | rw [c19b0] | (simp only [i64_w, i32_w]; rw [c19b0]) | skip)
            by_cases c20 : a2 > t119
            · rw [if_pos c20] at H
              have c20b0 : decide (t119 < a2) = true := decide_eq_true c20
              clear c20
              have H' := Aside0.mk H
              clear H
              go_wp2
              go_meet
              case rel => exact ⟨_, (true), (by first | rfl | (simp; done) | (simp [*]; done)), H', ⟨by have := HJ5.out; first | omega | exact Nat.le_refl _⟩, ⟨by repeat (first | (with_reducible first | exact HB.out | apply below_alloc | apply pw_below_drewN | apply below_drew1) | exact HB.out)⟩⟩
            · rw [if_neg c20] at H
              have c20b0 : decide (t119 < a2) = false := decide_eq_false c20
              clear c20
              have H' := Aside0.mk H
              clear H
              go_wp2
              go_meet
              case rel => exact ⟨_, (decide (t119 ≥ (l0.length : Int))), (by first | rfl | (simp; done) | (simp [*]; done)), H', ⟨by have := HJ5.out; first | omega | exact Nat.le_refl _⟩, ⟨by repeat (first | (with_reducible first | exact HB.out | apply below_alloc | apply pw_below_drewN | apply below_drew1) | exact HB.out)⟩⟩
        case rest =>
          clear HC16
          try clear c1
          try clear c2
          try clear p2
          try clear c4
          try clear c8
          try clear c9
          try clear c9b0
          try clear c9b1
          try clear c10
          try clear c10b0
          try clear c11
          try clear c11b0
          try clear c12
          try clear c12b0
          try clear c13
          try clear c17
          try clear c19
          try clear c19b0
          try clear c20
          try clear c20b0
          try clear p2
          obtain ⟨kq, x61_15, rfl, HA, HJ15, HB⟩ := hcut
          cases kq with
          | zero => exact absurd HA.out (by simp [copperplatelaw17_SpanHard.j1])
          | succ kj15 =>
            have H := HA.out
            clear HA
            simp only [copperplatelaw17_SpanHard.j1] at H
            by_cases c21 : x61_15 = true
            · subst c21
              have H1 : (if t119 ≥ (-1) then (if t119 < (l0.length : Int) then (if t119 ≥ 0 then (some true) else (some (t120 == (-1)))) else (some false)) else (some false)) = some r := by rw [if_pos rfl] at H; exact H
              clear H
              have H := H1
              clear H1
              by_cases c22 : t119 ≥ (-1)
              · rw [if_pos c22] at H
                have c22b0 : decide ((-1) ≤ t119) = true := decide_eq_true c22
                clear c22
                by_cases c23 : t119 < (l0.length : Int)
                · rw [if_pos c23] at H
                  have c23b0 : decide (t119 < (l0.length : Int)) = true := decide_eq_true c23
                  clear c23
                  by_cases c24 : t119 ≥ 0
                  · rw [if_pos c24] at H
                    have c24b0 : decide (0 ≤ t119) = true := decide_eq_true c24
                    clear c24
                    obtain rfl := Option.some.inj H
                    go_wp2
                    go_ret
                    exact ⟨by first | rfl | (simp [errW_none, errW_some] <;> rfl) | (simp [*, errW_none, errW_some] <;> rfl), by repeat (first | (with_reducible first | exact HB.out | apply below_alloc | apply pw_below_drewN | apply below_drew1) | exact HB.out)⟩
                  · rw [if_neg c24] at H
                    have c24b0 : decide (0 ≤ t119) = false := decide_eq_false c24
                    clear c24
                    obtain rfl := Option.some.inj H
                    go_wp2
                    go_ret
                    exact ⟨by first | rfl | (simp [errW_none, errW_some] <;> rfl) | (simp [*, errW_none, errW_some] <;> rfl), by repeat (first | (with_reducible first | exact HB.out | apply below_alloc | apply pw_below_drewN | apply below_drew1) | exact HB.out)⟩
                · rw [if_neg c23] at H
                  have c23b0 : decide (t119 < (l0.length : Int)) = false := decide_eq_false c23
                  clear c23
                  exact absurd H (by have h_ := HT_.out; subst h_; decide)
              · rw [if_neg c22] at H
                have c22b0 : decide ((-1) ≤ t119) = false := decide_eq_false c22
                clear c22
                exact absurd H (by have h_ := HT_.out; subst h_; decide)
            · replace c21 := Bool.eq_false_iff.mpr c21
              subst c21
              have H1 : (if 0 ≤ a2 then (if a2 ≤ (l0.length : Int) then ((some (l0.take (a2 : Int).toNat : List (S23))).bind fun y121 => (if ([] : List (S23)).length + y121.length < 5864062014805 then ((some (([] : List (S23)) ++ y121 : List (S23))).bind fun y125 => ((some (([(⟨5, (⟨#[]⟩ : ByteArray)⟩ : S23)] : List (S23)) : List (S23))).bind fun y128 => (if y125.length + y128.length < 5864062014805 then ((some (y125 ++ y128 : List (S23))).bind fun y131 => ((some (l0.drop (a2 : Int).toNat : List (S23))).bind fun y134 => (if y131.length + y134.length < 5864062014805 then ((some (l0.take (a2 : Int).toNat : List (S23))).bind fun y141 => (if ([] : List (S23)).length + y141.length < 5864062014805 then ((some (([] : List (S23)) ++ y141 : List (S23))).bind fun y145 => ((some (([(⟨0, a3⟩ : S23)] : List (S23)) : List (S23))).bind fun y148 => (if y145.length + y148.length < 5864062014805 then ((some (y145 ++ y148 : List (S23))).bind fun y151 => ((some (l0.drop (a2 : Int).toNat : List (S23))).bind fun y154 => (if y151.length + y154.length < 5864062014805 then ((some (y151 ++ y154 : List (S23))).bind fun y158 => ((span_Need.f (y131 ++ y134) a1).bind fun t161 => (if t161 = (-1) then (if t120 = (-1) then ((span_Need.f y158 a1).bind fun t162 => (if t162 = (-1) then ((span_Match.f y158 a1).bind fun t163 => (some (t163 == (wrap64 (t119 + 1))))) else (if t120 ≥ 0 then ((span_Cols.f kj15 a3).bind fun t164 => (if t162 = (wrap64 (t120 + t164)) then ((span_Match.f y158 a1).bind fun t165 => (some (t165 == (wrap64 (t119 + 1))))) else (some false))) else (some false)))) else (if t120 ≥ 0 then ((span_Need.f y158 a1).bind fun t166 => ((span_Cols.f kj15 a3).bind fun t167 => (if t166 = (wrap64 (t120 + t167)) then ((span_Match.f y158 a1).bind fun t168 => (some (t168 == (wrap64 (t119 + 1))))) else (some false)))) else (some false))) else (some false)))) else (none)))) else (none)))) else (none))) else (none)))) else (none)))) else (none))) else (none)) else (none)) = some r := by rw [if_neg (show ¬ (false = true) by decide)] at H; exact H
              clear H
              have H := H1
              clear H1
              by_cases c25 : 0 ≤ a2
              · rw [if_pos c25] at H
                have c25b0 := eq_true c25
                have c25b1 : decide (0 ≤ a2) = true := decide_eq_true c25
                clear c25
                by_cases c26 : a2 ≤ (l0.length : Int)
                · rw [if_pos c26] at H
                  have c26b0 := eq_true c26
                  have c26b1 : decide (a2 ≤ (l0.length : Int)) = true := decide_eq_true c26
                  clear c26
                  obtain ⟨y121, hy121⟩ : ∃ y_ : List (S23), y_ = (l0.take (a2 : Int).toNat) := ⟨_, rfl⟩
                  replace H : (if ([] : List (S23)).length + y121.length < 5864062014805 then ((some (([] : List (S23)) ++ y121 : List (S23))).bind fun y125 => ((some (([(⟨5, (⟨#[]⟩ : ByteArray)⟩ : S23)] : List (S23)) : List (S23))).bind fun y128 => (if y125.length + y128.length < 5864062014805 then ((some (y125 ++ y128 : List (S23))).bind fun y131 => ((some (l0.drop (a2 : Int).toNat : List (S23))).bind fun y134 => (if y131.length + y134.length < 5864062014805 then ((some (l0.take (a2 : Int).toNat : List (S23))).bind fun y141 => (if ([] : List (S23)).length + y141.length < 5864062014805 then ((some (([] : List (S23)) ++ y141 : List (S23))).bind fun y145 => ((some (([(⟨0, a3⟩ : S23)] : List (S23)) : List (S23))).bind fun y148 => (if y145.length + y148.length < 5864062014805 then ((some (y145 ++ y148 : List (S23))).bind fun y151 => ((some (l0.drop (a2 : Int).toNat : List (S23))).bind fun y154 => (if y151.length + y154.length < 5864062014805 then ((some (y151 ++ y154 : List (S23))).bind fun y158 => ((span_Need.f (y131 ++ y134) a1).bind fun t161 => (if t161 = (-1) then (if t120 = (-1) then ((span_Need.f y158 a1).bind fun t162 => (if t162 = (-1) then ((span_Match.f y158 a1).bind fun t163 => (some (t163 == (wrap64 (t119 + 1))))) else (if t120 ≥ 0 then ((span_Cols.f kj15 a3).bind fun t164 => (if t162 = (wrap64 (t120 + t164)) then ((span_Match.f y158 a1).bind fun t165 => (some (t165 == (wrap64 (t119 + 1))))) else (some false))) else (some false)))) else (if t120 ≥ 0 then ((span_Need.f y158 a1).bind fun t166 => ((span_Cols.f kj15 a3).bind fun t167 => (if t166 = (wrap64 (t120 + t167)) then ((span_Match.f y158 a1).bind fun t168 => (some (t168 == (wrap64 (t119 + 1))))) else (some false)))) else (some false))) else (some false)))) else (none)))) else (none)))) else (none))) else (none)))) else (none)))) else (none)) = some r := by first | (rw [hy121]; with_reducible exact H) | (have H2_ := (Option.bind_some _ _).symm.trans H; rw [hy121]; with_reducible exact H2_) | (have H2_ := (Option.bind_some _ _).symm.trans H; with_reducible exact H2_) | with_reducible exact H | (rw [hy121]; exact H) | exact H
                  have Ny121 := Aside0.mk hy121
                  clear hy121
                  by_cases c27 : ([] : List (S23)).length + y121.length < 5864062014805
                  · rw [if_pos c27] at H
                    have LMc27 := Aside0.mk c27
                    clear c27
                    obtain ⟨y125, hy125⟩ : ∃ y_ : List (S23), y_ = (([] : List (S23)) ++ y121) := ⟨_, rfl⟩
                    replace H : ((some (([(⟨5, (⟨#[]⟩ : ByteArray)⟩ : S23)] : List (S23)) : List (S23))).bind fun y128 => (if y125.length + y128.length < 5864062014805 then ((some (y125 ++ y128 : List (S23))).bind fun y131 => ((some (l0.drop (a2 : Int).toNat : List (S23))).bind fun y134 => (if y131.length + y134.length < 5864062014805 then ((some (l0.take (a2 : Int).toNat : List (S23))).bind fun y141 => (if ([] : List (S23)).length + y141.length < 5864062014805 then ((some (([] : List (S23)) ++ y141 : List (S23))).bind fun y145 => ((some (([(⟨0, a3⟩ : S23)] : List (S23)) : List (S23))).bind fun y148 => (if y145.length + y148.length < 5864062014805 then ((some (y145 ++ y148 : List (S23))).bind fun y151 => ((some (l0.drop (a2 : Int).toNat : List (S23))).bind fun y154 => (if y151.length + y154.length < 5864062014805 then ((some (y151 ++ y154 : List (S23))).bind fun y158 => ((span_Need.f (y131 ++ y134) a1).bind fun t161 => (if t161 = (-1) then (if t120 = (-1) then ((span_Need.f y158 a1).bind fun t162 => (if t162 = (-1) then ((span_Match.f y158 a1).bind fun t163 => (some (t163 == (wrap64 (t119 + 1))))) else (if t120 ≥ 0 then ((span_Cols.f kj15 a3).bind fun t164 => (if t162 = (wrap64 (t120 + t164)) then ((span_Match.f y158 a1).bind fun t165 => (some (t165 == (wrap64 (t119 + 1))))) else (some false))) else (some false)))) else (if t120 ≥ 0 then ((span_Need.f y158 a1).bind fun t166 => ((span_Cols.f kj15 a3).bind fun t167 => (if t166 = (wrap64 (t120 + t167)) then ((span_Match.f y158 a1).bind fun t168 => (some (t168 == (wrap64 (t119 + 1))))) else (some false)))) else (some false))) else (some false)))) else (none)))) else (none)))) else (none))) else (none)))) else (none))) = some r := by first | (rw [hy125]; with_reducible exact H) | (have H2_ := (Option.bind_some _ _).symm.trans H; rw [hy125]; with_reducible exact H2_) | (have H2_ := (Option.bind_some _ _).symm.trans H; with_reducible exact H2_) | with_reducible exact H | (rw [hy125]; exact H) | exact H
                    have Ny125 := Aside0.mk hy125
                    clear hy125
                    obtain ⟨y128, hy128⟩ : ∃ y_ : List (S23), y_ = (([(⟨5, (⟨#[]⟩ : ByteArray)⟩ : S23)] : List (S23))) := ⟨_, rfl⟩
                    replace H : (if y125.length + y128.length < 5864062014805 then ((some (y125 ++ y128 : List (S23))).bind fun y131 => ((some (l0.drop (a2 : Int).toNat : List (S23))).bind fun y134 => (if y131.length + y134.length < 5864062014805 then ((some (l0.take (a2 : Int).toNat : List (S23))).bind fun y141 => (if ([] : List (S23)).length + y141.length < 5864062014805 then ((some (([] : List (S23)) ++ y141 : List (S23))).bind fun y145 => ((some (([(⟨0, a3⟩ : S23)] : List (S23)) : List (S23))).bind fun y148 => (if y145.length + y148.length < 5864062014805 then ((some (y145 ++ y148 : List (S23))).bind fun y151 => ((some (l0.drop (a2 : Int).toNat : List (S23))).bind fun y154 => (if y151.length + y154.length < 5864062014805 then ((some (y151 ++ y154 : List (S23))).bind fun y158 => ((span_Need.f (y131 ++ y134) a1).bind fun t161 => (if t161 = (-1) then (if t120 = (-1) then ((span_Need.f y158 a1).bind fun t162 => (if t162 = (-1) then ((span_Match.f y158 a1).bind fun t163 => (some (t163 == (wrap64 (t119 + 1))))) else (if t120 ≥ 0 then ((span_Cols.f kj15 a3).bind fun t164 => (if t162 = (wrap64 (t120 + t164)) then ((span_Match.f y158 a1).bind fun t165 => (some (t165 == (wrap64 (t119 + 1))))) else (some false))) else (some false)))) else (if t120 ≥ 0 then ((span_Need.f y158 a1).bind fun t166 => ((span_Cols.f kj15 a3).bind fun t167 => (if t166 = (wrap64 (t120 + t167)) then ((span_Match.f y158 a1).bind fun t168 => (some (t168 == (wrap64 (t119 + 1))))) else (some false)))) else (some false))) else (some false)))) else (none)))) else (none)))) else (none))) else (none)))) else (none)) = some r := by first | (rw [hy128]; with_reducible exact H) | (have H2_ := (Option.bind_some _ _).symm.trans H; rw [hy128]; with_reducible exact H2_) | (have H2_ := (Option.bind_some _ _).symm.trans H; with_reducible exact H2_) | with_reducible exact H | (rw [hy128]; exact H) | exact H
                    have Ny128 := Aside0.mk hy128
                    clear hy128
                    by_cases c28 : y125.length + y128.length < 5864062014805
                    · rw [if_pos c28] at H
                      have LMc28 := Aside0.mk c28
                      clear c28
                      obtain ⟨y131, hy131⟩ : ∃ y_ : List (S23), y_ = (y125 ++ y128) := ⟨_, rfl⟩
                      replace H : ((some (l0.drop (a2 : Int).toNat : List (S23))).bind fun y134 => (if y131.length + y134.length < 5864062014805 then ((some (l0.take (a2 : Int).toNat : List (S23))).bind fun y141 => (if ([] : List (S23)).length + y141.length < 5864062014805 then ((some (([] : List (S23)) ++ y141 : List (S23))).bind fun y145 => ((some (([(⟨0, a3⟩ : S23)] : List (S23)) : List (S23))).bind fun y148 => (if y145.length + y148.length < 5864062014805 then ((some (y145 ++ y148 : List (S23))).bind fun y151 => ((some (l0.drop (a2 : Int).toNat : List (S23))).bind fun y154 => (if y151.length + y154.length < 5864062014805 then ((some (y151 ++ y154 : List (S23))).bind fun y158 => ((span_Need.f (y131 ++ y134) a1).bind fun t161 => (if t161 = (-1) then (if t120 = (-1) then ((span_Need.f y158 a1).bind fun t162 => (if t162 = (-1) then ((span_Match.f y158 a1).bind fun t163 => (some (t163 == (wrap64 (t119 + 1))))) else (if t120 ≥ 0 then ((span_Cols.f kj15 a3).bind fun t164 => (if t162 = (wrap64 (t120 + t164)) then ((span_Match.f y158 a1).bind fun t165 => (some (t165 == (wrap64 (t119 + 1))))) else (some false))) else (some false)))) else (if t120 ≥ 0 then ((span_Need.f y158 a1).bind fun t166 => ((span_Cols.f kj15 a3).bind fun t167 => (if t166 = (wrap64 (t120 + t167)) then ((span_Match.f y158 a1).bind fun t168 => (some (t168 == (wrap64 (t119 + 1))))) else (some false)))) else (some false))) else (some false)))) else (none)))) else (none)))) else (none))) else (none))) = some r := by first | (rw [hy131]; with_reducible exact H) | (have H2_ := (Option.bind_some _ _).symm.trans H; rw [hy131]; with_reducible exact H2_) | (have H2_ := (Option.bind_some _ _).symm.trans H; with_reducible exact H2_) | with_reducible exact H | (rw [hy131]; exact H) | exact H
                      have Ny131 := Aside0.mk hy131
                      clear hy131
                      have c29b0 := eq_true (of_decide_eq_true (by first | (with_reducible assumption) | assumption) : 0 ≤ a2)
                      have c30b0 := eq_true (of_decide_eq_true (by first | (with_reducible assumption) | assumption) : a2 ≤ (l0.length : Int))
                      obtain ⟨y134, hy134⟩ : ∃ y_ : List (S23), y_ = (l0.drop (a2 : Int).toNat) := ⟨_, rfl⟩
                      replace H : (if y131.length + y134.length < 5864062014805 then ((some (l0.take (a2 : Int).toNat : List (S23))).bind fun y141 => (if ([] : List (S23)).length + y141.length < 5864062014805 then ((some (([] : List (S23)) ++ y141 : List (S23))).bind fun y145 => ((some (([(⟨0, a3⟩ : S23)] : List (S23)) : List (S23))).bind fun y148 => (if y145.length + y148.length < 5864062014805 then ((some (y145 ++ y148 : List (S23))).bind fun y151 => ((some (l0.drop (a2 : Int).toNat : List (S23))).bind fun y154 => (if y151.length + y154.length < 5864062014805 then ((some (y151 ++ y154 : List (S23))).bind fun y158 => ((span_Need.f (y131 ++ y134) a1).bind fun t161 => (if t161 = (-1) then (if t120 = (-1) then ((span_Need.f y158 a1).bind fun t162 => (if t162 = (-1) then ((span_Match.f y158 a1).bind fun t163 => (some (t163 == (wrap64 (t119 + 1))))) else (if t120 ≥ 0 then ((span_Cols.f kj15 a3).bind fun t164 => (if t162 = (wrap64 (t120 + t164)) then ((span_Match.f y158 a1).bind fun t165 => (some (t165 == (wrap64 (t119 + 1))))) else (some false))) else (some false)))) else (if t120 ≥ 0 then ((span_Need.f y158 a1).bind fun t166 => ((span_Cols.f kj15 a3).bind fun t167 => (if t166 = (wrap64 (t120 + t167)) then ((span_Match.f y158 a1).bind fun t168 => (some (t168 == (wrap64 (t119 + 1))))) else (some false)))) else (some false))) else (some false)))) else (none)))) else (none)))) else (none))) else (none)) = some r := by first | (rw [hy134]; with_reducible exact H) | (have H2_ := (Option.bind_some _ _).symm.trans H; rw [hy134]; with_reducible exact H2_) | (have H2_ := (Option.bind_some _ _).symm.trans H; with_reducible exact H2_) | with_reducible exact H | (rw [hy134]; exact H) | exact H
                      have Ny134 := Aside0.mk hy134
                      clear hy134
                      by_cases c31 : y131.length + y134.length < 5864062014805
                      · rw [if_pos c31] at H
                        have LMc31 := Aside0.mk c31
                        clear c31
                        obtain ⟨y138, hy138⟩ : ∃ y_ : List (S23), y_ = (y131 ++ y134) := ⟨_, rfl⟩
                        replace H : ((some (l0.take (a2 : Int).toNat : List (S23))).bind fun y141 => (if ([] : List (S23)).length + y141.length < 5864062014805 then ((some (([] : List (S23)) ++ y141 : List (S23))).bind fun y145 => ((some (([(⟨0, a3⟩ : S23)] : List (S23)) : List (S23))).bind fun y148 => (if y145.length + y148.length < 5864062014805 then ((some (y145 ++ y148 : List (S23))).bind fun y151 => ((some (l0.drop (a2 : Int).toNat : List (S23))).bind fun y154 => (if y151.length + y154.length < 5864062014805 then ((some (y151 ++ y154 : List (S23))).bind fun y158 => ((span_Need.f y138 a1).bind fun t161 => (if t161 = (-1) then (if t120 = (-1) then ((span_Need.f y158 a1).bind fun t162 => (if t162 = (-1) then ((span_Match.f y158 a1).bind fun t163 => (some (t163 == (wrap64 (t119 + 1))))) else (if t120 ≥ 0 then ((span_Cols.f kj15 a3).bind fun t164 => (if t162 = (wrap64 (t120 + t164)) then ((span_Match.f y158 a1).bind fun t165 => (some (t165 == (wrap64 (t119 + 1))))) else (some false))) else (some false)))) else (if t120 ≥ 0 then ((span_Need.f y158 a1).bind fun t166 => ((span_Cols.f kj15 a3).bind fun t167 => (if t166 = (wrap64 (t120 + t167)) then ((span_Match.f y158 a1).bind fun t168 => (some (t168 == (wrap64 (t119 + 1))))) else (some false)))) else (some false))) else (some false)))) else (none)))) else (none)))) else (none))) = some r := by first | (rw [hy138]; with_reducible exact H) | (have H2_ := (Option.bind_some _ _).symm.trans H; rw [hy138]; with_reducible exact H2_) | (have H2_ := (Option.bind_some _ _).symm.trans H; with_reducible exact H2_) | with_reducible exact H | (rw [hy138]; exact H) | exact H
                        have Ny138 := Aside0.mk hy138
                        clear hy138
                        have c32b0 := eq_true (of_decide_eq_true (by first | (with_reducible assumption) | assumption) : 0 ≤ a2)
                        have c33b0 := eq_true (of_decide_eq_true (by first | (with_reducible assumption) | assumption) : a2 ≤ (l0.length : Int))
                        obtain ⟨y141, hy141⟩ : ∃ y_ : List (S23), y_ = (l0.take (a2 : Int).toNat) := ⟨_, rfl⟩
                        replace H : (if ([] : List (S23)).length + y141.length < 5864062014805 then ((some (([] : List (S23)) ++ y141 : List (S23))).bind fun y145 => ((some (([(⟨0, a3⟩ : S23)] : List (S23)) : List (S23))).bind fun y148 => (if y145.length + y148.length < 5864062014805 then ((some (y145 ++ y148 : List (S23))).bind fun y151 => ((some (l0.drop (a2 : Int).toNat : List (S23))).bind fun y154 => (if y151.length + y154.length < 5864062014805 then ((some (y151 ++ y154 : List (S23))).bind fun y158 => ((span_Need.f y138 a1).bind fun t161 => (if t161 = (-1) then (if t120 = (-1) then ((span_Need.f y158 a1).bind fun t162 => (if t162 = (-1) then ((span_Match.f y158 a1).bind fun t163 => (some (t163 == (wrap64 (t119 + 1))))) else (if t120 ≥ 0 then ((span_Cols.f kj15 a3).bind fun t164 => (if t162 = (wrap64 (t120 + t164)) then ((span_Match.f y158 a1).bind fun t165 => (some (t165 == (wrap64 (t119 + 1))))) else (some false))) else (some false)))) else (if t120 ≥ 0 then ((span_Need.f y158 a1).bind fun t166 => ((span_Cols.f kj15 a3).bind fun t167 => (if t166 = (wrap64 (t120 + t167)) then ((span_Match.f y158 a1).bind fun t168 => (some (t168 == (wrap64 (t119 + 1))))) else (some false)))) else (some false))) else (some false)))) else (none)))) else (none)))) else (none)) = some r := by first | (rw [hy141]; with_reducible exact H) | (have H2_ := (Option.bind_some _ _).symm.trans H; rw [hy141]; with_reducible exact H2_) | (have H2_ := (Option.bind_some _ _).symm.trans H; with_reducible exact H2_) | with_reducible exact H | (rw [hy141]; exact H) | exact H
                        have Ny141 := Aside0.mk hy141
                        clear hy141
                        by_cases c34 : ([] : List (S23)).length + y141.length < 5864062014805
                        · rw [if_pos c34] at H
                          have LMc34 := Aside0.mk c34
                          clear c34
                          obtain ⟨y145, hy145⟩ : ∃ y_ : List (S23), y_ = (([] : List (S23)) ++ y141) := ⟨_, rfl⟩
                          replace H : ((some (([(⟨0, a3⟩ : S23)] : List (S23)) : List (S23))).bind fun y148 => (if y145.length + y148.length < 5864062014805 then ((some (y145 ++ y148 : List (S23))).bind fun y151 => ((some (l0.drop (a2 : Int).toNat : List (S23))).bind fun y154 => (if y151.length + y154.length < 5864062014805 then ((some (y151 ++ y154 : List (S23))).bind fun y158 => ((span_Need.f y138 a1).bind fun t161 => (if t161 = (-1) then (if t120 = (-1) then ((span_Need.f y158 a1).bind fun t162 => (if t162 = (-1) then ((span_Match.f y158 a1).bind fun t163 => (some (t163 == (wrap64 (t119 + 1))))) else (if t120 ≥ 0 then ((span_Cols.f kj15 a3).bind fun t164 => (if t162 = (wrap64 (t120 + t164)) then ((span_Match.f y158 a1).bind fun t165 => (some (t165 == (wrap64 (t119 + 1))))) else (some false))) else (some false)))) else (if t120 ≥ 0 then ((span_Need.f y158 a1).bind fun t166 => ((span_Cols.f kj15 a3).bind fun t167 => (if t166 = (wrap64 (t120 + t167)) then ((span_Match.f y158 a1).bind fun t168 => (some (t168 == (wrap64 (t119 + 1))))) else (some false)))) else (some false))) else (some false)))) else (none)))) else (none))) = some r := by first | (rw [hy145]; with_reducible exact H) | (have H2_ := (Option.bind_some _ _).symm.trans H; rw [hy145]; with_reducible exact H2_) | (have H2_ := (Option.bind_some _ _).symm.trans H; with_reducible exact H2_) | with_reducible exact H | (rw [hy145]; exact H) | exact H
                          have Ny145 := Aside0.mk hy145
                          clear hy145
                          obtain ⟨y148, hy148⟩ : ∃ y_ : List (S23), y_ = (([(⟨0, a3⟩ : S23)] : List (S23))) := ⟨_, rfl⟩
                          replace H : (if y145.length + y148.length < 5864062014805 then ((some (y145 ++ y148 : List (S23))).bind fun y151 => ((some (l0.drop (a2 : Int).toNat : List (S23))).bind fun y154 => (if y151.length + y154.length < 5864062014805 then ((some (y151 ++ y154 : List (S23))).bind fun y158 => ((span_Need.f y138 a1).bind fun t161 => (if t161 = (-1) then (if t120 = (-1) then ((span_Need.f y158 a1).bind fun t162 => (if t162 = (-1) then ((span_Match.f y158 a1).bind fun t163 => (some (t163 == (wrap64 (t119 + 1))))) else (if t120 ≥ 0 then ((span_Cols.f kj15 a3).bind fun t164 => (if t162 = (wrap64 (t120 + t164)) then ((span_Match.f y158 a1).bind fun t165 => (some (t165 == (wrap64 (t119 + 1))))) else (some false))) else (some false)))) else (if t120 ≥ 0 then ((span_Need.f y158 a1).bind fun t166 => ((span_Cols.f kj15 a3).bind fun t167 => (if t166 = (wrap64 (t120 + t167)) then ((span_Match.f y158 a1).bind fun t168 => (some (t168 == (wrap64 (t119 + 1))))) else (some false)))) else (some false))) else (some false)))) else (none)))) else (none)) = some r := by first | (rw [hy148]; with_reducible exact H) | (have H2_ := (Option.bind_some _ _).symm.trans H; rw [hy148]; with_reducible exact H2_) | (have H2_ := (Option.bind_some _ _).symm.trans H; with_reducible exact H2_) | with_reducible exact H | (rw [hy148]; exact H) | exact H
                          have Ny148 := Aside0.mk hy148
                          clear hy148
                          by_cases c35 : y145.length + y148.length < 5864062014805
                          · rw [if_pos c35] at H
                            have LMc35 := Aside0.mk c35
                            clear c35
                            obtain ⟨y151, hy151⟩ : ∃ y_ : List (S23), y_ = (y145 ++ y148) := ⟨_, rfl⟩
                            replace H : ((some (l0.drop (a2 : Int).toNat : List (S23))).bind fun y154 => (if y151.length + y154.length < 5864062014805 then ((some (y151 ++ y154 : List (S23))).bind fun y158 => ((span_Need.f y138 a1).bind fun t161 => (if t161 = (-1) then (if t120 = (-1) then ((span_Need.f y158 a1).bind fun t162 => (if t162 = (-1) then ((span_Match.f y158 a1).bind fun t163 => (some (t163 == (wrap64 (t119 + 1))))) else (if t120 ≥ 0 then ((span_Cols.f kj15 a3).bind fun t164 => (if t162 = (wrap64 (t120 + t164)) then ((span_Match.f y158 a1).bind fun t165 => (some (t165 == (wrap64 (t119 + 1))))) else (some false))) else (some false)))) else (if t120 ≥ 0 then ((span_Need.f y158 a1).bind fun t166 => ((span_Cols.f kj15 a3).bind fun t167 => (if t166 = (wrap64 (t120 + t167)) then ((span_Match.f y158 a1).bind fun t168 => (some (t168 == (wrap64 (t119 + 1))))) else (some false)))) else (some false))) else (some false)))) else (none))) = some r := by first | (rw [hy151]; with_reducible exact H) | (have H2_ := (Option.bind_some _ _).symm.trans H; rw [hy151]; with_reducible exact H2_) | (have H2_ := (Option.bind_some _ _).symm.trans H; with_reducible exact H2_) | with_reducible exact H | (rw [hy151]; exact H) | exact H
                            have Ny151 := Aside0.mk hy151
                            clear hy151
                            have c36b0 := eq_true (of_decide_eq_true (by first | (with_reducible assumption) | assumption) : 0 ≤ a2)
                            have c37b0 := eq_true (of_decide_eq_true (by first | (with_reducible assumption) | assumption) : a2 ≤ (l0.length : Int))
                            obtain ⟨y154, hy154⟩ : ∃ y_ : List (S23), y_ = (l0.drop (a2 : Int).toNat) := ⟨_, rfl⟩
                            replace H : (if y151.length + y154.length < 5864062014805 then ((some (y151 ++ y154 : List (S23))).bind fun y158 => ((span_Need.f y138 a1).bind fun t161 => (if t161 = (-1) then (if t120 = (-1) then ((span_Need.f y158 a1).bind fun t162 => (if t162 = (-1) then ((span_Match.f y158 a1).bind fun t163 => (some (t163 == (wrap64 (t119 + 1))))) else (if t120 ≥ 0 then ((span_Cols.f kj15 a3).bind fun t164 => (if t162 = (wrap64 (t120 + t164)) then ((span_Match.f y158 a1).bind fun t165 => (some (t165 == (wrap64 (t119 + 1))))) else (some false))) else (some false)))) else (if t120 ≥ 0 then ((span_Need.f y158 a1).bind fun t166 => ((span_Cols.f kj15 a3).bind fun t167 => (if t166 = (wrap64 (t120 + t167)) then ((span_Match.f y158 a1).bind fun t168 => (some (t168 == (wrap64 (t119 + 1))))) else (some false)))) else (some false))) else (some false)))) else (none)) = some r := by first | (rw [hy154]; with_reducible exact H) | (have H2_ := (Option.bind_some _ _).symm.trans H; rw [hy154]; with_reducible exact H2_) | (have H2_ := (Option.bind_some _ _).symm.trans H; with_reducible exact H2_) | with_reducible exact H | (rw [hy154]; exact H) | exact H
                            have Ny154 := Aside0.mk hy154
                            clear hy154
                            by_cases c38 : y151.length + y154.length < 5864062014805
                            · rw [if_pos c38] at H
                              have LMc38 := Aside0.mk c38
                              clear c38
                              obtain ⟨y158, hy158⟩ : ∃ y_ : List (S23), y_ = (y151 ++ y154) := ⟨_, rfl⟩
                              replace H : ((span_Need.f y138 a1).bind fun t161 => (if t161 = (-1) then (if t120 = (-1) then ((span_Need.f y158 a1).bind fun t162 => (if t162 = (-1) then ((span_Match.f y158 a1).bind fun t163 => (some (t163 == (wrap64 (t119 + 1))))) else (if t120 ≥ 0 then ((span_Cols.f kj15 a3).bind fun t164 => (if t162 = (wrap64 (t120 + t164)) then ((span_Match.f y158 a1).bind fun t165 => (some (t165 == (wrap64 (t119 + 1))))) else (some false))) else (some false)))) else (if t120 ≥ 0 then ((span_Need.f y158 a1).bind fun t166 => ((span_Cols.f kj15 a3).bind fun t167 => (if t166 = (wrap64 (t120 + t167)) then ((span_Match.f y158 a1).bind fun t168 => (some (t168 == (wrap64 (t119 + 1))))) else (some false)))) else (some false))) else (some false))) = some r := by first | (rw [hy158]; with_reducible exact H) | (have H2_ := (Option.bind_some _ _).symm.trans H; rw [hy158]; with_reducible exact H2_) | (have H2_ := (Option.bind_some _ _).symm.trans H; with_reducible exact H2_) | with_reducible exact H | (rw [hy158]; exact H) | exact H
                              have Ny158 := Aside0.mk hy158
                              clear hy158
                              replace H := Option.bind_eq_some_iff.mp H
                              obtain ⟨t161, A390, H⟩ := H
                              replace H : (if t161 = (-1) then (if t120 = (-1) then ((span_Need.f y158 a1).bind fun t162 => (if t162 = (-1) then ((span_Match.f y158 a1).bind fun t163 => (some (t163 == (wrap64 (t119 + 1))))) else (if t120 ≥ 0 then ((span_Cols.f kj15 a3).bind fun t164 => (if t162 = (wrap64 (t120 + t164)) then ((span_Match.f y158 a1).bind fun t165 => (some (t165 == (wrap64 (t119 + 1))))) else (some false))) else (some false)))) else (if t120 ≥ 0 then ((span_Need.f y158 a1).bind fun t166 => ((span_Cols.f kj15 a3).bind fun t167 => (if t166 = (wrap64 (t120 + t167)) then ((span_Match.f y158 a1).bind fun t168 => (some (t168 == (wrap64 (t119 + 1))))) else (some false)))) else (some false))) else (some false)) = some r := H
                              have A39 := Aside0.mk A390
                              clear A390
                              by_cases c40 : t161 = (-1)
                              · rw [if_pos c40] at H
                                have c40b0 : (t161 == (-1)) = true := beq_iff_eq.mpr c40
                                have c40b1 : (t161 != (-1)) = false := bne_eq_false_iff_eq.mpr c40
                                clear c40
                                by_cases c41 : t120 = (-1)
                                · rw [if_pos c41] at H
                                  have c41b0 : (t120 == (-1)) = true := beq_iff_eq.mpr c41
                                  have c41b1 : (t120 != (-1)) = false := bne_eq_false_iff_eq.mpr c41
                                  clear c41
                                  replace H := Option.bind_eq_some_iff.mp H
                                  obtain ⟨t162, A420, H⟩ := H
                                  replace H : (if t162 = (-1) then ((span_Match.f y158 a1).bind fun t163 => (some (t163 == (wrap64 (t119 + 1))))) else (if t120 ≥ 0 then ((span_Cols.f kj15 a3).bind fun t164 => (if t162 = (wrap64 (t120 + t164)) then ((span_Match.f y158 a1).bind fun t165 => (some (t165 == (wrap64 (t119 + 1))))) else (some false))) else (some false))) = some r := H
                                  have A42 := Aside0.mk A420
                                  clear A420
                                  by_cases c43 : t162 = (-1)
                                  · rw [if_pos c43] at H
                                    have c43b0 : (t162 == (-1)) = true := beq_iff_eq.mpr c43
                                    have c43b1 : (t162 != (-1)) = false := bne_eq_false_iff_eq.mpr c43
                                    clear c43
                                    replace H := Option.bind_eq_some_iff.mp H
                                    obtain ⟨t163, A440, H⟩ := H
                                    replace H : (some (t163 == (wrap64 (t119 + 1)))) = some r := H
                                    have A44 := Aside0.mk A440
                                    clear A440
                                    obtain rfl := Option.some.inj H
                                    try go_wp2
                                    have n0_ := Aside0.mk (below_drew1 HB.out)
                                    clear HB
                                    have HB := n0_
                                    clear n0_
                                    have q46 : (a2 : Int) ≤ ((l0.length : Int) : Int) := of_decide_eq_true (by first | (with_reducible assumption) | assumption)
                                    obtain ⟨i046, hi046, _, hsz46, _⟩ := info_parts info23
                                    have hroom46 : l0.length ≤ c0 := HC0.out
                                    have hC46 : Kd.C k23 _ A0 l0.length l0 := HR0.out
                                    have hcut46 := cut_to (P := Try.prog) 24 23 .i64 Try.underlying24 hi046 A0 l0.length c0 a2 (of_decide_eq_true (by first | (with_reducible assumption) | assumption)) q46 hroom46
                                    have hr46 := Kd.C_take (m := (a2 : Int).toNat) hC46 (by omega)
                                    have hy46 : y121.length = (a2 : Int).toNat := (by rw [Ny121.out, List.length_take]; omega)
                                    rw [← Ny121.out] at hr46
                                    rw [← hy46] at hcut46
                                    have HR124 := Aside0.mk hr46
                                    have HC124 := Aside0.mk (show y121.length ≤ c0 from by omega)
                                    clear hr46 hC46 hroom46 hi046 hsz46
                                    have KY46 := Aside0.mk hy46
                                    clear hy46
                                    replace q46 := eq_true q46
                                    have q47 : (a2 : Int) ≤ ((l0.length : Int) : Int) := of_decide_eq_true (by first | (with_reducible assumption) | assumption)
                                    obtain ⟨i047, hi047, _, hsz47, _⟩ := info_parts info23
                                    have hroom47 : l0.length ≤ c0 := HC0.out
                                    have hC47 : Kd.C k23 _ A0 l0.length l0 := HR0.out
                                    have q047 : (0 : Int) ≤ (a2 : Int) := of_decide_eq_true (by first | (with_reducible assumption) | assumption)
                                    have hcut47 := cut_from (P := Try.prog) 24 23 .i64 Try.underlying24 hi047 2 hsz47 A0 l0.length c0 a2 q047 q47
                                    have hr47 := Kd.C_drop (m := (a2 : Int).toNat) (c := c0) hC47 (by omega) hroom47
                                    obtain ⟨A47, hA47⟩ : ∃ A1, A1 = (if c0 = (a2 : Int).toNat then A0 else (A0 : Option Addr).map (·.add ((a2 : Int).toNat * 2))) := ⟨_, rfl⟩
                                    obtain ⟨c47, hc47⟩ : ∃ c1, c1 = c0 - (a2 : Int).toNat := ⟨_, rfl⟩
                                    have hy47 : y134.length = l0.length - (a2 : Int).toNat := (by rw [Ny134.out, List.length_drop] <;> omega)
                                    rw [show (l0).drop (a2 : Int).toNat = y134 from Ny134.out.symm] at hr47
                                    replace hr47 : Kd.C k23 _ A47 y134.length y134 := (by rw [hA47]; exact hr47)
                                    rw [← hy47, ← hA47, ← hc47] at hcut47
                                    have HR137 := Aside0.mk hr47
                                    have HC137 := Aside0.mk (show y134.length ≤ c47 from by rw [hy47, hc47]; exact Nat.sub_le_sub_right hroom47 _)
                                    clear hr47 hC47 hroom47 hi047 hsz47 hc47
                                    have KY47 := Aside0.mk hy47
                                    have KA47 := Aside0.mk hA47
                                    clear hy47 hA47
                                    replace q47 := eq_true q47
                                    refine start_ (n := 12) (S := fun w' => True) (ds := []) #[false, false, false, false, false, false, false, false, false, false, false, false] (by kernel_rfl) rfl rfl trivial (fun hHeld => ?_); refine with_tabW copperplatelaw17_SpanHard.tab8 copperplatelaw17_SpanHard.bits8 (fun HT_ HW_ => ?_)
                                    generalize wc.drew = w45 at HB HR124 HR137 hHeld ⊢
                                    refine pure_ (i := 0) (N := some 78) (v := ?_) (a' := ?_) #[true, false, false, false, false, false, false, false, false, false, false, false] rfl rfl (any_of HT_.out (by kernel_rfl)) (fun _ _ _ h => h) (Or.inl ⟨by rfl, ?_⟩) ?_ ?_
                                    rotate_left
                                    · intro w'
                                      go_simp
                                      with_reducible rfl
                                    rotate_left
                                    · simp only [Act.put, List.setIfInBounds_toArray, List.set_cons_zero, List.set_cons_succ, i64_w, i32_w]
                                      rfl
                                    refine pure_ (i := 1) (N := some 79) (v := ?_) (a' := ?_) #[true, true, false, false, false, false, false, false, false, false, false, false] rfl rfl (any_of HT_.out (by kernel_rfl)) (fun _ _ _ h => h) (Or.inl ⟨by rfl, ?_⟩) ?_ ?_
                                    rotate_left
                                    · intro w'
                                      go_simp
                                      with_reducible rfl
                                    rotate_left
                                    · simp only [Act.put, List.setIfInBounds_toArray, List.set_cons_zero, List.set_cons_succ, i64_w, i32_w]
                                      rfl
                                    refine pure_ (i := 2) (N := some 80) (v := ?_) (a' := ?_) #[true, true, true, false, false, false, false, false, false, false, false, false] rfl rfl (any_of HT_.out (by kernel_rfl)) (fun _ _ _ h => h) (Or.inl ⟨by rfl, ?_⟩) ?_ ?_
                                    rotate_left
                                    · intro w'
                                      go_simp
                                      with_reducible rfl
                                    rotate_left
                                    · simp only [Act.put, List.setIfInBounds_toArray, List.set_cons_zero, List.set_cons_succ, i64_w, i32_w]
                                      rfl
                                    refine pure_ (i := 4) (N := some 82) (v := ?_) (a' := ?_) #[true, true, true, false, true, false, false, false, false, false, false, false] rfl rfl (any_of HT_.out (by kernel_rfl)) (fun _ _ _ h => h) (Or.inl ⟨by rfl, ?_⟩) ?_ ?_
                                    rotate_left
                                    · intro w'
                                      go_simp
                                      with_reducible rfl
                                    rotate_left
                                    · simp only [Act.put, List.setIfInBounds_toArray, List.set_cons_zero, List.set_cons_succ, i64_w, i32_w]
                                      rfl
                                    refine pure_ (i := 7) (N := some 85) (v := ?_) (a' := ?_) #[true, true, true, false, true, false, false, true, false, false, false, false] rfl rfl (any_of HT_.out (by kernel_rfl)) (fun _ _ _ h => h) (Or.inl ⟨by rfl, ?_⟩) ?_ ?_
                                    rotate_left
                                    · intro w'
                                      go_simp
                                      with_reducible rfl
                                    rotate_left
                                    · simp only [Act.put, List.setIfInBounds_toArray, List.set_cons_zero, List.set_cons_succ, i64_w, i32_w]
                                      rfl
                                    refine pure_ (i := 8) (N := some 86) (v := ?_) (a' := ?_) #[true, true, true, false, true, false, false, true, true, false, false, false] rfl rfl (any_of HT_.out (by kernel_rfl)) (fun _ _ _ h => h) (Or.inl ⟨by rfl, ?_⟩) ?_ ?_
                                    rotate_left
                                    · intro w'
                                      go_simp
                                      with_reducible rfl
                                    rotate_left
                                    · simp only [Act.put, List.setIfInBounds_toArray, List.set_cons_zero, List.set_cons_succ, i64_w, i32_w]
                                      rfl
                                    refine pure_ (i := 9) (N := some 87) (v := ?_) (a' := ?_) #[true, true, true, false, true, false, false, true, true, true, false, false] rfl rfl (any_of HT_.out (by kernel_rfl)) (fun _ _ _ h => h) (Or.inl ⟨by rfl, ?_⟩) ?_ ?_
                                    rotate_left
                                    · intro w'
                                      go_simp
                                      with_reducible rfl
                                    rotate_left
                                    · simp only [Act.put, List.setIfInBounds_toArray, List.set_cons_zero, List.set_cons_succ, i64_w, i32_w]
                                      rfl
                                    refine join_ (σ := Value × Value) 3 #[true, true, true, true, true, true, false, true, true, true, false, false] (fun s_ => [(81, s_.1), (83, s_.2)]) (fun s_ w' => (Kd.R k23 23 w' w.heap.size (fun k_ => some k_ ≠ (s_.2 : Value).ownBlock) s_.1 y125) ∧ (Kd.R k23 23 w' w.heap.size (fun k_ => some k_ ≠ (s_.1 : Value).ownBlock) s_.2 y128) ∧ (Below w.heap.size w w')) ?_ ?_
                                    rotate_left
                                    · intro hCont
                                      refine two_ (i := 3) (j := 5) (Ni := some 81) (Nj := some 83) #[true, true, true, true, true, false, false, true, true, true, false, false] #[true, true, true, false, true, true, false, true, true, true, false, false] rfl rfl rfl rfl (two_of HT_.out (by kernel_rfl)) (by decide) (by decide) (fun K hK => ?_) (fun K hK => ?_)
                                      · skip
                                        refine Kd.R_append_rows_step k23 (w0 := w) w.heap.size rfl (.const (.slice none 0 0)) (.tmp 80) 24 23 (.agg #[(.int .i64 0), (.string ⟨#[]⟩)]) 24 rfl Try.underlying24 info23 rfl (by decide) (by omega) (.slice none 0 0) ([] : List (S23)) y121 _ _ _ (fun _ => True) (fun _ => False) rfl rfl ?aO ?aR (fun _ _ h => h) (fun _ h => h.elim) ?aF ?aB ?aS ?aL ?_
                                        (case aR => repeat (first | exact (Kd.C_below HR124.out HB.out) | (with_reducible refine Kd.C_alloc ?_ _) | (with_reducible refine Kd.C_drewN ?_ _) | (with_reducible refine Kd.C_drew ?_)))
                                        (case aB => exact (by repeat (first | (with_reducible first | exact HB.out | apply below_alloc | apply pw_below_drewN | apply below_drew1) | exact HB.out)))
                                        (case aF => exact (fun _ _ => trivial))
                                        (case aO => exact ((Kd.R_nil _ _ _ _ (fun _ => True))))
                                        (case aS => exact (below_size (by repeat (first | (with_reducible first | exact HB.out | apply below_alloc | apply pw_below_drewN | apply below_drew1) | exact HB.out))))
                                        (case aL => have := LMc27.out; omega)
                                        intro v126 w48 ho hb hg hat
                                        rw [← Ny125.out] at ho
                                        have n0_ := Aside0.mk (hb)
                                        have n1_ := Aside0.mk (ho)
                                        clear HB
                                        have HB := n0_
                                        have HO127 := n1_
                                        clear n0_ n1_
                                        clear ho hb hg hat
                                        refine hK.out _ _ trivial (fun hHeld => ?_)
                                        clear hK K
                                        refine norm_ (a' := ?_) ?_ ?_
                                        rotate_left
                                        · show Act.put _ (some 81) _ = _
                                          simp only [Act.put, List.setIfInBounds_toArray, List.set_cons_zero, List.set_cons_succ, i64_w, i32_w]
                                          rfl
                                        refine one_ (i := 5) (N := some 83) #[true, true, true, true, true, true, false, true, true, true, false, false] rfl rfl (one_of HT_.out (by kernel_rfl)) (by decide) (fun K hK => ?_)
                                        refine Kd.R_lit_step k23 _ 23 ?hg (N := 83) ?hd (xs := ([(⟨5, (⟨#[]⟩ : ByteArray)⟩ : S23)] : List (S23))) (inner := [.int .i64 5, .string (⟨#[]⟩ : ByteArray)]) (ok := fun _ => True) (okp := fun _ => True) ?hr ?hp (fun _ hk => hk) trivial (Below.refl _ _) (Nat.le_refl _) (by simp) ?_; (case hd => rfl); (case hg => rfl); (case hr => first | (go_simp; done) | (go_simp; rfl)); (case hp => exact (Reps.c2 (show Kd.M k23 _ _ _ (⟨5, (⟨#[]⟩ : ByteArray)⟩ : S23) [.int .i64 5, .string (⟨#[]⟩ : ByteArray)] from (k23_mkM _ _ _ (⟨5, (⟨#[]⟩ : ByteArray)⟩ : S23) )) (Reps.none _ _)))
                                        intro v129 w49 ho50 hb hg_ hnew_
                                        clear hg_ hnew_
                                        (first | rw [← Ny128.out] at ho50 | (simp only [Int.reduceToNat] at ho50; rw [← Ny128.out] at ho50))
                                        have n0_ := Aside0.mk (Kd.R_elder' (by (with_reducible repeat (first | apply Kd.R_alloc | apply Kd.R_drewN | apply Kd.R_drew)); exact HO127.out) (Kd.R_base ho50) hb)
                                        have n1_ := Aside0.mk (Kd.R_lower (Kd.R_new' ho50 (Kd.R_lt (by (with_reducible repeat (first | apply Kd.R_alloc | apply Kd.R_drewN | apply Kd.R_drew)); exact HO127.out))) (below_size (by repeat (first | (with_reducible first | exact HB.out | apply below_alloc | apply pw_below_drewN | apply below_drew1) | exact HB.out))))
                                        have n2_ := Aside0.mk (below_step (by repeat (first | (with_reducible first | exact HB.out | apply below_alloc | apply pw_below_drewN | apply below_drew1) | exact HB.out)) hb)
                                        clear HO127
                                        clear HB
                                        have HO127 := n0_
                                        have HO130 := n1_
                                        have HB := n2_
                                        clear n0_ n1_ n2_
                                        clear hb ho50
                                        refine hK.out _ _ trivial (fun hHeld => ?_)
                                        clear hK K
                                        refine norm_ (a' := ?_) ?_ ?_
                                        rotate_left
                                        · show Act.put _ (some 83) _ = _
                                          simp only [Act.put, List.setIfInBounds_toArray, List.set_cons_zero, List.set_cons_succ, i64_w, i32_w]
                                          rfl
                                        exact norm_ (by simp only [putAll, Act.put, List.setIfInBounds_toArray, List.set_cons_zero, List.set_cons_succ]) (hCont (v126, v129) _ ⟨(by (with_reducible repeat (first | apply Kd.R_alloc | apply Kd.R_drewN | apply Kd.R_drew)); exact Kd.R_mono HO127.out (fun _ hk => hk.2)), (by (with_reducible repeat (first | apply Kd.R_alloc | apply Kd.R_drewN | apply Kd.R_drew)); exact Kd.R_mono HO130.out (fun _ hk => hk.2)), (by repeat (first | (with_reducible first | exact HB.out | apply below_alloc | apply pw_below_drewN | apply below_drew1) | exact HB.out))⟩)
                                      · skip
                                        refine Kd.R_lit_step k23 _ 23 ?hg (N := 83) ?hd (xs := ([(⟨5, (⟨#[]⟩ : ByteArray)⟩ : S23)] : List (S23))) (inner := [.int .i64 5, .string (⟨#[]⟩ : ByteArray)]) (ok := fun _ => True) (okp := fun _ => True) ?hr ?hp (fun _ hk => hk) trivial (Below.refl _ _) (Nat.le_refl _) (by simp) ?_; (case hd => rfl); (case hg => rfl); (case hr => first | (go_simp; done) | (go_simp; rfl)); (case hp => exact (Reps.c2 (show Kd.M k23 _ _ _ (⟨5, (⟨#[]⟩ : ByteArray)⟩ : S23) [.int .i64 5, .string (⟨#[]⟩ : ByteArray)] from (k23_mkM _ _ _ (⟨5, (⟨#[]⟩ : ByteArray)⟩ : S23) )) (Reps.none _ _)))
                                        intro v129 w48 ho49 hb hg_ hnew_
                                        clear hg_ hnew_
                                        (first | rw [← Ny128.out] at ho49 | (simp only [Int.reduceToNat] at ho49; rw [← Ny128.out] at ho49))
                                        have n0_ := Aside0.mk (Kd.R_lower ho49 (below_size (by repeat (first | (with_reducible first | exact HB.out | apply below_alloc | apply pw_below_drewN | apply below_drew1) | exact HB.out))))
                                        have n1_ := Aside0.mk (below_step (by repeat (first | (with_reducible first | exact HB.out | apply below_alloc | apply pw_below_drewN | apply below_drew1) | exact HB.out)) hb)
                                        clear HB
                                        have HO130 := n0_
                                        have HB := n1_
                                        clear n0_ n1_
                                        clear hb ho49
                                        refine hK.out _ _ trivial (fun hHeld => ?_)
                                        clear hK K
                                        refine norm_ (a' := ?_) ?_ ?_
                                        rotate_left
                                        · show Act.put _ (some 83) _ = _
                                          simp only [Act.put, List.setIfInBounds_toArray, List.set_cons_zero, List.set_cons_succ, i64_w, i32_w]
                                          rfl
                                        refine one_ (i := 3) (N := some 81) #[true, true, true, true, true, true, false, true, true, true, false, false] rfl rfl (one_of HT_.out (by kernel_rfl)) (by decide) (fun K hK => ?_)
                                        refine Kd.R_append_rows_step k23 (w0 := w) w.heap.size rfl (.const (.slice none 0 0)) (.tmp 80) 24 23 (.agg #[(.int .i64 0), (.string ⟨#[]⟩)]) 24 rfl Try.underlying24 info23 rfl (by decide) (by omega) (.slice none 0 0) ([] : List (S23)) y121 _ _ _ (fun k_ => some k_ ≠ (v129 : Value).ownBlock) (fun _ => False) rfl rfl ?aO ?aR (fun _ _ h => h) (fun _ h => h.elim) ?aF ?aB ?aS ?aL ?_
                                        (case aR => repeat (first | exact (Kd.C_below HR124.out HB.out) | (with_reducible refine Kd.C_alloc ?_ _) | (with_reducible refine Kd.C_drewN ?_ _) | (with_reducible refine Kd.C_drew ?_)))
                                        (case aB => exact (by repeat (first | (with_reducible first | exact HB.out | apply below_alloc | apply pw_below_drewN | apply below_drew1) | exact HB.out)))
                                        (case aF => exact (fun k_ hk => Kd.fresh' (Kd.R_lt (by (with_reducible repeat (first | apply Kd.R_alloc | apply Kd.R_drewN | apply Kd.R_drew)); exact HO130.out)) k_ hk))
                                        (case aO => exact ((Kd.R_nil _ _ _ _ (fun k_ => some k_ ≠ (v129 : Value).ownBlock))))
                                        (case aS => exact (below_size (by repeat (first | (with_reducible first | exact HB.out | apply below_alloc | apply pw_below_drewN | apply below_drew1) | exact HB.out))))
                                        (case aL => have := LMc27.out; omega)
                                        intro v126 w50 ho hb hg hat
                                        rw [← Ny125.out] at ho
                                        have n0_ := Aside0.mk (Kd.R_after (Kd.R_apart_nil (by (with_reducible repeat (first | apply Kd.R_alloc | apply Kd.R_drewN | apply Kd.R_drew)); exact HO130.out)) hg hat)
                                        have n1_ := Aside0.mk (hb)
                                        have n2_ := Aside0.mk (ho)
                                        clear HO130
                                        clear HB
                                        have HO130 := n0_
                                        have HB := n1_
                                        have HO127 := n2_
                                        clear n0_ n1_ n2_
                                        clear ho hb hg hat
                                        refine hK.out _ _ trivial (fun hHeld => ?_)
                                        clear hK K
                                        refine norm_ (a' := ?_) ?_ ?_
                                        rotate_left
                                        · show Act.put _ (some 81) _ = _
                                          simp only [Act.put, List.setIfInBounds_toArray, List.set_cons_zero, List.set_cons_succ, i64_w, i32_w]
                                          rfl
                                        exact norm_ (by simp only [putAll, Act.put, List.setIfInBounds_toArray, List.set_cons_zero, List.set_cons_succ]) (hCont (v126, v129) _ ⟨(by (with_reducible repeat (first | apply Kd.R_alloc | apply Kd.R_drewN | apply Kd.R_drew)); exact HO127.out), (by (with_reducible repeat (first | apply Kd.R_alloc | apply Kd.R_drewN | apply Kd.R_drew)); exact Kd.R_mono HO130.out (fun _ hk => hk.2)), (by repeat (first | (with_reducible first | exact HB.out | apply below_alloc | apply pw_below_drewN | apply below_drew1) | exact HB.out))⟩)
                                    rintro ⟨v126, v129⟩ w51 ⟨h0_, h1_, h2_⟩
                                    have n0_ : Aside0 (Kd.R k23 23 w51 w.heap.size (fun k_ => some k_ ≠ (v129 : Value).ownBlock) v126 y125) := ⟨h0_⟩
                                    have n1_ : Aside0 (Kd.R k23 23 w51 w.heap.size (fun k_ => some k_ ≠ (v126 : Value).ownBlock) v129 y128) := ⟨h1_⟩
                                    have n2_ : Aside0 (Below w.heap.size w w51) := ⟨h2_⟩
                                    clear HB
                                    clear h0_ h1_ h2_
                                    have HO127 := n0_
                                    have HO130 := n1_
                                    have HB := n2_
                                    clear n0_ n1_ n2_
                                    have hHeld := trivial
                                    obtain ⟨Ao53, co53, eo53⟩ := Kd.R_slice HO130.out
                                    (first | subst eo53 | (injection eo53 with f1_ f2_ f3_; have f4_ := f1_.symm; have f5_ := f3_.symm; clear f1_ f2_ f3_; subst f4_; subst f5_))
                                    refine norm_ (a' := ?_) ?_ ?_
                                    rotate_left
                                    · simp only [putAll, Act.put, List.setIfInBounds_toArray, List.set_cons_zero, List.set_cons_succ]
                                      rfl
                                    refine one_ (i := 6) (N := some 84) #[true, true, true, true, true, true, true, true, true, true, false, false] rfl rfl (one_of HT_.out (by kernel_rfl)) (by decide) (fun K hK => ?_)
                                    refine Kd.R_append_rows_step k23 (w0 := w) w.heap.size (by rfl) (.tmp 81) (.tmp 83) 24 23 (.agg #[(.int .i64 0), (.string ⟨#[]⟩)]) 24 rfl Try.underlying24 info23 rfl (by decide) (by omega) v126 y125 y128 _ _ _ (fun k_ => some k_ ≠ (.slice Ao53 y128.length co53 : Value).ownBlock) (fun _ => False) rfl rfl ?aO ?aR (fun _ _ h => h) (fun _ h => h.elim) ?aF ?aB ?aS ?aL ?_
                                    (case aR => repeat (first | exact (Kd.R_reads' HO130.out).2.2 | (with_reducible refine Kd.C_alloc ?_ _) | (with_reducible refine Kd.C_drewN ?_ _) | (with_reducible refine Kd.C_drew ?_)))
                                    (case aB => exact (by repeat (first | (with_reducible first | exact HB.out | apply below_alloc | apply pw_below_drewN | apply below_drew1) | exact HB.out)))
                                    (case aF => exact (fun k_ hk => Kd.fresh' (Kd.R_lt (by (with_reducible repeat (first | apply Kd.R_alloc | apply Kd.R_drewN | apply Kd.R_drew)); exact HO130.out)) k_ hk))
                                    (case aO => exact (by (with_reducible repeat (first | apply Kd.R_alloc | apply Kd.R_drewN | apply Kd.R_drew)); exact HO127.out))
                                    (case aS => exact (below_size (by repeat (first | (with_reducible first | exact HB.out | apply below_alloc | apply pw_below_drewN | apply below_drew1) | exact HB.out))))
                                    (case aL => have := LMc28.out; omega)
                                    intro v132 w52 ho hb hg hat
                                    rw [← Ny131.out] at ho
                                    have n0_ := Aside0.mk (Kd.R_after (ok := (fun _ => True)) (by (with_reducible repeat (first | apply Kd.R_alloc | apply Kd.R_drewN | apply Kd.R_drew)); exact Kd.R_mono HO130.out (fun _ hk => ⟨trivial, hk⟩)) hg hat)
                                    have n1_ := Aside0.mk (hb)
                                    have n2_ := Aside0.mk (ho)
                                    clear HO130
                                    clear HB
                                    clear HO127
                                    have HO130 := n0_
                                    have HB := n1_
                                    have HO133 := n2_
                                    clear n0_ n1_ n2_
                                    clear ho hb hg hat
                                    refine hK.out _ _ trivial (fun hHeld => ?_)
                                    clear hK K
                                    refine norm_ (a' := ?_) ?_ ?_
                                    rotate_left
                                    · show Act.put _ (some 84) _ = _
                                      simp only [Act.put, List.setIfInBounds_toArray, List.set_cons_zero, List.set_cons_succ, i64_w, i32_w]
                                      rfl
                                    refine one_ (i := 10) (N := some 88) #[true, true, true, true, true, true, true, true, true, true, true, false] rfl rfl (one_of HT_.out (by kernel_rfl)) (by decide) (fun K hK => ?_)
                                    refine Kd.R_append_rows_step k23 (w0 := w) w.heap.size (by rfl) (.tmp 84) (.tmp 87) 24 23 (.agg #[(.int .i64 0), (.string ⟨#[]⟩)]) 24 rfl Try.underlying24 info23 rfl (by decide) (by omega) v132 y131 y134 _ _ _ (fun k_ => some k_ ≠ (.slice Ao53 y128.length co53 : Value).ownBlock) (fun _ => False) rfl rfl ?aO ?aR (fun _ _ h => h) (fun _ h => h.elim) ?aF ?aB ?aS ?aL ?_
                                    (case aR => repeat (first | exact (Kd.C_below HR137.out HB.out) | (with_reducible refine Kd.C_alloc ?_ _) | (with_reducible refine Kd.C_drewN ?_ _) | (with_reducible refine Kd.C_drew ?_)))
                                    (case aB => exact (by repeat (first | (with_reducible first | exact HB.out | apply below_alloc | apply pw_below_drewN | apply below_drew1) | exact HB.out)))
                                    (case aF => exact (fun k_ hk => Kd.fresh' (Kd.R_lt (by (with_reducible repeat (first | apply Kd.R_alloc | apply Kd.R_drewN | apply Kd.R_drew)); exact HO130.out)) k_ hk))
                                    (case aO => exact (by (with_reducible repeat (first | apply Kd.R_alloc | apply Kd.R_drewN | apply Kd.R_drew)); exact HO133.out))
                                    (case aS => exact (below_size (by repeat (first | (with_reducible first | exact HB.out | apply below_alloc | apply pw_below_drewN | apply below_drew1) | exact HB.out))))
                                    (case aL => have := LMc31.out; omega)
                                    intro v139 w54 ho hb hg hat
                                    rw [← Ny138.out] at ho
                                    have n0_ := Aside0.mk (Kd.R_after (ok := (fun _ => True)) (by (with_reducible repeat (first | apply Kd.R_alloc | apply Kd.R_drewN | apply Kd.R_drew)); exact HO130.out) hg hat)
                                    have n1_ := Aside0.mk (hb)
                                    have n2_ := Aside0.mk (ho)
                                    clear HO130
                                    clear HB
                                    clear HO133
                                    have HO130 := n0_
                                    have HB := n1_
                                    have HO140 := n2_
                                    clear n0_ n1_ n2_
                                    clear ho hb hg hat
                                    refine hK.out _ _ trivial (fun hHeld => ?_)
                                    clear hK K
                                    refine norm_ (a' := ?_) ?_ ?_
                                    rotate_left
                                    · show Act.put _ (some 88) _ = _
                                      simp only [Act.put, List.setIfInBounds_toArray, List.set_cons_zero, List.set_cons_succ, i64_w, i32_w]
                                      rfl
                                    refine pure_ (i := 11) (N := some 12) (v := ?_) (a' := ?_) #[true, true, true, true, true, true, true, true, true, true, true, true] rfl rfl (any_of HT_.out (by kernel_rfl)) (fun _ _ _ h => h) (Or.inl ⟨by rfl, ?_⟩) ?_ ?_
                                    rotate_left
                                    · intro w'
                                      go_simp
                                      with_reducible rfl
                                    rotate_left
                                    · simp only [Act.put, List.setIfInBounds_toArray, List.set_cons_zero, List.set_cons_succ, i64_w, i32_w]
                                      rfl
                                    refine done_ (done_of HT_.out (by kernel_rfl)) ?_
                                    try go_wp2
                                    have n0_ := Aside0.mk (Kd.R_drew HO130.out)
                                    have n1_ := Aside0.mk (Kd.R_drew HO140.out)
                                    have n2_ := Aside0.mk (below_drew1 HB.out)
                                    clear HO130
                                    clear HO140
                                    clear HB
                                    have HO130 := n0_
                                    have HO140 := n1_
                                    have HB := n2_
                                    clear n0_ n1_ n2_
                                    have q56 : (a2 : Int) ≤ ((l0.length : Int) : Int) := of_decide_eq_true (by first | (with_reducible assumption) | assumption)
                                    obtain ⟨i056, hi056, _, hsz56, _⟩ := info_parts info23
                                    have hroom56 : l0.length ≤ c0 := HC0.out
                                    have hC56 : Kd.C k23 _ A0 l0.length l0 := HR0.out
                                    (try clear hcut46); (try clear hcut46); have hcut56 := cut_to (P := Try.prog) 24 23 .i64 Try.underlying24 hi056 A0 l0.length c0 a2 (of_decide_eq_true (by first | (with_reducible assumption) | assumption)) q56 hroom56
                                    have hr56 := Kd.C_take (m := (a2 : Int).toNat) hC56 (by omega)
                                    have hy56 : y141.length = (a2 : Int).toNat := (by rw [Ny141.out, List.length_take]; omega)
                                    rw [← Ny141.out] at hr56
                                    rw [← hy56] at hcut56
                                    have HR144 := Aside0.mk hr56
                                    have HC144 := Aside0.mk (show y141.length ≤ c0 from by omega)
                                    clear hr56 hC56 hroom56 hi056 hsz56
                                    have KY56 := Aside0.mk hy56
                                    clear hy56
                                    replace q56 := eq_true q56
                                    have q57 : (a2 : Int) ≤ ((l0.length : Int) : Int) := of_decide_eq_true (by first | (with_reducible assumption) | assumption)
                                    obtain ⟨i057, hi057, _, hsz57, _⟩ := info_parts info23
                                    have hroom57 : l0.length ≤ c0 := HC0.out
                                    have hC57 : Kd.C k23 _ A0 l0.length l0 := HR0.out
                                    have q057 : (0 : Int) ≤ (a2 : Int) := of_decide_eq_true (by first | (with_reducible assumption) | assumption)
                                    (try clear hcut47); (try clear hcut47); have hcut57 := cut_from (P := Try.prog) 24 23 .i64 Try.underlying24 hi057 2 hsz57 A0 l0.length c0 a2 q057 q57
                                    have hr57 := Kd.C_drop (m := (a2 : Int).toNat) (c := c0) hC57 (by omega) hroom57
                                    obtain ⟨A57, hA57⟩ : ∃ A1, A1 = (if c0 = (a2 : Int).toNat then A0 else (A0 : Option Addr).map (·.add ((a2 : Int).toNat * 2))) := ⟨_, rfl⟩
                                    obtain ⟨c57, hc57⟩ : ∃ c1, c1 = c0 - (a2 : Int).toNat := ⟨_, rfl⟩
                                    have hy57 : y154.length = l0.length - (a2 : Int).toNat := (by rw [Ny154.out, List.length_drop] <;> omega)
                                    rw [show (l0).drop (a2 : Int).toNat = y154 from Ny154.out.symm] at hr57
                                    replace hr57 : Kd.C k23 _ A57 y154.length y154 := (by rw [hA57]; exact hr57)
                                    rw [← hy57, ← hA57, ← hc57] at hcut57
                                    have HR157 := Aside0.mk hr57
                                    have HC157 := Aside0.mk (show y154.length ≤ c57 from by rw [hy57, hc57]; exact Nat.sub_le_sub_right hroom57 _)
                                    clear hr57 hC57 hroom57 hi057 hsz57 hc57
                                    have KY57 := Aside0.mk hy57
                                    have KA57 := Aside0.mk hA57
                                    clear hy57 hA57
                                    replace q57 := eq_true q57
                                    refine start_ (n := 13) (S := fun w' => True) (ds := []) #[false, false, false, false, false, false, false, false, false, false, false, false, false] (by kernel_rfl) rfl rfl trivial (fun hHeld => ?_); refine with_tabW copperplatelaw17_SpanHard.tab9 copperplatelaw17_SpanHard.bits9 (fun HT_ HW_ => ?_)
                                    generalize w54.drew = w55 at HO130 HO140 HB HR144 HR157 hHeld ⊢
                                    refine pure_ (i := 0) (N := some 89) (v := ?_) (a' := ?_) #[true, false, false, false, false, false, false, false, false, false, false, false, false] rfl rfl (any_of HT_.out (by kernel_rfl)) (fun _ _ _ h => h) (Or.inl ⟨by rfl, ?_⟩) ?_ ?_
                                    rotate_left
                                    · intro w'
                                      go_simp
                                      with_reducible rfl
                                    rotate_left
                                    · simp only [Act.put, List.setIfInBounds_toArray, List.set_cons_zero, List.set_cons_succ, i64_w, i32_w]
                                      rfl
                                    refine pure_ (i := 1) (N := some 90) (v := ?_) (a' := ?_) #[true, true, false, false, false, false, false, false, false, false, false, false, false] rfl rfl (any_of HT_.out (by kernel_rfl)) (fun _ _ _ h => h) (Or.inl ⟨by rfl, ?_⟩) ?_ ?_
                                    rotate_left
                                    · intro w'
                                      go_simp
                                      with_reducible rfl
                                    rotate_left
                                    · simp only [Act.put, List.setIfInBounds_toArray, List.set_cons_zero, List.set_cons_succ, i64_w, i32_w]
                                      rfl
                                    refine pure_ (i := 2) (N := some 91) (v := ?_) (a' := ?_) #[true, true, true, false, false, false, false, false, false, false, false, false, false] rfl rfl (any_of HT_.out (by kernel_rfl)) (fun _ _ _ h => h) (Or.inl ⟨by rfl, ?_⟩) ?_ ?_
                                    rotate_left
                                    · intro w'
                                      go_simp
                                      with_reducible rfl
                                    rotate_left
                                    · simp only [Act.put, List.setIfInBounds_toArray, List.set_cons_zero, List.set_cons_succ, i64_w, i32_w]
                                      rfl
                                    refine pure_ (i := 4) (N := some 93) (v := ?_) (a' := ?_) #[true, true, true, false, true, false, false, false, false, false, false, false, false] rfl rfl (any_of HT_.out (by kernel_rfl)) (fun _ _ _ h => h) (Or.inl ⟨by rfl, ?_⟩) ?_ ?_
                                    rotate_left
                                    · intro w'
                                      go_simp
                                      with_reducible rfl
                                    rotate_left
                                    · simp only [Act.put, List.setIfInBounds_toArray, List.set_cons_zero, List.set_cons_succ, i64_w, i32_w]
                                      rfl
                                    refine pure_ (i := 5) (N := some 94) (v := ?_) (a' := ?_) #[true, true, true, false, true, true, false, false, false, false, false, false, false] rfl rfl (any_of HT_.out (by kernel_rfl)) (fun _ _ _ h => h) (Or.inl ⟨by rfl, ?_⟩) ?_ ?_
                                    rotate_left
                                    · intro w'
                                      go_simp
                                      with_reducible rfl
                                    rotate_left
                                    · simp only [Act.put, List.setIfInBounds_toArray, List.set_cons_zero, List.set_cons_succ, i64_w, i32_w]
                                      rfl
                                    refine pure_ (i := 8) (N := some 97) (v := ?_) (a' := ?_) #[true, true, true, false, true, true, false, false, true, false, false, false, false] rfl rfl (any_of HT_.out (by kernel_rfl)) (fun _ _ _ h => h) (Or.inl ⟨by rfl, ?_⟩) ?_ ?_
                                    rotate_left
                                    · intro w'
                                      go_simp
                                      with_reducible rfl
                                    rotate_left
                                    · simp only [Act.put, List.setIfInBounds_toArray, List.set_cons_zero, List.set_cons_succ, i64_w, i32_w]
                                      rfl
                                    refine pure_ (i := 9) (N := some 98) (v := ?_) (a' := ?_) #[true, true, true, false, true, true, false, false, true, true, false, false, false] rfl rfl (any_of HT_.out (by kernel_rfl)) (fun _ _ _ h => h) (Or.inl ⟨by rfl, ?_⟩) ?_ ?_
                                    rotate_left
                                    · intro w'
                                      go_simp
                                      with_reducible rfl
                                    rotate_left
                                    · simp only [Act.put, List.setIfInBounds_toArray, List.set_cons_zero, List.set_cons_succ, i64_w, i32_w]
                                      rfl
                                    refine pure_ (i := 10) (N := some 99) (v := ?_) (a' := ?_) #[true, true, true, false, true, true, false, false, true, true, true, false, false] rfl rfl (any_of HT_.out (by kernel_rfl)) (fun _ _ _ h => h) (Or.inl ⟨by rfl, ?_⟩) ?_ ?_
                                    rotate_left
                                    · intro w'
                                      go_simp
                                      with_reducible rfl
                                    rotate_left
                                    · simp only [Act.put, List.setIfInBounds_toArray, List.set_cons_zero, List.set_cons_succ, i64_w, i32_w]
                                      rfl
                                    refine join_ (σ := Value × Value) 3 #[true, true, true, true, true, true, true, false, true, true, true, false, false] (fun s_ => [(92, s_.1), (95, s_.2)]) (fun s_ w' => (Kd.R k23 23 w' w.heap.size (fun k_ => some k_ ≠ (v139 : Value).ownBlock ∧ some k_ ≠ (s_.1 : Value).ownBlock ∧ some k_ ≠ (s_.2 : Value).ownBlock) (.slice Ao53 y128.length co53) y128) ∧ (Kd.R k23 23 w' w.heap.size (fun k_ => some k_ ≠ (.slice Ao53 y128.length co53 : Value).ownBlock ∧ some k_ ≠ (s_.1 : Value).ownBlock ∧ some k_ ≠ (s_.2 : Value).ownBlock) v139 y138) ∧ (Kd.R k23 23 w' w.heap.size (fun k_ => some k_ ≠ (.slice Ao53 y128.length co53 : Value).ownBlock ∧ some k_ ≠ (v139 : Value).ownBlock ∧ some k_ ≠ (s_.2 : Value).ownBlock) s_.1 y145) ∧ (Kd.R k23 23 w' w.heap.size (fun k_ => some k_ ≠ (.slice Ao53 y128.length co53 : Value).ownBlock ∧ some k_ ≠ (v139 : Value).ownBlock ∧ some k_ ≠ (s_.1 : Value).ownBlock) s_.2 y148) ∧ (Below w.heap.size w w')) ?_ ?_
                                    rotate_left
                                    · intro hCont
                                      refine two_ (i := 3) (j := 6) (Ni := some 92) (Nj := some 95) #[true, true, true, true, true, true, false, false, true, true, true, false, false] #[true, true, true, false, true, true, true, false, true, true, true, false, false] rfl rfl rfl rfl (two_of HT_.out (by kernel_rfl)) (by decide) (by decide) (fun K hK => ?_) (fun K hK => ?_)
                                      · skip
                                        refine Kd.R_append_rows_step k23 (w0 := w) w.heap.size rfl (.const (.slice none 0 0)) (.tmp 91) 24 23 (.agg #[(.int .i64 0), (.string ⟨#[]⟩)]) 24 rfl Try.underlying24 info23 rfl (by decide) (by omega) (.slice none 0 0) ([] : List (S23)) y141 _ _ _ (fun k_ => some k_ ≠ (.slice Ao53 y128.length co53 : Value).ownBlock ∧ some k_ ≠ (v139 : Value).ownBlock) (fun _ => False) rfl rfl ?aO ?aR (fun _ _ h => h) (fun _ h => h.elim) ?aF ?aB ?aS ?aL ?_
                                        (case aR => repeat (first | exact (Kd.C_below HR144.out HB.out) | (with_reducible refine Kd.C_alloc ?_ _) | (with_reducible refine Kd.C_drewN ?_ _) | (with_reducible refine Kd.C_drew ?_)))
                                        (case aB => exact (by repeat (first | (with_reducible first | exact HB.out | apply below_alloc | apply pw_below_drewN | apply below_drew1) | exact HB.out)))
                                        (case aF => exact (fun k_ hk => ⟨Kd.fresh' (Kd.R_lt (by (with_reducible repeat (first | apply Kd.R_alloc | apply Kd.R_drewN | apply Kd.R_drew)); exact HO130.out)) k_ hk, Kd.fresh' (Kd.R_lt (by (with_reducible repeat (first | apply Kd.R_alloc | apply Kd.R_drewN | apply Kd.R_drew)); exact HO140.out)) k_ hk⟩))
                                        (case aO => exact ((Kd.R_nil _ _ _ _ (fun k_ => some k_ ≠ (.slice Ao53 y128.length co53 : Value).ownBlock ∧ some k_ ≠ (v139 : Value).ownBlock))))
                                        (case aS => exact (below_size (by repeat (first | (with_reducible first | exact HB.out | apply below_alloc | apply pw_below_drewN | apply below_drew1) | exact HB.out))))
                                        (case aL => have := LMc34.out; omega)
                                        intro v146 w58 ho hb hg hat
                                        rw [← Ny145.out] at ho
                                        have n0_ := Aside0.mk (Kd.R_after (Kd.R_apart_nil (by (with_reducible repeat (first | apply Kd.R_alloc | apply Kd.R_drewN | apply Kd.R_drew)); exact HO130.out)) hg hat)
                                        have n1_ := Aside0.mk (Kd.R_after (Kd.R_apart_nil (by (with_reducible repeat (first | apply Kd.R_alloc | apply Kd.R_drewN | apply Kd.R_drew)); exact HO140.out)) hg hat)
                                        have n2_ := Aside0.mk (hb)
                                        have n3_ := Aside0.mk (ho)
                                        clear HO130
                                        clear HO140
                                        clear HB
                                        have HO130 := n0_
                                        have HO140 := n1_
                                        have HB := n2_
                                        have HO147 := n3_
                                        clear n0_ n1_ n2_ n3_
                                        clear ho hb hg hat
                                        refine hK.out _ _ trivial (fun hHeld => ?_)
                                        clear hK K
                                        refine norm_ (a' := ?_) ?_ ?_
                                        rotate_left
                                        · show Act.put _ (some 92) _ = _
                                          simp only [Act.put, List.setIfInBounds_toArray, List.set_cons_zero, List.set_cons_succ, i64_w, i32_w]
                                          rfl
                                        refine one_ (i := 6) (N := some 95) #[true, true, true, true, true, true, true, false, true, true, true, false, false] rfl rfl (one_of HT_.out (by kernel_rfl)) (by decide) (fun K hK => ?_)
                                        refine Kd.R_lit_step k23 _ 23 ?hg (N := 95) ?hd (xs := ([(⟨0, a3⟩ : S23)] : List (S23))) (inner := [.int .i64 0, .string a3]) (ok := fun _ => True) (okp := fun _ => True) ?hr ?hp (fun _ hk => hk) trivial (Below.refl _ _) (Nat.le_refl _) (by simp) ?_; (case hd => rfl); (case hg => rfl); (case hr => first | (go_simp; done) | (go_simp; rfl)); (case hp => exact (Reps.c2 (show Kd.M k23 _ _ _ (⟨0, a3⟩ : S23) [.int .i64 0, .string a3] from (k23_mkM _ _ _ (⟨0, a3⟩ : S23) )) (Reps.none _ _)))
                                        intro v149 w59 ho60 hb hg_ hnew_
                                        clear hg_ hnew_
                                        (first | rw [← Ny148.out] at ho60 | (simp only [Int.reduceToNat] at ho60; rw [← Ny148.out] at ho60))
                                        have n0_ := Aside0.mk (Kd.R_elder' (by (with_reducible repeat (first | apply Kd.R_alloc | apply Kd.R_drewN | apply Kd.R_drew)); exact HO130.out) (Kd.R_base ho60) hb)
                                        have n1_ := Aside0.mk (Kd.R_elder' (by (with_reducible repeat (first | apply Kd.R_alloc | apply Kd.R_drewN | apply Kd.R_drew)); exact HO140.out) (Kd.R_base ho60) hb)
                                        have n2_ := Aside0.mk (Kd.R_elder' (by (with_reducible repeat (first | apply Kd.R_alloc | apply Kd.R_drewN | apply Kd.R_drew)); exact HO147.out) (Kd.R_base ho60) hb)
                                        have n3_ := Aside0.mk (Kd.R_lower (Kd.R_new' (Kd.R_new' (Kd.R_new' ho60 (Kd.R_lt (by (with_reducible repeat (first | apply Kd.R_alloc | apply Kd.R_drewN | apply Kd.R_drew)); exact HO130.out))) (Kd.R_lt (by (with_reducible repeat (first | apply Kd.R_alloc | apply Kd.R_drewN | apply Kd.R_drew)); exact HO140.out))) (Kd.R_lt (by (with_reducible repeat (first | apply Kd.R_alloc | apply Kd.R_drewN | apply Kd.R_drew)); exact HO147.out))) (below_size (by repeat (first | (with_reducible first | exact HB.out | apply below_alloc | apply pw_below_drewN | apply below_drew1) | exact HB.out))))
                                        have n4_ := Aside0.mk (below_step (by repeat (first | (with_reducible first | exact HB.out | apply below_alloc | apply pw_below_drewN | apply below_drew1) | exact HB.out)) hb)
                                        clear HO130
                                        clear HO140
                                        clear HO147
                                        clear HB
                                        have HO130 := n0_
                                        have HO140 := n1_
                                        have HO147 := n2_
                                        have HO150 := n3_
                                        have HB := n4_
                                        clear n0_ n1_ n2_ n3_ n4_
                                        clear hb ho60
                                        refine hK.out _ _ trivial (fun hHeld => ?_)
                                        clear hK K
                                        refine norm_ (a' := ?_) ?_ ?_
                                        rotate_left
                                        · show Act.put _ (some 95) _ = _
                                          simp only [Act.put, List.setIfInBounds_toArray, List.set_cons_zero, List.set_cons_succ, i64_w, i32_w]
                                          rfl
                                        exact norm_ (by simp only [putAll, Act.put, List.setIfInBounds_toArray, List.set_cons_zero, List.set_cons_succ]) (hCont (v146, v149) _ ⟨(by (with_reducible repeat (first | apply Kd.R_alloc | apply Kd.R_drewN | apply Kd.R_drew)); exact Kd.R_mono HO130.out (fun _ hk => ⟨hk.1.1.2, ⟨hk.1.2, hk.2⟩⟩)), (by (with_reducible repeat (first | apply Kd.R_alloc | apply Kd.R_drewN | apply Kd.R_drew)); exact Kd.R_mono HO140.out (fun _ hk => ⟨hk.1.1, ⟨hk.1.2, hk.2⟩⟩)), (by (with_reducible repeat (first | apply Kd.R_alloc | apply Kd.R_drewN | apply Kd.R_drew)); exact Kd.R_mono HO147.out (fun _ hk => ⟨hk.1.1, ⟨hk.1.2, hk.2⟩⟩)), (by (with_reducible repeat (first | apply Kd.R_alloc | apply Kd.R_drewN | apply Kd.R_drew)); exact Kd.R_mono HO150.out (fun _ hk => ⟨hk.1.1.2, ⟨hk.1.2, hk.2⟩⟩)), (by repeat (first | (with_reducible first | exact HB.out | apply below_alloc | apply pw_below_drewN | apply below_drew1) | exact HB.out))⟩)
                                      · skip
                                        refine Kd.R_lit_step k23 _ 23 ?hg (N := 95) ?hd (xs := ([(⟨0, a3⟩ : S23)] : List (S23))) (inner := [.int .i64 0, .string a3]) (ok := fun _ => True) (okp := fun _ => True) ?hr ?hp (fun _ hk => hk) trivial (Below.refl _ _) (Nat.le_refl _) (by simp) ?_; (case hd => rfl); (case hg => rfl); (case hr => first | (go_simp; done) | (go_simp; rfl)); (case hp => exact (Reps.c2 (show Kd.M k23 _ _ _ (⟨0, a3⟩ : S23) [.int .i64 0, .string a3] from (k23_mkM _ _ _ (⟨0, a3⟩ : S23) )) (Reps.none _ _)))
                                        intro v149 w58 ho59 hb hg_ hnew_
                                        clear hg_ hnew_
                                        (first | rw [← Ny148.out] at ho59 | (simp only [Int.reduceToNat] at ho59; rw [← Ny148.out] at ho59))
                                        have n0_ := Aside0.mk (Kd.R_elder' (by (with_reducible repeat (first | apply Kd.R_alloc | apply Kd.R_drewN | apply Kd.R_drew)); exact HO130.out) (Kd.R_base ho59) hb)
                                        have n1_ := Aside0.mk (Kd.R_elder' (by (with_reducible repeat (first | apply Kd.R_alloc | apply Kd.R_drewN | apply Kd.R_drew)); exact HO140.out) (Kd.R_base ho59) hb)
                                        have n2_ := Aside0.mk (Kd.R_lower (Kd.R_new' (Kd.R_new' ho59 (Kd.R_lt (by (with_reducible repeat (first | apply Kd.R_alloc | apply Kd.R_drewN | apply Kd.R_drew)); exact HO130.out))) (Kd.R_lt (by (with_reducible repeat (first | apply Kd.R_alloc | apply Kd.R_drewN | apply Kd.R_drew)); exact HO140.out))) (below_size (by repeat (first | (with_reducible first | exact HB.out | apply below_alloc | apply pw_below_drewN | apply below_drew1) | exact HB.out))))
                                        have n3_ := Aside0.mk (below_step (by repeat (first | (with_reducible first | exact HB.out | apply below_alloc | apply pw_below_drewN | apply below_drew1) | exact HB.out)) hb)
                                        clear HO130
                                        clear HO140
                                        clear HB
                                        have HO130 := n0_
                                        have HO140 := n1_
                                        have HO150 := n2_
                                        have HB := n3_
                                        clear n0_ n1_ n2_ n3_
                                        clear hb ho59
                                        refine hK.out _ _ trivial (fun hHeld => ?_)
                                        clear hK K
                                        refine norm_ (a' := ?_) ?_ ?_
                                        rotate_left
                                        · show Act.put _ (some 95) _ = _
                                          simp only [Act.put, List.setIfInBounds_toArray, List.set_cons_zero, List.set_cons_succ, i64_w, i32_w]
                                          rfl
                                        refine one_ (i := 3) (N := some 92) #[true, true, true, true, true, true, true, false, true, true, true, false, false] rfl rfl (one_of HT_.out (by kernel_rfl)) (by decide) (fun K hK => ?_)
                                        refine Kd.R_append_rows_step k23 (w0 := w) w.heap.size rfl (.const (.slice none 0 0)) (.tmp 91) 24 23 (.agg #[(.int .i64 0), (.string ⟨#[]⟩)]) 24 rfl Try.underlying24 info23 rfl (by decide) (by omega) (.slice none 0 0) ([] : List (S23)) y141 _ _ _ (fun k_ => some k_ ≠ (.slice Ao53 y128.length co53 : Value).ownBlock ∧ some k_ ≠ (v139 : Value).ownBlock ∧ some k_ ≠ (v149 : Value).ownBlock) (fun _ => False) rfl rfl ?aO ?aR (fun _ _ h => h) (fun _ h => h.elim) ?aF ?aB ?aS ?aL ?_
                                        (case aR => repeat (first | exact (Kd.C_below HR144.out HB.out) | (with_reducible refine Kd.C_alloc ?_ _) | (with_reducible refine Kd.C_drewN ?_ _) | (with_reducible refine Kd.C_drew ?_)))
                                        (case aB => exact (by repeat (first | (with_reducible first | exact HB.out | apply below_alloc | apply pw_below_drewN | apply below_drew1) | exact HB.out)))
                                        (case aF => exact (fun k_ hk => ⟨Kd.fresh' (Kd.R_lt (by (with_reducible repeat (first | apply Kd.R_alloc | apply Kd.R_drewN | apply Kd.R_drew)); exact HO130.out)) k_ hk, Kd.fresh' (Kd.R_lt (by (with_reducible repeat (first | apply Kd.R_alloc | apply Kd.R_drewN | apply Kd.R_drew)); exact HO140.out)) k_ hk, Kd.fresh' (Kd.R_lt (by (with_reducible repeat (first | apply Kd.R_alloc | apply Kd.R_drewN | apply Kd.R_drew)); exact HO150.out)) k_ hk⟩))
                                        (case aO => exact ((Kd.R_nil _ _ _ _ (fun k_ => some k_ ≠ (.slice Ao53 y128.length co53 : Value).ownBlock ∧ some k_ ≠ (v139 : Value).ownBlock ∧ some k_ ≠ (v149 : Value).ownBlock))))
                                        (case aS => exact (below_size (by repeat (first | (with_reducible first | exact HB.out | apply below_alloc | apply pw_below_drewN | apply below_drew1) | exact HB.out))))
                                        (case aL => have := LMc34.out; omega)
                                        intro v146 w60 ho hb hg hat
                                        rw [← Ny145.out] at ho
                                        have n0_ := Aside0.mk (Kd.R_after (Kd.R_apart_nil (by (with_reducible repeat (first | apply Kd.R_alloc | apply Kd.R_drewN | apply Kd.R_drew)); exact HO130.out)) hg hat)
                                        have n1_ := Aside0.mk (Kd.R_after (Kd.R_apart_nil (by (with_reducible repeat (first | apply Kd.R_alloc | apply Kd.R_drewN | apply Kd.R_drew)); exact HO140.out)) hg hat)
                                        have n2_ := Aside0.mk (Kd.R_after (Kd.R_apart_nil (by (with_reducible repeat (first | apply Kd.R_alloc | apply Kd.R_drewN | apply Kd.R_drew)); exact HO150.out)) hg hat)
                                        have n3_ := Aside0.mk (hb)
                                        have n4_ := Aside0.mk (ho)
                                        clear HO130
                                        clear HO140
                                        clear HO150
                                        clear HB
                                        have HO130 := n0_
                                        have HO140 := n1_
                                        have HO150 := n2_
                                        have HB := n3_
                                        have HO147 := n4_
                                        clear n0_ n1_ n2_ n3_ n4_
                                        clear ho hb hg hat
                                        refine hK.out _ _ trivial (fun hHeld => ?_)
                                        clear hK K
                                        refine norm_ (a' := ?_) ?_ ?_
                                        rotate_left
                                        · show Act.put _ (some 92) _ = _
                                          simp only [Act.put, List.setIfInBounds_toArray, List.set_cons_zero, List.set_cons_succ, i64_w, i32_w]
                                          rfl
                                        exact norm_ (by simp only [putAll, Act.put, List.setIfInBounds_toArray, List.set_cons_zero, List.set_cons_succ]) (hCont (v146, v149) _ ⟨(by (with_reducible repeat (first | apply Kd.R_alloc | apply Kd.R_drewN | apply Kd.R_drew)); exact Kd.R_mono HO130.out (fun _ hk => ⟨hk.1.1.2, ⟨hk.2, hk.1.2⟩⟩)), (by (with_reducible repeat (first | apply Kd.R_alloc | apply Kd.R_drewN | apply Kd.R_drew)); exact Kd.R_mono HO140.out (fun _ hk => ⟨hk.1.1, ⟨hk.2, hk.1.2⟩⟩)), (by (with_reducible repeat (first | apply Kd.R_alloc | apply Kd.R_drewN | apply Kd.R_drew)); exact HO147.out), (by (with_reducible repeat (first | apply Kd.R_alloc | apply Kd.R_drewN | apply Kd.R_drew)); exact Kd.R_mono HO150.out (fun _ hk => ⟨hk.1.1.2, ⟨hk.1.2, hk.2⟩⟩)), (by repeat (first | (with_reducible first | exact HB.out | apply below_alloc | apply pw_below_drewN | apply below_drew1) | exact HB.out))⟩)
                                    rintro ⟨v146, v149⟩ w61 ⟨h0_, h1_, h2_, h3_, h4_⟩
                                    have n0_ : Aside0 (Kd.R k23 23 w61 w.heap.size (fun k_ => some k_ ≠ (v139 : Value).ownBlock ∧ some k_ ≠ (v146 : Value).ownBlock ∧ some k_ ≠ (v149 : Value).ownBlock) (.slice Ao53 y128.length co53) y128) := ⟨h0_⟩
                                    have n1_ : Aside0 (Kd.R k23 23 w61 w.heap.size (fun k_ => some k_ ≠ (.slice Ao53 y128.length co53 : Value).ownBlock ∧ some k_ ≠ (v146 : Value).ownBlock ∧ some k_ ≠ (v149 : Value).ownBlock) v139 y138) := ⟨h1_⟩
                                    have n2_ : Aside0 (Kd.R k23 23 w61 w.heap.size (fun k_ => some k_ ≠ (.slice Ao53 y128.length co53 : Value).ownBlock ∧ some k_ ≠ (v139 : Value).ownBlock ∧ some k_ ≠ (v149 : Value).ownBlock) v146 y145) := ⟨h2_⟩
                                    have n3_ : Aside0 (Kd.R k23 23 w61 w.heap.size (fun k_ => some k_ ≠ (.slice Ao53 y128.length co53 : Value).ownBlock ∧ some k_ ≠ (v139 : Value).ownBlock ∧ some k_ ≠ (v146 : Value).ownBlock) v149 y148) := ⟨h3_⟩
                                    have n4_ : Aside0 (Below w.heap.size w w61) := ⟨h4_⟩
                                    clear HO130
                                    clear HO140
                                    clear HB
                                    clear h0_ h1_ h2_ h3_ h4_
                                    have HO130 := n0_
                                    have HO140 := n1_
                                    have HO147 := n2_
                                    have HO150 := n3_
                                    have HB := n4_
                                    clear n0_ n1_ n2_ n3_ n4_
                                    have hHeld := trivial
                                    obtain ⟨Ao63, co63, eo63⟩ := Kd.R_slice HO150.out
                                    (first | subst eo63 | (injection eo63 with f1_ f2_ f3_; have f4_ := f1_.symm; have f5_ := f3_.symm; clear f1_ f2_ f3_; subst f4_; subst f5_))
                                    refine norm_ (a' := ?_) ?_ ?_
                                    rotate_left
                                    · simp only [putAll, Act.put, List.setIfInBounds_toArray, List.set_cons_zero, List.set_cons_succ]
                                      rfl
                                    refine one_ (i := 7) (N := some 96) #[true, true, true, true, true, true, true, true, true, true, true, false, false] rfl rfl (one_of HT_.out (by kernel_rfl)) (by decide) (fun K hK => ?_)
                                    refine Kd.R_append_rows_step k23 (w0 := w) w.heap.size (by rfl) (.tmp 92) (.tmp 95) 24 23 (.agg #[(.int .i64 0), (.string ⟨#[]⟩)]) 24 rfl Try.underlying24 info23 rfl (by decide) (by omega) v146 y145 y148 _ _ _ (fun k_ => some k_ ≠ (.slice Ao53 y128.length co53 : Value).ownBlock ∧ some k_ ≠ (v139 : Value).ownBlock ∧ some k_ ≠ (.slice Ao63 y148.length co63 : Value).ownBlock) (fun _ => False) rfl rfl ?aO ?aR (fun _ _ h => h) (fun _ h => h.elim) ?aF ?aB ?aS ?aL ?_
                                    (case aR => repeat (first | exact (Kd.R_reads' HO150.out).2.2 | (with_reducible refine Kd.C_alloc ?_ _) | (with_reducible refine Kd.C_drewN ?_ _) | (with_reducible refine Kd.C_drew ?_)))
                                    (case aB => exact (by repeat (first | (with_reducible first | exact HB.out | apply below_alloc | apply pw_below_drewN | apply below_drew1) | exact HB.out)))
                                    (case aF => exact (fun k_ hk => ⟨Kd.fresh' (Kd.R_lt (by (with_reducible repeat (first | apply Kd.R_alloc | apply Kd.R_drewN | apply Kd.R_drew)); exact HO130.out)) k_ hk, Kd.fresh' (Kd.R_lt (by (with_reducible repeat (first | apply Kd.R_alloc | apply Kd.R_drewN | apply Kd.R_drew)); exact HO140.out)) k_ hk, Kd.fresh' (Kd.R_lt (by (with_reducible repeat (first | apply Kd.R_alloc | apply Kd.R_drewN | apply Kd.R_drew)); exact HO150.out)) k_ hk⟩))
                                    (case aO => exact (by (with_reducible repeat (first | apply Kd.R_alloc | apply Kd.R_drewN | apply Kd.R_drew)); exact HO147.out))
                                    (case aS => exact (below_size (by repeat (first | (with_reducible first | exact HB.out | apply below_alloc | apply pw_below_drewN | apply below_drew1) | exact HB.out))))
                                    (case aL => have := LMc35.out; omega)
                                    intro v152 w62 ho hb hg hat
                                    rw [← Ny151.out] at ho
                                    have n0_ := Aside0.mk (Kd.R_after (ok := (fun k_ => some k_ ≠ (v139 : Value).ownBlock ∧ some k_ ≠ (.slice Ao63 y148.length co63 : Value).ownBlock)) (by (with_reducible repeat (first | apply Kd.R_alloc | apply Kd.R_drewN | apply Kd.R_drew)); exact Kd.R_mono HO130.out (fun _ hk => ⟨⟨hk.1, hk.2.2⟩, hk.2.1⟩)) hg hat)
                                    have n1_ := Aside0.mk (Kd.R_after (ok := (fun k_ => some k_ ≠ (.slice Ao53 y128.length co53 : Value).ownBlock ∧ some k_ ≠ (.slice Ao63 y148.length co63 : Value).ownBlock)) (by (with_reducible repeat (first | apply Kd.R_alloc | apply Kd.R_drewN | apply Kd.R_drew)); exact Kd.R_mono HO140.out (fun _ hk => ⟨⟨hk.1, hk.2.2⟩, hk.2.1⟩)) hg hat)
                                    have n2_ := Aside0.mk (Kd.R_after (ok := (fun k_ => some k_ ≠ (.slice Ao53 y128.length co53 : Value).ownBlock ∧ some k_ ≠ (v139 : Value).ownBlock)) (by (with_reducible repeat (first | apply Kd.R_alloc | apply Kd.R_drewN | apply Kd.R_drew)); exact Kd.R_mono HO150.out (fun _ hk => ⟨⟨hk.1, hk.2.1⟩, hk.2.2⟩)) hg hat)
                                    have n3_ := Aside0.mk (hb)
                                    have n4_ := Aside0.mk (ho)
                                    clear HO130
                                    clear HO140
                                    clear HO150
                                    clear HB
                                    clear HO147
                                    have HO130 := n0_
                                    have HO140 := n1_
                                    have HO150 := n2_
                                    have HB := n3_
                                    have HO153 := n4_
                                    clear n0_ n1_ n2_ n3_ n4_
                                    clear ho hb hg hat
                                    refine hK.out _ _ trivial (fun hHeld => ?_)
                                    clear hK K
                                    refine norm_ (a' := ?_) ?_ ?_
                                    rotate_left
                                    · show Act.put _ (some 96) _ = _
                                      simp only [Act.put, List.setIfInBounds_toArray, List.set_cons_zero, List.set_cons_succ, i64_w, i32_w]
                                      rfl
                                    refine one_ (i := 11) (N := some 100) #[true, true, true, true, true, true, true, true, true, true, true, true, false] rfl rfl (one_of HT_.out (by kernel_rfl)) (by decide) (fun K hK => ?_)
                                    refine Kd.R_append_rows_step k23 (w0 := w) w.heap.size (by rfl) (.tmp 96) (.tmp 99) 24 23 (.agg #[(.int .i64 0), (.string ⟨#[]⟩)]) 24 rfl Try.underlying24 info23 rfl (by decide) (by omega) v152 y151 y154 _ _ _ (fun k_ => some k_ ≠ (.slice Ao53 y128.length co53 : Value).ownBlock ∧ some k_ ≠ (v139 : Value).ownBlock ∧ some k_ ≠ (.slice Ao63 y148.length co63 : Value).ownBlock) (fun _ => False) rfl rfl ?aO ?aR (fun _ _ h => h) (fun _ h => h.elim) ?aF ?aB ?aS ?aL ?_
                                    (case aR => repeat (first | exact (Kd.C_below HR157.out HB.out) | (with_reducible refine Kd.C_alloc ?_ _) | (with_reducible refine Kd.C_drewN ?_ _) | (with_reducible refine Kd.C_drew ?_)))
                                    (case aB => exact (by repeat (first | (with_reducible first | exact HB.out | apply below_alloc | apply pw_below_drewN | apply below_drew1) | exact HB.out)))
                                    (case aF => exact (fun k_ hk => ⟨Kd.fresh' (Kd.R_lt (by (with_reducible repeat (first | apply Kd.R_alloc | apply Kd.R_drewN | apply Kd.R_drew)); exact HO130.out)) k_ hk, Kd.fresh' (Kd.R_lt (by (with_reducible repeat (first | apply Kd.R_alloc | apply Kd.R_drewN | apply Kd.R_drew)); exact HO140.out)) k_ hk, Kd.fresh' (Kd.R_lt (by (with_reducible repeat (first | apply Kd.R_alloc | apply Kd.R_drewN | apply Kd.R_drew)); exact HO150.out)) k_ hk⟩))
                                    (case aO => exact (by (with_reducible repeat (first | apply Kd.R_alloc | apply Kd.R_drewN | apply Kd.R_drew)); exact HO153.out))
                                    (case aS => exact (below_size (by repeat (first | (with_reducible first | exact HB.out | apply below_alloc | apply pw_below_drewN | apply below_drew1) | exact HB.out))))
                                    (case aL => have := LMc38.out; omega)
                                    intro v159 w64 ho hb hg hat
                                    rw [← Ny158.out] at ho
                                    have n0_ := Aside0.mk (Kd.R_after (ok := (fun k_ => some k_ ≠ (v139 : Value).ownBlock ∧ some k_ ≠ (.slice Ao63 y148.length co63 : Value).ownBlock)) (by (with_reducible repeat (first | apply Kd.R_alloc | apply Kd.R_drewN | apply Kd.R_drew)); exact HO130.out) hg hat)
                                    have n1_ := Aside0.mk (Kd.R_after (ok := (fun k_ => some k_ ≠ (.slice Ao53 y128.length co53 : Value).ownBlock ∧ some k_ ≠ (.slice Ao63 y148.length co63 : Value).ownBlock)) (by (with_reducible repeat (first | apply Kd.R_alloc | apply Kd.R_drewN | apply Kd.R_drew)); exact HO140.out) hg hat)
                                    have n2_ := Aside0.mk (Kd.R_after (ok := (fun k_ => some k_ ≠ (.slice Ao53 y128.length co53 : Value).ownBlock ∧ some k_ ≠ (v139 : Value).ownBlock)) (by (with_reducible repeat (first | apply Kd.R_alloc | apply Kd.R_drewN | apply Kd.R_drew)); exact HO150.out) hg hat)
                                    have n3_ := Aside0.mk (hb)
                                    have n4_ := Aside0.mk (ho)
                                    clear HO130
                                    clear HO140
                                    clear HO150
                                    clear HB
                                    clear HO153
                                    have HO130 := n0_
                                    have HO140 := n1_
                                    have HO150 := n2_
                                    have HB := n3_
                                    have HO160 := n4_
                                    clear n0_ n1_ n2_ n3_ n4_
                                    clear ho hb hg hat
                                    refine hK.out _ _ trivial (fun hHeld => ?_)
                                    clear hK K
                                    refine norm_ (a' := ?_) ?_ ?_
                                    rotate_left
                                    · show Act.put _ (some 100) _ = _
                                      simp only [Act.put, List.setIfInBounds_toArray, List.set_cons_zero, List.set_cons_succ, i64_w, i32_w]
                                      rfl
                                    refine pure_ (i := 12) (N := some 13) (v := ?_) (a' := ?_) #[true, true, true, true, true, true, true, true, true, true, true, true, true] rfl rfl (any_of HT_.out (by kernel_rfl)) (fun _ _ _ h => h) (Or.inl ⟨by rfl, ?_⟩) ?_ ?_
                                    rotate_left
                                    · intro w'
                                      go_simp
                                      with_reducible rfl
                                    rotate_left
                                    · simp only [Act.put, List.setIfInBounds_toArray, List.set_cons_zero, List.set_cons_succ, i64_w, i32_w]
                                      rfl
                                    refine done_ (done_of HT_.out (by kernel_rfl)) ?_
                                    obtain ⟨Ao65, co65, eo65⟩ := Kd.R_slice HO140.out
                                    subst eo65
                                    try go_wp2_with (first | ((with_reducible refine gate_callee (f := 19) rfl ?_); refine goesL_ (some 103) rfl rfl Try.func19 (by kernel_rfl) rfl #[.slice Ao65 y138.length co65, .int .i64 a1] rfl (by (try simp only [List.map_toArray, List.map_cons, List.map_nil]); first | done | rfl | (simp only [List.length_drop, List.length_take]; rfl)) ?_; (with_reducible refine (span_Need.calls _ _ y138 a1 t161 _ ?side1 ?side2 A39.out).mono ?_); (case side1 => repeat (first | exact (Kd.R_reads' HO140.out).2.2 | (with_reducible refine Kd.C_alloc ?_ _) | (with_reducible refine Kd.C_drewN ?_ _) | (with_reducible refine Kd.C_drew ?_))); (case side2 => exact (Kd.R_reads' HO140.out).2.1); rintro e w66 ⟨rfl, hb⟩; refine ⟨_, rfl, ?_⟩; have n0_ := Aside0.mk (Kd.R_below (by (with_reducible repeat (first | apply Kd.R_alloc | apply Kd.R_drewN | apply Kd.R_drew)); exact HO130.out) hb); have n1_ := Aside0.mk (Kd.R_below (by (with_reducible repeat (first | apply Kd.R_alloc | apply Kd.R_drewN | apply Kd.R_drew)); exact HO140.out) hb); have n2_ := Aside0.mk (Kd.R_below (by (with_reducible repeat (first | apply Kd.R_alloc | apply Kd.R_drewN | apply Kd.R_drew)); exact HO150.out) hb); have n3_ := Aside0.mk (Kd.R_below (by (with_reducible repeat (first | apply Kd.R_alloc | apply Kd.R_drewN | apply Kd.R_drew)); exact HO160.out) hb); have n4_ := Aside0.mk (below_step (by repeat (first | (with_reducible first | exact HB.out | apply below_alloc | apply pw_below_drewN | apply below_drew1) | exact HB.out)) hb); clear HO130; clear HO140; clear HO150; clear HO160; clear HB; have HO130 := n0_; have HO140 := n1_; have HO150 := n2_; have HO160 := n3_; have HB := n4_; clear n0_ n1_ n2_ n3_ n4_; (try clear hb); (try clear hb2); (try clear hk); (try clear hi); obtain ⟨Ao67, co67, eo67⟩ := Kd.R_slice HO160.out; subst eo67) | (go_at_call 19; (with_reducible refine (span_Need.calls _ _ y158 a1 t162 _ ?side1 ?side2 A42.out).mono ?_); (case side1 => repeat (first | exact (Kd.R_reads' HO160.out).2.2 | (with_reducible refine Kd.C_alloc ?_ _) | (with_reducible refine Kd.C_drewN ?_ _) | (with_reducible refine Kd.C_drew ?_))); (case side2 => exact (Kd.R_reads' HO160.out).2.1); rintro e w68 ⟨rfl, hb⟩; have n0_ := Aside0.mk (Kd.R_below (by (with_reducible repeat (first | apply Kd.R_alloc | apply Kd.R_drewN | apply Kd.R_drew)); exact HO130.out) hb); have n1_ := Aside0.mk (Kd.R_below (by (with_reducible repeat (first | apply Kd.R_alloc | apply Kd.R_drewN | apply Kd.R_drew)); exact HO140.out) hb); have n2_ := Aside0.mk (Kd.R_below (by (with_reducible repeat (first | apply Kd.R_alloc | apply Kd.R_drewN | apply Kd.R_drew)); exact HO150.out) hb); have n3_ := Aside0.mk (Kd.R_below (by (with_reducible repeat (first | apply Kd.R_alloc | apply Kd.R_drewN | apply Kd.R_drew)); exact HO160.out) hb); have n4_ := Aside0.mk (below_step (by repeat (first | (with_reducible first | exact HB.out | apply below_alloc | apply pw_below_drewN | apply below_drew1) | exact HB.out)) hb); clear HO130; clear HO140; clear HO150; clear HO160; clear HB; have HO130 := n0_; have HO140 := n1_; have HO150 := n2_; have HO160 := n3_; have HB := n4_; clear n0_ n1_ n2_ n3_ n4_; (try clear hb); (try clear hb2); (try clear hk); (try clear hi)) | (go_at_call 17; (with_reducible refine (span_Match.calls _ _ y158 a1 t163 _ ?side1 ?side2 A44.out).mono ?_); (case side1 => repeat (first | exact (Kd.R_reads' HO160.out).2.2 | (with_reducible refine Kd.C_alloc ?_ _) | (with_reducible refine Kd.C_drewN ?_ _) | (with_reducible refine Kd.C_drew ?_))); (case side2 => exact (Kd.R_reads' HO160.out).2.1); rintro e w69 ⟨rfl, hb⟩; have n0_ := Aside0.mk (Kd.R_below (by (with_reducible repeat (first | apply Kd.R_alloc | apply Kd.R_drewN | apply Kd.R_drew)); exact HO130.out) hb); have n1_ := Aside0.mk (Kd.R_below (by (with_reducible repeat (first | apply Kd.R_alloc | apply Kd.R_drewN | apply Kd.R_drew)); exact HO140.out) hb); have n2_ := Aside0.mk (Kd.R_below (by (with_reducible repeat (first | apply Kd.R_alloc | apply Kd.R_drewN | apply Kd.R_drew)); exact HO150.out) hb); have n3_ := Aside0.mk (Kd.R_below (by (with_reducible repeat (first | apply Kd.R_alloc | apply Kd.R_drewN | apply Kd.R_drew)); exact HO160.out) hb); have n4_ := Aside0.mk (below_step (by repeat (first | (with_reducible first | exact HB.out | apply below_alloc | apply pw_below_drewN | apply below_drew1) | exact HB.out)) hb); clear HO130; clear HO140; clear HO150; clear HO160; clear HB; have HO130 := n0_; have HO140 := n1_; have HO150 := n2_; have HO160 := n3_; have HB := n4_; clear n0_ n1_ n2_ n3_ n4_; (try clear hb); (try clear hb2); (try clear hk); (try clear hi)))
                                    go_ret
                                    exact ⟨by first | rfl | (simp [errW_none, errW_some] <;> rfl) | (simp [*, errW_none, errW_some] <;> rfl), by repeat (first | (with_reducible first | exact HB.out | apply below_alloc | apply pw_below_drewN | apply below_drew1) | exact HB.out)⟩
                                  · rw [if_neg c43] at H
                                    have c43b0 : (t162 == (-1)) = false := beq_eq_false_iff_ne.mpr c43
                                    have c43b1 : (t162 != (-1)) = true := bne_iff_ne.mpr c43
                                    by_cases c70 : t120 ≥ 0
                                    · rw [if_pos c70] at H
                                      have c70b0 : decide (0 ≤ t120) = true := decide_eq_true c70
                                      clear c70
                                      replace H := Option.bind_eq_some_iff.mp H
                                      obtain ⟨t164, A710, H⟩ := H
                                      replace H : (if t162 = (wrap64 (t120 + t164)) then ((span_Match.f y158 a1).bind fun t165 => (some (t165 == (wrap64 (t119 + 1))))) else (some false)) = some r := H
                                      have A71 := Aside0.mk A710
                                      clear A710
                                      by_cases c72 : t162 = (wrap64 (t120 + t164))
                                      · rw [if_pos c72] at H
                                        have c72b0 : (t162 == (wrap64 (t120 + t164))) = true := beq_iff_eq.mpr c72
                                        have c72b1 : (t162 != (wrap64 (t120 + t164))) = false := bne_eq_false_iff_eq.mpr c72
                                        clear c72
                                        replace H := Option.bind_eq_some_iff.mp H
                                        obtain ⟨t165, A730, H⟩ := H
                                        replace H : (some (t165 == (wrap64 (t119 + 1)))) = some r := H
                                        have A73 := Aside0.mk A730
                                        clear A730
                                        obtain rfl := Option.some.inj H
                                        (try (have hw_ : wrap64 (t120 + t164) = (t120 + t164) := (by unfold wrap64; omega); have c72b0u := c72b0; rw [hw_] at c72b0u))
                                        (try (have hw_ : wrap64 (t120 + t164) = (t120 + t164) := (by unfold wrap64; omega); have c72b1u := c72b1; rw [hw_] at c72b1u))
                                        try go_wp2
                                        have n0_ := Aside0.mk (below_drew1 HB.out)
                                        clear HB
                                        have HB := n0_
                                        clear n0_
                                        have q75 : (a2 : Int) ≤ ((l0.length : Int) : Int) := of_decide_eq_true (by first | (with_reducible assumption) | assumption)
                                        obtain ⟨i075, hi075, _, hsz75, _⟩ := info_parts info23
                                        have hroom75 : l0.length ≤ c0 := HC0.out
                                        have hC75 : Kd.C k23 _ A0 l0.length l0 := HR0.out
                                        (try clear hcut56); (try clear hcut56); have hcut75 := cut_to (P := Try.prog) 24 23 .i64 Try.underlying24 hi075 A0 l0.length c0 a2 (of_decide_eq_true (by first | (with_reducible assumption) | assumption)) q75 hroom75
                                        have hr75 := Kd.C_take (m := (a2 : Int).toNat) hC75 (by omega)
                                        have hy75 : y121.length = (a2 : Int).toNat := (by rw [Ny121.out, List.length_take]; omega)
                                        rw [← Ny121.out] at hr75
                                        rw [← hy75] at hcut75
                                        have HR124 := Aside0.mk hr75
                                        have HC124 := Aside0.mk (show y121.length ≤ c0 from by omega)
                                        clear hr75 hC75 hroom75 hi075 hsz75
                                        have KY75 := Aside0.mk hy75
                                        clear hy75
                                        replace q75 := eq_true q75
                                        have q76 : (a2 : Int) ≤ ((l0.length : Int) : Int) := of_decide_eq_true (by first | (with_reducible assumption) | assumption)
                                        obtain ⟨i076, hi076, _, hsz76, _⟩ := info_parts info23
                                        have hroom76 : l0.length ≤ c0 := HC0.out
                                        have hC76 : Kd.C k23 _ A0 l0.length l0 := HR0.out
                                        have q076 : (0 : Int) ≤ (a2 : Int) := of_decide_eq_true (by first | (with_reducible assumption) | assumption)
                                        (try clear hcut57); (try clear hcut57); have hcut76 := cut_from (P := Try.prog) 24 23 .i64 Try.underlying24 hi076 2 hsz76 A0 l0.length c0 a2 q076 q76
                                        have hr76 := Kd.C_drop (m := (a2 : Int).toNat) (c := c0) hC76 (by omega) hroom76
                                        obtain ⟨A76, hA76⟩ : ∃ A1, A1 = (if c0 = (a2 : Int).toNat then A0 else (A0 : Option Addr).map (·.add ((a2 : Int).toNat * 2))) := ⟨_, rfl⟩
                                        obtain ⟨c76, hc76⟩ : ∃ c1, c1 = c0 - (a2 : Int).toNat := ⟨_, rfl⟩
                                        have hy76 : y134.length = l0.length - (a2 : Int).toNat := (by rw [Ny134.out, List.length_drop] <;> omega)
                                        rw [show (l0).drop (a2 : Int).toNat = y134 from Ny134.out.symm] at hr76
                                        replace hr76 : Kd.C k23 _ A76 y134.length y134 := (by rw [hA76]; exact hr76)
                                        rw [← hy76, ← hA76, ← hc76] at hcut76
                                        have HR137 := Aside0.mk hr76
                                        have HC137 := Aside0.mk (show y134.length ≤ c76 from by rw [hy76, hc76]; exact Nat.sub_le_sub_right hroom76 _)
                                        clear hr76 hC76 hroom76 hi076 hsz76 hc76
                                        have KY76 := Aside0.mk hy76
                                        have KA76 := Aside0.mk hA76
                                        clear hy76 hA76
                                        replace q76 := eq_true q76
                                        refine start_ (n := 12) (S := fun w' => True) (ds := []) #[false, false, false, false, false, false, false, false, false, false, false, false] (by kernel_rfl) rfl rfl trivial (fun hHeld => ?_); refine with_tabW copperplatelaw17_SpanHard.tab8 copperplatelaw17_SpanHard.bits8 (fun HT_ HW_ => ?_)
                                        generalize wc.drew = w74 at HB HR124 HR137 hHeld ⊢
                                        refine pure_ (i := 0) (N := some 78) (v := ?_) (a' := ?_) #[true, false, false, false, false, false, false, false, false, false, false, false] rfl rfl (any_of HT_.out (by kernel_rfl)) (fun _ _ _ h => h) (Or.inl ⟨by rfl, ?_⟩) ?_ ?_
                                        rotate_left
                                        · intro w'
                                          go_simp
                                          with_reducible rfl
                                        rotate_left
                                        · simp only [Act.put, List.setIfInBounds_toArray, List.set_cons_zero, List.set_cons_succ, i64_w, i32_w]
                                          rfl
                                        refine pure_ (i := 1) (N := some 79) (v := ?_) (a' := ?_) #[true, true, false, false, false, false, false, false, false, false, false, false] rfl rfl (any_of HT_.out (by kernel_rfl)) (fun _ _ _ h => h) (Or.inl ⟨by rfl, ?_⟩) ?_ ?_
                                        rotate_left
                                        · intro w'
                                          go_simp
                                          with_reducible rfl
                                        rotate_left
                                        · simp only [Act.put, List.setIfInBounds_toArray, List.set_cons_zero, List.set_cons_succ, i64_w, i32_w]
                                          rfl
                                        refine pure_ (i := 2) (N := some 80) (v := ?_) (a' := ?_) #[true, true, true, false, false, false, false, false, false, false, false, false] rfl rfl (any_of HT_.out (by kernel_rfl)) (fun _ _ _ h => h) (Or.inl ⟨by rfl, ?_⟩) ?_ ?_
                                        rotate_left
                                        · intro w'
                                          go_simp
                                          with_reducible rfl
                                        rotate_left
                                        · simp only [Act.put, List.setIfInBounds_toArray, List.set_cons_zero, List.set_cons_succ, i64_w, i32_w]
                                          rfl
                                        refine pure_ (i := 4) (N := some 82) (v := ?_) (a' := ?_) #[true, true, true, false, true, false, false, false, false, false, false, false] rfl rfl (any_of HT_.out (by kernel_rfl)) (fun _ _ _ h => h) (Or.inl ⟨by rfl, ?_⟩) ?_ ?_
                                        rotate_left
                                        · intro w'
                                          go_simp
                                          with_reducible rfl
                                        rotate_left
                                        · simp only [Act.put, List.setIfInBounds_toArray, List.set_cons_zero, List.set_cons_succ, i64_w, i32_w]
                                          rfl
                                        refine pure_ (i := 7) (N := some 85) (v := ?_) (a' := ?_) #[true, true, true, false, true, false, false, true, false, false, false, false] rfl rfl (any_of HT_.out (by kernel_rfl)) (fun _ _ _ h => h) (Or.inl ⟨by rfl, ?_⟩) ?_ ?_
                                        rotate_left
                                        · intro w'
                                          go_simp
                                          with_reducible rfl
                                        rotate_left
                                        · simp only [Act.put, List.setIfInBounds_toArray, List.set_cons_zero, List.set_cons_succ, i64_w, i32_w]
                                          rfl
                                        refine pure_ (i := 8) (N := some 86) (v := ?_) (a' := ?_) #[true, true, true, false, true, false, false, true, true, false, false, false] rfl rfl (any_of HT_.out (by kernel_rfl)) (fun _ _ _ h => h) (Or.inl ⟨by rfl, ?_⟩) ?_ ?_
                                        rotate_left
                                        · intro w'
                                          go_simp
                                          with_reducible rfl
                                        rotate_left
                                        · simp only [Act.put, List.setIfInBounds_toArray, List.set_cons_zero, List.set_cons_succ, i64_w, i32_w]
                                          rfl
                                        refine pure_ (i := 9) (N := some 87) (v := ?_) (a' := ?_) #[true, true, true, false, true, false, false, true, true, true, false, false] rfl rfl (any_of HT_.out (by kernel_rfl)) (fun _ _ _ h => h) (Or.inl ⟨by rfl, ?_⟩) ?_ ?_
                                        rotate_left
                                        · intro w'
                                          go_simp
                                          with_reducible rfl
                                        rotate_left
                                        · simp only [Act.put, List.setIfInBounds_toArray, List.set_cons_zero, List.set_cons_succ, i64_w, i32_w]
                                          rfl
                                        refine join_ (σ := Value × Value) 3 #[true, true, true, true, true, true, false, true, true, true, false, false] (fun s_ => [(81, s_.1), (83, s_.2)]) (fun s_ w' => (Kd.R k23 23 w' w.heap.size (fun k_ => some k_ ≠ (s_.2 : Value).ownBlock) s_.1 y125) ∧ (Kd.R k23 23 w' w.heap.size (fun k_ => some k_ ≠ (s_.1 : Value).ownBlock) s_.2 y128) ∧ (Below w.heap.size w w')) ?_ ?_
                                        rotate_left
                                        · intro hCont
                                          refine two_ (i := 3) (j := 5) (Ni := some 81) (Nj := some 83) #[true, true, true, true, true, false, false, true, true, true, false, false] #[true, true, true, false, true, true, false, true, true, true, false, false] rfl rfl rfl rfl (two_of HT_.out (by kernel_rfl)) (by decide) (by decide) (fun K hK => ?_) (fun K hK => ?_)
                                          · skip
                                            refine Kd.R_append_rows_step k23 (w0 := w) w.heap.size rfl (.const (.slice none 0 0)) (.tmp 80) 24 23 (.agg #[(.int .i64 0), (.string ⟨#[]⟩)]) 24 rfl Try.underlying24 info23 rfl (by decide) (by omega) (.slice none 0 0) ([] : List (S23)) y121 _ _ _ (fun _ => True) (fun _ => False) rfl rfl ?aO ?aR (fun _ _ h => h) (fun _ h => h.elim) ?aF ?aB ?aS ?aL ?_
                                            (case aR => repeat (first | exact (Kd.C_below HR124.out HB.out) | (with_reducible refine Kd.C_alloc ?_ _) | (with_reducible refine Kd.C_drewN ?_ _) | (with_reducible refine Kd.C_drew ?_)))
                                            (case aB => exact (by repeat (first | (with_reducible first | exact HB.out | apply below_alloc | apply pw_below_drewN | apply below_drew1) | exact HB.out)))
                                            (case aF => exact (fun _ _ => trivial))
                                            (case aO => exact ((Kd.R_nil _ _ _ _ (fun _ => True))))
                                            (case aS => exact (below_size (by repeat (first | (with_reducible first | exact HB.out | apply below_alloc | apply pw_below_drewN | apply below_drew1) | exact HB.out))))
                                            (case aL => have := LMc27.out; omega)
                                            intro v126 w77 ho hb hg hat
                                            rw [← Ny125.out] at ho
                                            have n0_ := Aside0.mk (hb)
                                            have n1_ := Aside0.mk (ho)
                                            clear HB
                                            have HB := n0_
                                            have HO127 := n1_
                                            clear n0_ n1_
                                            clear ho hb hg hat
                                            refine hK.out _ _ trivial (fun hHeld => ?_)
                                            clear hK K
                                            refine norm_ (a' := ?_) ?_ ?_
                                            rotate_left
                                            · show Act.put _ (some 81) _ = _
                                              simp only [Act.put, List.setIfInBounds_toArray, List.set_cons_zero, List.set_cons_succ, i64_w, i32_w]
                                              rfl
                                            refine one_ (i := 5) (N := some 83) #[true, true, true, true, true, true, false, true, true, true, false, false] rfl rfl (one_of HT_.out (by kernel_rfl)) (by decide) (fun K hK => ?_)
                                            refine Kd.R_lit_step k23 _ 23 ?hg (N := 83) ?hd (xs := ([(⟨5, (⟨#[]⟩ : ByteArray)⟩ : S23)] : List (S23))) (inner := [.int .i64 5, .string (⟨#[]⟩ : ByteArray)]) (ok := fun _ => True) (okp := fun _ => True) ?hr ?hp (fun _ hk => hk) trivial (Below.refl _ _) (Nat.le_refl _) (by simp) ?_; (case hd => rfl); (case hg => rfl); (case hr => first | (go_simp; done) | (go_simp; rfl)); (case hp => exact (Reps.c2 (show Kd.M k23 _ _ _ (⟨5, (⟨#[]⟩ : ByteArray)⟩ : S23) [.int .i64 5, .string (⟨#[]⟩ : ByteArray)] from (k23_mkM _ _ _ (⟨5, (⟨#[]⟩ : ByteArray)⟩ : S23) )) (Reps.none _ _)))
                                            intro v129 w78 ho79 hb hg_ hnew_
                                            clear hg_ hnew_
                                            (first | rw [← Ny128.out] at ho79 | (simp only [Int.reduceToNat] at ho79; rw [← Ny128.out] at ho79))
                                            have n0_ := Aside0.mk (Kd.R_elder' (by (with_reducible repeat (first | apply Kd.R_alloc | apply Kd.R_drewN | apply Kd.R_drew)); exact HO127.out) (Kd.R_base ho79) hb)
                                            have n1_ := Aside0.mk (Kd.R_lower (Kd.R_new' ho79 (Kd.R_lt (by (with_reducible repeat (first | apply Kd.R_alloc | apply Kd.R_drewN | apply Kd.R_drew)); exact HO127.out))) (below_size (by repeat (first | (with_reducible first | exact HB.out | apply below_alloc | apply pw_below_drewN | apply below_drew1) | exact HB.out))))
                                            have n2_ := Aside0.mk (below_step (by repeat (first | (with_reducible first | exact HB.out | apply below_alloc | apply pw_below_drewN | apply below_drew1) | exact HB.out)) hb)
                                            clear HO127
                                            clear HB
                                            have HO127 := n0_
                                            have HO130 := n1_
                                            have HB := n2_
                                            clear n0_ n1_ n2_
                                            clear hb ho79
                                            refine hK.out _ _ trivial (fun hHeld => ?_)
                                            clear hK K
                                            refine norm_ (a' := ?_) ?_ ?_
                                            rotate_left
                                            · show Act.put _ (some 83) _ = _
                                              simp only [Act.put, List.setIfInBounds_toArray, List.set_cons_zero, List.set_cons_succ, i64_w, i32_w]
                                              rfl
                                            exact norm_ (by simp only [putAll, Act.put, List.setIfInBounds_toArray, List.set_cons_zero, List.set_cons_succ]) (hCont (v126, v129) _ ⟨(by (with_reducible repeat (first | apply Kd.R_alloc | apply Kd.R_drewN | apply Kd.R_drew)); exact Kd.R_mono HO127.out (fun _ hk => hk.2)), (by (with_reducible repeat (first | apply Kd.R_alloc | apply Kd.R_drewN | apply Kd.R_drew)); exact Kd.R_mono HO130.out (fun _ hk => hk.2)), (by repeat (first | (with_reducible first | exact HB.out | apply below_alloc | apply pw_below_drewN | apply below_drew1) | exact HB.out))⟩)
                                          · skip
                                            refine Kd.R_lit_step k23 _ 23 ?hg (N := 83) ?hd (xs := ([(⟨5, (⟨#[]⟩ : ByteArray)⟩ : S23)] : List (S23))) (inner := [.int .i64 5, .string (⟨#[]⟩ : ByteArray)]) (ok := fun _ => True) (okp := fun _ => True) ?hr ?hp (fun _ hk => hk) trivial (Below.refl _ _) (Nat.le_refl _) (by simp) ?_; (case hd => rfl); (case hg => rfl); (case hr => first | (go_simp; done) | (go_simp; rfl)); (case hp => exact (Reps.c2 (show Kd.M k23 _ _ _ (⟨5, (⟨#[]⟩ : ByteArray)⟩ : S23) [.int .i64 5, .string (⟨#[]⟩ : ByteArray)] from (k23_mkM _ _ _ (⟨5, (⟨#[]⟩ : ByteArray)⟩ : S23) )) (Reps.none _ _)))
                                            intro v129 w77 ho78 hb hg_ hnew_
                                            clear hg_ hnew_
                                            (first | rw [← Ny128.out] at ho78 | (simp only [Int.reduceToNat] at ho78; rw [← Ny128.out] at ho78))
                                            have n0_ := Aside0.mk (Kd.R_lower ho78 (below_size (by repeat (first | (with_reducible first | exact HB.out | apply below_alloc | apply pw_below_drewN | apply below_drew1) | exact HB.out))))
                                            have n1_ := Aside0.mk (below_step (by repeat (first | (with_reducible first | exact HB.out | apply below_alloc | apply pw_below_drewN | apply below_drew1) | exact HB.out)) hb)
                                            clear HB
                                            have HO130 := n0_
                                            have HB := n1_
                                            clear n0_ n1_
                                            clear hb ho78
                                            refine hK.out _ _ trivial (fun hHeld => ?_)
                                            clear hK K
                                            refine norm_ (a' := ?_) ?_ ?_
                                            rotate_left
                                            · show Act.put _ (some 83) _ = _
                                              simp only [Act.put, List.setIfInBounds_toArray, List.set_cons_zero, List.set_cons_succ, i64_w, i32_w]
                                              rfl
                                            refine one_ (i := 3) (N := some 81) #[true, true, true, true, true, true, false, true, true, true, false, false] rfl rfl (one_of HT_.out (by kernel_rfl)) (by decide) (fun K hK => ?_)
                                            refine Kd.R_append_rows_step k23 (w0 := w) w.heap.size rfl (.const (.slice none 0 0)) (.tmp 80) 24 23 (.agg #[(.int .i64 0), (.string ⟨#[]⟩)]) 24 rfl Try.underlying24 info23 rfl (by decide) (by omega) (.slice none 0 0) ([] : List (S23)) y121 _ _ _ (fun k_ => some k_ ≠ (v129 : Value).ownBlock) (fun _ => False) rfl rfl ?aO ?aR (fun _ _ h => h) (fun _ h => h.elim) ?aF ?aB ?aS ?aL ?_
                                            (case aR => repeat (first | exact (Kd.C_below HR124.out HB.out) | (with_reducible refine Kd.C_alloc ?_ _) | (with_reducible refine Kd.C_drewN ?_ _) | (with_reducible refine Kd.C_drew ?_)))
                                            (case aB => exact (by repeat (first | (with_reducible first | exact HB.out | apply below_alloc | apply pw_below_drewN | apply below_drew1) | exact HB.out)))
                                            (case aF => exact (fun k_ hk => Kd.fresh' (Kd.R_lt (by (with_reducible repeat (first | apply Kd.R_alloc | apply Kd.R_drewN | apply Kd.R_drew)); exact HO130.out)) k_ hk))
                                            (case aO => exact ((Kd.R_nil _ _ _ _ (fun k_ => some k_ ≠ (v129 : Value).ownBlock))))
                                            (case aS => exact (below_size (by repeat (first | (with_reducible first | exact HB.out | apply below_alloc | apply pw_below_drewN | apply below_drew1) | exact HB.out))))
                                            (case aL => have := LMc27.out; omega)
                                            intro v126 w79 ho hb hg hat
                                            rw [← Ny125.out] at ho
                                            have n0_ := Aside0.mk (Kd.R_after (Kd.R_apart_nil (by (with_reducible repeat (first | apply Kd.R_alloc | apply Kd.R_drewN | apply Kd.R_drew)); exact HO130.out)) hg hat)
                                            have n1_ := Aside0.mk (hb)
                                            have n2_ := Aside0.mk (ho)
                                            clear HO130
                                            clear HB
                                            have HO130 := n0_
                                            have HB := n1_
                                            have HO127 := n2_
                                            clear n0_ n1_ n2_
                                            clear ho hb hg hat
                                            refine hK.out _ _ trivial (fun hHeld => ?_)
                                            clear hK K
                                            refine norm_ (a' := ?_) ?_ ?_
                                            rotate_left
                                            · show Act.put _ (some 81) _ = _
                                              simp only [Act.put, List.setIfInBounds_toArray, List.set_cons_zero, List.set_cons_succ, i64_w, i32_w]
                                              rfl
                                            exact norm_ (by simp only [putAll, Act.put, List.setIfInBounds_toArray, List.set_cons_zero, List.set_cons_succ]) (hCont (v126, v129) _ ⟨(by (with_reducible repeat (first | apply Kd.R_alloc | apply Kd.R_drewN | apply Kd.R_drew)); exact HO127.out), (by (with_reducible repeat (first | apply Kd.R_alloc | apply Kd.R_drewN | apply Kd.R_drew)); exact Kd.R_mono HO130.out (fun _ hk => hk.2)), (by repeat (first | (with_reducible first | exact HB.out | apply below_alloc | apply pw_below_drewN | apply below_drew1) | exact HB.out))⟩)
                                        rintro ⟨v126, v129⟩ w80 ⟨h0_, h1_, h2_⟩
                                        have n0_ : Aside0 (Kd.R k23 23 w80 w.heap.size (fun k_ => some k_ ≠ (v129 : Value).ownBlock) v126 y125) := ⟨h0_⟩
                                        have n1_ : Aside0 (Kd.R k23 23 w80 w.heap.size (fun k_ => some k_ ≠ (v126 : Value).ownBlock) v129 y128) := ⟨h1_⟩
                                        have n2_ : Aside0 (Below w.heap.size w w80) := ⟨h2_⟩
                                        clear HB
                                        clear h0_ h1_ h2_
                                        have HO127 := n0_
                                        have HO130 := n1_
                                        have HB := n2_
                                        clear n0_ n1_ n2_
                                        have hHeld := trivial
                                        obtain ⟨Ao82, co82, eo82⟩ := Kd.R_slice HO130.out
                                        (first | subst eo82 | (injection eo82 with f1_ f2_ f3_; have f4_ := f1_.symm; have f5_ := f3_.symm; clear f1_ f2_ f3_; subst f4_; subst f5_))
                                        refine norm_ (a' := ?_) ?_ ?_
                                        rotate_left
                                        · simp only [putAll, Act.put, List.setIfInBounds_toArray, List.set_cons_zero, List.set_cons_succ]
                                          rfl
                                        refine one_ (i := 6) (N := some 84) #[true, true, true, true, true, true, true, true, true, true, false, false] rfl rfl (one_of HT_.out (by kernel_rfl)) (by decide) (fun K hK => ?_)
                                        refine Kd.R_append_rows_step k23 (w0 := w) w.heap.size (by rfl) (.tmp 81) (.tmp 83) 24 23 (.agg #[(.int .i64 0), (.string ⟨#[]⟩)]) 24 rfl Try.underlying24 info23 rfl (by decide) (by omega) v126 y125 y128 _ _ _ (fun k_ => some k_ ≠ (.slice Ao82 y128.length co82 : Value).ownBlock) (fun _ => False) rfl rfl ?aO ?aR (fun _ _ h => h) (fun _ h => h.elim) ?aF ?aB ?aS ?aL ?_
                                        (case aR => repeat (first | exact (Kd.R_reads' HO130.out).2.2 | (with_reducible refine Kd.C_alloc ?_ _) | (with_reducible refine Kd.C_drewN ?_ _) | (with_reducible refine Kd.C_drew ?_)))
                                        (case aB => exact (by repeat (first | (with_reducible first | exact HB.out | apply below_alloc | apply pw_below_drewN | apply below_drew1) | exact HB.out)))
                                        (case aF => exact (fun k_ hk => Kd.fresh' (Kd.R_lt (by (with_reducible repeat (first | apply Kd.R_alloc | apply Kd.R_drewN | apply Kd.R_drew)); exact HO130.out)) k_ hk))
                                        (case aO => exact (by (with_reducible repeat (first | apply Kd.R_alloc | apply Kd.R_drewN | apply Kd.R_drew)); exact HO127.out))
                                        (case aS => exact (below_size (by repeat (first | (with_reducible first | exact HB.out | apply below_alloc | apply pw_below_drewN | apply below_drew1) | exact HB.out))))
                                        (case aL => have := LMc28.out; omega)
                                        intro v132 w81 ho hb hg hat
                                        rw [← Ny131.out] at ho
                                        have n0_ := Aside0.mk (Kd.R_after (ok := (fun _ => True)) (by (with_reducible repeat (first | apply Kd.R_alloc | apply Kd.R_drewN | apply Kd.R_drew)); exact Kd.R_mono HO130.out (fun _ hk => ⟨trivial, hk⟩)) hg hat)
                                        have n1_ := Aside0.mk (hb)
                                        have n2_ := Aside0.mk (ho)
                                        clear HO130
                                        clear HB
                                        clear HO127
                                        have HO130 := n0_
                                        have HB := n1_
                                        have HO133 := n2_
                                        clear n0_ n1_ n2_
                                        clear ho hb hg hat
                                        refine hK.out _ _ trivial (fun hHeld => ?_)
                                        clear hK K
                                        refine norm_ (a' := ?_) ?_ ?_
                                        rotate_left
                                        · show Act.put _ (some 84) _ = _
                                          simp only [Act.put, List.setIfInBounds_toArray, List.set_cons_zero, List.set_cons_succ, i64_w, i32_w]
                                          rfl
                                        refine one_ (i := 10) (N := some 88) #[true, true, true, true, true, true, true, true, true, true, true, false] rfl rfl (one_of HT_.out (by kernel_rfl)) (by decide) (fun K hK => ?_)
                                        refine Kd.R_append_rows_step k23 (w0 := w) w.heap.size (by rfl) (.tmp 84) (.tmp 87) 24 23 (.agg #[(.int .i64 0), (.string ⟨#[]⟩)]) 24 rfl Try.underlying24 info23 rfl (by decide) (by omega) v132 y131 y134 _ _ _ (fun k_ => some k_ ≠ (.slice Ao82 y128.length co82 : Value).ownBlock) (fun _ => False) rfl rfl ?aO ?aR (fun _ _ h => h) (fun _ h => h.elim) ?aF ?aB ?aS ?aL ?_
                                        (case aR => repeat (first | exact (Kd.C_below HR137.out HB.out) | (with_reducible refine Kd.C_alloc ?_ _) | (with_reducible refine Kd.C_drewN ?_ _) | (with_reducible refine Kd.C_drew ?_)))
                                        (case aB => exact (by repeat (first | (with_reducible first | exact HB.out | apply below_alloc | apply pw_below_drewN | apply below_drew1) | exact HB.out)))
                                        (case aF => exact (fun k_ hk => Kd.fresh' (Kd.R_lt (by (with_reducible repeat (first | apply Kd.R_alloc | apply Kd.R_drewN | apply Kd.R_drew)); exact HO130.out)) k_ hk))
                                        (case aO => exact (by (with_reducible repeat (first | apply Kd.R_alloc | apply Kd.R_drewN | apply Kd.R_drew)); exact HO133.out))
                                        (case aS => exact (below_size (by repeat (first | (with_reducible first | exact HB.out | apply below_alloc | apply pw_below_drewN | apply below_drew1) | exact HB.out))))
                                        (case aL => have := LMc31.out; omega)
                                        intro v139 w83 ho hb hg hat
                                        rw [← Ny138.out] at ho
                                        have n0_ := Aside0.mk (Kd.R_after (ok := (fun _ => True)) (by (with_reducible repeat (first | apply Kd.R_alloc | apply Kd.R_drewN | apply Kd.R_drew)); exact HO130.out) hg hat)
                                        have n1_ := Aside0.mk (hb)
                                        have n2_ := Aside0.mk (ho)
                                        clear HO130
                                        clear HB
                                        clear HO133
                                        have HO130 := n0_
                                        have HB := n1_
                                        have HO140 := n2_
                                        clear n0_ n1_ n2_
                                        clear ho hb hg hat
                                        refine hK.out _ _ trivial (fun hHeld => ?_)
                                        clear hK K
                                        refine norm_ (a' := ?_) ?_ ?_
                                        rotate_left
                                        · show Act.put _ (some 88) _ = _
                                          simp only [Act.put, List.setIfInBounds_toArray, List.set_cons_zero, List.set_cons_succ, i64_w, i32_w]
                                          rfl
                                        refine pure_ (i := 11) (N := some 12) (v := ?_) (a' := ?_) #[true, true, true, true, true, true, true, true, true, true, true, true] rfl rfl (any_of HT_.out (by kernel_rfl)) (fun _ _ _ h => h) (Or.inl ⟨by rfl, ?_⟩) ?_ ?_
                                        rotate_left
                                        · intro w'
                                          go_simp
                                          with_reducible rfl
                                        rotate_left
                                        · simp only [Act.put, List.setIfInBounds_toArray, List.set_cons_zero, List.set_cons_succ, i64_w, i32_w]
                                          rfl
                                        refine done_ (done_of HT_.out (by kernel_rfl)) ?_
                                        try go_wp2
                                        have n0_ := Aside0.mk (Kd.R_drew HO130.out)
                                        have n1_ := Aside0.mk (Kd.R_drew HO140.out)
                                        have n2_ := Aside0.mk (below_drew1 HB.out)
                                        clear HO130
                                        clear HO140
                                        clear HB
                                        have HO130 := n0_
                                        have HO140 := n1_
                                        have HB := n2_
                                        clear n0_ n1_ n2_
                                        have q85 : (a2 : Int) ≤ ((l0.length : Int) : Int) := of_decide_eq_true (by first | (with_reducible assumption) | assumption)
                                        obtain ⟨i085, hi085, _, hsz85, _⟩ := info_parts info23
                                        have hroom85 : l0.length ≤ c0 := HC0.out
                                        have hC85 : Kd.C k23 _ A0 l0.length l0 := HR0.out
                                        (try clear hcut75); (try clear hcut75); have hcut85 := cut_to (P := Try.prog) 24 23 .i64 Try.underlying24 hi085 A0 l0.length c0 a2 (of_decide_eq_true (by first | (with_reducible assumption) | assumption)) q85 hroom85
                                        have hr85 := Kd.C_take (m := (a2 : Int).toNat) hC85 (by omega)
                                        have hy85 : y141.length = (a2 : Int).toNat := (by rw [Ny141.out, List.length_take]; omega)
                                        rw [← Ny141.out] at hr85
                                        rw [← hy85] at hcut85
                                        have HR144 := Aside0.mk hr85
                                        have HC144 := Aside0.mk (show y141.length ≤ c0 from by omega)
                                        clear hr85 hC85 hroom85 hi085 hsz85
                                        have KY85 := Aside0.mk hy85
                                        clear hy85
                                        replace q85 := eq_true q85
                                        have q86 : (a2 : Int) ≤ ((l0.length : Int) : Int) := of_decide_eq_true (by first | (with_reducible assumption) | assumption)
                                        obtain ⟨i086, hi086, _, hsz86, _⟩ := info_parts info23
                                        have hroom86 : l0.length ≤ c0 := HC0.out
                                        have hC86 : Kd.C k23 _ A0 l0.length l0 := HR0.out
                                        have q086 : (0 : Int) ≤ (a2 : Int) := of_decide_eq_true (by first | (with_reducible assumption) | assumption)
                                        (try clear hcut76); (try clear hcut76); have hcut86 := cut_from (P := Try.prog) 24 23 .i64 Try.underlying24 hi086 2 hsz86 A0 l0.length c0 a2 q086 q86
                                        have hr86 := Kd.C_drop (m := (a2 : Int).toNat) (c := c0) hC86 (by omega) hroom86
                                        obtain ⟨A86, hA86⟩ : ∃ A1, A1 = (if c0 = (a2 : Int).toNat then A0 else (A0 : Option Addr).map (·.add ((a2 : Int).toNat * 2))) := ⟨_, rfl⟩
                                        obtain ⟨c86, hc86⟩ : ∃ c1, c1 = c0 - (a2 : Int).toNat := ⟨_, rfl⟩
                                        have hy86 : y154.length = l0.length - (a2 : Int).toNat := (by rw [Ny154.out, List.length_drop] <;> omega)
                                        rw [show (l0).drop (a2 : Int).toNat = y154 from Ny154.out.symm] at hr86
                                        replace hr86 : Kd.C k23 _ A86 y154.length y154 := (by rw [hA86]; exact hr86)
                                        rw [← hy86, ← hA86, ← hc86] at hcut86
                                        have HR157 := Aside0.mk hr86
                                        have HC157 := Aside0.mk (show y154.length ≤ c86 from by rw [hy86, hc86]; exact Nat.sub_le_sub_right hroom86 _)
                                        clear hr86 hC86 hroom86 hi086 hsz86 hc86
                                        have KY86 := Aside0.mk hy86
                                        have KA86 := Aside0.mk hA86
                                        clear hy86 hA86
                                        replace q86 := eq_true q86
                                        refine start_ (n := 13) (S := fun w' => True) (ds := []) #[false, false, false, false, false, false, false, false, false, false, false, false, false] (by kernel_rfl) rfl rfl trivial (fun hHeld => ?_); refine with_tabW copperplatelaw17_SpanHard.tab9 copperplatelaw17_SpanHard.bits9 (fun HT_ HW_ => ?_)
                                        generalize w83.drew = w84 at HO130 HO140 HB HR144 HR157 hHeld ⊢
                                        refine pure_ (i := 0) (N := some 89) (v := ?_) (a' := ?_) #[true, false, false, false, false, false, false, false, false, false, false, false, false] rfl rfl (any_of HT_.out (by kernel_rfl)) (fun _ _ _ h => h) (Or.inl ⟨by rfl, ?_⟩) ?_ ?_
                                        rotate_left
                                        · intro w'
                                          go_simp
                                          with_reducible rfl
                                        rotate_left
                                        · simp only [Act.put, List.setIfInBounds_toArray, List.set_cons_zero, List.set_cons_succ, i64_w, i32_w]
                                          rfl
                                        refine pure_ (i := 1) (N := some 90) (v := ?_) (a' := ?_) #[true, true, false, false, false, false, false, false, false, false, false, false, false] rfl rfl (any_of HT_.out (by kernel_rfl)) (fun _ _ _ h => h) (Or.inl ⟨by rfl, ?_⟩) ?_ ?_
                                        rotate_left
                                        · intro w'
                                          go_simp
                                          with_reducible rfl
                                        rotate_left
                                        · simp only [Act.put, List.setIfInBounds_toArray, List.set_cons_zero, List.set_cons_succ, i64_w, i32_w]
                                          rfl
                                        refine pure_ (i := 2) (N := some 91) (v := ?_) (a' := ?_) #[true, true, true, false, false, false, false, false, false, false, false, false, false] rfl rfl (any_of HT_.out (by kernel_rfl)) (fun _ _ _ h => h) (Or.inl ⟨by rfl, ?_⟩) ?_ ?_
                                        rotate_left
                                        · intro w'
                                          go_simp
                                          with_reducible rfl
                                        rotate_left
                                        · simp only [Act.put, List.setIfInBounds_toArray, List.set_cons_zero, List.set_cons_succ, i64_w, i32_w]
                                          rfl
                                        refine pure_ (i := 4) (N := some 93) (v := ?_) (a' := ?_) #[true, true, true, false, true, false, false, false, false, false, false, false, false] rfl rfl (any_of HT_.out (by kernel_rfl)) (fun _ _ _ h => h) (Or.inl ⟨by rfl, ?_⟩) ?_ ?_
                                        rotate_left
                                        · intro w'
                                          go_simp
                                          with_reducible rfl
                                        rotate_left
                                        · simp only [Act.put, List.setIfInBounds_toArray, List.set_cons_zero, List.set_cons_succ, i64_w, i32_w]
                                          rfl
                                        refine pure_ (i := 5) (N := some 94) (v := ?_) (a' := ?_) #[true, true, true, false, true, true, false, false, false, false, false, false, false] rfl rfl (any_of HT_.out (by kernel_rfl)) (fun _ _ _ h => h) (Or.inl ⟨by rfl, ?_⟩) ?_ ?_
                                        rotate_left
                                        · intro w'
                                          go_simp
                                          with_reducible rfl
                                        rotate_left
                                        · simp only [Act.put, List.setIfInBounds_toArray, List.set_cons_zero, List.set_cons_succ, i64_w, i32_w]
                                          rfl
                                        refine pure_ (i := 8) (N := some 97) (v := ?_) (a' := ?_) #[true, true, true, false, true, true, false, false, true, false, false, false, false] rfl rfl (any_of HT_.out (by kernel_rfl)) (fun _ _ _ h => h) (Or.inl ⟨by rfl, ?_⟩) ?_ ?_
                                        rotate_left
                                        · intro w'
                                          go_simp
                                          with_reducible rfl
                                        rotate_left
                                        · simp only [Act.put, List.setIfInBounds_toArray, List.set_cons_zero, List.set_cons_succ, i64_w, i32_w]
                                          rfl
                                        refine pure_ (i := 9) (N := some 98) (v := ?_) (a' := ?_) #[true, true, true, false, true, true, false, false, true, true, false, false, false] rfl rfl (any_of HT_.out (by kernel_rfl)) (fun _ _ _ h => h) (Or.inl ⟨by rfl, ?_⟩) ?_ ?_
                                        rotate_left
                                        · intro w'
                                          go_simp
                                          with_reducible rfl
                                        rotate_left
                                        · simp only [Act.put, List.setIfInBounds_toArray, List.set_cons_zero, List.set_cons_succ, i64_w, i32_w]
                                          rfl
                                        refine pure_ (i := 10) (N := some 99) (v := ?_) (a' := ?_) #[true, true, true, false, true, true, false, false, true, true, true, false, false] rfl rfl (any_of HT_.out (by kernel_rfl)) (fun _ _ _ h => h) (Or.inl ⟨by rfl, ?_⟩) ?_ ?_
                                        rotate_left
                                        · intro w'
                                          go_simp
                                          with_reducible rfl
                                        rotate_left
                                        · simp only [Act.put, List.setIfInBounds_toArray, List.set_cons_zero, List.set_cons_succ, i64_w, i32_w]
                                          rfl
                                        refine join_ (σ := Value × Value) 3 #[true, true, true, true, true, true, true, false, true, true, true, false, false] (fun s_ => [(92, s_.1), (95, s_.2)]) (fun s_ w' => (Kd.R k23 23 w' w.heap.size (fun k_ => some k_ ≠ (v139 : Value).ownBlock ∧ some k_ ≠ (s_.1 : Value).ownBlock ∧ some k_ ≠ (s_.2 : Value).ownBlock) (.slice Ao82 y128.length co82) y128) ∧ (Kd.R k23 23 w' w.heap.size (fun k_ => some k_ ≠ (.slice Ao82 y128.length co82 : Value).ownBlock ∧ some k_ ≠ (s_.1 : Value).ownBlock ∧ some k_ ≠ (s_.2 : Value).ownBlock) v139 y138) ∧ (Kd.R k23 23 w' w.heap.size (fun k_ => some k_ ≠ (.slice Ao82 y128.length co82 : Value).ownBlock ∧ some k_ ≠ (v139 : Value).ownBlock ∧ some k_ ≠ (s_.2 : Value).ownBlock) s_.1 y145) ∧ (Kd.R k23 23 w' w.heap.size (fun k_ => some k_ ≠ (.slice Ao82 y128.length co82 : Value).ownBlock ∧ some k_ ≠ (v139 : Value).ownBlock ∧ some k_ ≠ (s_.1 : Value).ownBlock) s_.2 y148) ∧ (Below w.heap.size w w')) ?_ ?_
                                        rotate_left
                                        · intro hCont
                                          refine two_ (i := 3) (j := 6) (Ni := some 92) (Nj := some 95) #[true, true, true, true, true, true, false, false, true, true, true, false, false] #[true, true, true, false, true, true, true, false, true, true, true, false, false] rfl rfl rfl rfl (two_of HT_.out (by kernel_rfl)) (by decide) (by decide) (fun K hK => ?_) (fun K hK => ?_)
                                          · skip
                                            refine Kd.R_append_rows_step k23 (w0 := w) w.heap.size rfl (.const (.slice none 0 0)) (.tmp 91) 24 23 (.agg #[(.int .i64 0), (.string ⟨#[]⟩)]) 24 rfl Try.underlying24 info23 rfl (by decide) (by omega) (.slice none 0 0) ([] : List (S23)) y141 _ _ _ (fun k_ => some k_ ≠ (.slice Ao82 y128.length co82 : Value).ownBlock ∧ some k_ ≠ (v139 : Value).ownBlock) (fun _ => False) rfl rfl ?aO ?aR (fun _ _ h => h) (fun _ h => h.elim) ?aF ?aB ?aS ?aL ?_
                                            (case aR => repeat (first | exact (Kd.C_below HR144.out HB.out) | (with_reducible refine Kd.C_alloc ?_ _) | (with_reducible refine Kd.C_drewN ?_ _) | (with_reducible refine Kd.C_drew ?_)))
                                            (case aB => exact (by repeat (first | (with_reducible first | exact HB.out | apply below_alloc | apply pw_below_drewN | apply below_drew1) | exact HB.out)))
                                            (case aF => exact (fun k_ hk => ⟨Kd.fresh' (Kd.R_lt (by (with_reducible repeat (first | apply Kd.R_alloc | apply Kd.R_drewN | apply Kd.R_drew)); exact HO130.out)) k_ hk, Kd.fresh' (Kd.R_lt (by (with_reducible repeat (first | apply Kd.R_alloc | apply Kd.R_drewN | apply Kd.R_drew)); exact HO140.out)) k_ hk⟩))
                                            (case aO => exact ((Kd.R_nil _ _ _ _ (fun k_ => some k_ ≠ (.slice Ao82 y128.length co82 : Value).ownBlock ∧ some k_ ≠ (v139 : Value).ownBlock))))
                                            (case aS => exact (below_size (by repeat (first | (with_reducible first | exact HB.out | apply below_alloc | apply pw_below_drewN | apply below_drew1) | exact HB.out))))
                                            (case aL => have := LMc34.out; omega)
                                            intro v146 w87 ho hb hg hat
                                            rw [← Ny145.out] at ho
                                            have n0_ := Aside0.mk (Kd.R_after (Kd.R_apart_nil (by (with_reducible repeat (first | apply Kd.R_alloc | apply Kd.R_drewN | apply Kd.R_drew)); exact HO130.out)) hg hat)
                                            have n1_ := Aside0.mk (Kd.R_after (Kd.R_apart_nil (by (with_reducible repeat (first | apply Kd.R_alloc | apply Kd.R_drewN | apply Kd.R_drew)); exact HO140.out)) hg hat)
                                            have n2_ := Aside0.mk (hb)
                                            have n3_ := Aside0.mk (ho)
                                            clear HO130
                                            clear HO140
                                            clear HB
                                            have HO130 := n0_
                                            have HO140 := n1_
                                            have HB := n2_
                                            have HO147 := n3_
                                            clear n0_ n1_ n2_ n3_
                                            clear ho hb hg hat
                                            refine hK.out _ _ trivial (fun hHeld => ?_)
                                            clear hK K
                                            refine norm_ (a' := ?_) ?_ ?_
                                            rotate_left
                                            · show Act.put _ (some 92) _ = _
                                              simp only [Act.put, List.setIfInBounds_toArray, List.set_cons_zero, List.set_cons_succ, i64_w, i32_w]
                                              rfl
                                            refine one_ (i := 6) (N := some 95) #[true, true, true, true, true, true, true, false, true, true, true, false, false] rfl rfl (one_of HT_.out (by kernel_rfl)) (by decide) (fun K hK => ?_)
                                            refine Kd.R_lit_step k23 _ 23 ?hg (N := 95) ?hd (xs := ([(⟨0, a3⟩ : S23)] : List (S23))) (inner := [.int .i64 0, .string a3]) (ok := fun _ => True) (okp := fun _ => True) ?hr ?hp (fun _ hk => hk) trivial (Below.refl _ _) (Nat.le_refl _) (by simp) ?_; (case hd => rfl); (case hg => rfl); (case hr => first | (go_simp; done) | (go_simp; rfl)); (case hp => exact (Reps.c2 (show Kd.M k23 _ _ _ (⟨0, a3⟩ : S23) [.int .i64 0, .string a3] from (k23_mkM _ _ _ (⟨0, a3⟩ : S23) )) (Reps.none _ _)))
                                            intro v149 w88 ho89 hb hg_ hnew_
                                            clear hg_ hnew_
                                            (first | rw [← Ny148.out] at ho89 | (simp only [Int.reduceToNat] at ho89; rw [← Ny148.out] at ho89))
                                            have n0_ := Aside0.mk (Kd.R_elder' (by (with_reducible repeat (first | apply Kd.R_alloc | apply Kd.R_drewN | apply Kd.R_drew)); exact HO130.out) (Kd.R_base ho89) hb)
                                            have n1_ := Aside0.mk (Kd.R_elder' (by (with_reducible repeat (first | apply Kd.R_alloc | apply Kd.R_drewN | apply Kd.R_drew)); exact HO140.out) (Kd.R_base ho89) hb)
                                            have n2_ := Aside0.mk (Kd.R_elder' (by (with_reducible repeat (first | apply Kd.R_alloc | apply Kd.R_drewN | apply Kd.R_drew)); exact HO147.out) (Kd.R_base ho89) hb)
                                            have n3_ := Aside0.mk (Kd.R_lower (Kd.R_new' (Kd.R_new' (Kd.R_new' ho89 (Kd.R_lt (by (with_reducible repeat (first | apply Kd.R_alloc | apply Kd.R_drewN | apply Kd.R_drew)); exact HO130.out))) (Kd.R_lt (by (with_reducible repeat (first | apply Kd.R_alloc | apply Kd.R_drewN | apply Kd.R_drew)); exact HO140.out))) (Kd.R_lt (by (with_reducible repeat (first | apply Kd.R_alloc | apply Kd.R_drewN | apply Kd.R_drew)); exact HO147.out))) (below_size (by repeat (first | (with_reducible first | exact HB.out | apply below_alloc | apply pw_below_drewN | apply below_drew1) | exact HB.out))))
                                            have n4_ := Aside0.mk (below_step (by repeat (first | (with_reducible first | exact HB.out | apply below_alloc | apply pw_below_drewN | apply below_drew1) | exact HB.out)) hb)
                                            clear HO130
                                            clear HO140
                                            clear HO147
                                            clear HB
                                            have HO130 := n0_
                                            have HO140 := n1_
                                            have HO147 := n2_
                                            have HO150 := n3_
                                            have HB := n4_
                                            clear n0_ n1_ n2_ n3_ n4_
                                            clear hb ho89
                                            refine hK.out _ _ trivial (fun hHeld => ?_)
                                            clear hK K
                                            refine norm_ (a' := ?_) ?_ ?_
                                            rotate_left
                                            · show Act.put _ (some 95) _ = _
                                              simp only [Act.put, List.setIfInBounds_toArray, List.set_cons_zero, List.set_cons_succ, i64_w, i32_w]
                                              rfl
                                            exact norm_ (by simp only [putAll, Act.put, List.setIfInBounds_toArray, List.set_cons_zero, List.set_cons_succ]) (hCont (v146, v149) _ ⟨(by (with_reducible repeat (first | apply Kd.R_alloc | apply Kd.R_drewN | apply Kd.R_drew)); exact Kd.R_mono HO130.out (fun _ hk => ⟨hk.1.1.2, ⟨hk.1.2, hk.2⟩⟩)), (by (with_reducible repeat (first | apply Kd.R_alloc | apply Kd.R_drewN | apply Kd.R_drew)); exact Kd.R_mono HO140.out (fun _ hk => ⟨hk.1.1, ⟨hk.1.2, hk.2⟩⟩)), (by (with_reducible repeat (first | apply Kd.R_alloc | apply Kd.R_drewN | apply Kd.R_drew)); exact Kd.R_mono HO147.out (fun _ hk => ⟨hk.1.1, ⟨hk.1.2, hk.2⟩⟩)), (by (with_reducible repeat (first | apply Kd.R_alloc | apply Kd.R_drewN | apply Kd.R_drew)); exact Kd.R_mono HO150.out (fun _ hk => ⟨hk.1.1.2, ⟨hk.1.2, hk.2⟩⟩)), (by repeat (first | (with_reducible first | exact HB.out | apply below_alloc | apply pw_below_drewN | apply below_drew1) | exact HB.out))⟩)
                                          · skip
                                            refine Kd.R_lit_step k23 _ 23 ?hg (N := 95) ?hd (xs := ([(⟨0, a3⟩ : S23)] : List (S23))) (inner := [.int .i64 0, .string a3]) (ok := fun _ => True) (okp := fun _ => True) ?hr ?hp (fun _ hk => hk) trivial (Below.refl _ _) (Nat.le_refl _) (by simp) ?_; (case hd => rfl); (case hg => rfl); (case hr => first | (go_simp; done) | (go_simp; rfl)); (case hp => exact (Reps.c2 (show Kd.M k23 _ _ _ (⟨0, a3⟩ : S23) [.int .i64 0, .string a3] from (k23_mkM _ _ _ (⟨0, a3⟩ : S23) )) (Reps.none _ _)))
                                            intro v149 w87 ho88 hb hg_ hnew_
                                            clear hg_ hnew_
                                            (first | rw [← Ny148.out] at ho88 | (simp only [Int.reduceToNat] at ho88; rw [← Ny148.out] at ho88))
                                            have n0_ := Aside0.mk (Kd.R_elder' (by (with_reducible repeat (first | apply Kd.R_alloc | apply Kd.R_drewN | apply Kd.R_drew)); exact HO130.out) (Kd.R_base ho88) hb)
                                            have n1_ := Aside0.mk (Kd.R_elder' (by (with_reducible repeat (first | apply Kd.R_alloc | apply Kd.R_drewN | apply Kd.R_drew)); exact HO140.out) (Kd.R_base ho88) hb)
                                            have n2_ := Aside0.mk (Kd.R_lower (Kd.R_new' (Kd.R_new' ho88 (Kd.R_lt (by (with_reducible repeat (first | apply Kd.R_alloc | apply Kd.R_drewN | apply Kd.R_drew)); exact HO130.out))) (Kd.R_lt (by (with_reducible repeat (first | apply Kd.R_alloc | apply Kd.R_drewN | apply Kd.R_drew)); exact HO140.out))) (below_size (by repeat (first | (with_reducible first | exact HB.out | apply below_alloc | apply pw_below_drewN | apply below_drew1) | exact HB.out))))
                                            have n3_ := Aside0.mk (below_step (by repeat (first | (with_reducible first | exact HB.out | apply below_alloc | apply pw_below_drewN | apply below_drew1) | exact HB.out)) hb)
                                            clear HO130
                                            clear HO140
                                            clear HB
                                            have HO130 := n0_
                                            have HO140 := n1_
                                            have HO150 := n2_
                                            have HB := n3_
                                            clear n0_ n1_ n2_ n3_
                                            clear hb ho88
                                            refine hK.out _ _ trivial (fun hHeld => ?_)
                                            clear hK K
                                            refine norm_ (a' := ?_) ?_ ?_
                                            rotate_left
                                            · show Act.put _ (some 95) _ = _
                                              simp only [Act.put, List.setIfInBounds_toArray, List.set_cons_zero, List.set_cons_succ, i64_w, i32_w]
                                              rfl
                                            refine one_ (i := 3) (N := some 92) #[true, true, true, true, true, true, true, false, true, true, true, false, false] rfl rfl (one_of HT_.out (by kernel_rfl)) (by decide) (fun K hK => ?_)
                                            refine Kd.R_append_rows_step k23 (w0 := w) w.heap.size rfl (.const (.slice none 0 0)) (.tmp 91) 24 23 (.agg #[(.int .i64 0), (.string ⟨#[]⟩)]) 24 rfl Try.underlying24 info23 rfl (by decide) (by omega) (.slice none 0 0) ([] : List (S23)) y141 _ _ _ (fun k_ => some k_ ≠ (.slice Ao82 y128.length co82 : Value).ownBlock ∧ some k_ ≠ (v139 : Value).ownBlock ∧ some k_ ≠ (v149 : Value).ownBlock) (fun _ => False) rfl rfl ?aO ?aR (fun _ _ h => h) (fun _ h => h.elim) ?aF ?aB ?aS ?aL ?_
                                            (case aR => repeat (first | exact (Kd.C_below HR144.out HB.out) | (with_reducible refine Kd.C_alloc ?_ _) | (with_reducible refine Kd.C_drewN ?_ _) | (with_reducible refine Kd.C_drew ?_)))
                                            (case aB => exact (by repeat (first | (with_reducible first | exact HB.out | apply below_alloc | apply pw_below_drewN | apply below_drew1) | exact HB.out)))
                                            (case aF => exact (fun k_ hk => ⟨Kd.fresh' (Kd.R_lt (by (with_reducible repeat (first | apply Kd.R_alloc | apply Kd.R_drewN | apply Kd.R_drew)); exact HO130.out)) k_ hk, Kd.fresh' (Kd.R_lt (by (with_reducible repeat (first | apply Kd.R_alloc | apply Kd.R_drewN | apply Kd.R_drew)); exact HO140.out)) k_ hk, Kd.fresh' (Kd.R_lt (by (with_reducible repeat (first | apply Kd.R_alloc | apply Kd.R_drewN | apply Kd.R_drew)); exact HO150.out)) k_ hk⟩))
                                            (case aO => exact ((Kd.R_nil _ _ _ _ (fun k_ => some k_ ≠ (.slice Ao82 y128.length co82 : Value).ownBlock ∧ some k_ ≠ (v139 : Value).ownBlock ∧ some k_ ≠ (v149 : Value).ownBlock))))
                                            (case aS => exact (below_size (by repeat (first | (with_reducible first | exact HB.out | apply below_alloc | apply pw_below_drewN | apply below_drew1) | exact HB.out))))
                                            (case aL => have := LMc34.out; omega)
                                            intro v146 w89 ho hb hg hat
                                            rw [← Ny145.out] at ho
                                            have n0_ := Aside0.mk (Kd.R_after (Kd.R_apart_nil (by (with_reducible repeat (first | apply Kd.R_alloc | apply Kd.R_drewN | apply Kd.R_drew)); exact HO130.out)) hg hat)
                                            have n1_ := Aside0.mk (Kd.R_after (Kd.R_apart_nil (by (with_reducible repeat (first | apply Kd.R_alloc | apply Kd.R_drewN | apply Kd.R_drew)); exact HO140.out)) hg hat)
                                            have n2_ := Aside0.mk (Kd.R_after (Kd.R_apart_nil (by (with_reducible repeat (first | apply Kd.R_alloc | apply Kd.R_drewN | apply Kd.R_drew)); exact HO150.out)) hg hat)
                                            have n3_ := Aside0.mk (hb)
                                            have n4_ := Aside0.mk (ho)
                                            clear HO130
                                            clear HO140
                                            clear HO150
                                            clear HB
                                            have HO130 := n0_
                                            have HO140 := n1_
                                            have HO150 := n2_
                                            have HB := n3_
                                            have HO147 := n4_
                                            clear n0_ n1_ n2_ n3_ n4_
                                            clear ho hb hg hat
                                            refine hK.out _ _ trivial (fun hHeld => ?_)
                                            clear hK K
                                            refine norm_ (a' := ?_) ?_ ?_
                                            rotate_left
                                            · show Act.put _ (some 92) _ = _
                                              simp only [Act.put, List.setIfInBounds_toArray, List.set_cons_zero, List.set_cons_succ, i64_w, i32_w]
                                              rfl
                                            exact norm_ (by simp only [putAll, Act.put, List.setIfInBounds_toArray, List.set_cons_zero, List.set_cons_succ]) (hCont (v146, v149) _ ⟨(by (with_reducible repeat (first | apply Kd.R_alloc | apply Kd.R_drewN | apply Kd.R_drew)); exact Kd.R_mono HO130.out (fun _ hk => ⟨hk.1.1.2, ⟨hk.2, hk.1.2⟩⟩)), (by (with_reducible repeat (first | apply Kd.R_alloc | apply Kd.R_drewN | apply Kd.R_drew)); exact Kd.R_mono HO140.out (fun _ hk => ⟨hk.1.1, ⟨hk.2, hk.1.2⟩⟩)), (by (with_reducible repeat (first | apply Kd.R_alloc | apply Kd.R_drewN | apply Kd.R_drew)); exact HO147.out), (by (with_reducible repeat (first | apply Kd.R_alloc | apply Kd.R_drewN | apply Kd.R_drew)); exact Kd.R_mono HO150.out (fun _ hk => ⟨hk.1.1.2, ⟨hk.1.2, hk.2⟩⟩)), (by repeat (first | (with_reducible first | exact HB.out | apply below_alloc | apply pw_below_drewN | apply below_drew1) | exact HB.out))⟩)
                                        rintro ⟨v146, v149⟩ w90 ⟨h0_, h1_, h2_, h3_, h4_⟩
                                        have n0_ : Aside0 (Kd.R k23 23 w90 w.heap.size (fun k_ => some k_ ≠ (v139 : Value).ownBlock ∧ some k_ ≠ (v146 : Value).ownBlock ∧ some k_ ≠ (v149 : Value).ownBlock) (.slice Ao82 y128.length co82) y128) := ⟨h0_⟩
                                        have n1_ : Aside0 (Kd.R k23 23 w90 w.heap.size (fun k_ => some k_ ≠ (.slice Ao82 y128.length co82 : Value).ownBlock ∧ some k_ ≠ (v146 : Value).ownBlock ∧ some k_ ≠ (v149 : Value).ownBlock) v139 y138) := ⟨h1_⟩
                                        have n2_ : Aside0 (Kd.R k23 23 w90 w.heap.size (fun k_ => some k_ ≠ (.slice Ao82 y128.length co82 : Value).ownBlock ∧ some k_ ≠ (v139 : Value).ownBlock ∧ some k_ ≠ (v149 : Value).ownBlock) v146 y145) := ⟨h2_⟩
                                        have n3_ : Aside0 (Kd.R k23 23 w90 w.heap.size (fun k_ => some k_ ≠ (.slice Ao82 y128.length co82 : Value).ownBlock ∧ some k_ ≠ (v139 : Value).ownBlock ∧ some k_ ≠ (v146 : Value).ownBlock) v149 y148) := ⟨h3_⟩
                                        have n4_ : Aside0 (Below w.heap.size w w90) := ⟨h4_⟩
                                        clear HO130
                                        clear HO140
                                        clear HB
                                        clear h0_ h1_ h2_ h3_ h4_
                                        have HO130 := n0_
                                        have HO140 := n1_
                                        have HO147 := n2_
                                        have HO150 := n3_
                                        have HB := n4_
                                        clear n0_ n1_ n2_ n3_ n4_
                                        have hHeld := trivial
                                        obtain ⟨Ao92, co92, eo92⟩ := Kd.R_slice HO150.out
                                        (first | subst eo92 | (injection eo92 with f1_ f2_ f3_; have f4_ := f1_.symm; have f5_ := f3_.symm; clear f1_ f2_ f3_; subst f4_; subst f5_))
                                        refine norm_ (a' := ?_) ?_ ?_
                                        rotate_left
                                        · simp only [putAll, Act.put, List.setIfInBounds_toArray, List.set_cons_zero, List.set_cons_succ]
                                          rfl
                                        refine one_ (i := 7) (N := some 96) #[true, true, true, true, true, true, true, true, true, true, true, false, false] rfl rfl (one_of HT_.out (by kernel_rfl)) (by decide) (fun K hK => ?_)
                                        refine Kd.R_append_rows_step k23 (w0 := w) w.heap.size (by rfl) (.tmp 92) (.tmp 95) 24 23 (.agg #[(.int .i64 0), (.string ⟨#[]⟩)]) 24 rfl Try.underlying24 info23 rfl (by decide) (by omega) v146 y145 y148 _ _ _ (fun k_ => some k_ ≠ (.slice Ao82 y128.length co82 : Value).ownBlock ∧ some k_ ≠ (v139 : Value).ownBlock ∧ some k_ ≠ (.slice Ao92 y148.length co92 : Value).ownBlock) (fun _ => False) rfl rfl ?aO ?aR (fun _ _ h => h) (fun _ h => h.elim) ?aF ?aB ?aS ?aL ?_
                                        (case aR => repeat (first | exact (Kd.R_reads' HO150.out).2.2 | (with_reducible refine Kd.C_alloc ?_ _) | (with_reducible refine Kd.C_drewN ?_ _) | (with_reducible refine Kd.C_drew ?_)))
                                        (case aB => exact (by repeat (first | (with_reducible first | exact HB.out | apply below_alloc | apply pw_below_drewN | apply below_drew1) | exact HB.out)))
                                        (case aF => exact (fun k_ hk => ⟨Kd.fresh' (Kd.R_lt (by (with_reducible repeat (first | apply Kd.R_alloc | apply Kd.R_drewN | apply Kd.R_drew)); exact HO130.out)) k_ hk, Kd.fresh' (Kd.R_lt (by (with_reducible repeat (first | apply Kd.R_alloc | apply Kd.R_drewN | apply Kd.R_drew)); exact HO140.out)) k_ hk, Kd.fresh' (Kd.R_lt (by (with_reducible repeat (first | apply Kd.R_alloc | apply Kd.R_drewN | apply Kd.R_drew)); exact HO150.out)) k_ hk⟩))
                                        (case aO => exact (by (with_reducible repeat (first | apply Kd.R_alloc | apply Kd.R_drewN | apply Kd.R_drew)); exact HO147.out))
                                        (case aS => exact (below_size (by repeat (first | (with_reducible first | exact HB.out | apply below_alloc | apply pw_below_drewN | apply below_drew1) | exact HB.out))))
                                        (case aL => have := LMc35.out; omega)
                                        intro v152 w91 ho hb hg hat
                                        rw [← Ny151.out] at ho
                                        have n0_ := Aside0.mk (Kd.R_after (ok := (fun k_ => some k_ ≠ (v139 : Value).ownBlock ∧ some k_ ≠ (.slice Ao92 y148.length co92 : Value).ownBlock)) (by (with_reducible repeat (first | apply Kd.R_alloc | apply Kd.R_drewN | apply Kd.R_drew)); exact Kd.R_mono HO130.out (fun _ hk => ⟨⟨hk.1, hk.2.2⟩, hk.2.1⟩)) hg hat)
                                        have n1_ := Aside0.mk (Kd.R_after (ok := (fun k_ => some k_ ≠ (.slice Ao82 y128.length co82 : Value).ownBlock ∧ some k_ ≠ (.slice Ao92 y148.length co92 : Value).ownBlock)) (by (with_reducible repeat (first | apply Kd.R_alloc | apply Kd.R_drewN | apply Kd.R_drew)); exact Kd.R_mono HO140.out (fun _ hk => ⟨⟨hk.1, hk.2.2⟩, hk.2.1⟩)) hg hat)
                                        have n2_ := Aside0.mk (Kd.R_after (ok := (fun k_ => some k_ ≠ (.slice Ao82 y128.length co82 : Value).ownBlock ∧ some k_ ≠ (v139 : Value).ownBlock)) (by (with_reducible repeat (first | apply Kd.R_alloc | apply Kd.R_drewN | apply Kd.R_drew)); exact Kd.R_mono HO150.out (fun _ hk => ⟨⟨hk.1, hk.2.1⟩, hk.2.2⟩)) hg hat)
                                        have n3_ := Aside0.mk (hb)
                                        have n4_ := Aside0.mk (ho)
                                        clear HO130
                                        clear HO140
                                        clear HO150
                                        clear HB
                                        clear HO147
                                        have HO130 := n0_
                                        have HO140 := n1_
                                        have HO150 := n2_
                                        have HB := n3_
                                        have HO153 := n4_
                                        clear n0_ n1_ n2_ n3_ n4_
                                        clear ho hb hg hat
                                        refine hK.out _ _ trivial (fun hHeld => ?_)
                                        clear hK K
                                        refine norm_ (a' := ?_) ?_ ?_
                                        rotate_left
                                        · show Act.put _ (some 96) _ = _
                                          simp only [Act.put, List.setIfInBounds_toArray, List.set_cons_zero, List.set_cons_succ, i64_w, i32_w]
                                          rfl
                                        refine one_ (i := 11) (N := some 100) #[true, true, true, true, true, true, true, true, true, true, true, true, false] rfl rfl (one_of HT_.out (by kernel_rfl)) (by decide) (fun K hK => ?_)
                                        refine Kd.R_append_rows_step k23 (w0 := w) w.heap.size (by rfl) (.tmp 96) (.tmp 99) 24 23 (.agg #[(.int .i64 0), (.string ⟨#[]⟩)]) 24 rfl Try.underlying24 info23 rfl (by decide) (by omega) v152 y151 y154 _ _ _ (fun k_ => some k_ ≠ (.slice Ao82 y128.length co82 : Value).ownBlock ∧ some k_ ≠ (v139 : Value).ownBlock ∧ some k_ ≠ (.slice Ao92 y148.length co92 : Value).ownBlock) (fun _ => False) rfl rfl ?aO ?aR (fun _ _ h => h) (fun _ h => h.elim) ?aF ?aB ?aS ?aL ?_
                                        (case aR => repeat (first | exact (Kd.C_below HR157.out HB.out) | (with_reducible refine Kd.C_alloc ?_ _) | (with_reducible refine Kd.C_drewN ?_ _) | (with_reducible refine Kd.C_drew ?_)))
                                        (case aB => exact (by repeat (first | (with_reducible first | exact HB.out | apply below_alloc | apply pw_below_drewN | apply below_drew1) | exact HB.out)))
                                        (case aF => exact (fun k_ hk => ⟨Kd.fresh' (Kd.R_lt (by (with_reducible repeat (first | apply Kd.R_alloc | apply Kd.R_drewN | apply Kd.R_drew)); exact HO130.out)) k_ hk, Kd.fresh' (Kd.R_lt (by (with_reducible repeat (first | apply Kd.R_alloc | apply Kd.R_drewN | apply Kd.R_drew)); exact HO140.out)) k_ hk, Kd.fresh' (Kd.R_lt (by (with_reducible repeat (first | apply Kd.R_alloc | apply Kd.R_drewN | apply Kd.R_drew)); exact HO150.out)) k_ hk⟩))
                                        (case aO => exact (by (with_reducible repeat (first | apply Kd.R_alloc | apply Kd.R_drewN | apply Kd.R_drew)); exact HO153.out))
                                        (case aS => exact (below_size (by repeat (first | (with_reducible first | exact HB.out | apply below_alloc | apply pw_below_drewN | apply below_drew1) | exact HB.out))))
                                        (case aL => have := LMc38.out; omega)
                                        intro v159 w93 ho hb hg hat
                                        rw [← Ny158.out] at ho
                                        have n0_ := Aside0.mk (Kd.R_after (ok := (fun k_ => some k_ ≠ (v139 : Value).ownBlock ∧ some k_ ≠ (.slice Ao92 y148.length co92 : Value).ownBlock)) (by (with_reducible repeat (first | apply Kd.R_alloc | apply Kd.R_drewN | apply Kd.R_drew)); exact HO130.out) hg hat)
                                        have n1_ := Aside0.mk (Kd.R_after (ok := (fun k_ => some k_ ≠ (.slice Ao82 y128.length co82 : Value).ownBlock ∧ some k_ ≠ (.slice Ao92 y148.length co92 : Value).ownBlock)) (by (with_reducible repeat (first | apply Kd.R_alloc | apply Kd.R_drewN | apply Kd.R_drew)); exact HO140.out) hg hat)
                                        have n2_ := Aside0.mk (Kd.R_after (ok := (fun k_ => some k_ ≠ (.slice Ao82 y128.length co82 : Value).ownBlock ∧ some k_ ≠ (v139 : Value).ownBlock)) (by (with_reducible repeat (first | apply Kd.R_alloc | apply Kd.R_drewN | apply Kd.R_drew)); exact HO150.out) hg hat)
                                        have n3_ := Aside0.mk (hb)
                                        have n4_ := Aside0.mk (ho)
                                        clear HO130
                                        clear HO140
                                        clear HO150
                                        clear HB
                                        clear HO153
                                        have HO130 := n0_
                                        have HO140 := n1_
                                        have HO150 := n2_
                                        have HB := n3_
                                        have HO160 := n4_
                                        clear n0_ n1_ n2_ n3_ n4_
                                        clear ho hb hg hat
                                        refine hK.out _ _ trivial (fun hHeld => ?_)
                                        clear hK K
                                        refine norm_ (a' := ?_) ?_ ?_
                                        rotate_left
                                        · show Act.put _ (some 100) _ = _
                                          simp only [Act.put, List.setIfInBounds_toArray, List.set_cons_zero, List.set_cons_succ, i64_w, i32_w]
                                          rfl
                                        refine pure_ (i := 12) (N := some 13) (v := ?_) (a' := ?_) #[true, true, true, true, true, true, true, true, true, true, true, true, true] rfl rfl (any_of HT_.out (by kernel_rfl)) (fun _ _ _ h => h) (Or.inl ⟨by rfl, ?_⟩) ?_ ?_
                                        rotate_left
                                        · intro w'
                                          go_simp
                                          with_reducible rfl
                                        rotate_left
                                        · simp only [Act.put, List.setIfInBounds_toArray, List.set_cons_zero, List.set_cons_succ, i64_w, i32_w]
                                          rfl
                                        refine done_ (done_of HT_.out (by kernel_rfl)) ?_
                                        obtain ⟨Ao94, co94, eo94⟩ := Kd.R_slice HO140.out
                                        subst eo94
                                        try go_wp2_with (first | ((with_reducible refine gate_callee (f := 19) rfl ?_); refine goesL_ (some 103) rfl rfl Try.func19 (by kernel_rfl) rfl #[.slice Ao94 y138.length co94, .int .i64 a1] rfl (by (try simp only [List.map_toArray, List.map_cons, List.map_nil]); first | done | rfl | (simp only [List.length_drop, List.length_take]; rfl)) ?_; (with_reducible refine (span_Need.calls _ _ y138 a1 t161 _ ?side1 ?side2 A39.out).mono ?_); (case side1 => repeat (first | exact (Kd.R_reads' HO140.out).2.2 | (with_reducible refine Kd.C_alloc ?_ _) | (with_reducible refine Kd.C_drewN ?_ _) | (with_reducible refine Kd.C_drew ?_))); (case side2 => exact (Kd.R_reads' HO140.out).2.1); rintro e w95 ⟨rfl, hb⟩; refine ⟨_, rfl, ?_⟩; have n0_ := Aside0.mk (Kd.R_below (by (with_reducible repeat (first | apply Kd.R_alloc | apply Kd.R_drewN | apply Kd.R_drew)); exact HO130.out) hb); have n1_ := Aside0.mk (Kd.R_below (by (with_reducible repeat (first | apply Kd.R_alloc | apply Kd.R_drewN | apply Kd.R_drew)); exact HO140.out) hb); have n2_ := Aside0.mk (Kd.R_below (by (with_reducible repeat (first | apply Kd.R_alloc | apply Kd.R_drewN | apply Kd.R_drew)); exact HO150.out) hb); have n3_ := Aside0.mk (Kd.R_below (by (with_reducible repeat (first | apply Kd.R_alloc | apply Kd.R_drewN | apply Kd.R_drew)); exact HO160.out) hb); have n4_ := Aside0.mk (below_step (by repeat (first | (with_reducible first | exact HB.out | apply below_alloc | apply pw_below_drewN | apply below_drew1) | exact HB.out)) hb); clear HO130; clear HO140; clear HO150; clear HO160; clear HB; have HO130 := n0_; have HO140 := n1_; have HO150 := n2_; have HO160 := n3_; have HB := n4_; clear n0_ n1_ n2_ n3_ n4_; (try clear hb); (try clear hb2); (try clear hk); (try clear hi); obtain ⟨Ao96, co96, eo96⟩ := Kd.R_slice HO160.out; subst eo96) | (go_at_call 19; (with_reducible refine (span_Need.calls _ _ y158 a1 t162 _ ?side1 ?side2 A42.out).mono ?_); (case side1 => repeat (first | exact (Kd.R_reads' HO160.out).2.2 | (with_reducible refine Kd.C_alloc ?_ _) | (with_reducible refine Kd.C_drewN ?_ _) | (with_reducible refine Kd.C_drew ?_))); (case side2 => exact (Kd.R_reads' HO160.out).2.1); rintro e w97 ⟨rfl, hb⟩; have n0_ := Aside0.mk (Kd.R_below (by (with_reducible repeat (first | apply Kd.R_alloc | apply Kd.R_drewN | apply Kd.R_drew)); exact HO130.out) hb); have n1_ := Aside0.mk (Kd.R_below (by (with_reducible repeat (first | apply Kd.R_alloc | apply Kd.R_drewN | apply Kd.R_drew)); exact HO140.out) hb); have n2_ := Aside0.mk (Kd.R_below (by (with_reducible repeat (first | apply Kd.R_alloc | apply Kd.R_drewN | apply Kd.R_drew)); exact HO150.out) hb); have n3_ := Aside0.mk (Kd.R_below (by (with_reducible repeat (first | apply Kd.R_alloc | apply Kd.R_drewN | apply Kd.R_drew)); exact HO160.out) hb); have n4_ := Aside0.mk (below_step (by repeat (first | (with_reducible first | exact HB.out | apply below_alloc | apply pw_below_drewN | apply below_drew1) | exact HB.out)) hb); clear HO130; clear HO140; clear HO150; clear HO160; clear HB; have HO130 := n0_; have HO140 := n1_; have HO150 := n2_; have HO160 := n3_; have HB := n4_; clear n0_ n1_ n2_ n3_ n4_; (try clear hb); (try clear hb2); (try clear hk); (try clear hi)) | (go_at_call 14; (with_reducible refine (span_Cols.calls kj15 a3 t164 _ A71.out).mono ?_); rintro e w98 ⟨rfl, hb⟩; have n0_ := Aside0.mk (Kd.R_below (by (with_reducible repeat (first | apply Kd.R_alloc | apply Kd.R_drewN | apply Kd.R_drew)); exact HO130.out) hb); have n1_ := Aside0.mk (Kd.R_below (by (with_reducible repeat (first | apply Kd.R_alloc | apply Kd.R_drewN | apply Kd.R_drew)); exact HO140.out) hb); have n2_ := Aside0.mk (Kd.R_below (by (with_reducible repeat (first | apply Kd.R_alloc | apply Kd.R_drewN | apply Kd.R_drew)); exact HO150.out) hb); have n3_ := Aside0.mk (Kd.R_below (by (with_reducible repeat (first | apply Kd.R_alloc | apply Kd.R_drewN | apply Kd.R_drew)); exact HO160.out) hb); have n4_ := Aside0.mk (below_step (by repeat (first | (with_reducible first | exact HB.out | apply below_alloc | apply pw_below_drewN | apply below_drew1) | exact HB.out)) hb); clear HO130; clear HO140; clear HO150; clear HO160; clear HB; have HO130 := n0_; have HO140 := n1_; have HO150 := n2_; have HO160 := n3_; have HB := n4_; clear n0_ n1_ n2_ n3_ n4_; (try clear hb); (try clear hb2); (try clear hk); (try clear hi)) | (go_at_call 17; (with_reducible refine (span_Match.calls _ _ y158 a1 t165 _ ?side1 ?side2 A73.out).mono ?_); (case side1 => repeat (first | exact (Kd.R_reads' HO160.out).2.2 | (with_reducible refine Kd.C_alloc ?_ _) | (with_reducible refine Kd.C_drewN ?_ _) | (with_reducible refine Kd.C_drew ?_))); (case side2 => exact (Kd.R_reads' HO160.out).2.1); rintro e w99 ⟨rfl, hb⟩; have n0_ := Aside0.mk (Kd.R_below (by (with_reducible repeat (first | apply Kd.R_alloc | apply Kd.R_drewN | apply Kd.R_drew)); exact HO130.out) hb); have n1_ := Aside0.mk (Kd.R_below (by (with_reducible repeat (first | apply Kd.R_alloc | apply Kd.R_drewN | apply Kd.R_drew)); exact HO140.out) hb); have n2_ := Aside0.mk (Kd.R_below (by (with_reducible repeat (first | apply Kd.R_alloc | apply Kd.R_drewN | apply Kd.R_drew)); exact HO150.out) hb); have n3_ := Aside0.mk (Kd.R_below (by (with_reducible repeat (first | apply Kd.R_alloc | apply Kd.R_drewN | apply Kd.R_drew)); exact HO160.out) hb); have n4_ := Aside0.mk (below_step (by repeat (first | (with_reducible first | exact HB.out | apply below_alloc | apply pw_below_drewN | apply below_drew1) | exact HB.out)) hb); clear HO130; clear HO140; clear HO150; clear HO160; clear HB; have HO130 := n0_; have HO140 := n1_; have HO150 := n2_; have HO160 := n3_; have HB := n4_; clear n0_ n1_ n2_ n3_ n4_; (try clear hb); (try clear hb2); (try clear hk); (try clear hi)))
                                        go_ret
                                        exact ⟨by first | rfl | (simp [errW_none, errW_some] <;> rfl) | (simp [*, errW_none, errW_some] <;> rfl), by repeat (first | (with_reducible first | exact HB.out | apply below_alloc | apply pw_below_drewN | apply below_drew1) | exact HB.out)⟩
                                      · rw [if_neg c72] at H
                                        have c72b0 : (t162 == (wrap64 (t120 + t164))) = false := beq_eq_false_iff_ne.mpr c72
                                        have c72b1 : (t162 != (wrap64 (t120 + t164))) = true := bne_iff_ne.mpr c72
                                        exact absurd H (by have h_ := HT_.out; subst h_; decide)
                                    · rw [if_neg c70] at H
                                      have c70b0 : decide (0 ≤ t120) = false := decide_eq_false c70
                                      clear c70
                                      exact absurd H (by have h_ := HT_.out; subst h_; decide)
                                · rw [if_neg c41] at H
                                  have c41b0 : (t120 == (-1)) = false := beq_eq_false_iff_ne.mpr c41
                                  have c41b1 : (t120 != (-1)) = true := bne_iff_ne.mpr c41
                                  by_cases c100 : t120 ≥ 0
                                  · rw [if_pos c100] at H
                                    have c100b0 : decide (0 ≤ t120) = true := decide_eq_true c100
                                    clear c100
                                    replace H := Option.bind_eq_some_iff.mp H
                                    obtain ⟨t166, A1010, H⟩ := H
                                    replace H : ((span_Cols.f kj15 a3).bind fun t167 => (if t166 = (wrap64 (t120 + t167)) then ((span_Match.f y158 a1).bind fun t168 => (some (t168 == (wrap64 (t119 + 1))))) else (some false))) = some r := H
                                    have A101 := Aside0.mk A1010
                                    clear A1010
                                    replace H := Option.bind_eq_some_iff.mp H
                                    obtain ⟨t167, A1020, H⟩ := H
                                    replace H : (if t166 = (wrap64 (t120 + t167)) then ((span_Match.f y158 a1).bind fun t168 => (some (t168 == (wrap64 (t119 + 1))))) else (some false)) = some r := H
                                    have A102 := Aside0.mk A1020
                                    clear A1020
                                    by_cases c103 : t166 = (wrap64 (t120 + t167))
                                    · rw [if_pos c103] at H
                                      have c103b0 : (t166 == (wrap64 (t120 + t167))) = true := beq_iff_eq.mpr c103
                                      have c103b1 : (t166 != (wrap64 (t120 + t167))) = false := bne_eq_false_iff_eq.mpr c103
                                      clear c103
                                      replace H := Option.bind_eq_some_iff.mp H
                                      obtain ⟨t168, A1040, H⟩ := H
                                      replace H : (some (t168 == (wrap64 (t119 + 1)))) = some r := H
                                      have A104 := Aside0.mk A1040
                                      clear A1040
                                      obtain rfl := Option.some.inj H
                                      (try (have hw_ : wrap64 (t120 + t167) = (t120 + t167) := (by unfold wrap64; omega); have c103b0u := c103b0; rw [hw_] at c103b0u))
                                      (try (have hw_ : wrap64 (t120 + t167) = (t120 + t167) := (by unfold wrap64; omega); have c103b1u := c103b1; rw [hw_] at c103b1u))
                                      try go_wp2
                                      have n0_ := Aside0.mk (below_drew1 HB.out)
                                      clear HB
                                      have HB := n0_
                                      clear n0_
                                      have q106 : (a2 : Int) ≤ ((l0.length : Int) : Int) := of_decide_eq_true (by first | (with_reducible assumption) | assumption)
                                      obtain ⟨i0106, hi0106, _, hsz106, _⟩ := info_parts info23
                                      have hroom106 : l0.length ≤ c0 := HC0.out
                                      have hC106 : Kd.C k23 _ A0 l0.length l0 := HR0.out
                                      (try clear hcut85); (try clear hcut85); have hcut106 := cut_to (P := Try.prog) 24 23 .i64 Try.underlying24 hi0106 A0 l0.length c0 a2 (of_decide_eq_true (by first | (with_reducible assumption) | assumption)) q106 hroom106
                                      have hr106 := Kd.C_take (m := (a2 : Int).toNat) hC106 (by omega)
                                      have hy106 : y121.length = (a2 : Int).toNat := (by rw [Ny121.out, List.length_take]; omega)
                                      rw [← Ny121.out] at hr106
                                      rw [← hy106] at hcut106
                                      have HR124 := Aside0.mk hr106
                                      have HC124 := Aside0.mk (show y121.length ≤ c0 from by omega)
                                      clear hr106 hC106 hroom106 hi0106 hsz106
                                      have KY106 := Aside0.mk hy106
                                      clear hy106
                                      replace q106 := eq_true q106
                                      have q107 : (a2 : Int) ≤ ((l0.length : Int) : Int) := of_decide_eq_true (by first | (with_reducible assumption) | assumption)
                                      obtain ⟨i0107, hi0107, _, hsz107, _⟩ := info_parts info23
                                      have hroom107 : l0.length ≤ c0 := HC0.out
                                      have hC107 : Kd.C k23 _ A0 l0.length l0 := HR0.out
                                      have q0107 : (0 : Int) ≤ (a2 : Int) := of_decide_eq_true (by first | (with_reducible assumption) | assumption)
                                      (try clear hcut86); (try clear hcut86); have hcut107 := cut_from (P := Try.prog) 24 23 .i64 Try.underlying24 hi0107 2 hsz107 A0 l0.length c0 a2 q0107 q107
                                      have hr107 := Kd.C_drop (m := (a2 : Int).toNat) (c := c0) hC107 (by omega) hroom107
                                      obtain ⟨A107, hA107⟩ : ∃ A1, A1 = (if c0 = (a2 : Int).toNat then A0 else (A0 : Option Addr).map (·.add ((a2 : Int).toNat * 2))) := ⟨_, rfl⟩
                                      obtain ⟨c107, hc107⟩ : ∃ c1, c1 = c0 - (a2 : Int).toNat := ⟨_, rfl⟩
                                      have hy107 : y134.length = l0.length - (a2 : Int).toNat := (by rw [Ny134.out, List.length_drop] <;> omega)
                                      rw [show (l0).drop (a2 : Int).toNat = y134 from Ny134.out.symm] at hr107
                                      replace hr107 : Kd.C k23 _ A107 y134.length y134 := (by rw [hA107]; exact hr107)
                                      rw [← hy107, ← hA107, ← hc107] at hcut107
                                      have HR137 := Aside0.mk hr107
                                      have HC137 := Aside0.mk (show y134.length ≤ c107 from by rw [hy107, hc107]; exact Nat.sub_le_sub_right hroom107 _)
                                      clear hr107 hC107 hroom107 hi0107 hsz107 hc107
                                      have KY107 := Aside0.mk hy107
                                      have KA107 := Aside0.mk hA107
                                      clear hy107 hA107
                                      replace q107 := eq_true q107
                                      refine start_ (n := 12) (S := fun w' => True) (ds := []) #[false, false, false, false, false, false, false, false, false, false, false, false] (by kernel_rfl) rfl rfl trivial (fun hHeld => ?_); refine with_tabW copperplatelaw17_SpanHard.tab8 copperplatelaw17_SpanHard.bits8 (fun HT_ HW_ => ?_)
                                      generalize wc.drew = w105 at HB HR124 HR137 hHeld ⊢
                                      refine pure_ (i := 0) (N := some 78) (v := ?_) (a' := ?_) #[true, false, false, false, false, false, false, false, false, false, false, false] rfl rfl (any_of HT_.out (by kernel_rfl)) (fun _ _ _ h => h) (Or.inl ⟨by rfl, ?_⟩) ?_ ?_
                                      rotate_left
                                      · intro w'
                                        go_simp
                                        with_reducible rfl
                                      rotate_left
                                      · simp only [Act.put, List.setIfInBounds_toArray, List.set_cons_zero, List.set_cons_succ, i64_w, i32_w]
                                        rfl
                                      refine pure_ (i := 1) (N := some 79) (v := ?_) (a' := ?_) #[true, true, false, false, false, false, false, false, false, false, false, false] rfl rfl (any_of HT_.out (by kernel_rfl)) (fun _ _ _ h => h) (Or.inl ⟨by rfl, ?_⟩) ?_ ?_
                                      rotate_left
                                      · intro w'
                                        go_simp
                                        with_reducible rfl
                                      rotate_left
                                      · simp only [Act.put, List.setIfInBounds_toArray, List.set_cons_zero, List.set_cons_succ, i64_w, i32_w]
                                        rfl
                                      refine pure_ (i := 2) (N := some 80) (v := ?_) (a' := ?_) #[true, true, true, false, false, false, false, false, false, false, false, false] rfl rfl (any_of HT_.out (by kernel_rfl)) (fun _ _ _ h => h) (Or.inl ⟨by rfl, ?_⟩) ?_ ?_
                                      rotate_left
                                      · intro w'
                                        go_simp
                                        with_reducible rfl
                                      rotate_left
                                      · simp only [Act.put, List.setIfInBounds_toArray, List.set_cons_zero, List.set_cons_succ, i64_w, i32_w]
                                        rfl
                                      refine pure_ (i := 4) (N := some 82) (v := ?_) (a' := ?_) #[true, true, true, false, true, false, false, false, false, false, false, false] rfl rfl (any_of HT_.out (by kernel_rfl)) (fun _ _ _ h => h) (Or.inl ⟨by rfl, ?_⟩) ?_ ?_
                                      rotate_left
                                      · intro w'
                                        go_simp
                                        with_reducible rfl
                                      rotate_left
                                      · simp only [Act.put, List.setIfInBounds_toArray, List.set_cons_zero, List.set_cons_succ, i64_w, i32_w]
                                        rfl
                                      refine pure_ (i := 7) (N := some 85) (v := ?_) (a' := ?_) #[true, true, true, false, true, false, false, true, false, false, false, false] rfl rfl (any_of HT_.out (by kernel_rfl)) (fun _ _ _ h => h) (Or.inl ⟨by rfl, ?_⟩) ?_ ?_
                                      rotate_left
                                      · intro w'
                                        go_simp
                                        with_reducible rfl
                                      rotate_left
                                      · simp only [Act.put, List.setIfInBounds_toArray, List.set_cons_zero, List.set_cons_succ, i64_w, i32_w]
                                        rfl
                                      refine pure_ (i := 8) (N := some 86) (v := ?_) (a' := ?_) #[true, true, true, false, true, false, false, true, true, false, false, false] rfl rfl (any_of HT_.out (by kernel_rfl)) (fun _ _ _ h => h) (Or.inl ⟨by rfl, ?_⟩) ?_ ?_
                                      rotate_left
                                      · intro w'
                                        go_simp
                                        with_reducible rfl
                                      rotate_left
                                      · simp only [Act.put, List.setIfInBounds_toArray, List.set_cons_zero, List.set_cons_succ, i64_w, i32_w]
                                        rfl
                                      refine pure_ (i := 9) (N := some 87) (v := ?_) (a' := ?_) #[true, true, true, false, true, false, false, true, true, true, false, false] rfl rfl (any_of HT_.out (by kernel_rfl)) (fun _ _ _ h => h) (Or.inl ⟨by rfl, ?_⟩) ?_ ?_
                                      rotate_left
                                      · intro w'
                                        go_simp
                                        with_reducible rfl
                                      rotate_left
                                      · simp only [Act.put, List.setIfInBounds_toArray, List.set_cons_zero, List.set_cons_succ, i64_w, i32_w]
                                        rfl
                                      refine join_ (σ := Value × Value) 3 #[true, true, true, true, true, true, false, true, true, true, false, false] (fun s_ => [(81, s_.1), (83, s_.2)]) (fun s_ w' => (Kd.R k23 23 w' w.heap.size (fun k_ => some k_ ≠ (s_.2 : Value).ownBlock) s_.1 y125) ∧ (Kd.R k23 23 w' w.heap.size (fun k_ => some k_ ≠ (s_.1 : Value).ownBlock) s_.2 y128) ∧ (Below w.heap.size w w')) ?_ ?_
                                      rotate_left
                                      · intro hCont
                                        refine two_ (i := 3) (j := 5) (Ni := some 81) (Nj := some 83) #[true, true, true, true, true, false, false, true, true, true, false, false] #[true, true, true, false, true, true, false, true, true, true, false, false] rfl rfl rfl rfl (two_of HT_.out (by kernel_rfl)) (by decide) (by decide) (fun K hK => ?_) (fun K hK => ?_)
                                        · skip
                                          refine Kd.R_append_rows_step k23 (w0 := w) w.heap.size rfl (.const (.slice none 0 0)) (.tmp 80) 24 23 (.agg #[(.int .i64 0), (.string ⟨#[]⟩)]) 24 rfl Try.underlying24 info23 rfl (by decide) (by omega) (.slice none 0 0) ([] : List (S23)) y121 _ _ _ (fun _ => True) (fun _ => False) rfl rfl ?aO ?aR (fun _ _ h => h) (fun _ h => h.elim) ?aF ?aB ?aS ?aL ?_
                                          (case aR => repeat (first | exact (Kd.C_below HR124.out HB.out) | (with_reducible refine Kd.C_alloc ?_ _) | (with_reducible refine Kd.C_drewN ?_ _) | (with_reducible refine Kd.C_drew ?_)))
                                          (case aB => exact (by repeat (first | (with_reducible first | exact HB.out | apply below_alloc | apply pw_below_drewN | apply below_drew1) | exact HB.out)))
                                          (case aF => exact (fun _ _ => trivial))
                                          (case aO => exact ((Kd.R_nil _ _ _ _ (fun _ => True))))
                                          (case aS => exact (below_size (by repeat (first | (with_reducible first | exact HB.out | apply below_alloc | apply pw_below_drewN | apply below_drew1) | exact HB.out))))
                                          (case aL => have := LMc27.out; omega)
                                          intro v126 w108 ho hb hg hat
                                          rw [← Ny125.out] at ho
                                          have n0_ := Aside0.mk (hb)
                                          have n1_ := Aside0.mk (ho)
                                          clear HB
                                          have HB := n0_
                                          have HO127 := n1_
                                          clear n0_ n1_
                                          clear ho hb hg hat
                                          refine hK.out _ _ trivial (fun hHeld => ?_)
                                          clear hK K
                                          refine norm_ (a' := ?_) ?_ ?_
                                          rotate_left
                                          · show Act.put _ (some 81) _ = _
                                            simp only [Act.put, List.setIfInBounds_toArray, List.set_cons_zero, List.set_cons_succ, i64_w, i32_w]
                                            rfl
                                          refine one_ (i := 5) (N := some 83) #[true, true, true, true, true, true, false, true, true, true, false, false] rfl rfl (one_of HT_.out (by kernel_rfl)) (by decide) (fun K hK => ?_)
                                          refine Kd.R_lit_step k23 _ 23 ?hg (N := 83) ?hd (xs := ([(⟨5, (⟨#[]⟩ : ByteArray)⟩ : S23)] : List (S23))) (inner := [.int .i64 5, .string (⟨#[]⟩ : ByteArray)]) (ok := fun _ => True) (okp := fun _ => True) ?hr ?hp (fun _ hk => hk) trivial (Below.refl _ _) (Nat.le_refl _) (by simp) ?_; (case hd => rfl); (case hg => rfl); (case hr => first | (go_simp; done) | (go_simp; rfl)); (case hp => exact (Reps.c2 (show Kd.M k23 _ _ _ (⟨5, (⟨#[]⟩ : ByteArray)⟩ : S23) [.int .i64 5, .string (⟨#[]⟩ : ByteArray)] from (k23_mkM _ _ _ (⟨5, (⟨#[]⟩ : ByteArray)⟩ : S23) )) (Reps.none _ _)))
                                          intro v129 w109 ho110 hb hg_ hnew_
                                          clear hg_ hnew_
                                          (first | rw [← Ny128.out] at ho110 | (simp only [Int.reduceToNat] at ho110; rw [← Ny128.out] at ho110))
                                          have n0_ := Aside0.mk (Kd.R_elder' (by (with_reducible repeat (first | apply Kd.R_alloc | apply Kd.R_drewN | apply Kd.R_drew)); exact HO127.out) (Kd.R_base ho110) hb)
                                          have n1_ := Aside0.mk (Kd.R_lower (Kd.R_new' ho110 (Kd.R_lt (by (with_reducible repeat (first | apply Kd.R_alloc | apply Kd.R_drewN | apply Kd.R_drew)); exact HO127.out))) (below_size (by repeat (first | (with_reducible first | exact HB.out | apply below_alloc | apply pw_below_drewN | apply below_drew1) | exact HB.out))))
                                          have n2_ := Aside0.mk (below_step (by repeat (first | (with_reducible first | exact HB.out | apply below_alloc | apply pw_below_drewN | apply below_drew1) | exact HB.out)) hb)
                                          clear HO127
                                          clear HB
                                          have HO127 := n0_
                                          have HO130 := n1_
                                          have HB := n2_
                                          clear n0_ n1_ n2_
                                          clear hb ho110
                                          refine hK.out _ _ trivial (fun hHeld => ?_)
                                          clear hK K
                                          refine norm_ (a' := ?_) ?_ ?_
                                          rotate_left
                                          · show Act.put _ (some 83) _ = _
                                            simp only [Act.put, List.setIfInBounds_toArray, List.set_cons_zero, List.set_cons_succ, i64_w, i32_w]
                                            rfl
                                          exact norm_ (by simp only [putAll, Act.put, List.setIfInBounds_toArray, List.set_cons_zero, List.set_cons_succ]) (hCont (v126, v129) _ ⟨(by (with_reducible repeat (first | apply Kd.R_alloc | apply Kd.R_drewN | apply Kd.R_drew)); exact Kd.R_mono HO127.out (fun _ hk => hk.2)), (by (with_reducible repeat (first | apply Kd.R_alloc | apply Kd.R_drewN | apply Kd.R_drew)); exact Kd.R_mono HO130.out (fun _ hk => hk.2)), (by repeat (first | (with_reducible first | exact HB.out | apply below_alloc | apply pw_below_drewN | apply below_drew1) | exact HB.out))⟩)
                                        · skip
                                          refine Kd.R_lit_step k23 _ 23 ?hg (N := 83) ?hd (xs := ([(⟨5, (⟨#[]⟩ : ByteArray)⟩ : S23)] : List (S23))) (inner := [.int .i64 5, .string (⟨#[]⟩ : ByteArray)]) (ok := fun _ => True) (okp := fun _ => True) ?hr ?hp (fun _ hk => hk) trivial (Below.refl _ _) (Nat.le_refl _) (by simp) ?_; (case hd => rfl); (case hg => rfl); (case hr => first | (go_simp; done) | (go_simp; rfl)); (case hp => exact (Reps.c2 (show Kd.M k23 _ _ _ (⟨5, (⟨#[]⟩ : ByteArray)⟩ : S23) [.int .i64 5, .string (⟨#[]⟩ : ByteArray)] from (k23_mkM _ _ _ (⟨5, (⟨#[]⟩ : ByteArray)⟩ : S23) )) (Reps.none _ _)))
                                          intro v129 w108 ho109 hb hg_ hnew_
                                          clear hg_ hnew_
                                          (first | rw [← Ny128.out] at ho109 | (simp only [Int.reduceToNat] at ho109; rw [← Ny128.out] at ho109))
                                          have n0_ := Aside0.mk (Kd.R_lower ho109 (below_size (by repeat (first | (with_reducible first | exact HB.out | apply below_alloc | apply pw_below_drewN | apply below_drew1) | exact HB.out))))
                                          have n1_ := Aside0.mk (below_step (by repeat (first | (with_reducible first | exact HB.out | apply below_alloc | apply pw_below_drewN | apply below_drew1) | exact HB.out)) hb)
                                          clear HB
                                          have HO130 := n0_
                                          have HB := n1_
                                          clear n0_ n1_
                                          clear hb ho109
                                          refine hK.out _ _ trivial (fun hHeld => ?_)
                                          clear hK K
                                          refine norm_ (a' := ?_) ?_ ?_
                                          rotate_left
                                          · show Act.put _ (some 83) _ = _
                                            simp only [Act.put, List.setIfInBounds_toArray, List.set_cons_zero, List.set_cons_succ, i64_w, i32_w]
                                            rfl
                                          refine one_ (i := 3) (N := some 81) #[true, true, true, true, true, true, false, true, true, true, false, false] rfl rfl (one_of HT_.out (by kernel_rfl)) (by decide) (fun K hK => ?_)
                                          refine Kd.R_append_rows_step k23 (w0 := w) w.heap.size rfl (.const (.slice none 0 0)) (.tmp 80) 24 23 (.agg #[(.int .i64 0), (.string ⟨#[]⟩)]) 24 rfl Try.underlying24 info23 rfl (by decide) (by omega) (.slice none 0 0) ([] : List (S23)) y121 _ _ _ (fun k_ => some k_ ≠ (v129 : Value).ownBlock) (fun _ => False) rfl rfl ?aO ?aR (fun _ _ h => h) (fun _ h => h.elim) ?aF ?aB ?aS ?aL ?_
                                          (case aR => repeat (first | exact (Kd.C_below HR124.out HB.out) | (with_reducible refine Kd.C_alloc ?_ _) | (with_reducible refine Kd.C_drewN ?_ _) | (with_reducible refine Kd.C_drew ?_)))
                                          (case aB => exact (by repeat (first | (with_reducible first | exact HB.out | apply below_alloc | apply pw_below_drewN | apply below_drew1) | exact HB.out)))
                                          (case aF => exact (fun k_ hk => Kd.fresh' (Kd.R_lt (by (with_reducible repeat (first | apply Kd.R_alloc | apply Kd.R_drewN | apply Kd.R_drew)); exact HO130.out)) k_ hk))
                                          (case aO => exact ((Kd.R_nil _ _ _ _ (fun k_ => some k_ ≠ (v129 : Value).ownBlock))))
                                          (case aS => exact (below_size (by repeat (first | (with_reducible first | exact HB.out | apply below_alloc | apply pw_below_drewN | apply below_drew1) | exact HB.out))))
                                          (case aL => have := LMc27.out; omega)
                                          intro v126 w110 ho hb hg hat
                                          rw [← Ny125.out] at ho
                                          have n0_ := Aside0.mk (Kd.R_after (Kd.R_apart_nil (by (with_reducible repeat (first | apply Kd.R_alloc | apply Kd.R_drewN | apply Kd.R_drew)); exact HO130.out)) hg hat)
                                          have n1_ := Aside0.mk (hb)
                                          have n2_ := Aside0.mk (ho)
                                          clear HO130
                                          clear HB
                                          have HO130 := n0_
                                          have HB := n1_
                                          have HO127 := n2_
                                          clear n0_ n1_ n2_
                                          clear ho hb hg hat
                                          refine hK.out _ _ trivial (fun hHeld => ?_)
                                          clear hK K
                                          refine norm_ (a' := ?_) ?_ ?_
                                          rotate_left
                                          · show Act.put _ (some 81) _ = _
                                            simp only [Act.put, List.setIfInBounds_toArray, List.set_cons_zero, List.set_cons_succ, i64_w, i32_w]
                                            rfl
                                          exact norm_ (by simp only [putAll, Act.put, List.setIfInBounds_toArray, List.set_cons_zero, List.set_cons_succ]) (hCont (v126, v129) _ ⟨(by (with_reducible repeat (first | apply Kd.R_alloc | apply Kd.R_drewN | apply Kd.R_drew)); exact HO127.out), (by (with_reducible repeat (first | apply Kd.R_alloc | apply Kd.R_drewN | apply Kd.R_drew)); exact Kd.R_mono HO130.out (fun _ hk => hk.2)), (by repeat (first | (with_reducible first | exact HB.out | apply below_alloc | apply pw_below_drewN | apply below_drew1) | exact HB.out))⟩)
                                      rintro ⟨v126, v129⟩ w111 ⟨h0_, h1_, h2_⟩
                                      have n0_ : Aside0 (Kd.R k23 23 w111 w.heap.size (fun k_ => some k_ ≠ (v129 : Value).ownBlock) v126 y125) := ⟨h0_⟩
                                      have n1_ : Aside0 (Kd.R k23 23 w111 w.heap.size (fun k_ => some k_ ≠ (v126 : Value).ownBlock) v129 y128) := ⟨h1_⟩
                                      have n2_ : Aside0 (Below w.heap.size w w111) := ⟨h2_⟩
                                      clear HB
                                      clear h0_ h1_ h2_
                                      have HO127 := n0_
                                      have HO130 := n1_
                                      have HB := n2_
                                      clear n0_ n1_ n2_
                                      have hHeld := trivial
                                      obtain ⟨Ao113, co113, eo113⟩ := Kd.R_slice HO130.out
                                      (first | subst eo113 | (injection eo113 with f1_ f2_ f3_; have f4_ := f1_.symm; have f5_ := f3_.symm; clear f1_ f2_ f3_; subst f4_; subst f5_))
                                      refine norm_ (a' := ?_) ?_ ?_
                                      rotate_left
                                      · simp only [putAll, Act.put, List.setIfInBounds_toArray, List.set_cons_zero, List.set_cons_succ]
                                        rfl
                                      refine one_ (i := 6) (N := some 84) #[true, true, true, true, true, true, true, true, true, true, false, false] rfl rfl (one_of HT_.out (by kernel_rfl)) (by decide) (fun K hK => ?_)
                                      refine Kd.R_append_rows_step k23 (w0 := w) w.heap.size (by rfl) (.tmp 81) (.tmp 83) 24 23 (.agg #[(.int .i64 0), (.string ⟨#[]⟩)]) 24 rfl Try.underlying24 info23 rfl (by decide) (by omega) v126 y125 y128 _ _ _ (fun k_ => some k_ ≠ (.slice Ao113 y128.length co113 : Value).ownBlock) (fun _ => False) rfl rfl ?aO ?aR (fun _ _ h => h) (fun _ h => h.elim) ?aF ?aB ?aS ?aL ?_
                                      (case aR => repeat (first | exact (Kd.R_reads' HO130.out).2.2 | (with_reducible refine Kd.C_alloc ?_ _) | (with_reducible refine Kd.C_drewN ?_ _) | (with_reducible refine Kd.C_drew ?_)))
                                      (case aB => exact (by repeat (first | (with_reducible first | exact HB.out | apply below_alloc | apply pw_below_drewN | apply below_drew1) | exact HB.out)))
                                      (case aF => exact (fun k_ hk => Kd.fresh' (Kd.R_lt (by (with_reducible repeat (first | apply Kd.R_alloc | apply Kd.R_drewN | apply Kd.R_drew)); exact HO130.out)) k_ hk))
                                      (case aO => exact (by (with_reducible repeat (first | apply Kd.R_alloc | apply Kd.R_drewN | apply Kd.R_drew)); exact HO127.out))
                                      (case aS => exact (below_size (by repeat (first | (with_reducible first | exact HB.out | apply below_alloc | apply pw_below_drewN | apply below_drew1) | exact HB.out))))
                                      (case aL => have := LMc28.out; omega)
                                      intro v132 w112 ho hb hg hat
                                      rw [← Ny131.out] at ho
                                      have n0_ := Aside0.mk (Kd.R_after (ok := (fun _ => True)) (by (with_reducible repeat (first | apply Kd.R_alloc | apply Kd.R_drewN | apply Kd.R_drew)); exact Kd.R_mono HO130.out (fun _ hk => ⟨trivial, hk⟩)) hg hat)
                                      have n1_ := Aside0.mk (hb)
                                      have n2_ := Aside0.mk (ho)
                                      clear HO130
                                      clear HB
                                      clear HO127
                                      have HO130 := n0_
                                      have HB := n1_
                                      have HO133 := n2_
                                      clear n0_ n1_ n2_
                                      clear ho hb hg hat
                                      refine hK.out _ _ trivial (fun hHeld => ?_)
                                      clear hK K
                                      refine norm_ (a' := ?_) ?_ ?_
                                      rotate_left
                                      · show Act.put _ (some 84) _ = _
                                        simp only [Act.put, List.setIfInBounds_toArray, List.set_cons_zero, List.set_cons_succ, i64_w, i32_w]
                                        rfl
                                      refine one_ (i := 10) (N := some 88) #[true, true, true, true, true, true, true, true, true, true, true, false] rfl rfl (one_of HT_.out (by kernel_rfl)) (by decide) (fun K hK => ?_)
                                      refine Kd.R_append_rows_step k23 (w0 := w) w.heap.size (by rfl) (.tmp 84) (.tmp 87) 24 23 (.agg #[(.int .i64 0), (.string ⟨#[]⟩)]) 24 rfl Try.underlying24 info23 rfl (by decide) (by omega) v132 y131 y134 _ _ _ (fun k_ => some k_ ≠ (.slice Ao113 y128.length co113 : Value).ownBlock) (fun _ => False) rfl rfl ?aO ?aR (fun _ _ h => h) (fun _ h => h.elim) ?aF ?aB ?aS ?aL ?_
                                      (case aR => repeat (first | exact (Kd.C_below HR137.out HB.out) | (with_reducible refine Kd.C_alloc ?_ _) | (with_reducible refine Kd.C_drewN ?_ _) | (with_reducible refine Kd.C_drew ?_)))
                                      (case aB => exact (by repeat (first | (with_reducible first | exact HB.out | apply below_alloc | apply pw_below_drewN | apply below_drew1) | exact HB.out)))
                                      (case aF => exact (fun k_ hk => Kd.fresh' (Kd.R_lt (by (with_reducible repeat (first | apply Kd.R_alloc | apply Kd.R_drewN | apply Kd.R_drew)); exact HO130.out)) k_ hk))
                                      (case aO => exact (by (with_reducible repeat (first | apply Kd.R_alloc | apply Kd.R_drewN | apply Kd.R_drew)); exact HO133.out))
                                      (case aS => exact (below_size (by repeat (first | (with_reducible first | exact HB.out | apply below_alloc | apply pw_below_drewN | apply below_drew1) | exact HB.out))))
                                      (case aL => have := LMc31.out; omega)
                                      intro v139 w114 ho hb hg hat
                                      rw [← Ny138.out] at ho
                                      have n0_ := Aside0.mk (Kd.R_after (ok := (fun _ => True)) (by (with_reducible repeat (first | apply Kd.R_alloc | apply Kd.R_drewN | apply Kd.R_drew)); exact HO130.out) hg hat)
                                      have n1_ := Aside0.mk (hb)
                                      have n2_ := Aside0.mk (ho)
                                      clear HO130
                                      clear HB
                                      clear HO133
                                      have HO130 := n0_
                                      have HB := n1_
                                      have HO140 := n2_
                                      clear n0_ n1_ n2_
                                      clear ho hb hg hat
                                      refine hK.out _ _ trivial (fun hHeld => ?_)
                                      clear hK K
                                      refine norm_ (a' := ?_) ?_ ?_
                                      rotate_left
                                      · show Act.put _ (some 88) _ = _
                                        simp only [Act.put, List.setIfInBounds_toArray, List.set_cons_zero, List.set_cons_succ, i64_w, i32_w]
                                        rfl
                                      refine pure_ (i := 11) (N := some 12) (v := ?_) (a' := ?_) #[true, true, true, true, true, true, true, true, true, true, true, true] rfl rfl (any_of HT_.out (by kernel_rfl)) (fun _ _ _ h => h) (Or.inl ⟨by rfl, ?_⟩) ?_ ?_
                                      rotate_left
                                      · intro w'
                                        go_simp
                                        with_reducible rfl
                                      rotate_left
                                      · simp only [Act.put, List.setIfInBounds_toArray, List.set_cons_zero, List.set_cons_succ, i64_w, i32_w]
                                        rfl
                                      refine done_ (done_of HT_.out (by kernel_rfl)) ?_
                                      try go_wp2
                                      have n0_ := Aside0.mk (Kd.R_drew HO130.out)
                                      have n1_ := Aside0.mk (Kd.R_drew HO140.out)
                                      have n2_ := Aside0.mk (below_drew1 HB.out)
                                      clear HO130
                                      clear HO140
                                      clear HB
                                      have HO130 := n0_
                                      have HO140 := n1_
                                      have HB := n2_
                                      clear n0_ n1_ n2_
                                      have q116 : (a2 : Int) ≤ ((l0.length : Int) : Int) := of_decide_eq_true (by first | (with_reducible assumption) | assumption)
                                      obtain ⟨i0116, hi0116, _, hsz116, _⟩ := info_parts info23
                                      have hroom116 : l0.length ≤ c0 := HC0.out
                                      have hC116 : Kd.C k23 _ A0 l0.length l0 := HR0.out
                                      (try clear hcut106); (try clear hcut106); have hcut116 := cut_to (P := Try.prog) 24 23 .i64 Try.underlying24 hi0116 A0 l0.length c0 a2 (of_decide_eq_true (by first | (with_reducible assumption) | assumption)) q116 hroom116
                                      have hr116 := Kd.C_take (m := (a2 : Int).toNat) hC116 (by omega)
                                      have hy116 : y141.length = (a2 : Int).toNat := (by rw [Ny141.out, List.length_take]; omega)
                                      rw [← Ny141.out] at hr116
                                      rw [← hy116] at hcut116
                                      have HR144 := Aside0.mk hr116
                                      have HC144 := Aside0.mk (show y141.length ≤ c0 from by omega)
                                      clear hr116 hC116 hroom116 hi0116 hsz116
                                      have KY116 := Aside0.mk hy116
                                      clear hy116
                                      replace q116 := eq_true q116
                                      have q117 : (a2 : Int) ≤ ((l0.length : Int) : Int) := of_decide_eq_true (by first | (with_reducible assumption) | assumption)
                                      obtain ⟨i0117, hi0117, _, hsz117, _⟩ := info_parts info23
                                      have hroom117 : l0.length ≤ c0 := HC0.out
                                      have hC117 : Kd.C k23 _ A0 l0.length l0 := HR0.out
                                      have q0117 : (0 : Int) ≤ (a2 : Int) := of_decide_eq_true (by first | (with_reducible assumption) | assumption)
                                      (try clear hcut107); (try clear hcut107); have hcut117 := cut_from (P := Try.prog) 24 23 .i64 Try.underlying24 hi0117 2 hsz117 A0 l0.length c0 a2 q0117 q117
                                      have hr117 := Kd.C_drop (m := (a2 : Int).toNat) (c := c0) hC117 (by omega) hroom117
                                      obtain ⟨A117, hA117⟩ : ∃ A1, A1 = (if c0 = (a2 : Int).toNat then A0 else (A0 : Option Addr).map (·.add ((a2 : Int).toNat * 2))) := ⟨_, rfl⟩
                                      obtain ⟨c117, hc117⟩ : ∃ c1, c1 = c0 - (a2 : Int).toNat := ⟨_, rfl⟩
                                      have hy117 : y154.length = l0.length - (a2 : Int).toNat := (by rw [Ny154.out, List.length_drop] <;> omega)
                                      rw [show (l0).drop (a2 : Int).toNat = y154 from Ny154.out.symm] at hr117
                                      replace hr117 : Kd.C k23 _ A117 y154.length y154 := (by rw [hA117]; exact hr117)
                                      rw [← hy117, ← hA117, ← hc117] at hcut117
                                      have HR157 := Aside0.mk hr117
                                      have HC157 := Aside0.mk (show y154.length ≤ c117 from by rw [hy117, hc117]; exact Nat.sub_le_sub_right hroom117 _)
                                      clear hr117 hC117 hroom117 hi0117 hsz117 hc117
                                      have KY117 := Aside0.mk hy117
                                      have KA117 := Aside0.mk hA117
                                      clear hy117 hA117
                                      replace q117 := eq_true q117
                                      refine start_ (n := 13) (S := fun w' => True) (ds := []) #[false, false, false, false, false, false, false, false, false, false, false, false, false] (by kernel_rfl) rfl rfl trivial (fun hHeld => ?_); refine with_tabW copperplatelaw17_SpanHard.tab9 copperplatelaw17_SpanHard.bits9 (fun HT_ HW_ => ?_)
                                      generalize w114.drew = w115 at HO130 HO140 HB HR144 HR157 hHeld ⊢
                                      refine pure_ (i := 0) (N := some 89) (v := ?_) (a' := ?_) #[true, false, false, false, false, false, false, false, false, false, false, false, false] rfl rfl (any_of HT_.out (by kernel_rfl)) (fun _ _ _ h => h) (Or.inl ⟨by rfl, ?_⟩) ?_ ?_
                                      rotate_left
                                      · intro w'
                                        go_simp
                                        with_reducible rfl
                                      rotate_left
                                      · simp only [Act.put, List.setIfInBounds_toArray, List.set_cons_zero, List.set_cons_succ, i64_w, i32_w]
                                        rfl
                                      refine pure_ (i := 1) (N := some 90) (v := ?_) (a' := ?_) #[true, true, false, false, false, false, false, false, false, false, false, false, false] rfl rfl (any_of HT_.out (by kernel_rfl)) (fun _ _ _ h => h) (Or.inl ⟨by rfl, ?_⟩) ?_ ?_
                                      rotate_left
                                      · intro w'
                                        go_simp
                                        with_reducible rfl
                                      rotate_left
                                      · simp only [Act.put, List.setIfInBounds_toArray, List.set_cons_zero, List.set_cons_succ, i64_w, i32_w]
                                        rfl
                                      refine pure_ (i := 2) (N := some 91) (v := ?_) (a' := ?_) #[true, true, true, false, false, false, false, false, false, false, false, false, false] rfl rfl (any_of HT_.out (by kernel_rfl)) (fun _ _ _ h => h) (Or.inl ⟨by rfl, ?_⟩) ?_ ?_
                                      rotate_left
                                      · intro w'
                                        go_simp
                                        with_reducible rfl
                                      rotate_left
                                      · simp only [Act.put, List.setIfInBounds_toArray, List.set_cons_zero, List.set_cons_succ, i64_w, i32_w]
                                        rfl
                                      refine pure_ (i := 4) (N := some 93) (v := ?_) (a' := ?_) #[true, true, true, false, true, false, false, false, false, false, false, false, false] rfl rfl (any_of HT_.out (by kernel_rfl)) (fun _ _ _ h => h) (Or.inl ⟨by rfl, ?_⟩) ?_ ?_
                                      rotate_left
                                      · intro w'
                                        go_simp
                                        with_reducible rfl
                                      rotate_left
                                      · simp only [Act.put, List.setIfInBounds_toArray, List.set_cons_zero, List.set_cons_succ, i64_w, i32_w]
                                        rfl
                                      refine pure_ (i := 5) (N := some 94) (v := ?_) (a' := ?_) #[true, true, true, false, true, true, false, false, false, false, false, false, false] rfl rfl (any_of HT_.out (by kernel_rfl)) (fun _ _ _ h => h) (Or.inl ⟨by rfl, ?_⟩) ?_ ?_
                                      rotate_left
                                      · intro w'
                                        go_simp
                                        with_reducible rfl
                                      rotate_left
                                      · simp only [Act.put, List.setIfInBounds_toArray, List.set_cons_zero, List.set_cons_succ, i64_w, i32_w]
                                        rfl
                                      refine pure_ (i := 8) (N := some 97) (v := ?_) (a' := ?_) #[true, true, true, false, true, true, false, false, true, false, false, false, false] rfl rfl (any_of HT_.out (by kernel_rfl)) (fun _ _ _ h => h) (Or.inl ⟨by rfl, ?_⟩) ?_ ?_
                                      rotate_left
                                      · intro w'
                                        go_simp
                                        with_reducible rfl
                                      rotate_left
                                      · simp only [Act.put, List.setIfInBounds_toArray, List.set_cons_zero, List.set_cons_succ, i64_w, i32_w]
                                        rfl
                                      refine pure_ (i := 9) (N := some 98) (v := ?_) (a' := ?_) #[true, true, true, false, true, true, false, false, true, true, false, false, false] rfl rfl (any_of HT_.out (by kernel_rfl)) (fun _ _ _ h => h) (Or.inl ⟨by rfl, ?_⟩) ?_ ?_
                                      rotate_left
                                      · intro w'
                                        go_simp
                                        with_reducible rfl
                                      rotate_left
                                      · simp only [Act.put, List.setIfInBounds_toArray, List.set_cons_zero, List.set_cons_succ, i64_w, i32_w]
                                        rfl
                                      refine pure_ (i := 10) (N := some 99) (v := ?_) (a' := ?_) #[true, true, true, false, true, true, false, false, true, true, true, false, false] rfl rfl (any_of HT_.out (by kernel_rfl)) (fun _ _ _ h => h) (Or.inl ⟨by rfl, ?_⟩) ?_ ?_
                                      rotate_left
                                      · intro w'
                                        go_simp
                                        with_reducible rfl
                                      rotate_left
                                      · simp only [Act.put, List.setIfInBounds_toArray, List.set_cons_zero, List.set_cons_succ, i64_w, i32_w]
                                        rfl
                                      refine join_ (σ := Value × Value) 3 #[true, true, true, true, true, true, true, false, true, true, true, false, false] (fun s_ => [(92, s_.1), (95, s_.2)]) (fun s_ w' => (Kd.R k23 23 w' w.heap.size (fun k_ => some k_ ≠ (v139 : Value).ownBlock ∧ some k_ ≠ (s_.1 : Value).ownBlock ∧ some k_ ≠ (s_.2 : Value).ownBlock) (.slice Ao113 y128.length co113) y128) ∧ (Kd.R k23 23 w' w.heap.size (fun k_ => some k_ ≠ (.slice Ao113 y128.length co113 : Value).ownBlock ∧ some k_ ≠ (s_.1 : Value).ownBlock ∧ some k_ ≠ (s_.2 : Value).ownBlock) v139 y138) ∧ (Kd.R k23 23 w' w.heap.size (fun k_ => some k_ ≠ (.slice Ao113 y128.length co113 : Value).ownBlock ∧ some k_ ≠ (v139 : Value).ownBlock ∧ some k_ ≠ (s_.2 : Value).ownBlock) s_.1 y145) ∧ (Kd.R k23 23 w' w.heap.size (fun k_ => some k_ ≠ (.slice Ao113 y128.length co113 : Value).ownBlock ∧ some k_ ≠ (v139 : Value).ownBlock ∧ some k_ ≠ (s_.1 : Value).ownBlock) s_.2 y148) ∧ (Below w.heap.size w w')) ?_ ?_
                                      rotate_left
                                      · intro hCont
                                        refine two_ (i := 3) (j := 6) (Ni := some 92) (Nj := some 95) #[true, true, true, true, true, true, false, false, true, true, true, false, false] #[true, true, true, false, true, true, true, false, true, true, true, false, false] rfl rfl rfl rfl (two_of HT_.out (by kernel_rfl)) (by decide) (by decide) (fun K hK => ?_) (fun K hK => ?_)
                                        · skip
                                          refine Kd.R_append_rows_step k23 (w0 := w) w.heap.size rfl (.const (.slice none 0 0)) (.tmp 91) 24 23 (.agg #[(.int .i64 0), (.string ⟨#[]⟩)]) 24 rfl Try.underlying24 info23 rfl (by decide) (by omega) (.slice none 0 0) ([] : List (S23)) y141 _ _ _ (fun k_ => some k_ ≠ (.slice Ao113 y128.length co113 : Value).ownBlock ∧ some k_ ≠ (v139 : Value).ownBlock) (fun _ => False) rfl rfl ?aO ?aR (fun _ _ h => h) (fun _ h => h.elim) ?aF ?aB ?aS ?aL ?_
                                          (case aR => repeat (first | exact (Kd.C_below HR144.out HB.out) | (with_reducible refine Kd.C_alloc ?_ _) | (with_reducible refine Kd.C_drewN ?_ _) | (with_reducible refine Kd.C_drew ?_)))
                                          (case aB => exact (by repeat (first | (with_reducible first | exact HB.out | apply below_alloc | apply pw_below_drewN | apply below_drew1) | exact HB.out)))
                                          (case aF => exact (fun k_ hk => ⟨Kd.fresh' (Kd.R_lt (by (with_reducible repeat (first | apply Kd.R_alloc | apply Kd.R_drewN | apply Kd.R_drew)); exact HO130.out)) k_ hk, Kd.fresh' (Kd.R_lt (by (with_reducible repeat (first | apply Kd.R_alloc | apply Kd.R_drewN | apply Kd.R_drew)); exact HO140.out)) k_ hk⟩))
                                          (case aO => exact ((Kd.R_nil _ _ _ _ (fun k_ => some k_ ≠ (.slice Ao113 y128.length co113 : Value).ownBlock ∧ some k_ ≠ (v139 : Value).ownBlock))))
                                          (case aS => exact (below_size (by repeat (first | (with_reducible first | exact HB.out | apply below_alloc | apply pw_below_drewN | apply below_drew1) | exact HB.out))))
                                          (case aL => have := LMc34.out; omega)
                                          intro v146 w118 ho hb hg hat
                                          rw [← Ny145.out] at ho
                                          have n0_ := Aside0.mk (Kd.R_after (Kd.R_apart_nil (by (with_reducible repeat (first | apply Kd.R_alloc | apply Kd.R_drewN | apply Kd.R_drew)); exact HO130.out)) hg hat)
                                          have n1_ := Aside0.mk (Kd.R_after (Kd.R_apart_nil (by (with_reducible repeat (first | apply Kd.R_alloc | apply Kd.R_drewN | apply Kd.R_drew)); exact HO140.out)) hg hat)
                                          have n2_ := Aside0.mk (hb)
                                          have n3_ := Aside0.mk (ho)
                                          clear HO130
                                          clear HO140
                                          clear HB
                                          have HO130 := n0_
                                          have HO140 := n1_
                                          have HB := n2_
                                          have HO147 := n3_
                                          clear n0_ n1_ n2_ n3_
                                          clear ho hb hg hat
                                          refine hK.out _ _ trivial (fun hHeld => ?_)
                                          clear hK K
                                          refine norm_ (a' := ?_) ?_ ?_
                                          rotate_left
                                          · show Act.put _ (some 92) _ = _
                                            simp only [Act.put, List.setIfInBounds_toArray, List.set_cons_zero, List.set_cons_succ, i64_w, i32_w]
                                            rfl
                                          refine one_ (i := 6) (N := some 95) #[true, true, true, true, true, true, true, false, true, true, true, false, false] rfl rfl (one_of HT_.out (by kernel_rfl)) (by decide) (fun K hK => ?_)
                                          refine Kd.R_lit_step k23 _ 23 ?hg (N := 95) ?hd (xs := ([(⟨0, a3⟩ : S23)] : List (S23))) (inner := [.int .i64 0, .string a3]) (ok := fun _ => True) (okp := fun _ => True) ?hr ?hp (fun _ hk => hk) trivial (Below.refl _ _) (Nat.le_refl _) (by simp) ?_; (case hd => rfl); (case hg => rfl); (case hr => first | (go_simp; done) | (go_simp; rfl)); (case hp => exact (Reps.c2 (show Kd.M k23 _ _ _ (⟨0, a3⟩ : S23) [.int .i64 0, .string a3] from (k23_mkM _ _ _ (⟨0, a3⟩ : S23) )) (Reps.none _ _)))
                                          intro v149 w119 ho120 hb hg_ hnew_
                                          clear hg_ hnew_
                                          (first | rw [← Ny148.out] at ho120 | (simp only [Int.reduceToNat] at ho120; rw [← Ny148.out] at ho120))
                                          have n0_ := Aside0.mk (Kd.R_elder' (by (with_reducible repeat (first | apply Kd.R_alloc | apply Kd.R_drewN | apply Kd.R_drew)); exact HO130.out) (Kd.R_base ho120) hb)
                                          have n1_ := Aside0.mk (Kd.R_elder' (by (with_reducible repeat (first | apply Kd.R_alloc | apply Kd.R_drewN | apply Kd.R_drew)); exact HO140.out) (Kd.R_base ho120) hb)
                                          have n2_ := Aside0.mk (Kd.R_elder' (by (with_reducible repeat (first | apply Kd.R_alloc | apply Kd.R_drewN | apply Kd.R_drew)); exact HO147.out) (Kd.R_base ho120) hb)
                                          have n3_ := Aside0.mk (Kd.R_lower (Kd.R_new' (Kd.R_new' (Kd.R_new' ho120 (Kd.R_lt (by (with_reducible repeat (first | apply Kd.R_alloc | apply Kd.R_drewN | apply Kd.R_drew)); exact HO130.out))) (Kd.R_lt (by (with_reducible repeat (first | apply Kd.R_alloc | apply Kd.R_drewN | apply Kd.R_drew)); exact HO140.out))) (Kd.R_lt (by (with_reducible repeat (first | apply Kd.R_alloc | apply Kd.R_drewN | apply Kd.R_drew)); exact HO147.out))) (below_size (by repeat (first | (with_reducible first | exact HB.out | apply below_alloc | apply pw_below_drewN | apply below_drew1) | exact HB.out))))
                                          have n4_ := Aside0.mk (below_step (by repeat (first | (with_reducible first | exact HB.out | apply below_alloc | apply pw_below_drewN | apply below_drew1) | exact HB.out)) hb)
                                          clear HO130
                                          clear HO140
                                          clear HO147
                                          clear HB
                                          have HO130 := n0_
                                          have HO140 := n1_
                                          have HO147 := n2_
                                          have HO150 := n3_
                                          have HB := n4_
                                          clear n0_ n1_ n2_ n3_ n4_
                                          clear hb ho120
                                          refine hK.out _ _ trivial (fun hHeld => ?_)
                                          clear hK K
                                          refine norm_ (a' := ?_) ?_ ?_
                                          rotate_left
                                          · show Act.put _ (some 95) _ = _
                                            simp only [Act.put, List.setIfInBounds_toArray, List.set_cons_zero, List.set_cons_succ, i64_w, i32_w]
                                            rfl
                                          exact norm_ (by simp only [putAll, Act.put, List.setIfInBounds_toArray, List.set_cons_zero, List.set_cons_succ]) (hCont (v146, v149) _ ⟨(by (with_reducible repeat (first | apply Kd.R_alloc | apply Kd.R_drewN | apply Kd.R_drew)); exact Kd.R_mono HO130.out (fun _ hk => ⟨hk.1.1.2, ⟨hk.1.2, hk.2⟩⟩)), (by (with_reducible repeat (first | apply Kd.R_alloc | apply Kd.R_drewN | apply Kd.R_drew)); exact Kd.R_mono HO140.out (fun _ hk => ⟨hk.1.1, ⟨hk.1.2, hk.2⟩⟩)), (by (with_reducible repeat (first | apply Kd.R_alloc | apply Kd.R_drewN | apply Kd.R_drew)); exact Kd.R_mono HO147.out (fun _ hk => ⟨hk.1.1, ⟨hk.1.2, hk.2⟩⟩)), (by (with_reducible repeat (first | apply Kd.R_alloc | apply Kd.R_drewN | apply Kd.R_drew)); exact Kd.R_mono HO150.out (fun _ hk => ⟨hk.1.1.2, ⟨hk.1.2, hk.2⟩⟩)), (by repeat (first | (with_reducible first | exact HB.out | apply below_alloc | apply pw_below_drewN | apply below_drew1) | exact HB.out))⟩)
                                        · skip
                                          refine Kd.R_lit_step k23 _ 23 ?hg (N := 95) ?hd (xs := ([(⟨0, a3⟩ : S23)] : List (S23))) (inner := [.int .i64 0, .string a3]) (ok := fun _ => True) (okp := fun _ => True) ?hr ?hp (fun _ hk => hk) trivial (Below.refl _ _) (Nat.le_refl _) (by simp) ?_; (case hd => rfl); (case hg => rfl); (case hr => first | (go_simp; done) | (go_simp; rfl)); (case hp => exact (Reps.c2 (show Kd.M k23 _ _ _ (⟨0, a3⟩ : S23) [.int .i64 0, .string a3] from (k23_mkM _ _ _ (⟨0, a3⟩ : S23) )) (Reps.none _ _)))
                                          intro v149 w118 ho119 hb hg_ hnew_
                                          clear hg_ hnew_
                                          (first | rw [← Ny148.out] at ho119 | (simp only [Int.reduceToNat] at ho119; rw [← Ny148.out] at ho119))
                                          have n0_ := Aside0.mk (Kd.R_elder' (by (with_reducible repeat (first | apply Kd.R_alloc | apply Kd.R_drewN | apply Kd.R_drew)); exact HO130.out) (Kd.R_base ho119) hb)
                                          have n1_ := Aside0.mk (Kd.R_elder' (by (with_reducible repeat (first | apply Kd.R_alloc | apply Kd.R_drewN | apply Kd.R_drew)); exact HO140.out) (Kd.R_base ho119) hb)
                                          have n2_ := Aside0.mk (Kd.R_lower (Kd.R_new' (Kd.R_new' ho119 (Kd.R_lt (by (with_reducible repeat (first | apply Kd.R_alloc | apply Kd.R_drewN | apply Kd.R_drew)); exact HO130.out))) (Kd.R_lt (by (with_reducible repeat (first | apply Kd.R_alloc | apply Kd.R_drewN | apply Kd.R_drew)); exact HO140.out))) (below_size (by repeat (first | (with_reducible first | exact HB.out | apply below_alloc | apply pw_below_drewN | apply below_drew1) | exact HB.out))))
                                          have n3_ := Aside0.mk (below_step (by repeat (first | (with_reducible first | exact HB.out | apply below_alloc | apply pw_below_drewN | apply below_drew1) | exact HB.out)) hb)
                                          clear HO130
                                          clear HO140
                                          clear HB
                                          have HO130 := n0_
                                          have HO140 := n1_
                                          have HO150 := n2_
                                          have HB := n3_
                                          clear n0_ n1_ n2_ n3_
                                          clear hb ho119
                                          refine hK.out _ _ trivial (fun hHeld => ?_)
                                          clear hK K
                                          refine norm_ (a' := ?_) ?_ ?_
                                          rotate_left
                                          · show Act.put _ (some 95) _ = _
                                            simp only [Act.put, List.setIfInBounds_toArray, List.set_cons_zero, List.set_cons_succ, i64_w, i32_w]
                                            rfl
                                          refine one_ (i := 3) (N := some 92) #[true, true, true, true, true, true, true, false, true, true, true, false, false] rfl rfl (one_of HT_.out (by kernel_rfl)) (by decide) (fun K hK => ?_)
                                          refine Kd.R_append_rows_step k23 (w0 := w) w.heap.size rfl (.const (.slice none 0 0)) (.tmp 91) 24 23 (.agg #[(.int .i64 0), (.string ⟨#[]⟩)]) 24 rfl Try.underlying24 info23 rfl (by decide) (by omega) (.slice none 0 0) ([] : List (S23)) y141 _ _ _ (fun k_ => some k_ ≠ (.slice Ao113 y128.length co113 : Value).ownBlock ∧ some k_ ≠ (v139 : Value).ownBlock ∧ some k_ ≠ (v149 : Value).ownBlock) (fun _ => False) rfl rfl ?aO ?aR (fun _ _ h => h) (fun _ h => h.elim) ?aF ?aB ?aS ?aL ?_
                                          (case aR => repeat (first | exact (Kd.C_below HR144.out HB.out) | (with_reducible refine Kd.C_alloc ?_ _) | (with_reducible refine Kd.C_drewN ?_ _) | (with_reducible refine Kd.C_drew ?_)))
                                          (case aB => exact (by repeat (first | (with_reducible first | exact HB.out | apply below_alloc | apply pw_below_drewN | apply below_drew1) | exact HB.out)))
                                          (case aF => exact (fun k_ hk => ⟨Kd.fresh' (Kd.R_lt (by (with_reducible repeat (first | apply Kd.R_alloc | apply Kd.R_drewN | apply Kd.R_drew)); exact HO130.out)) k_ hk, Kd.fresh' (Kd.R_lt (by (with_reducible repeat (first | apply Kd.R_alloc | apply Kd.R_drewN | apply Kd.R_drew)); exact HO140.out)) k_ hk, Kd.fresh' (Kd.R_lt (by (with_reducible repeat (first | apply Kd.R_alloc | apply Kd.R_drewN | apply Kd.R_drew)); exact HO150.out)) k_ hk⟩))
                                          (case aO => exact ((Kd.R_nil _ _ _ _ (fun k_ => some k_ ≠ (.slice Ao113 y128.length co113 : Value).ownBlock ∧ some k_ ≠ (v139 : Value).ownBlock ∧ some k_ ≠ (v149 : Value).ownBlock))))
                                          (case aS => exact (below_size (by repeat (first | (with_reducible first | exact HB.out | apply below_alloc | apply pw_below_drewN | apply below_drew1) | exact HB.out))))
                                          (case aL => have := LMc34.out; omega)
                                          intro v146 w120 ho hb hg hat
                                          rw [← Ny145.out] at ho
                                          have n0_ := Aside0.mk (Kd.R_after (Kd.R_apart_nil (by (with_reducible repeat (first | apply Kd.R_alloc | apply Kd.R_drewN | apply Kd.R_drew)); exact HO130.out)) hg hat)
                                          have n1_ := Aside0.mk (Kd.R_after (Kd.R_apart_nil (by (with_reducible repeat (first | apply Kd.R_alloc | apply Kd.R_drewN | apply Kd.R_drew)); exact HO140.out)) hg hat)
                                          have n2_ := Aside0.mk (Kd.R_after (Kd.R_apart_nil (by (with_reducible repeat (first | apply Kd.R_alloc | apply Kd.R_drewN | apply Kd.R_drew)); exact HO150.out)) hg hat)
                                          have n3_ := Aside0.mk (hb)
                                          have n4_ := Aside0.mk (ho)
                                          clear HO130
                                          clear HO140
                                          clear HO150
                                          clear HB
                                          have HO130 := n0_
                                          have HO140 := n1_
                                          have HO150 := n2_
                                          have HB := n3_
                                          have HO147 := n4_
                                          clear n0_ n1_ n2_ n3_ n4_
                                          clear ho hb hg hat
                                          refine hK.out _ _ trivial (fun hHeld => ?_)
                                          clear hK K
                                          refine norm_ (a' := ?_) ?_ ?_
                                          rotate_left
                                          · show Act.put _ (some 92) _ = _
                                            simp only [Act.put, List.setIfInBounds_toArray, List.set_cons_zero, List.set_cons_succ, i64_w, i32_w]
                                            rfl
                                          exact norm_ (by simp only [putAll, Act.put, List.setIfInBounds_toArray, List.set_cons_zero, List.set_cons_succ]) (hCont (v146, v149) _ ⟨(by (with_reducible repeat (first | apply Kd.R_alloc | apply Kd.R_drewN | apply Kd.R_drew)); exact Kd.R_mono HO130.out (fun _ hk => ⟨hk.1.1.2, ⟨hk.2, hk.1.2⟩⟩)), (by (with_reducible repeat (first | apply Kd.R_alloc | apply Kd.R_drewN | apply Kd.R_drew)); exact Kd.R_mono HO140.out (fun _ hk => ⟨hk.1.1, ⟨hk.2, hk.1.2⟩⟩)), (by (with_reducible repeat (first | apply Kd.R_alloc | apply Kd.R_drewN | apply Kd.R_drew)); exact HO147.out), (by (with_reducible repeat (first | apply Kd.R_alloc | apply Kd.R_drewN | apply Kd.R_drew)); exact Kd.R_mono HO150.out (fun _ hk => ⟨hk.1.1.2, ⟨hk.1.2, hk.2⟩⟩)), (by repeat (first | (with_reducible first | exact HB.out | apply below_alloc | apply pw_below_drewN | apply below_drew1) | exact HB.out))⟩)
                                      rintro ⟨v146, v149⟩ w121 ⟨h0_, h1_, h2_, h3_, h4_⟩
                                      have n0_ : Aside0 (Kd.R k23 23 w121 w.heap.size (fun k_ => some k_ ≠ (v139 : Value).ownBlock ∧ some k_ ≠ (v146 : Value).ownBlock ∧ some k_ ≠ (v149 : Value).ownBlock) (.slice Ao113 y128.length co113) y128) := ⟨h0_⟩
                                      have n1_ : Aside0 (Kd.R k23 23 w121 w.heap.size (fun k_ => some k_ ≠ (.slice Ao113 y128.length co113 : Value).ownBlock ∧ some k_ ≠ (v146 : Value).ownBlock ∧ some k_ ≠ (v149 : Value).ownBlock) v139 y138) := ⟨h1_⟩
                                      have n2_ : Aside0 (Kd.R k23 23 w121 w.heap.size (fun k_ => some k_ ≠ (.slice Ao113 y128.length co113 : Value).ownBlock ∧ some k_ ≠ (v139 : Value).ownBlock ∧ some k_ ≠ (v149 : Value).ownBlock) v146 y145) := ⟨h2_⟩
                                      have n3_ : Aside0 (Kd.R k23 23 w121 w.heap.size (fun k_ => some k_ ≠ (.slice Ao113 y128.length co113 : Value).ownBlock ∧ some k_ ≠ (v139 : Value).ownBlock ∧ some k_ ≠ (v146 : Value).ownBlock) v149 y148) := ⟨h3_⟩
                                      have n4_ : Aside0 (Below w.heap.size w w121) := ⟨h4_⟩
                                      clear HO130
                                      clear HO140
                                      clear HB
                                      clear h0_ h1_ h2_ h3_ h4_
                                      have HO130 := n0_
                                      have HO140 := n1_
                                      have HO147 := n2_
                                      have HO150 := n3_
                                      have HB := n4_
                                      clear n0_ n1_ n2_ n3_ n4_
                                      have hHeld := trivial
                                      obtain ⟨Ao123, co123, eo123⟩ := Kd.R_slice HO150.out
                                      (first | subst eo123 | (injection eo123 with f1_ f2_ f3_; have f4_ := f1_.symm; have f5_ := f3_.symm; clear f1_ f2_ f3_; subst f4_; subst f5_))
                                      refine norm_ (a' := ?_) ?_ ?_
                                      rotate_left
                                      · simp only [putAll, Act.put, List.setIfInBounds_toArray, List.set_cons_zero, List.set_cons_succ]
                                        rfl
                                      refine one_ (i := 7) (N := some 96) #[true, true, true, true, true, true, true, true, true, true, true, false, false] rfl rfl (one_of HT_.out (by kernel_rfl)) (by decide) (fun K hK => ?_)
                                      refine Kd.R_append_rows_step k23 (w0 := w) w.heap.size (by rfl) (.tmp 92) (.tmp 95) 24 23 (.agg #[(.int .i64 0), (.string ⟨#[]⟩)]) 24 rfl Try.underlying24 info23 rfl (by decide) (by omega) v146 y145 y148 _ _ _ (fun k_ => some k_ ≠ (.slice Ao113 y128.length co113 : Value).ownBlock ∧ some k_ ≠ (v139 : Value).ownBlock ∧ some k_ ≠ (.slice Ao123 y148.length co123 : Value).ownBlock) (fun _ => False) rfl rfl ?aO ?aR (fun _ _ h => h) (fun _ h => h.elim) ?aF ?aB ?aS ?aL ?_
                                      (case aR => repeat (first | exact (Kd.R_reads' HO150.out).2.2 | (with_reducible refine Kd.C_alloc ?_ _) | (with_reducible refine Kd.C_drewN ?_ _) | (with_reducible refine Kd.C_drew ?_)))
                                      (case aB => exact (by repeat (first | (with_reducible first | exact HB.out | apply below_alloc | apply pw_below_drewN | apply below_drew1) | exact HB.out)))
                                      (case aF => exact (fun k_ hk => ⟨Kd.fresh' (Kd.R_lt (by (with_reducible repeat (first | apply Kd.R_alloc | apply Kd.R_drewN | apply Kd.R_drew)); exact HO130.out)) k_ hk, Kd.fresh' (Kd.R_lt (by (with_reducible repeat (first | apply Kd.R_alloc | apply Kd.R_drewN | apply Kd.R_drew)); exact HO140.out)) k_ hk, Kd.fresh' (Kd.R_lt (by (with_reducible repeat (first | apply Kd.R_alloc | apply Kd.R_drewN | apply Kd.R_drew)); exact HO150.out)) k_ hk⟩))
                                      (case aO => exact (by (with_reducible repeat (first | apply Kd.R_alloc | apply Kd.R_drewN | apply Kd.R_drew)); exact HO147.out))
                                      (case aS => exact (below_size (by repeat (first | (with_reducible first | exact HB.out | apply below_alloc | apply pw_below_drewN | apply below_drew1) | exact HB.out))))
                                      (case aL => have := LMc35.out; omega)
                                      intro v152 w122 ho hb hg hat
                                      rw [← Ny151.out] at ho
                                      have n0_ := Aside0.mk (Kd.R_after (ok := (fun k_ => some k_ ≠ (v139 : Value).ownBlock ∧ some k_ ≠ (.slice Ao123 y148.length co123 : Value).ownBlock)) (by (with_reducible repeat (first | apply Kd.R_alloc | apply Kd.R_drewN | apply Kd.R_drew)); exact Kd.R_mono HO130.out (fun _ hk => ⟨⟨hk.1, hk.2.2⟩, hk.2.1⟩)) hg hat)
                                      have n1_ := Aside0.mk (Kd.R_after (ok := (fun k_ => some k_ ≠ (.slice Ao113 y128.length co113 : Value).ownBlock ∧ some k_ ≠ (.slice Ao123 y148.length co123 : Value).ownBlock)) (by (with_reducible repeat (first | apply Kd.R_alloc | apply Kd.R_drewN | apply Kd.R_drew)); exact Kd.R_mono HO140.out (fun _ hk => ⟨⟨hk.1, hk.2.2⟩, hk.2.1⟩)) hg hat)
                                      have n2_ := Aside0.mk (Kd.R_after (ok := (fun k_ => some k_ ≠ (.slice Ao113 y128.length co113 : Value).ownBlock ∧ some k_ ≠ (v139 : Value).ownBlock)) (by (with_reducible repeat (first | apply Kd.R_alloc | apply Kd.R_drewN | apply Kd.R_drew)); exact Kd.R_mono HO150.out (fun _ hk => ⟨⟨hk.1, hk.2.1⟩, hk.2.2⟩)) hg hat)
                                      have n3_ := Aside0.mk (hb)
                                      have n4_ := Aside0.mk (ho)
                                      clear HO130
                                      clear HO140
                                      clear HO150
                                      clear HB
                                      clear HO147
                                      have HO130 := n0_
                                      have HO140 := n1_
                                      have HO150 := n2_
                                      have HB := n3_
                                      have HO153 := n4_
                                      clear n0_ n1_ n2_ n3_ n4_
                                      clear ho hb hg hat
                                      refine hK.out _ _ trivial (fun hHeld => ?_)
                                      clear hK K
                                      refine norm_ (a' := ?_) ?_ ?_
                                      rotate_left
                                      · show Act.put _ (some 96) _ = _
                                        simp only [Act.put, List.setIfInBounds_toArray, List.set_cons_zero, List.set_cons_succ, i64_w, i32_w]
                                        rfl
                                      refine one_ (i := 11) (N := some 100) #[true, true, true, true, true, true, true, true, true, true, true, true, false] rfl rfl (one_of HT_.out (by kernel_rfl)) (by decide) (fun K hK => ?_)
                                      refine Kd.R_append_rows_step k23 (w0 := w) w.heap.size (by rfl) (.tmp 96) (.tmp 99) 24 23 (.agg #[(.int .i64 0), (.string ⟨#[]⟩)]) 24 rfl Try.underlying24 info23 rfl (by decide) (by omega) v152 y151 y154 _ _ _ (fun k_ => some k_ ≠ (.slice Ao113 y128.length co113 : Value).ownBlock ∧ some k_ ≠ (v139 : Value).ownBlock ∧ some k_ ≠ (.slice Ao123 y148.length co123 : Value).ownBlock) (fun _ => False) rfl rfl ?aO ?aR (fun _ _ h => h) (fun _ h => h.elim) ?aF ?aB ?aS ?aL ?_
                                      (case aR => repeat (first | exact (Kd.C_below HR157.out HB.out) | (with_reducible refine Kd.C_alloc ?_ _) | (with_reducible refine Kd.C_drewN ?_ _) | (with_reducible refine Kd.C_drew ?_)))
                                      (case aB => exact (by repeat (first | (with_reducible first | exact HB.out | apply below_alloc | apply pw_below_drewN | apply below_drew1) | exact HB.out)))
                                      (case aF => exact (fun k_ hk => ⟨Kd.fresh' (Kd.R_lt (by (with_reducible repeat (first | apply Kd.R_alloc | apply Kd.R_drewN | apply Kd.R_drew)); exact HO130.out)) k_ hk, Kd.fresh' (Kd.R_lt (by (with_reducible repeat (first | apply Kd.R_alloc | apply Kd.R_drewN | apply Kd.R_drew)); exact HO140.out)) k_ hk, Kd.fresh' (Kd.R_lt (by (with_reducible repeat (first | apply Kd.R_alloc | apply Kd.R_drewN | apply Kd.R_drew)); exact HO150.out)) k_ hk⟩))
                                      (case aO => exact (by (with_reducible repeat (first | apply Kd.R_alloc | apply Kd.R_drewN | apply Kd.R_drew)); exact HO153.out))
                                      (case aS => exact (below_size (by repeat (first | (with_reducible first | exact HB.out | apply below_alloc | apply pw_below_drewN | apply below_drew1) | exact HB.out))))
                                      (case aL => have := LMc38.out; omega)
                                      intro v159 w124 ho hb hg hat
                                      rw [← Ny158.out] at ho
                                      have n0_ := Aside0.mk (Kd.R_after (ok := (fun k_ => some k_ ≠ (v139 : Value).ownBlock ∧ some k_ ≠ (.slice Ao123 y148.length co123 : Value).ownBlock)) (by (with_reducible repeat (first | apply Kd.R_alloc | apply Kd.R_drewN | apply Kd.R_drew)); exact HO130.out) hg hat)
                                      have n1_ := Aside0.mk (Kd.R_after (ok := (fun k_ => some k_ ≠ (.slice Ao113 y128.length co113 : Value).ownBlock ∧ some k_ ≠ (.slice Ao123 y148.length co123 : Value).ownBlock)) (by (with_reducible repeat (first | apply Kd.R_alloc | apply Kd.R_drewN | apply Kd.R_drew)); exact HO140.out) hg hat)
                                      have n2_ := Aside0.mk (Kd.R_after (ok := (fun k_ => some k_ ≠ (.slice Ao113 y128.length co113 : Value).ownBlock ∧ some k_ ≠ (v139 : Value).ownBlock)) (by (with_reducible repeat (first | apply Kd.R_alloc | apply Kd.R_drewN | apply Kd.R_drew)); exact HO150.out) hg hat)
                                      have n3_ := Aside0.mk (hb)
                                      have n4_ := Aside0.mk (ho)
                                      clear HO130
                                      clear HO140
                                      clear HO150
                                      clear HB
                                      clear HO153
                                      have HO130 := n0_
                                      have HO140 := n1_
                                      have HO150 := n2_
                                      have HB := n3_
                                      have HO160 := n4_
                                      clear n0_ n1_ n2_ n3_ n4_
                                      clear ho hb hg hat
                                      refine hK.out _ _ trivial (fun hHeld => ?_)
                                      clear hK K
                                      refine norm_ (a' := ?_) ?_ ?_
                                      rotate_left
                                      · show Act.put _ (some 100) _ = _
                                        simp only [Act.put, List.setIfInBounds_toArray, List.set_cons_zero, List.set_cons_succ, i64_w, i32_w]
                                        rfl
                                      refine pure_ (i := 12) (N := some 13) (v := ?_) (a' := ?_) #[true, true, true, true, true, true, true, true, true, true, true, true, true] rfl rfl (any_of HT_.out (by kernel_rfl)) (fun _ _ _ h => h) (Or.inl ⟨by rfl, ?_⟩) ?_ ?_
                                      rotate_left
                                      · intro w'
                                        go_simp
                                        with_reducible rfl
                                      rotate_left
                                      · simp only [Act.put, List.setIfInBounds_toArray, List.set_cons_zero, List.set_cons_succ, i64_w, i32_w]
                                        rfl
                                      refine done_ (done_of HT_.out (by kernel_rfl)) ?_
                                      obtain ⟨Ao125, co125, eo125⟩ := Kd.R_slice HO140.out
                                      subst eo125
                                      try go_wp2_with (first | ((with_reducible refine gate_callee (f := 19) rfl ?_); refine goesL_ (some 103) rfl rfl Try.func19 (by kernel_rfl) rfl #[.slice Ao125 y138.length co125, .int .i64 a1] rfl (by (try simp only [List.map_toArray, List.map_cons, List.map_nil]); first | done | rfl | (simp only [List.length_drop, List.length_take]; rfl)) ?_; (with_reducible refine (span_Need.calls _ _ y138 a1 t161 _ ?side1 ?side2 A39.out).mono ?_); (case side1 => repeat (first | exact (Kd.R_reads' HO140.out).2.2 | (with_reducible refine Kd.C_alloc ?_ _) | (with_reducible refine Kd.C_drewN ?_ _) | (with_reducible refine Kd.C_drew ?_))); (case side2 => exact (Kd.R_reads' HO140.out).2.1); rintro e w126 ⟨rfl, hb⟩; refine ⟨_, rfl, ?_⟩; have n0_ := Aside0.mk (Kd.R_below (by (with_reducible repeat (first | apply Kd.R_alloc | apply Kd.R_drewN | apply Kd.R_drew)); exact HO130.out) hb); have n1_ := Aside0.mk (Kd.R_below (by (with_reducible repeat (first | apply Kd.R_alloc | apply Kd.R_drewN | apply Kd.R_drew)); exact HO140.out) hb); have n2_ := Aside0.mk (Kd.R_below (by (with_reducible repeat (first | apply Kd.R_alloc | apply Kd.R_drewN | apply Kd.R_drew)); exact HO150.out) hb); have n3_ := Aside0.mk (Kd.R_below (by (with_reducible repeat (first | apply Kd.R_alloc | apply Kd.R_drewN | apply Kd.R_drew)); exact HO160.out) hb); have n4_ := Aside0.mk (below_step (by repeat (first | (with_reducible first | exact HB.out | apply below_alloc | apply pw_below_drewN | apply below_drew1) | exact HB.out)) hb); clear HO130; clear HO140; clear HO150; clear HO160; clear HB; have HO130 := n0_; have HO140 := n1_; have HO150 := n2_; have HO160 := n3_; have HB := n4_; clear n0_ n1_ n2_ n3_ n4_; (try clear hb); (try clear hb2); (try clear hk); (try clear hi); obtain ⟨Ao127, co127, eo127⟩ := Kd.R_slice HO160.out; subst eo127) | (go_at_call 19; (with_reducible refine (span_Need.calls _ _ y158 a1 t166 _ ?side1 ?side2 A101.out).mono ?_); (case side1 => repeat (first | exact (Kd.R_reads' HO160.out).2.2 | (with_reducible refine Kd.C_alloc ?_ _) | (with_reducible refine Kd.C_drewN ?_ _) | (with_reducible refine Kd.C_drew ?_))); (case side2 => exact (Kd.R_reads' HO160.out).2.1); rintro e w128 ⟨rfl, hb⟩; have n0_ := Aside0.mk (Kd.R_below (by (with_reducible repeat (first | apply Kd.R_alloc | apply Kd.R_drewN | apply Kd.R_drew)); exact HO130.out) hb); have n1_ := Aside0.mk (Kd.R_below (by (with_reducible repeat (first | apply Kd.R_alloc | apply Kd.R_drewN | apply Kd.R_drew)); exact HO140.out) hb); have n2_ := Aside0.mk (Kd.R_below (by (with_reducible repeat (first | apply Kd.R_alloc | apply Kd.R_drewN | apply Kd.R_drew)); exact HO150.out) hb); have n3_ := Aside0.mk (Kd.R_below (by (with_reducible repeat (first | apply Kd.R_alloc | apply Kd.R_drewN | apply Kd.R_drew)); exact HO160.out) hb); have n4_ := Aside0.mk (below_step (by repeat (first | (with_reducible first | exact HB.out | apply below_alloc | apply pw_below_drewN | apply below_drew1) | exact HB.out)) hb); clear HO130; clear HO140; clear HO150; clear HO160; clear HB; have HO130 := n0_; have HO140 := n1_; have HO150 := n2_; have HO160 := n3_; have HB := n4_; clear n0_ n1_ n2_ n3_ n4_; (try clear hb); (try clear hb2); (try clear hk); (try clear hi)) | (go_at_call 14; (with_reducible refine (span_Cols.calls kj15 a3 t167 _ A102.out).mono ?_); rintro e w129 ⟨rfl, hb⟩; have n0_ := Aside0.mk (Kd.R_below (by (with_reducible repeat (first | apply Kd.R_alloc | apply Kd.R_drewN | apply Kd.R_drew)); exact HO130.out) hb); have n1_ := Aside0.mk (Kd.R_below (by (with_reducible repeat (first | apply Kd.R_alloc | apply Kd.R_drewN | apply Kd.R_drew)); exact HO140.out) hb); have n2_ := Aside0.mk (Kd.R_below (by (with_reducible repeat (first | apply Kd.R_alloc | apply Kd.R_drewN | apply Kd.R_drew)); exact HO150.out) hb); have n3_ := Aside0.mk (Kd.R_below (by (with_reducible repeat (first | apply Kd.R_alloc | apply Kd.R_drewN | apply Kd.R_drew)); exact HO160.out) hb); have n4_ := Aside0.mk (below_step (by repeat (first | (with_reducible first | exact HB.out | apply below_alloc | apply pw_below_drewN | apply below_drew1) | exact HB.out)) hb); clear HO130; clear HO140; clear HO150; clear HO160; clear HB; have HO130 := n0_; have HO140 := n1_; have HO150 := n2_; have HO160 := n3_; have HB := n4_; clear n0_ n1_ n2_ n3_ n4_; (try clear hb); (try clear hb2); (try clear hk); (try clear hi)) | (go_at_call 17; (with_reducible refine (span_Match.calls _ _ y158 a1 t168 _ ?side1 ?side2 A104.out).mono ?_); (case side1 => repeat (first | exact (Kd.R_reads' HO160.out).2.2 | (with_reducible refine Kd.C_alloc ?_ _) | (with_reducible refine Kd.C_drewN ?_ _) | (with_reducible refine Kd.C_drew ?_))); (case side2 => exact (Kd.R_reads' HO160.out).2.1); rintro e w130 ⟨rfl, hb⟩; have n0_ := Aside0.mk (Kd.R_below (by (with_reducible repeat (first | apply Kd.R_alloc | apply Kd.R_drewN | apply Kd.R_drew)); exact HO130.out) hb); have n1_ := Aside0.mk (Kd.R_below (by (with_reducible repeat (first | apply Kd.R_alloc | apply Kd.R_drewN | apply Kd.R_drew)); exact HO140.out) hb); have n2_ := Aside0.mk (Kd.R_below (by (with_reducible repeat (first | apply Kd.R_alloc | apply Kd.R_drewN | apply Kd.R_drew)); exact HO150.out) hb); have n3_ := Aside0.mk (Kd.R_below (by (with_reducible repeat (first | apply Kd.R_alloc | apply Kd.R_drewN | apply Kd.R_drew)); exact HO160.out) hb); have n4_ := Aside0.mk (below_step (by repeat (first | (with_reducible first | exact HB.out | apply below_alloc | apply pw_below_drewN | apply below_drew1) | exact HB.out)) hb); clear HO130; clear HO140; clear HO150; clear HO160; clear HB; have HO130 := n0_; have HO140 := n1_; have HO150 := n2_; have HO160 := n3_; have HB := n4_; clear n0_ n1_ n2_ n3_ n4_; (try clear hb); (try clear hb2); (try clear hk); (try clear hi)))
                                      go_ret
                                      exact ⟨by first | rfl | (simp [errW_none, errW_some] <;> rfl) | (simp [*, errW_none, errW_some] <;> rfl), by repeat (first | (with_reducible first | exact HB.out | apply below_alloc | apply pw_below_drewN | apply below_drew1) | exact HB.out)⟩
                                    · rw [if_neg c103] at H
                                      have c103b0 : (t166 == (wrap64 (t120 + t167))) = false := beq_eq_false_iff_ne.mpr c103
                                      have c103b1 : (t166 != (wrap64 (t120 + t167))) = true := bne_iff_ne.mpr c103
                                      exact absurd H (by have h_ := HT_.out; subst h_; decide)
                                  · rw [if_neg c100] at H
                                    have c100b0 : decide (0 ≤ t120) = false := decide_eq_false c100
                                    clear c100
                                    exact absurd H (by have h_ := HT_.out; subst h_; decide)
                              · rw [if_neg c40] at H
                                have c40b0 : (t161 == (-1)) = false := beq_eq_false_iff_ne.mpr c40
                                have c40b1 : (t161 != (-1)) = true := bne_iff_ne.mpr c40
                                exact absurd H (by have h_ := HT_.out; subst h_; decide)
                            · rw [if_neg c38] at H
                              exact absurd H (by simp)
                          · rw [if_neg c35] at H
                            exact absurd H (by simp)
                        · rw [if_neg c34] at H
                          exact absurd H (by simp)
                      · rw [if_neg c31] at H
                        exact absurd H (by simp)
                    · rw [if_neg c28] at H
                      exact absurd H (by simp)
                  · rw [if_neg c27] at H
                    exact absurd H (by simp)
                · rw [if_neg c26] at H
                  exact absurd H (by simp)
              · rw [if_neg c25] at H
                exact absurd H (by simp)

/-- The pure statement of copperplatelaw17_SpanHard. -/
def copperplatelaw17_SpanHard.Pure : Prop := ∀ (l0 : List (S23)) (a1 : Int) (a2 : Int) (a3 : ByteArray), l0.length * 24 ≤ 140737488351232 → (∀ x ∈ l0, (Lit.int .i64 x.f0).wf = true ∧ x.f1.size ≤ 140737488351232) → (Lit.int .i64 a1).wf = true → (Lit.int .i64 a2).wf = true → a3.size ≤ 140737488351232 → ∃ k, copperplatelaw17_SpanHard.f k l0 a1 a2 a3 = some true
def copperplatelaw17_SpanHard.PureUp : Prop := ∀ (l0 : List (S23)) (a1 : Int) (a2 : Int) (a3 : ByteArray), l0.length * 24 ≤ 140737488351232 → (∀ x ∈ l0, (Lit.int .i64 x.f0).wf = true ∧ x.f1.size ≤ 140737488351232) → (Lit.int .i64 a1).wf = true → (Lit.int .i64 a2).wf = true → a3.size ≤ 140737488351232 → (l0.map fun x => x.f1.size).sum + a3.size ≤ 1048576 → ∃ k, copperplatelaw17_SpanHard.f k l0 a1 a2 a3 = some true

end Go.Proofs.Ytjibfhlacbgkgaa.PSpanZ
