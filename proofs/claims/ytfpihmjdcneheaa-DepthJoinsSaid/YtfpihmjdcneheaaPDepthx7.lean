-- Written by a program of the session (drive.py, over the kit's print.py with contracts by hand). Not trusted: Lean checks it.
import Derived.Test.YtfpihmjdcneheaaPDepthx0
import Derived.Test.YtfpihmjdcneheaaHDepthDepth
import Derived.Test.YtfpihmjdcneheaaHDepthDepthA
import Derived.Test.YtfpihmjdcneheaaHDepthDepthAt
namespace Go.Proofs.Ytfpihmjdcneheaa.PDepth
open Go.RowKit Go.Proofs.YtfpihmjdcneheaaW.PrintWords Go.Proofs.YtfpihmjdcneheaaW.PrintLast Go.Proofs.YtfpihmjdcneheaaW.PrintMore
attribute [local go_sem] max2_int min2_int max_two min_two max_three min_three max_four min_four   -- for this text's walks alone
set_option linter.unusedVariables false
set_option linter.unusedSimpArgs false

/-! ### copperplatelaw15_DepthAt: function 10 -/
mutual
def copperplatelaw15_DepthAt.j0 : Nat → List Int → Int → Bool → Bool → Option (Bool)
  | 0, _, _, _, _ => none
  | k + 1, x0, x1, x5, x23 => if x23 = true then (some x5) else ((depth_At.f x0 x1).bind fun t131 => ((depth_At.f x0 (wrap64 (x1 + 1))).bind fun t132 => (if t131 < (-1) then (copperplatelaw15_DepthAt.j1 k x0 x1 t131 t132 true) else (if t131 ≥ (x0.length : Int) then (copperplatelaw15_DepthAt.j1 k x0 x1 t131 t132 true) else ((depth_Depth.f x0).bind fun t133 => (copperplatelaw15_DepthAt.j1 k x0 x1 t131 t132 ((decide (t131 ≥ 0)) != (decide (t133 > x1)))))))))
def copperplatelaw15_DepthAt.j1 : Nat → List Int → Int → Int → Int → Bool → Option (Bool)
  | 0, _, _, _, _, _ => none
  | k + 1, x0, x1, x6, x7, x48 => if x48 = true then (some false) else (if x6 = (-1) then (some (x7 == (-1))) else (if 0 ≤ x6 then (if x6 ≤ (x0.length : Int) then ((depth_Depth.f (x0.take (x6 : Int).toNat)).bind fun t135 => (if t135 ≤ x1 then (if 0 ≤ (wrap64 (x6 + 1)) then (if (wrap64 (x6 + 1)) ≤ (x0.length : Int) then ((depth_Ends.f (x0.take ((wrap64 (x6 + 1)) : Int).toNat)).bind fun t137 => (if t137 = (wrap64 (x1 + 1)) then ((depth_Depth.f (x0.take ((wrap64 (x6 + 1)) : Int).toNat)).bind fun t139 => (if t139 = (wrap64 (x1 + 1)) then (if x7 = (-1) then (some true) else (some (decide (x7 > x6)))) else (some false))) else (some false))) else (none)) else (none)) else (some false))) else (none)) else (none)))
end
def copperplatelaw15_DepthAt.f (k : Nat) (l0 : List Int) (a1 : Int) : Option (Bool) := (copperplatelaw15_awake.f).bind fun t130 => (if t130 = true then (if (l0.length : Int) > 300 then (copperplatelaw15_DepthAt.j0 k l0 a1 t130 true) else (if a1 < 0 then (copperplatelaw15_DepthAt.j0 k l0 a1 t130 true) else (copperplatelaw15_DepthAt.j0 k l0 a1 t130 (decide (a1 > 1000))))) else (copperplatelaw15_DepthAt.j0 k l0 a1 t130 true))
theorem copperplatelaw15_DepthAt.mono_l : ∀ k, (∀ y0 y1 y2 y3, LeO (copperplatelaw15_DepthAt.j0 k y0 y1 y2 y3) (copperplatelaw15_DepthAt.j0 (k + 1) y0 y1 y2 y3)) ∧ (∀ y0 y1 y2 y3 y4, LeO (copperplatelaw15_DepthAt.j1 k y0 y1 y2 y3 y4) (copperplatelaw15_DepthAt.j1 (k + 1) y0 y1 y2 y3 y4))
  | 0 => ⟨fun _ _ _ _ r h => by simp [copperplatelaw15_DepthAt.j0] at h, fun _ _ _ _ _ r h => by simp [copperplatelaw15_DepthAt.j1] at h⟩
  | k + 1 => by
    obtain ⟨ih0, ih1⟩ := copperplatelaw15_DepthAt.mono_l k
    refine ⟨?_, ?_⟩
    · intro y0 y1 y2 y3
      unfold copperplatelaw15_DepthAt.j0
      repeat' first
      | (with_reducible exact ih0 _ _ _ _)
      | (with_reducible exact ih1 _ _ _ _ _)
      | (with_reducible exact LeO.refl _)
      | (with_reducible exact LeO.none _)
      | (with_reducible refine LeO.ite ?_ ?_)
      | (with_reducible refine LeO.bind ?_ (fun _ => ?_))
      | exact ih0 _ _ _ _
      | exact ih1 _ _ _ _ _
      | exact LeO.none _
      | refine LeO.ite ?_ ?_
      | refine LeO.bind ?_ (fun _ => ?_)
    · intro y0 y1 y2 y3 y4
      unfold copperplatelaw15_DepthAt.j1
      repeat' first
      | (with_reducible exact ih0 _ _ _ _)
      | (with_reducible exact ih1 _ _ _ _ _)
      | (with_reducible exact LeO.refl _)
      | (with_reducible exact LeO.none _)
      | (with_reducible refine LeO.ite ?_ ?_)
      | (with_reducible refine LeO.bind ?_ (fun _ => ?_))
      | exact ih0 _ _ _ _
      | exact ih1 _ _ _ _ _
      | exact LeO.none _
      | refine LeO.ite ?_ ?_
      | refine LeO.bind ?_ (fun _ => ?_)
theorem copperplatelaw15_DepthAt.mono : ∀ a0 a1 k, LeO (copperplatelaw15_DepthAt.f k a0 a1) (copperplatelaw15_DepthAt.f (k + 1) a0 a1) := by
  intro a0 a1 k
  obtain ⟨ih0, ih1⟩ := copperplatelaw15_DepthAt.mono_l k
  unfold copperplatelaw15_DepthAt.f
  repeat' first
      | (with_reducible exact ih0 _ _ _ _)
      | (with_reducible exact ih1 _ _ _ _ _)
      | (with_reducible exact LeO.refl _)
      | (with_reducible exact LeO.none _)
      | (with_reducible refine LeO.ite ?_ ?_)
      | (with_reducible refine LeO.bind ?_ (fun _ => ?_))
      | exact ih0 _ _ _ _
      | exact ih1 _ _ _ _ _
      | exact LeO.none _
      | refine LeO.ite ?_ ?_
      | refine LeO.bind ?_ (fun _ => ?_)
set_option maxHeartbeats 8000000 in
set_option maxRecDepth 100000 in
theorem copperplatelaw15_DepthAt.calls (k : Nat) (A0 : Option Addr) (c0 : Nat) (l0 : List Int) (a1 : Int) (r : Bool) (w : World) (hr0 : Kd.C (Kd.int .i64) w A0 l0.length l0) (hc0 : l0.length ≤ c0) (h : copperplatelaw15_DepthAt.f k l0 a1 = some r) (hT_ : r = true) :
    Calls Try.prog 10 #[.slice A0 l0.length c0, .int .i64 a1] w fun e w' => e = .returned (.bool r) ∧ Below w.heap.size w w' := by
  have HT_ := Aside0.mk hT_
  clear hT_
  have HR0 := Aside0.mk hr0
  have HC0 := Aside0.mk hc0
  clear hr0 hc0
  have HB := Aside0.mk (Below.refl w.heap.size w)
  have H : ((copperplatelaw15_awake.f).bind fun t130 => (if t130 = true then (if (l0.length : Int) > 300 then (copperplatelaw15_DepthAt.j0 k l0 a1 t130 true) else (if a1 < 0 then (copperplatelaw15_DepthAt.j0 k l0 a1 t130 true) else (copperplatelaw15_DepthAt.j0 k l0 a1 t130 (decide (a1 > 1000))))) else (copperplatelaw15_DepthAt.j0 k l0 a1 t130 true))) = some r := h
  clear h
  replace H := Option.bind_eq_some_iff.mp H
  obtain ⟨t130, A30, H⟩ := H
  replace H : (if t130 = true then (if (l0.length : Int) > 300 then (copperplatelaw15_DepthAt.j0 k l0 a1 t130 true) else (if a1 < 0 then (copperplatelaw15_DepthAt.j0 k l0 a1 t130 true) else (copperplatelaw15_DepthAt.j0 k l0 a1 t130 (decide (a1 > 1000))))) else (copperplatelaw15_DepthAt.j0 k l0 a1 t130 true)) = some r := H
  have A3 := Aside0.mk A30
  clear A30
  have HC4 := Aside0.mk H
  clear H
  go_enter Try.func10, Try.ntmps10
  go_upto_region 2 with (first | ((with_reducible refine gate_callee (f := 25) rfl ?_); refine goesL_ (some 8) rfl rfl Try.func25 (by kernel_rfl) rfl #[] rfl (by (try simp only [List.map_toArray, List.map_cons, List.map_nil]); first | done | rfl | (simp only [List.length_drop, List.length_take]; rfl)) ?_; (with_reducible refine (copperplatelaw15_awake.calls  t130 _ A3.out).mono ?_); (try clear A3); rintro e w5 ⟨rfl, hb⟩; refine ⟨_, rfl, ?_⟩; have n0_ := Aside0.mk (below_step (by repeat (first | (with_reducible first | exact HB.out | apply below_alloc | apply pw_below_drewN | apply below_drew1) | exact HB.out)) hb); clear HB; have HB := n0_; clear n0_; (try clear hb); (try clear hb2); (try clear hk); (try clear hi)))
  (try simp only [Act.put, List.setIfInBounds_toArray, List.set_cons_zero, List.set_cons_succ])
  go_cut [23] (fun v23 wc => ∃ (kq : Nat) (x23_3 : Bool), v23 = .bool x23_3 ∧ Aside0 (copperplatelaw15_DepthAt.j0 kq l0 a1 t130 x23_3 = some r) ∧ Aside0 (kq ≤ k) ∧ Aside0 (Below w.heap.size w wc))
  case first =>
    have H := HC4.out
    clear HC4
    by_cases c6 : t130 = true
    · subst c6
      have H1 : (if (l0.length : Int) > 300 then (copperplatelaw15_DepthAt.j0 k l0 a1 true true) else (if a1 < 0 then (copperplatelaw15_DepthAt.j0 k l0 a1 true true) else (copperplatelaw15_DepthAt.j0 k l0 a1 true (decide (a1 > 1000))))) = some r := by rw [if_pos rfl] at H; exact H
      clear H
      have H := H1
      clear H1
      by_cases c7 : (l0.length : Int) > 300
      · rw [if_pos c7] at H
        have c7b0 : decide (300 < (l0.length : Int)) = true := decide_eq_true c7
        have c7b1 : decide (300 < l0.length) = true := decide_eq_true (by omega)
        clear c7
        (first | rw [c7b0] | (simp only [i64_w, i32_w]; rw [c7b0]) | skip)
        have H' := Aside0.mk H
        clear H
        go_wp2
        go_meet
        case rel => exact ⟨_, (true), (by first | rfl | (simp; done) | (simp [*]; done)), H', ⟨by first | omega | exact Nat.le_refl _⟩, ⟨by repeat (first | (with_reducible first | exact HB.out | apply below_alloc | apply pw_below_drewN | apply below_drew1) | exact HB.out)⟩⟩
      · rw [if_neg c7] at H
        have c7b0 : decide (300 < (l0.length : Int)) = false := decide_eq_false c7
        have c7b1 : decide (300 < l0.length) = false := decide_eq_false (by omega)
        clear c7
        (first | rw [c7b0] | (simp only [i64_w, i32_w]; rw [c7b0]) | skip)
        by_cases c8 : a1 < 0
        · rw [if_pos c8] at H
          have c8b0 : decide (a1 < 0) = true := decide_eq_true c8
          clear c8
          have H' := Aside0.mk H
          clear H
          go_wp2
          go_meet
          case rel => exact ⟨_, (true), (by first | rfl | (simp; done) | (simp [*]; done)), H', ⟨by first | omega | exact Nat.le_refl _⟩, ⟨by repeat (first | (with_reducible first | exact HB.out | apply below_alloc | apply pw_below_drewN | apply below_drew1) | exact HB.out)⟩⟩
        · rw [if_neg c8] at H
          have c8b0 : decide (a1 < 0) = false := decide_eq_false c8
          clear c8
          have H' := Aside0.mk H
          clear H
          go_wp2
          go_meet
          case rel => exact ⟨_, (decide (a1 > 1000)), (by first | rfl | (simp; done) | (simp [*]; done)), H', ⟨by first | omega | exact Nat.le_refl _⟩, ⟨by repeat (first | (with_reducible first | exact HB.out | apply below_alloc | apply pw_below_drewN | apply below_drew1) | exact HB.out)⟩⟩
    · replace c6 := Bool.eq_false_iff.mpr c6
      subst c6
      have H1 : (copperplatelaw15_DepthAt.j0 k l0 a1 false true) = some r := by rw [if_neg (show ¬ (false = true) by decide)] at H; exact H
      clear H
      have H := H1
      clear H1
      have H' := Aside0.mk H
      clear H
      go_wp2
      go_meet
      case rel => exact ⟨_, (true), (by first | rfl | (simp; done) | (simp [*]; done)), H', ⟨by first | omega | exact Nat.le_refl _⟩, ⟨by repeat (first | (with_reducible first | exact HB.out | apply below_alloc | apply pw_below_drewN | apply below_drew1) | exact HB.out)⟩⟩
  case rest =>
    clear HC4
    try clear c1
    try clear c2
    try clear p2
    try clear c6
    try clear c7
    try clear c7b0
    try clear c7b1
    try clear c8
    try clear c8b0
    obtain ⟨kq, x23_3, rfl, HA, HJ3, HB⟩ := hcut
    cases kq with
    | zero => exact absurd HA.out (by simp [copperplatelaw15_DepthAt.j0])
    | succ kj3 =>
      have H := HA.out
      clear HA
      simp only [copperplatelaw15_DepthAt.j0] at H
      by_cases c9 : x23_3 = true
      · subst c9
        have H1 : (some t130) = some r := by rw [if_pos rfl] at H; exact H
        clear H
        have H := H1
        clear H1
        obtain rfl := Option.some.inj H
        go_wp2
        go_ret
        exact ⟨by first | rfl | (simp [errW_none, errW_some] <;> rfl) | (simp [*, errW_none, errW_some] <;> rfl), by repeat (first | (with_reducible first | exact HB.out | apply below_alloc | apply pw_below_drewN | apply below_drew1) | exact HB.out)⟩
      · replace c9 := Bool.eq_false_iff.mpr c9
        subst c9
        have H1 : ((depth_At.f l0 a1).bind fun t131 => ((depth_At.f l0 (wrap64 (a1 + 1))).bind fun t132 => (if t131 < (-1) then (copperplatelaw15_DepthAt.j1 kj3 l0 a1 t131 t132 true) else (if t131 ≥ (l0.length : Int) then (copperplatelaw15_DepthAt.j1 kj3 l0 a1 t131 t132 true) else ((depth_Depth.f l0).bind fun t133 => (copperplatelaw15_DepthAt.j1 kj3 l0 a1 t131 t132 ((decide (t131 ≥ 0)) != (decide (t133 > a1))))))))) = some r := by rw [if_neg (show ¬ (false = true) by decide)] at H; exact H
        clear H
        have H := H1
        clear H1
        replace H := Option.bind_eq_some_iff.mp H
        obtain ⟨t131, A100, H⟩ := H
        replace H : ((depth_At.f l0 (wrap64 (a1 + 1))).bind fun t132 => (if t131 < (-1) then (copperplatelaw15_DepthAt.j1 kj3 l0 a1 t131 t132 true) else (if t131 ≥ (l0.length : Int) then (copperplatelaw15_DepthAt.j1 kj3 l0 a1 t131 t132 true) else ((depth_Depth.f l0).bind fun t133 => (copperplatelaw15_DepthAt.j1 kj3 l0 a1 t131 t132 ((decide (t131 ≥ 0)) != (decide (t133 > a1)))))))) = some r := H
        have A10 := Aside0.mk A100
        clear A100
        replace H := Option.bind_eq_some_iff.mp H
        obtain ⟨t132, A110, H⟩ := H
        replace H : (if t131 < (-1) then (copperplatelaw15_DepthAt.j1 kj3 l0 a1 t131 t132 true) else (if t131 ≥ (l0.length : Int) then (copperplatelaw15_DepthAt.j1 kj3 l0 a1 t131 t132 true) else ((depth_Depth.f l0).bind fun t133 => (copperplatelaw15_DepthAt.j1 kj3 l0 a1 t131 t132 ((decide (t131 ≥ 0)) != (decide (t133 > a1))))))) = some r := H
        have A11 := Aside0.mk A110
        clear A110
        have HC12 := Aside0.mk H
        clear H
        go_upto_region 6 with (first | ((with_reducible refine gate_callee (f := 28) rfl ?_); refine goesL_ (some 27) rfl rfl Try.func28 (by kernel_rfl) rfl #[.slice A0 l0.length c0, .int .i64 a1] rfl (by (try simp only [List.map_toArray, List.map_cons, List.map_nil]); first | done | rfl | (simp only [List.length_drop, List.length_take]; rfl)) ?_; (with_reducible refine (depth_At.calls _ _ l0 a1 t131 _ ?side1 ?side2 A10.out).mono ?_); (case side1 => repeat (first | exact (Kd.C_below HR0.out HB.out) | (with_reducible refine Kd.C_alloc ?_ _) | (with_reducible refine Kd.C_drewN ?_ _) | (with_reducible refine Kd.C_drew ?_))); (case side2 => exact HC0.out); (try clear A10); rintro e w13 ⟨rfl, hb⟩; refine ⟨_, rfl, ?_⟩; have n0_ := Aside0.mk (below_step (by repeat (first | (with_reducible first | exact HB.out | apply below_alloc | apply pw_below_drewN | apply below_drew1) | exact HB.out)) hb); clear HB; have HB := n0_; clear n0_; (try clear hb); (try clear hb2); (try clear hk); (try clear hi)) | ((with_reducible refine gate_callee (f := 28) rfl ?_); refine goesL_ (some 31) rfl rfl Try.func28 (by kernel_rfl) rfl #[.slice A0 l0.length c0, .int .i64 (wrap64 (a1 + 1))] rfl (by (try simp only [List.map_toArray, List.map_cons, List.map_nil]); first | done | rfl | (simp only [List.length_drop, List.length_take]; rfl)) ?_; (with_reducible refine (depth_At.calls _ _ l0 (wrap64 (a1 + 1)) t132 _ ?side1 ?side2 A11.out).mono ?_); (case side1 => repeat (first | exact (Kd.C_below HR0.out HB.out) | (with_reducible refine Kd.C_alloc ?_ _) | (with_reducible refine Kd.C_drewN ?_ _) | (with_reducible refine Kd.C_drew ?_))); (case side2 => exact HC0.out); (try clear A11); rintro e w14 ⟨rfl, hb⟩; refine ⟨_, rfl, ?_⟩; have n0_ := Aside0.mk (below_step (by repeat (first | (with_reducible first | exact HB.out | apply below_alloc | apply pw_below_drewN | apply below_drew1) | exact HB.out)) hb); clear HB; have HB := n0_; clear n0_; (try clear hb); (try clear hb2); (try clear hk); (try clear hi)))
        (try simp only [Act.put, List.setIfInBounds_toArray, List.set_cons_zero, List.set_cons_succ])
        go_cut [48] (fun v48 wc => ∃ (kq : Nat) (x48_11 : Bool), v48 = .bool x48_11 ∧ Aside0 (copperplatelaw15_DepthAt.j1 kq l0 a1 t131 t132 x48_11 = some r) ∧ Aside0 (kq ≤ kj3) ∧ Aside0 (Below w.heap.size w wc))
        case first =>
          have H := HC12.out
          clear HC12
          by_cases c15 : t131 < (-1)
          · rw [if_pos c15] at H
            have c15b0 : decide (t131 < (-1)) = true := decide_eq_true c15
            clear c15
            (first | rw [c15b0] | (simp only [i64_w, i32_w]; rw [c15b0]) | skip)
            have H' := Aside0.mk H
            clear H
            go_wp2
            go_meet
            case rel => exact ⟨_, (true), (by first | rfl | (simp; done) | (simp [*]; done)), H', ⟨by have := HJ3.out; first | omega | exact Nat.le_refl _⟩, ⟨by repeat (first | (with_reducible first | exact HB.out | apply below_alloc | apply pw_below_drewN | apply below_drew1) | exact HB.out)⟩⟩
          · rw [if_neg c15] at H
            have c15b0 : decide (t131 < (-1)) = false := decide_eq_false c15
            clear c15
            (first | rw [c15b0] | (simp only [i64_w, i32_w]; rw [c15b0]) | skip)
            by_cases c16 : t131 ≥ (l0.length : Int)
            · rw [if_pos c16] at H
              have c16b0 : decide ((l0.length : Int) ≤ t131) = true := decide_eq_true c16
              clear c16
              have H' := Aside0.mk H
              clear H
              go_wp2
              go_meet
              case rel => exact ⟨_, (true), (by first | rfl | (simp; done) | (simp [*]; done)), H', ⟨by have := HJ3.out; first | omega | exact Nat.le_refl _⟩, ⟨by repeat (first | (with_reducible first | exact HB.out | apply below_alloc | apply pw_below_drewN | apply below_drew1) | exact HB.out)⟩⟩
            · rw [if_neg c16] at H
              have c16b0 : decide ((l0.length : Int) ≤ t131) = false := decide_eq_false c16
              clear c16
              replace H := Option.bind_eq_some_iff.mp H
              obtain ⟨t133, A170, H⟩ := H
              replace H : (copperplatelaw15_DepthAt.j1 kj3 l0 a1 t131 t132 ((decide (t131 ≥ 0)) != (decide (t133 > a1)))) = some r := H
              have A17 := Aside0.mk A170
              clear A170
              have H' := Aside0.mk H
              clear H
              go_wp2_with (first | (go_at_call 26; (with_reducible refine (depth_Depth.calls _ _ l0 t133 _ ?side1 ?side2 A17.out).mono ?_); (case side1 => repeat (first | exact (Kd.C_below HR0.out HB.out) | (with_reducible refine Kd.C_alloc ?_ _) | (with_reducible refine Kd.C_drewN ?_ _) | (with_reducible refine Kd.C_drew ?_))); (case side2 => exact HC0.out); (try clear A17); rintro e w18 ⟨rfl, hb⟩; have n0_ := Aside0.mk (below_step (by repeat (first | (with_reducible first | exact HB.out | apply below_alloc | apply pw_below_drewN | apply below_drew1) | exact HB.out)) hb); clear HB; have HB := n0_; clear n0_; (try clear hb); (try clear hb2); (try clear hk); (try clear hi)))
              go_meet
              case rel => exact ⟨_, (((decide (t131 ≥ 0)) != (decide (t133 > a1)))), (by first | rfl | (simp; done) | (simp [*]; done)), H', ⟨by have := HJ3.out; first | omega | exact Nat.le_refl _⟩, ⟨by repeat (first | (with_reducible first | exact HB.out | apply below_alloc | apply pw_below_drewN | apply below_drew1) | exact HB.out)⟩⟩
        case rest =>
          clear HC12
          try clear c1
          try clear c2
          try clear p2
          try clear c6
          try clear p6
          try clear c7
          try clear c7b0
          try clear c7b1
          try clear c8
          try clear c8b0
          try clear c9
          try clear c10
          try clear c15
          try clear c15b0
          try clear c16
          try clear c16b0
          try clear p2
          obtain ⟨kq, x48_11, rfl, HA, HJ11, HB⟩ := hcut
          cases kq with
          | zero => exact absurd HA.out (by simp [copperplatelaw15_DepthAt.j1])
          | succ kj11 =>
            have H := HA.out
            clear HA
            simp only [copperplatelaw15_DepthAt.j1] at H
            by_cases c19 : x48_11 = true
            · subst c19
              have H1 : (some false) = some r := by rw [if_pos rfl] at H; exact H
              clear H
              have H := H1
              clear H1
              exact absurd H (by have h_ := HT_.out; subst h_; decide)
            · replace c19 := Bool.eq_false_iff.mpr c19
              subst c19
              have H1 : (if t131 = (-1) then (some (t132 == (-1))) else (if 0 ≤ t131 then (if t131 ≤ (l0.length : Int) then ((depth_Depth.f (l0.take (t131 : Int).toNat)).bind fun t135 => (if t135 ≤ a1 then (if 0 ≤ (wrap64 (t131 + 1)) then (if (wrap64 (t131 + 1)) ≤ (l0.length : Int) then ((depth_Ends.f (l0.take ((wrap64 (t131 + 1)) : Int).toNat)).bind fun t137 => (if t137 = (wrap64 (a1 + 1)) then ((depth_Depth.f (l0.take ((wrap64 (t131 + 1)) : Int).toNat)).bind fun t139 => (if t139 = (wrap64 (a1 + 1)) then (if t132 = (-1) then (some true) else (some (decide (t132 > t131)))) else (some false))) else (some false))) else (none)) else (none)) else (some false))) else (none)) else (none))) = some r := by rw [if_neg (show ¬ (false = true) by decide)] at H; exact H
              clear H
              have H := H1
              clear H1
              by_cases c20 : t131 = (-1)
              · rw [if_pos c20] at H
                have c20b0 : (t131 == (-1)) = true := beq_iff_eq.mpr c20
                have c20b1 : (t131 != (-1)) = false := bne_eq_false_iff_eq.mpr c20
                clear c20
                obtain rfl := Option.some.inj H
                go_wp2
                go_ret
                exact ⟨by first | rfl | (simp [errW_none, errW_some] <;> rfl) | (simp [*, errW_none, errW_some] <;> rfl), by repeat (first | (with_reducible first | exact HB.out | apply below_alloc | apply pw_below_drewN | apply below_drew1) | exact HB.out)⟩
              · rw [if_neg c20] at H
                have c20b0 : (t131 == (-1)) = false := beq_eq_false_iff_ne.mpr c20
                have c20b1 : (t131 != (-1)) = true := bne_iff_ne.mpr c20
                by_cases c21 : 0 ≤ t131
                · rw [if_pos c21] at H
                  have c21b0 := eq_true c21
                  have c21b1 : decide (0 ≤ t131) = true := decide_eq_true c21
                  clear c21
                  by_cases c22 : t131 ≤ (l0.length : Int)
                  · rw [if_pos c22] at H
                    have c22b0 := eq_true c22
                    have c22b1 : decide (t131 ≤ (l0.length : Int)) = true := decide_eq_true c22
                    clear c22
                    replace H := Option.bind_eq_some_iff.mp H
                    obtain ⟨t135, A230, H⟩ := H
                    replace H : (if t135 ≤ a1 then (if 0 ≤ (wrap64 (t131 + 1)) then (if (wrap64 (t131 + 1)) ≤ (l0.length : Int) then ((depth_Ends.f (l0.take ((wrap64 (t131 + 1)) : Int).toNat)).bind fun t137 => (if t137 = (wrap64 (a1 + 1)) then ((depth_Depth.f (l0.take ((wrap64 (t131 + 1)) : Int).toNat)).bind fun t139 => (if t139 = (wrap64 (a1 + 1)) then (if t132 = (-1) then (some true) else (some (decide (t132 > t131)))) else (some false))) else (some false))) else (none)) else (none)) else (some false)) = some r := H
                    have A23 := Aside0.mk A230
                    clear A230
                    by_cases c24 : t135 ≤ a1
                    · rw [if_pos c24] at H
                      have c24b0 : decide (t135 ≤ a1) = true := decide_eq_true c24
                      clear c24
                      obtain ⟨ji25, hji25⟩ : ∃ j_ : Int, (wrap64 (t131 + 1)) = j_ := ⟨_, rfl⟩
                      replace H : (if 0 ≤ (ji25) then (if (ji25) ≤ (l0.length : Int) then ((depth_Ends.f (l0.take ((ji25) : Int).toNat)).bind fun t137 => (if t137 = (wrap64 (a1 + 1)) then ((depth_Depth.f (l0.take ((ji25) : Int).toNat)).bind fun t139 => (if t139 = (wrap64 (a1 + 1)) then (if t132 = (-1) then (some true) else (some (decide (t132 > t131)))) else (some false))) else (some false))) else (none)) else (none)) = some r := by first | (rw [hji25] at H; exact H) | (simp only [hji25] at H ⊢; exact H)
                      (try rw [hji25] at A23)
                      have hji25w : (IntKind.i64.wrap (t131 + 1)) = ji25 := (i64_w _).trans hji25
                      by_cases c26 : 0 ≤ (ji25)
                      · rw [if_pos c26] at H
                        have c26b0 := eq_true c26
                        have c26b1 : decide (0 ≤ (ji25)) = true := decide_eq_true c26
                        clear c26
                        by_cases c27 : (ji25) ≤ (l0.length : Int)
                        · rw [if_pos c27] at H
                          have c27b0 := eq_true c27
                          have c27b1 : decide ((ji25) ≤ (l0.length : Int)) = true := decide_eq_true c27
                          clear c27
                          replace H := Option.bind_eq_some_iff.mp H
                          obtain ⟨t137, A280, H⟩ := H
                          replace H : (if t137 = (wrap64 (a1 + 1)) then ((depth_Depth.f (l0.take ((ji25) : Int).toNat)).bind fun t139 => (if t139 = (wrap64 (a1 + 1)) then (if t132 = (-1) then (some true) else (some (decide (t132 > t131)))) else (some false))) else (some false)) = some r := H
                          have A28 := Aside0.mk A280
                          clear A280
                          by_cases c29 : t137 = (wrap64 (a1 + 1))
                          · rw [if_pos c29] at H
                            have c29b0 : (t137 == (wrap64 (a1 + 1))) = true := beq_iff_eq.mpr c29
                            have c29b1 : (t137 != (wrap64 (a1 + 1))) = false := bne_eq_false_iff_eq.mpr c29
                            clear c29
                            have c30b0 := eq_true (of_decide_eq_true (by first | (with_reducible assumption) | assumption) : 0 ≤ (ji25))
                            have c31b0 := eq_true (of_decide_eq_true (by first | (with_reducible assumption) | assumption) : (ji25) ≤ (l0.length : Int))
                            replace H := Option.bind_eq_some_iff.mp H
                            obtain ⟨t139, A320, H⟩ := H
                            replace H : (if t139 = (wrap64 (a1 + 1)) then (if t132 = (-1) then (some true) else (some (decide (t132 > t131)))) else (some false)) = some r := H
                            have A32 := Aside0.mk A320
                            clear A320
                            by_cases c33 : t139 = (wrap64 (a1 + 1))
                            · rw [if_pos c33] at H
                              have c33b0 : (t139 == (wrap64 (a1 + 1))) = true := beq_iff_eq.mpr c33
                              have c33b1 : (t139 != (wrap64 (a1 + 1))) = false := bne_eq_false_iff_eq.mpr c33
                              clear c33
                              by_cases c34 : t132 = (-1)
                              · rw [if_pos c34] at H
                                have c34b0 : (t132 == (-1)) = true := beq_iff_eq.mpr c34
                                have c34b1 : (t132 != (-1)) = false := bne_eq_false_iff_eq.mpr c34
                                clear c34
                                obtain rfl := Option.some.inj H
                                obtain ⟨i035, hi035, _, hsz35, _⟩ := info_parts info3
                                obtain ⟨hcut35, hA35, hC35⟩ := print_take_of (P := Try.prog) (Value.int .i64) 0 35 3 .i64 Try.underlying35 hi035 hsz35 A0 c0 l0 t131 (of_decide_eq_true (by first | (with_reducible assumption) | assumption)) (of_decide_eq_true (by first | (with_reducible assumption) | assumption)) HC0.out
                                have HR134 := Aside0.mk (Kd.C_of_reads (h1 := fun _ => rfl) (hA35 _ (Kd.reads_of_C HR0.out)))
                                have HC134 := Aside0.mk hC35
                                clear hA35 hC35 hi035 hsz35
                                (try (have hw_ : wrap64 (a1 + 1) = (a1 + 1) := (by unfold wrap64; omega); have c29b0u := c29b0; rw [hw_] at c29b0u))
                                (try (have hw_ : wrap64 (a1 + 1) = (a1 + 1) := (by unfold wrap64; omega); have c29b1u := c29b1; rw [hw_] at c29b1u))
                                (try (have hw_ : wrap64 (a1 + 1) = (a1 + 1) := (by unfold wrap64; omega); have c33b0u := c33b0; rw [hw_] at c33b0u))
                                (try (have hw_ : wrap64 (a1 + 1) = (a1 + 1) := (by unfold wrap64; omega); have c33b1u := c33b1; rw [hw_] at c33b1u))
                                go_wp2_with (first | ((with_reducible refine gate_callee (f := 26) rfl ?_); refine goesL_ (some 56) rfl rfl Try.func26 (by kernel_rfl) rfl #[.slice A0 (l0.take (t131 : Int).toNat).length c0] rfl (by (try simp only [List.map_toArray, List.map_cons, List.map_nil]); first | done | (rw [show (l0.take (t131 : Int).toNat).length = t131.toNat from (by rw [List.length_take]; have h_ : (t131 : Int) ≤ (l0.length : Int) := of_decide_eq_true (by first | (with_reducible assumption) | assumption); omega)] <;> rfl) | rfl | (simp only [List.length_drop, List.length_take]; rfl)) ?_; (with_reducible refine (depth_Depth.calls _ _ (l0.take (t131 : Int).toNat) t135 _ ?side1 ?side2 A23.out).mono ?_); (case side1 => repeat (first | exact (Kd.C_below HR134.out HB.out) | (with_reducible refine Kd.C_alloc ?_ _) | (with_reducible refine Kd.C_drewN ?_ _) | (with_reducible refine Kd.C_drew ?_))); (case side2 => exact HC134.out); (try clear A23); rintro e w36 ⟨rfl, hb⟩; refine ⟨_, rfl, ?_⟩; have n0_ := Aside0.mk (below_step (by repeat (first | (with_reducible first | exact HB.out | apply below_alloc | apply pw_below_drewN | apply below_drew1) | exact HB.out)) hb); clear HB; have HB := n0_; clear n0_; (try clear hb); (try clear hb2); (try clear hk); (try clear hi); obtain ⟨i037, hi037, _, hsz37, _⟩ := info_parts info3; obtain ⟨hcut37, hA37, hC37⟩ := print_take_of (P := Try.prog) (Value.int .i64) 0 35 3 .i64 Try.underlying35 hi037 hsz37 A0 c0 l0 (ji25) (of_decide_eq_true (by first | (with_reducible assumption) | assumption)) (of_decide_eq_true (by first | (with_reducible assumption) | assumption)) HC0.out; have HR136 := Aside0.mk (Kd.C_of_reads (h1 := fun _ => rfl) (hA37 _ (Kd.reads_of_C HR0.out))); have HC136 := Aside0.mk hC37; clear hA37 hC37 hi037 hsz37) | (go_at_call 30; (try rw [show ∀ (A_ : Option Addr) (c_ : Nat), Value.slice A_ (ji25 : Int).toNat c_ = Value.slice A_ (l0.take (ji25 : Int).toNat).length c_ from fun A_ c_ => by rw [List.length_take, Nat.min_eq_left (by have h_ : (ji25 : Int) ≤ (l0.length : Int) := of_decide_eq_true (by assumption); omega)]]); (with_reducible refine (depth_Ends.calls _ _ (l0.take ((ji25) : Int).toNat) t137 _ ?side1 ?side2 A28.out).mono ?_); (case side1 => repeat (first | exact (Kd.C_below HR136.out HB.out) | (with_reducible refine Kd.C_alloc ?_ _) | (with_reducible refine Kd.C_drewN ?_ _) | (with_reducible refine Kd.C_drew ?_))); (case side2 => exact HC136.out); (try clear A28); rintro e w38 ⟨rfl, hb⟩; have n0_ := Aside0.mk (below_step (by repeat (first | (with_reducible first | exact HB.out | apply below_alloc | apply pw_below_drewN | apply below_drew1) | exact HB.out)) hb); clear HB; have HB := n0_; clear n0_; (try clear hb); (try clear hb2); (try clear hk); (try clear hi); obtain ⟨i039, hi039, _, hsz39, _⟩ := info_parts info3; obtain ⟨hcut39, hA39, hC39⟩ := print_take_of (P := Try.prog) (Value.int .i64) 0 35 3 .i64 Try.underlying35 hi039 hsz39 A0 c0 l0 (ji25) (of_decide_eq_true (by first | (with_reducible assumption) | assumption)) (of_decide_eq_true (by first | (with_reducible assumption) | assumption)) HC0.out; have HR138 := Aside0.mk (Kd.C_of_reads (h1 := fun _ => rfl) (hA39 _ (Kd.reads_of_C HR0.out))); have HC138 := Aside0.mk hC39; clear hA39 hC39 hi039 hsz39) | (go_at_call 26; (try rw [show ∀ (A_ : Option Addr) (c_ : Nat), Value.slice A_ (ji25 : Int).toNat c_ = Value.slice A_ (l0.take (ji25 : Int).toNat).length c_ from fun A_ c_ => by rw [List.length_take, Nat.min_eq_left (by have h_ : (ji25 : Int) ≤ (l0.length : Int) := of_decide_eq_true (by assumption); omega)]]); (with_reducible refine (depth_Depth.calls _ _ (l0.take ((ji25) : Int).toNat) t139 _ ?side1 ?side2 A32.out).mono ?_); (case side1 => repeat (first | exact (Kd.C_below HR138.out HB.out) | (with_reducible refine Kd.C_alloc ?_ _) | (with_reducible refine Kd.C_drewN ?_ _) | (with_reducible refine Kd.C_drew ?_))); (case side2 => exact HC138.out); (try clear A32); rintro e w40 ⟨rfl, hb⟩; have n0_ := Aside0.mk (below_step (by repeat (first | (with_reducible first | exact HB.out | apply below_alloc | apply pw_below_drewN | apply below_drew1) | exact HB.out)) hb); clear HB; have HB := n0_; clear n0_; (try clear hb); (try clear hb2); (try clear hk); (try clear hi)))
                                go_ret
                                exact ⟨by first | rfl | (simp [errW_none, errW_some] <;> rfl) | (simp only [← hji25]; first | rfl | (simp [errW_none, errW_some] <;> rfl)) | (simp [*, errW_none, errW_some] <;> rfl), by repeat (first | (with_reducible first | exact HB.out | apply below_alloc | apply pw_below_drewN | apply below_drew1) | exact HB.out)⟩
                              · rw [if_neg c34] at H
                                have c34b0 : (t132 == (-1)) = false := beq_eq_false_iff_ne.mpr c34
                                have c34b1 : (t132 != (-1)) = true := bne_iff_ne.mpr c34
                                obtain rfl := Option.some.inj H
                                obtain ⟨i041, hi041, _, hsz41, _⟩ := info_parts info3
                                obtain ⟨hcut41, hA41, hC41⟩ := print_take_of (P := Try.prog) (Value.int .i64) 0 35 3 .i64 Try.underlying35 hi041 hsz41 A0 c0 l0 t131 (of_decide_eq_true (by first | (with_reducible assumption) | assumption)) (of_decide_eq_true (by first | (with_reducible assumption) | assumption)) HC0.out
                                have HR134 := Aside0.mk (Kd.C_of_reads (h1 := fun _ => rfl) (hA41 _ (Kd.reads_of_C HR0.out)))
                                have HC134 := Aside0.mk hC41
                                clear hA41 hC41 hi041 hsz41
                                (try (have hw_ : wrap64 (a1 + 1) = (a1 + 1) := (by unfold wrap64; omega); have c29b0u := c29b0; rw [hw_] at c29b0u))
                                (try (have hw_ : wrap64 (a1 + 1) = (a1 + 1) := (by unfold wrap64; omega); have c29b1u := c29b1; rw [hw_] at c29b1u))
                                (try (have hw_ : wrap64 (a1 + 1) = (a1 + 1) := (by unfold wrap64; omega); have c33b0u := c33b0; rw [hw_] at c33b0u))
                                (try (have hw_ : wrap64 (a1 + 1) = (a1 + 1) := (by unfold wrap64; omega); have c33b1u := c33b1; rw [hw_] at c33b1u))
                                go_wp2_with (first | ((with_reducible refine gate_callee (f := 26) rfl ?_); refine goesL_ (some 56) rfl rfl Try.func26 (by kernel_rfl) rfl #[.slice A0 (l0.take (t131 : Int).toNat).length c0] rfl (by (try simp only [List.map_toArray, List.map_cons, List.map_nil]); first | done | (rw [show (l0.take (t131 : Int).toNat).length = t131.toNat from (by rw [List.length_take]; have h_ : (t131 : Int) ≤ (l0.length : Int) := of_decide_eq_true (by first | (with_reducible assumption) | assumption); omega)] <;> rfl) | rfl | (simp only [List.length_drop, List.length_take]; rfl)) ?_; (with_reducible refine (depth_Depth.calls _ _ (l0.take (t131 : Int).toNat) t135 _ ?side1 ?side2 A23.out).mono ?_); (case side1 => repeat (first | exact (Kd.C_below HR134.out HB.out) | (with_reducible refine Kd.C_alloc ?_ _) | (with_reducible refine Kd.C_drewN ?_ _) | (with_reducible refine Kd.C_drew ?_))); (case side2 => exact HC134.out); (try clear A23); rintro e w42 ⟨rfl, hb⟩; refine ⟨_, rfl, ?_⟩; have n0_ := Aside0.mk (below_step (by repeat (first | (with_reducible first | exact HB.out | apply below_alloc | apply pw_below_drewN | apply below_drew1) | exact HB.out)) hb); clear HB; have HB := n0_; clear n0_; (try clear hb); (try clear hb2); (try clear hk); (try clear hi); obtain ⟨i043, hi043, _, hsz43, _⟩ := info_parts info3; obtain ⟨hcut43, hA43, hC43⟩ := print_take_of (P := Try.prog) (Value.int .i64) 0 35 3 .i64 Try.underlying35 hi043 hsz43 A0 c0 l0 (ji25) (of_decide_eq_true (by first | (with_reducible assumption) | assumption)) (of_decide_eq_true (by first | (with_reducible assumption) | assumption)) HC0.out; have HR136 := Aside0.mk (Kd.C_of_reads (h1 := fun _ => rfl) (hA43 _ (Kd.reads_of_C HR0.out))); have HC136 := Aside0.mk hC43; clear hA43 hC43 hi043 hsz43) | (go_at_call 30; (try rw [show ∀ (A_ : Option Addr) (c_ : Nat), Value.slice A_ (ji25 : Int).toNat c_ = Value.slice A_ (l0.take (ji25 : Int).toNat).length c_ from fun A_ c_ => by rw [List.length_take, Nat.min_eq_left (by have h_ : (ji25 : Int) ≤ (l0.length : Int) := of_decide_eq_true (by assumption); omega)]]); (with_reducible refine (depth_Ends.calls _ _ (l0.take ((ji25) : Int).toNat) t137 _ ?side1 ?side2 A28.out).mono ?_); (case side1 => repeat (first | exact (Kd.C_below HR136.out HB.out) | (with_reducible refine Kd.C_alloc ?_ _) | (with_reducible refine Kd.C_drewN ?_ _) | (with_reducible refine Kd.C_drew ?_))); (case side2 => exact HC136.out); (try clear A28); rintro e w44 ⟨rfl, hb⟩; have n0_ := Aside0.mk (below_step (by repeat (first | (with_reducible first | exact HB.out | apply below_alloc | apply pw_below_drewN | apply below_drew1) | exact HB.out)) hb); clear HB; have HB := n0_; clear n0_; (try clear hb); (try clear hb2); (try clear hk); (try clear hi); obtain ⟨i045, hi045, _, hsz45, _⟩ := info_parts info3; obtain ⟨hcut45, hA45, hC45⟩ := print_take_of (P := Try.prog) (Value.int .i64) 0 35 3 .i64 Try.underlying35 hi045 hsz45 A0 c0 l0 (ji25) (of_decide_eq_true (by first | (with_reducible assumption) | assumption)) (of_decide_eq_true (by first | (with_reducible assumption) | assumption)) HC0.out; have HR138 := Aside0.mk (Kd.C_of_reads (h1 := fun _ => rfl) (hA45 _ (Kd.reads_of_C HR0.out))); have HC138 := Aside0.mk hC45; clear hA45 hC45 hi045 hsz45) | (go_at_call 26; (try rw [show ∀ (A_ : Option Addr) (c_ : Nat), Value.slice A_ (ji25 : Int).toNat c_ = Value.slice A_ (l0.take (ji25 : Int).toNat).length c_ from fun A_ c_ => by rw [List.length_take, Nat.min_eq_left (by have h_ : (ji25 : Int) ≤ (l0.length : Int) := of_decide_eq_true (by assumption); omega)]]); (with_reducible refine (depth_Depth.calls _ _ (l0.take ((ji25) : Int).toNat) t139 _ ?side1 ?side2 A32.out).mono ?_); (case side1 => repeat (first | exact (Kd.C_below HR138.out HB.out) | (with_reducible refine Kd.C_alloc ?_ _) | (with_reducible refine Kd.C_drewN ?_ _) | (with_reducible refine Kd.C_drew ?_))); (case side2 => exact HC138.out); (try clear A32); rintro e w46 ⟨rfl, hb⟩; have n0_ := Aside0.mk (below_step (by repeat (first | (with_reducible first | exact HB.out | apply below_alloc | apply pw_below_drewN | apply below_drew1) | exact HB.out)) hb); clear HB; have HB := n0_; clear n0_; (try clear hb); (try clear hb2); (try clear hk); (try clear hi)))
                                go_ret
                                exact ⟨by first | rfl | (simp [errW_none, errW_some] <;> rfl) | (simp only [← hji25]; first | rfl | (simp [errW_none, errW_some] <;> rfl)) | (simp [*, errW_none, errW_some] <;> rfl), by repeat (first | (with_reducible first | exact HB.out | apply below_alloc | apply pw_below_drewN | apply below_drew1) | exact HB.out)⟩
                            · rw [if_neg c33] at H
                              have c33b0 : (t139 == (wrap64 (a1 + 1))) = false := beq_eq_false_iff_ne.mpr c33
                              have c33b1 : (t139 != (wrap64 (a1 + 1))) = true := bne_iff_ne.mpr c33
                              exact absurd H (by have h_ := HT_.out; subst h_; decide)
                          · rw [if_neg c29] at H
                            have c29b0 : (t137 == (wrap64 (a1 + 1))) = false := beq_eq_false_iff_ne.mpr c29
                            have c29b1 : (t137 != (wrap64 (a1 + 1))) = true := bne_iff_ne.mpr c29
                            exact absurd H (by have h_ := HT_.out; subst h_; decide)
                        · rw [if_neg c27] at H
                          exact absurd H (by simp)
                      · rw [if_neg c26] at H
                        exact absurd H (by simp)
                    · rw [if_neg c24] at H
                      have c24b0 : decide (t135 ≤ a1) = false := decide_eq_false c24
                      clear c24
                      exact absurd H (by have h_ := HT_.out; subst h_; decide)
                  · rw [if_neg c22] at H
                    exact absurd H (by simp)
                · rw [if_neg c21] at H
                  exact absurd H (by simp)

/-- The pure statement of copperplatelaw15_DepthAt. -/
def copperplatelaw15_DepthAt.Pure : Prop := ∀ (l0 : List Int) (a1 : Int), l0.length * 8 ≤ 140737488351232 → (∀ x ∈ l0, (Lit.int .i64 x).wf = true) → (Lit.int .i64 a1).wf = true → ∃ k, copperplatelaw15_DepthAt.f k l0 a1 = some true

/-! ### copperplatelaw15_DepthJoins: function 11 -/
mutual
def copperplatelaw15_DepthJoins.j0 : Nat → List Int → List Int → Bool → Bool → Option (Bool)
  | 0, _, _, _, _ => none
  | k + 1, x0, x1, x5, x21 => if x21 = true then (some x5) else (if ([] : List Int).length + x0.length < 17592186044416 then ((some (([] : List Int) ++ x0 : List Int)).bind fun y141 => (if y141.length + x1.length < 17592186044416 then ((some (y141 ++ x1 : List Int)).bind fun y144 => ((depth_Ends.f x0).bind fun t147 => ((depth_Depth.f x0).bind fun t148 => ((depth_Depth.f x1).bind fun t149 => (if (wrap64 (t147 + t149)) > t148 then ((depth_Depth.f x1).bind fun t150 => (copperplatelaw15_DepthJoins.j1 k x0 x1 y144 t147 (wrap64 (t147 + t150)))) else (copperplatelaw15_DepthJoins.j1 k x0 x1 y144 t147 t148)))))) else (none))) else (none))
def copperplatelaw15_DepthJoins.j1 : Nat → List Int → List Int → List Int → Int → Int → Option (Bool)
  | 0, _, _, _, _, _ => none
  | k + 1, x0, x1, x6, x7, x8 => (depth_Ends.f x6).bind fun t151 => ((depth_Ends.f x1).bind fun t152 => (if t151 = (wrap64 (x7 + t152)) then ((depth_Depth.f x6).bind fun t153 => (if t153 = x8 then ((depth_Depth.f x0).bind fun t154 => (if t154 ≥ 0 then ((depth_Depth.f x0).bind fun t155 => (some (decide (t155 ≥ x7)))) else (some false))) else (some false))) else (some false)))
end
def copperplatelaw15_DepthJoins.f (k : Nat) (l0 : List Int) (l1 : List Int) : Option (Bool) := (copperplatelaw15_awake.f).bind fun t140 => (if t140 = true then (if (l0.length : Int) > 300 then (copperplatelaw15_DepthJoins.j0 k l0 l1 t140 true) else (copperplatelaw15_DepthJoins.j0 k l0 l1 t140 (decide ((l1.length : Int) > 300)))) else (copperplatelaw15_DepthJoins.j0 k l0 l1 t140 true))
theorem copperplatelaw15_DepthJoins.mono_l : ∀ k, (∀ y0 y1 y2 y3, LeO (copperplatelaw15_DepthJoins.j0 k y0 y1 y2 y3) (copperplatelaw15_DepthJoins.j0 (k + 1) y0 y1 y2 y3)) ∧ (∀ y0 y1 y2 y3 y4, LeO (copperplatelaw15_DepthJoins.j1 k y0 y1 y2 y3 y4) (copperplatelaw15_DepthJoins.j1 (k + 1) y0 y1 y2 y3 y4))
  | 0 => ⟨fun _ _ _ _ r h => by simp [copperplatelaw15_DepthJoins.j0] at h, fun _ _ _ _ _ r h => by simp [copperplatelaw15_DepthJoins.j1] at h⟩
  | k + 1 => by
    obtain ⟨ih0, ih1⟩ := copperplatelaw15_DepthJoins.mono_l k
    refine ⟨?_, ?_⟩
    · intro y0 y1 y2 y3
      unfold copperplatelaw15_DepthJoins.j0
      repeat' first
      | (with_reducible exact ih0 _ _ _ _)
      | (with_reducible exact ih1 _ _ _ _ _)
      | (with_reducible exact LeO.refl _)
      | (with_reducible exact LeO.none _)
      | (with_reducible refine LeO.ite ?_ ?_)
      | (with_reducible refine LeO.bind ?_ (fun _ => ?_))
      | exact ih0 _ _ _ _
      | exact ih1 _ _ _ _ _
      | exact LeO.none _
      | refine LeO.ite ?_ ?_
      | refine LeO.bind ?_ (fun _ => ?_)
    · intro y0 y1 y2 y3 y4
      unfold copperplatelaw15_DepthJoins.j1
      repeat' first
      | (with_reducible exact ih0 _ _ _ _)
      | (with_reducible exact ih1 _ _ _ _ _)
      | (with_reducible exact LeO.refl _)
      | (with_reducible exact LeO.none _)
      | (with_reducible refine LeO.ite ?_ ?_)
      | (with_reducible refine LeO.bind ?_ (fun _ => ?_))
      | exact ih0 _ _ _ _
      | exact ih1 _ _ _ _ _
      | exact LeO.none _
      | refine LeO.ite ?_ ?_
      | refine LeO.bind ?_ (fun _ => ?_)
theorem copperplatelaw15_DepthJoins.mono : ∀ a0 a1 k, LeO (copperplatelaw15_DepthJoins.f k a0 a1) (copperplatelaw15_DepthJoins.f (k + 1) a0 a1) := by
  intro a0 a1 k
  obtain ⟨ih0, ih1⟩ := copperplatelaw15_DepthJoins.mono_l k
  unfold copperplatelaw15_DepthJoins.f
  repeat' first
      | (with_reducible exact ih0 _ _ _ _)
      | (with_reducible exact ih1 _ _ _ _ _)
      | (with_reducible exact LeO.refl _)
      | (with_reducible exact LeO.none _)
      | (with_reducible refine LeO.ite ?_ ?_)
      | (with_reducible refine LeO.bind ?_ (fun _ => ?_))
      | exact ih0 _ _ _ _
      | exact ih1 _ _ _ _ _
      | exact LeO.none _
      | refine LeO.ite ?_ ?_
      | refine LeO.bind ?_ (fun _ => ?_)
set_option maxHeartbeats 8000000 in
set_option maxRecDepth 100000 in
theorem copperplatelaw15_DepthJoins.calls (k : Nat) (A0 : Option Addr) (c0 : Nat) (l0 : List Int) (A1 : Option Addr) (c1 : Nat) (l1 : List Int) (r : Bool) (w : World) (hr0 : Kd.C (Kd.int .i64) w A0 l0.length l0) (hc0 : l0.length ≤ c0) (hr1 : Kd.C (Kd.int .i64) w A1 l1.length l1) (hc1 : l1.length ≤ c1) (h : copperplatelaw15_DepthJoins.f k l0 l1 = some r) (hT_ : r = true) :
    Calls Try.prog 11 #[.slice A0 l0.length c0, .slice A1 l1.length c1] w fun e w' => e = .returned (.bool r) ∧ Below w.heap.size w w' := by
  have HT_ := Aside0.mk hT_
  clear hT_
  have HR0 := Aside0.mk hr0
  have HC0 := Aside0.mk hc0
  clear hr0 hc0
  have HR1 := Aside0.mk hr1
  have HC1 := Aside0.mk hc1
  clear hr1 hc1
  have HB := Aside0.mk (Below.refl w.heap.size w)
  have H : ((copperplatelaw15_awake.f).bind fun t140 => (if t140 = true then (if (l0.length : Int) > 300 then (copperplatelaw15_DepthJoins.j0 k l0 l1 t140 true) else (copperplatelaw15_DepthJoins.j0 k l0 l1 t140 (decide ((l1.length : Int) > 300)))) else (copperplatelaw15_DepthJoins.j0 k l0 l1 t140 true))) = some r := h
  clear h
  replace H := Option.bind_eq_some_iff.mp H
  obtain ⟨t140, A30, H⟩ := H
  replace H : (if t140 = true then (if (l0.length : Int) > 300 then (copperplatelaw15_DepthJoins.j0 k l0 l1 t140 true) else (copperplatelaw15_DepthJoins.j0 k l0 l1 t140 (decide ((l1.length : Int) > 300)))) else (copperplatelaw15_DepthJoins.j0 k l0 l1 t140 true)) = some r := H
  have A3 := Aside0.mk A30
  clear A30
  have HC4 := Aside0.mk H
  clear H
  go_enter Try.func11, Try.ntmps11
  go_upto_region 2 with (first | ((with_reducible refine gate_callee (f := 25) rfl ?_); refine goesL_ (some 9) rfl rfl Try.func25 (by kernel_rfl) rfl #[] rfl (by (try simp only [List.map_toArray, List.map_cons, List.map_nil]); first | done | rfl | (simp only [List.length_drop, List.length_take]; rfl)) ?_; (with_reducible refine (copperplatelaw15_awake.calls  t140 _ A3.out).mono ?_); (try clear A3); rintro e w5 ⟨rfl, hb⟩; refine ⟨_, rfl, ?_⟩; have n0_ := Aside0.mk (below_step (by repeat (first | (with_reducible first | exact HB.out | apply below_alloc | apply pw_below_drewN | apply below_drew1) | exact HB.out)) hb); clear HB; have HB := n0_; clear n0_; (try clear hb); (try clear hb2); (try clear hk); (try clear hi)))
  (try simp only [Act.put, List.setIfInBounds_toArray, List.set_cons_zero, List.set_cons_succ])
  go_cut [21] (fun v21 wc => ∃ (kq : Nat) (x21_3 : Bool), v21 = .bool x21_3 ∧ Aside0 (copperplatelaw15_DepthJoins.j0 kq l0 l1 t140 x21_3 = some r) ∧ Aside0 (kq ≤ k) ∧ Aside0 (Below w.heap.size w wc))
  case first =>
    have H := HC4.out
    clear HC4
    by_cases c6 : t140 = true
    · subst c6
      have H1 : (if (l0.length : Int) > 300 then (copperplatelaw15_DepthJoins.j0 k l0 l1 true true) else (copperplatelaw15_DepthJoins.j0 k l0 l1 true (decide ((l1.length : Int) > 300)))) = some r := by rw [if_pos rfl] at H; exact H
      clear H
      have H := H1
      clear H1
      by_cases c7 : (l0.length : Int) > 300
      · rw [if_pos c7] at H
        have c7b0 : decide (300 < (l0.length : Int)) = true := decide_eq_true c7
        have c7b1 : decide (300 < l0.length) = true := decide_eq_true (by omega)
        clear c7
        (first | rw [c7b0] | (simp only [i64_w, i32_w]; rw [c7b0]) | skip)
        have H' := Aside0.mk H
        clear H
        go_wp2
        go_meet
        case rel => exact ⟨_, (true), (by first | rfl | (simp; done) | (simp [*]; done)), H', ⟨by first | omega | exact Nat.le_refl _⟩, ⟨by repeat (first | (with_reducible first | exact HB.out | apply below_alloc | apply pw_below_drewN | apply below_drew1) | exact HB.out)⟩⟩
      · rw [if_neg c7] at H
        have c7b0 : decide (300 < (l0.length : Int)) = false := decide_eq_false c7
        have c7b1 : decide (300 < l0.length) = false := decide_eq_false (by omega)
        clear c7
        (first | rw [c7b0] | (simp only [i64_w, i32_w]; rw [c7b0]) | skip)
        have H' := Aside0.mk H
        clear H
        go_wp2
        go_meet
        case rel => exact ⟨_, (decide ((l1.length : Int) > 300)), (by first | rfl | (simp; done) | (simp [*]; done)), H', ⟨by first | omega | exact Nat.le_refl _⟩, ⟨by repeat (first | (with_reducible first | exact HB.out | apply below_alloc | apply pw_below_drewN | apply below_drew1) | exact HB.out)⟩⟩
    · replace c6 := Bool.eq_false_iff.mpr c6
      subst c6
      have H1 : (copperplatelaw15_DepthJoins.j0 k l0 l1 false true) = some r := by rw [if_neg (show ¬ (false = true) by decide)] at H; exact H
      clear H
      have H := H1
      clear H1
      have H' := Aside0.mk H
      clear H
      go_wp2
      go_meet
      case rel => exact ⟨_, (true), (by first | rfl | (simp; done) | (simp [*]; done)), H', ⟨by first | omega | exact Nat.le_refl _⟩, ⟨by repeat (first | (with_reducible first | exact HB.out | apply below_alloc | apply pw_below_drewN | apply below_drew1) | exact HB.out)⟩⟩
  case rest =>
    clear HC4
    try clear c1
    try clear c2
    try clear p2
    try clear c6
    try clear c7
    try clear c7b0
    try clear c7b1
    obtain ⟨kq, x21_3, rfl, HA, HJ3, HB⟩ := hcut
    cases kq with
    | zero => exact absurd HA.out (by simp [copperplatelaw15_DepthJoins.j0])
    | succ kj3 =>
      have H := HA.out
      clear HA
      simp only [copperplatelaw15_DepthJoins.j0] at H
      by_cases c8 : x21_3 = true
      · subst c8
        have H1 : (some t140) = some r := by rw [if_pos rfl] at H; exact H
        clear H
        have H := H1
        clear H1
        obtain rfl := Option.some.inj H
        go_wp2
        go_ret
        exact ⟨by first | rfl | (simp [errW_none, errW_some] <;> rfl) | (simp [*, errW_none, errW_some] <;> rfl), by repeat (first | (with_reducible first | exact HB.out | apply below_alloc | apply pw_below_drewN | apply below_drew1) | exact HB.out)⟩
      · replace c8 := Bool.eq_false_iff.mpr c8
        subst c8
        have H1 : (if ([] : List Int).length + l0.length < 17592186044416 then ((some (([] : List Int) ++ l0 : List Int)).bind fun y141 => (if y141.length + l1.length < 17592186044416 then ((some (y141 ++ l1 : List Int)).bind fun y144 => ((depth_Ends.f l0).bind fun t147 => ((depth_Depth.f l0).bind fun t148 => ((depth_Depth.f l1).bind fun t149 => (if (wrap64 (t147 + t149)) > t148 then ((depth_Depth.f l1).bind fun t150 => (copperplatelaw15_DepthJoins.j1 kj3 l0 l1 y144 t147 (wrap64 (t147 + t150)))) else (copperplatelaw15_DepthJoins.j1 kj3 l0 l1 y144 t147 t148)))))) else (none))) else (none)) = some r := by rw [if_neg (show ¬ (false = true) by decide)] at H; exact H
        clear H
        have H := H1
        clear H1
        by_cases c9 : ([] : List Int).length + l0.length < 17592186044416
        · rw [if_pos c9] at H
          have LMc9 := Aside0.mk c9
          clear c9
          obtain ⟨y141, hy141⟩ : ∃ y_ : List Int, y_ = (([] : List Int) ++ l0) := ⟨_, rfl⟩
          replace H : (if y141.length + l1.length < 17592186044416 then ((some (y141 ++ l1 : List Int)).bind fun y144 => ((depth_Ends.f l0).bind fun t147 => ((depth_Depth.f l0).bind fun t148 => ((depth_Depth.f l1).bind fun t149 => (if (wrap64 (t147 + t149)) > t148 then ((depth_Depth.f l1).bind fun t150 => (copperplatelaw15_DepthJoins.j1 kj3 l0 l1 y144 t147 (wrap64 (t147 + t150)))) else (copperplatelaw15_DepthJoins.j1 kj3 l0 l1 y144 t147 t148)))))) else (none)) = some r := by first | (rw [hy141]; with_reducible exact H) | (have H2_ := (Option.bind_some _ _).symm.trans H; rw [hy141]; with_reducible exact H2_) | (have H2_ := (Option.bind_some _ _).symm.trans H; with_reducible exact H2_) | with_reducible exact H | (rw [hy141]; exact H) | exact H
          have Ny141 := Aside0.mk hy141
          clear hy141
          by_cases c10 : y141.length + l1.length < 17592186044416
          · rw [if_pos c10] at H
            have LMc10 := Aside0.mk c10
            clear c10
            obtain ⟨y144, hy144⟩ : ∃ y_ : List Int, y_ = (y141 ++ l1) := ⟨_, rfl⟩
            replace H : ((depth_Ends.f l0).bind fun t147 => ((depth_Depth.f l0).bind fun t148 => ((depth_Depth.f l1).bind fun t149 => (if (wrap64 (t147 + t149)) > t148 then ((depth_Depth.f l1).bind fun t150 => (copperplatelaw15_DepthJoins.j1 kj3 l0 l1 y144 t147 (wrap64 (t147 + t150)))) else (copperplatelaw15_DepthJoins.j1 kj3 l0 l1 y144 t147 t148))))) = some r := by first | (rw [hy144]; with_reducible exact H) | (have H2_ := (Option.bind_some _ _).symm.trans H; rw [hy144]; with_reducible exact H2_) | (have H2_ := (Option.bind_some _ _).symm.trans H; with_reducible exact H2_) | with_reducible exact H | (rw [hy144]; exact H) | exact H
            have Ny144 := Aside0.mk hy144
            clear hy144
            replace H := Option.bind_eq_some_iff.mp H
            obtain ⟨t147, A110, H⟩ := H
            replace H : ((depth_Depth.f l0).bind fun t148 => ((depth_Depth.f l1).bind fun t149 => (if (wrap64 (t147 + t149)) > t148 then ((depth_Depth.f l1).bind fun t150 => (copperplatelaw15_DepthJoins.j1 kj3 l0 l1 y144 t147 (wrap64 (t147 + t150)))) else (copperplatelaw15_DepthJoins.j1 kj3 l0 l1 y144 t147 t148)))) = some r := H
            have A11 := Aside0.mk A110
            clear A110
            replace H := Option.bind_eq_some_iff.mp H
            obtain ⟨t148, A120, H⟩ := H
            replace H : ((depth_Depth.f l1).bind fun t149 => (if (wrap64 (t147 + t149)) > t148 then ((depth_Depth.f l1).bind fun t150 => (copperplatelaw15_DepthJoins.j1 kj3 l0 l1 y144 t147 (wrap64 (t147 + t150)))) else (copperplatelaw15_DepthJoins.j1 kj3 l0 l1 y144 t147 t148))) = some r := H
            have A12 := Aside0.mk A120
            clear A120
            replace H := Option.bind_eq_some_iff.mp H
            obtain ⟨t149, A130, H⟩ := H
            replace H : (if (wrap64 (t147 + t149)) > t148 then ((depth_Depth.f l1).bind fun t150 => (copperplatelaw15_DepthJoins.j1 kj3 l0 l1 y144 t147 (wrap64 (t147 + t150)))) else (copperplatelaw15_DepthJoins.j1 kj3 l0 l1 y144 t147 t148)) = some r := H
            have A13 := Aside0.mk A130
            clear A130
            have HC14 := Aside0.mk H
            clear H
            go_upto_if 36 with (first | ((with_reducible refine gate_builtin (b := .append) (xs := #[.const (.slice none 0 0), .tmp 23]) rfl ?_); (try (refine gate_guard (by rfl) ?_; dsimp only)); at_builtin; refine Kd.R_append_rows (Kd.int .i64) (w0 := w) w.heap.size rfl (.const (.slice none 0 0)) (.tmp 23) 35 3 (.int .i64 0) 8 rfl Try.underlying35 info3 rfl (by decide) (by omega) (.slice none 0 0) ([] : List Int) l0 _ _ _ (fun _ => True) (fun _ => False) rfl rfl ?aO ?aR (fun _ _ h => h) (fun _ h => h.elim) ?aF ?aB ?aS ?aL ?_; (case aR => repeat (first | exact (Kd.C_below HR0.out HB.out) | (with_reducible refine Kd.C_alloc ?_ _) | (with_reducible refine Kd.C_drewN ?_ _) | (with_reducible refine Kd.C_drew ?_))); (case aB => exact (by repeat (first | (with_reducible first | exact HB.out | apply below_alloc | apply pw_below_drewN | apply below_drew1) | exact HB.out))); (case aF => exact (fun _ _ => trivial)); (case aO => exact ((Kd.R_nil _ _ _ _ (fun _ => True)))); (case aS => exact (below_size (by repeat (first | (with_reducible first | exact HB.out | apply below_alloc | apply pw_below_drewN | apply below_drew1) | exact HB.out)))); (case aL => have := LMc9.out; omega); intro v142 w15 ho hb hg hat; rw [← Ny141.out] at ho; have n0_ := Aside0.mk (hb); have n1_ := Aside0.mk (ho); clear HB; have HB := n0_; have HO143 := n1_; clear n0_ n1_; clear ho hb hg hat) | ((with_reducible refine gate_builtin (b := .append) (xs := #[.tmp 24, .tmp 25]) rfl ?_); (try (refine gate_guard (by rfl) ?_; dsimp only)); at_builtin; refine Kd.R_append_rows (Kd.int .i64) (w0 := w) w.heap.size rfl (.tmp 24) (.tmp 25) 35 3 (.int .i64 0) 8 rfl Try.underlying35 info3 rfl (by decide) (by omega) v142 y141 l1 _ _ _ (fun _ => True) (fun _ => False) rfl rfl ?aO ?aR (fun _ _ h => h) (fun _ h => h.elim) ?aF ?aB ?aS ?aL ?_; (case aR => repeat (first | exact (Kd.C_below HR1.out HB.out) | (with_reducible refine Kd.C_alloc ?_ _) | (with_reducible refine Kd.C_drewN ?_ _) | (with_reducible refine Kd.C_drew ?_))); (case aB => exact (by repeat (first | (with_reducible first | exact HB.out | apply below_alloc | apply pw_below_drewN | apply below_drew1) | exact HB.out))); (case aF => exact (fun _ _ => trivial)); (case aO => exact (by (with_reducible repeat (first | apply Kd.R_alloc | apply Kd.R_drewN | apply Kd.R_drew)); exact HO143.out)); (case aS => exact (below_size (by repeat (first | (with_reducible first | exact HB.out | apply below_alloc | apply pw_below_drewN | apply below_drew1) | exact HB.out)))); (case aL => have := LMc10.out; omega); intro v145 w16 ho hb hg hat; rw [← Ny144.out] at ho; have n0_ := Aside0.mk (hb); have n1_ := Aside0.mk (ho); clear HB; clear HO143; have HB := n0_; have HO146 := n1_; clear n0_ n1_; clear ho hb hg hat) | ((with_reducible refine gate_callee (f := 30) rfl ?_); refine goesL_ (some 28) rfl rfl Try.func30 (by kernel_rfl) rfl #[.slice A0 l0.length c0] rfl (by (try simp only [List.map_toArray, List.map_cons, List.map_nil]); first | done | rfl | (simp only [List.length_drop, List.length_take]; rfl)) ?_; (with_reducible refine (depth_Ends.calls _ _ l0 t147 _ ?side1 ?side2 A11.out).mono ?_); (case side1 => repeat (first | exact (Kd.C_below HR0.out HB.out) | (with_reducible refine Kd.C_alloc ?_ _) | (with_reducible refine Kd.C_drewN ?_ _) | (with_reducible refine Kd.C_drew ?_))); (case side2 => exact HC0.out); (try clear A11); rintro e w17 ⟨rfl, hb⟩; refine ⟨_, rfl, ?_⟩; have n0_ := Aside0.mk (Kd.R_below (by (with_reducible repeat (first | apply Kd.R_alloc | apply Kd.R_drewN | apply Kd.R_drew)); exact HO146.out) hb); have n1_ := Aside0.mk (below_step (by repeat (first | (with_reducible first | exact HB.out | apply below_alloc | apply pw_below_drewN | apply below_drew1) | exact HB.out)) hb); clear HO146; clear HB; have HO146 := n0_; have HB := n1_; clear n0_ n1_; (try clear hb); (try clear hb2); (try clear hk); (try clear hi)) | ((with_reducible refine gate_callee (f := 26) rfl ?_); refine goesL_ (some 30) rfl rfl Try.func26 (by kernel_rfl) rfl #[.slice A0 l0.length c0] rfl (by (try simp only [List.map_toArray, List.map_cons, List.map_nil]); first | done | rfl | (simp only [List.length_drop, List.length_take]; rfl)) ?_; (with_reducible refine (depth_Depth.calls _ _ l0 t148 _ ?side1 ?side2 A12.out).mono ?_); (case side1 => repeat (first | exact (Kd.C_below HR0.out HB.out) | (with_reducible refine Kd.C_alloc ?_ _) | (with_reducible refine Kd.C_drewN ?_ _) | (with_reducible refine Kd.C_drew ?_))); (case side2 => exact HC0.out); (try clear A12); rintro e w18 ⟨rfl, hb⟩; refine ⟨_, rfl, ?_⟩; have n0_ := Aside0.mk (Kd.R_below (by (with_reducible repeat (first | apply Kd.R_alloc | apply Kd.R_drewN | apply Kd.R_drew)); exact HO146.out) hb); have n1_ := Aside0.mk (below_step (by repeat (first | (with_reducible first | exact HB.out | apply below_alloc | apply pw_below_drewN | apply below_drew1) | exact HB.out)) hb); clear HO146; clear HB; have HO146 := n0_; have HB := n1_; clear n0_ n1_; (try clear hb); (try clear hb2); (try clear hk); (try clear hi)) | ((with_reducible refine gate_callee (f := 26) rfl ?_); refine goesL_ (some 33) rfl rfl Try.func26 (by kernel_rfl) rfl #[.slice A1 l1.length c1] rfl (by (try simp only [List.map_toArray, List.map_cons, List.map_nil]); first | done | rfl | (simp only [List.length_drop, List.length_take]; rfl)) ?_; (with_reducible refine (depth_Depth.calls _ _ l1 t149 _ ?side1 ?side2 A13.out).mono ?_); (case side1 => repeat (first | exact (Kd.C_below HR1.out HB.out) | (with_reducible refine Kd.C_alloc ?_ _) | (with_reducible refine Kd.C_drewN ?_ _) | (with_reducible refine Kd.C_drew ?_))); (case side2 => exact HC1.out); (try clear A13); rintro e w19 ⟨rfl, hb⟩; refine ⟨_, rfl, ?_⟩; have n0_ := Aside0.mk (Kd.R_below (by (with_reducible repeat (first | apply Kd.R_alloc | apply Kd.R_drewN | apply Kd.R_drew)); exact HO146.out) hb); have n1_ := Aside0.mk (below_step (by repeat (first | (with_reducible first | exact HB.out | apply below_alloc | apply pw_below_drewN | apply below_drew1) | exact HB.out)) hb); clear HO146; clear HB; have HO146 := n0_; have HB := n1_; clear n0_ n1_; (try clear hb); (try clear hb2); (try clear hk); (try clear hi)))
            (try simp only [Act.put, List.setIfInBounds_toArray, List.set_cons_zero, List.set_cons_succ])
            go_cut [8] (fun v8 wc => ∃ (kq : Nat) (x8_13 : Int), v8 = .int .i64 x8_13 ∧ Aside0 (copperplatelaw15_DepthJoins.j1 kq l0 l1 y144 t147 x8_13 = some r) ∧ Aside0 (kq ≤ kj3) ∧ Aside0 (Kd.R (Kd.int .i64) 3 wc w.heap.size (fun _ => True) v145 y144) ∧ Aside0 (Below w.heap.size w wc))
            case first =>
              have H := HC14.out
              clear HC14
              by_cases c20 : (wrap64 (t147 + t149)) > t148
              · rw [if_pos c20] at H
                have c20b0 : decide (t148 < (wrap64 (t147 + t149))) = true := decide_eq_true c20
                clear c20
                (first | rw [c20b0] | (simp only [i64_w, i32_w]; rw [c20b0]) | skip)
                replace H := Option.bind_eq_some_iff.mp H
                obtain ⟨t150, A210, H⟩ := H
                replace H : (copperplatelaw15_DepthJoins.j1 kj3 l0 l1 y144 t147 (wrap64 (t147 + t150))) = some r := H
                have A21 := Aside0.mk A210
                clear A210
                have H' := Aside0.mk H
                clear H
                (try (have hw_ : wrap64 (t147 + t149) = (t147 + t149) := (by unfold wrap64; omega); have c20b0u := c20b0; rw [hw_] at c20b0u))
                go_wp2_with (first | ((with_reducible refine gate_callee (f := 26) rfl ?_); refine goesL_ (some 39) rfl rfl Try.func26 (by kernel_rfl) rfl #[.slice A1 l1.length c1] rfl (by (try simp only [List.map_toArray, List.map_cons, List.map_nil]); first | done | rfl | (simp only [List.length_drop, List.length_take]; rfl)) ?_; (with_reducible refine (depth_Depth.calls _ _ l1 t150 _ ?side1 ?side2 A21.out).mono ?_); (case side1 => repeat (first | exact (Kd.C_below HR1.out HB.out) | (with_reducible refine Kd.C_alloc ?_ _) | (with_reducible refine Kd.C_drewN ?_ _) | (with_reducible refine Kd.C_drew ?_))); (case side2 => exact HC1.out); (try clear A21); rintro e w22 ⟨rfl, hb⟩; refine ⟨_, rfl, ?_⟩; have n0_ := Aside0.mk (Kd.R_below (by (with_reducible repeat (first | apply Kd.R_alloc | apply Kd.R_drewN | apply Kd.R_drew)); exact HO146.out) hb); have n1_ := Aside0.mk (below_step (by repeat (first | (with_reducible first | exact HB.out | apply below_alloc | apply pw_below_drewN | apply below_drew1) | exact HB.out)) hb); clear HO146; clear HB; have HO146 := n0_; have HB := n1_; clear n0_ n1_; (try clear hb); (try clear hb2); (try clear hk); (try clear hi)))
                go_meet
                case rel => exact ⟨_, (wrap64 (t147 + t150)), (by first | rfl | (simp; done) | (simp [*]; done)), H', ⟨by have := HJ3.out; first | omega | exact Nat.le_refl _⟩, ⟨by (with_reducible repeat (first | apply Kd.R_alloc | apply Kd.R_drewN | apply Kd.R_drew)); exact HO146.out⟩, ⟨by repeat (first | (with_reducible first | exact HB.out | apply below_alloc | apply pw_below_drewN | apply below_drew1) | exact HB.out)⟩⟩
              · rw [if_neg c20] at H
                have c20b0 : decide (t148 < (wrap64 (t147 + t149))) = false := decide_eq_false c20
                clear c20
                (first | rw [c20b0] | (simp only [i64_w, i32_w]; rw [c20b0]) | skip)
                have H' := Aside0.mk H
                clear H
                (try (have hw_ : wrap64 (t147 + t149) = (t147 + t149) := (by unfold wrap64; omega); have c20b0u := c20b0; rw [hw_] at c20b0u))
                go_wp2
                go_meet
                case rel => exact ⟨_, (t148), (by first | rfl | (simp; done) | (simp [*]; done)), H', ⟨by have := HJ3.out; first | omega | exact Nat.le_refl _⟩, ⟨by (with_reducible repeat (first | apply Kd.R_alloc | apply Kd.R_drewN | apply Kd.R_drew)); exact HO146.out⟩, ⟨by repeat (first | (with_reducible first | exact HB.out | apply below_alloc | apply pw_below_drewN | apply below_drew1) | exact HB.out)⟩⟩
            case rest =>
              clear HC14
              try clear c1
              try clear c2
              try clear p2
              try clear c3
              try clear c6
              try clear p6
              try clear c7
              try clear c7b0
              try clear c7b1
              try clear c8
              try clear c9
              try clear c10
              try clear c11
              try clear c20
              try clear c20b0
              try clear p2
              obtain ⟨kq, x8_13, rfl, HA, HJ13, HO_6, HB⟩ := hcut
              cases kq with
              | zero => exact absurd HA.out (by simp [copperplatelaw15_DepthJoins.j1])
              | succ kj13 =>
                have H := HA.out
                clear HA
                simp only [copperplatelaw15_DepthJoins.j1] at H
                replace H := Option.bind_eq_some_iff.mp H
                obtain ⟨t151, A230, H⟩ := H
                replace H : ((depth_Ends.f l1).bind fun t152 => (if t151 = (wrap64 (t147 + t152)) then ((depth_Depth.f y144).bind fun t153 => (if t153 = x8_13 then ((depth_Depth.f l0).bind fun t154 => (if t154 ≥ 0 then ((depth_Depth.f l0).bind fun t155 => (some (decide (t155 ≥ t147)))) else (some false))) else (some false))) else (some false))) = some r := H
                have A23 := Aside0.mk A230
                clear A230
                replace H := Option.bind_eq_some_iff.mp H
                obtain ⟨t152, A240, H⟩ := H
                replace H : (if t151 = (wrap64 (t147 + t152)) then ((depth_Depth.f y144).bind fun t153 => (if t153 = x8_13 then ((depth_Depth.f l0).bind fun t154 => (if t154 ≥ 0 then ((depth_Depth.f l0).bind fun t155 => (some (decide (t155 ≥ t147)))) else (some false))) else (some false))) else (some false)) = some r := H
                have A24 := Aside0.mk A240
                clear A240
                by_cases c25 : t151 = (wrap64 (t147 + t152))
                · rw [if_pos c25] at H
                  have c25b0 : (t151 == (wrap64 (t147 + t152))) = true := beq_iff_eq.mpr c25
                  have c25b1 : (t151 != (wrap64 (t147 + t152))) = false := bne_eq_false_iff_eq.mpr c25
                  clear c25
                  replace H := Option.bind_eq_some_iff.mp H
                  obtain ⟨t153, A260, H⟩ := H
                  replace H : (if t153 = x8_13 then ((depth_Depth.f l0).bind fun t154 => (if t154 ≥ 0 then ((depth_Depth.f l0).bind fun t155 => (some (decide (t155 ≥ t147)))) else (some false))) else (some false)) = some r := H
                  have A26 := Aside0.mk A260
                  clear A260
                  by_cases c27 : t153 = x8_13
                  · rw [if_pos c27] at H
                    have c27b0 : (t153 == x8_13) = true := beq_iff_eq.mpr c27
                    have c27b1 : (t153 != x8_13) = false := bne_eq_false_iff_eq.mpr c27
                    clear c27
                    replace H := Option.bind_eq_some_iff.mp H
                    obtain ⟨t154, A280, H⟩ := H
                    replace H : (if t154 ≥ 0 then ((depth_Depth.f l0).bind fun t155 => (some (decide (t155 ≥ t147)))) else (some false)) = some r := H
                    have A28 := Aside0.mk A280
                    clear A280
                    by_cases c29 : t154 ≥ 0
                    · rw [if_pos c29] at H
                      have c29b0 : decide (0 ≤ t154) = true := decide_eq_true c29
                      clear c29
                      replace H := Option.bind_eq_some_iff.mp H
                      obtain ⟨t155, A300, H⟩ := H
                      replace H : (some (decide (t155 ≥ t147))) = some r := H
                      have A30 := Aside0.mk A300
                      clear A300
                      obtain rfl := Option.some.inj H
                      obtain ⟨Ao31, co31, eo31⟩ := Kd.R_slice HO_6.out
                      subst eo31
                      (try (have hw_ : wrap64 (t147 + t152) = (t147 + t152) := (by unfold wrap64; omega); have c25b0u := c25b0; rw [hw_] at c25b0u))
                      (try (have hw_ : wrap64 (t147 + t152) = (t147 + t152) := (by unfold wrap64; omega); have c25b1u := c25b1; rw [hw_] at c25b1u))
                      go_wp2_with (first | ((with_reducible refine gate_callee (f := 30) rfl ?_); refine goesL_ (some 42) rfl rfl Try.func30 (by kernel_rfl) rfl #[.slice Ao31 y144.length co31] rfl (by (try simp only [List.map_toArray, List.map_cons, List.map_nil]); first | done | rfl | (simp only [List.length_drop, List.length_take]; rfl)) ?_; (with_reducible refine (depth_Ends.calls _ _ y144 t151 _ ?side1 ?side2 A23.out).mono ?_); (case side1 => repeat (first | exact (Kd.R_reads' HO_6.out).2.2 | (with_reducible refine Kd.C_alloc ?_ _) | (with_reducible refine Kd.C_drewN ?_ _) | (with_reducible refine Kd.C_drew ?_))); (case side2 => exact (Kd.R_reads' HO_6.out).2.1); (try clear A23); rintro e w32 ⟨rfl, hb⟩; refine ⟨_, rfl, ?_⟩; have n0_ := Aside0.mk (Kd.R_below (by (with_reducible repeat (first | apply Kd.R_alloc | apply Kd.R_drewN | apply Kd.R_drew)); exact HO_6.out) hb); have n1_ := Aside0.mk (below_step (by repeat (first | (with_reducible first | exact HB.out | apply below_alloc | apply pw_below_drewN | apply below_drew1) | exact HB.out)) hb); clear HO_6; clear HB; have HO_6 := n0_; have HB := n1_; clear n0_ n1_; (try clear hb); (try clear hb2); (try clear hk); (try clear hi)) | ((with_reducible refine gate_callee (f := 30) rfl ?_); refine goesL_ (some 45) rfl rfl Try.func30 (by kernel_rfl) rfl #[.slice A1 l1.length c1] rfl (by (try simp only [List.map_toArray, List.map_cons, List.map_nil]); first | done | rfl | (simp only [List.length_drop, List.length_take]; rfl)) ?_; (with_reducible refine (depth_Ends.calls _ _ l1 t152 _ ?side1 ?side2 A24.out).mono ?_); (case side1 => repeat (first | exact (Kd.C_below HR1.out HB.out) | (with_reducible refine Kd.C_alloc ?_ _) | (with_reducible refine Kd.C_drewN ?_ _) | (with_reducible refine Kd.C_drew ?_))); (case side2 => exact HC1.out); (try clear A24); rintro e w33 ⟨rfl, hb⟩; refine ⟨_, rfl, ?_⟩; have n0_ := Aside0.mk (Kd.R_below (by (with_reducible repeat (first | apply Kd.R_alloc | apply Kd.R_drewN | apply Kd.R_drew)); exact HO_6.out) hb); have n1_ := Aside0.mk (below_step (by repeat (first | (with_reducible first | exact HB.out | apply below_alloc | apply pw_below_drewN | apply below_drew1) | exact HB.out)) hb); clear HO_6; clear HB; have HO_6 := n0_; have HB := n1_; clear n0_ n1_; (try clear hb); (try clear hb2); (try clear hk); (try clear hi)) | (go_at_call 26; (with_reducible refine (depth_Depth.calls _ _ y144 t153 _ ?side1 ?side2 A26.out).mono ?_); (case side1 => repeat (first | exact (Kd.R_reads' HO_6.out).2.2 | (with_reducible refine Kd.C_alloc ?_ _) | (with_reducible refine Kd.C_drewN ?_ _) | (with_reducible refine Kd.C_drew ?_))); (case side2 => exact (Kd.R_reads' HO_6.out).2.1); (try clear A26); rintro e w34 ⟨rfl, hb⟩; have n0_ := Aside0.mk (Kd.R_below (by (with_reducible repeat (first | apply Kd.R_alloc | apply Kd.R_drewN | apply Kd.R_drew)); exact HO_6.out) hb); have n1_ := Aside0.mk (below_step (by repeat (first | (with_reducible first | exact HB.out | apply below_alloc | apply pw_below_drewN | apply below_drew1) | exact HB.out)) hb); clear HO_6; clear HB; have HO_6 := n0_; have HB := n1_; clear n0_ n1_; (try clear hb); (try clear hb2); (try clear hk); (try clear hi)) | (go_at_call 26; (with_reducible refine (depth_Depth.calls _ _ l0 t154 _ ?side1 ?side2 A28.out).mono ?_); (case side1 => repeat (first | exact (Kd.C_below HR0.out HB.out) | (with_reducible refine Kd.C_alloc ?_ _) | (with_reducible refine Kd.C_drewN ?_ _) | (with_reducible refine Kd.C_drew ?_))); (case side2 => exact HC0.out); (try clear A28); rintro e w35 ⟨rfl, hb⟩; have n0_ := Aside0.mk (Kd.R_below (by (with_reducible repeat (first | apply Kd.R_alloc | apply Kd.R_drewN | apply Kd.R_drew)); exact HO_6.out) hb); have n1_ := Aside0.mk (below_step (by repeat (first | (with_reducible first | exact HB.out | apply below_alloc | apply pw_below_drewN | apply below_drew1) | exact HB.out)) hb); clear HO_6; clear HB; have HO_6 := n0_; have HB := n1_; clear n0_ n1_; (try clear hb); (try clear hb2); (try clear hk); (try clear hi)) | (go_at_call 26; (with_reducible refine (depth_Depth.calls _ _ l0 t155 _ ?side1 ?side2 A30.out).mono ?_); (case side1 => repeat (first | exact (Kd.C_below HR0.out HB.out) | (with_reducible refine Kd.C_alloc ?_ _) | (with_reducible refine Kd.C_drewN ?_ _) | (with_reducible refine Kd.C_drew ?_))); (case side2 => exact HC0.out); (try clear A30); rintro e w36 ⟨rfl, hb⟩; have n0_ := Aside0.mk (Kd.R_below (by (with_reducible repeat (first | apply Kd.R_alloc | apply Kd.R_drewN | apply Kd.R_drew)); exact HO_6.out) hb); have n1_ := Aside0.mk (below_step (by repeat (first | (with_reducible first | exact HB.out | apply below_alloc | apply pw_below_drewN | apply below_drew1) | exact HB.out)) hb); clear HO_6; clear HB; have HO_6 := n0_; have HB := n1_; clear n0_ n1_; (try clear hb); (try clear hb2); (try clear hk); (try clear hi)))
                      go_ret
                      exact ⟨by first | rfl | (simp [errW_none, errW_some] <;> rfl) | (simp [*, errW_none, errW_some] <;> rfl), by repeat (first | (with_reducible first | exact HB.out | apply below_alloc | apply pw_below_drewN | apply below_drew1) | exact HB.out)⟩
                    · rw [if_neg c29] at H
                      have c29b0 : decide (0 ≤ t154) = false := decide_eq_false c29
                      clear c29
                      exact absurd H (by have h_ := HT_.out; subst h_; decide)
                  · rw [if_neg c27] at H
                    have c27b0 : (t153 == x8_13) = false := beq_eq_false_iff_ne.mpr c27
                    have c27b1 : (t153 != x8_13) = true := bne_iff_ne.mpr c27
                    exact absurd H (by have h_ := HT_.out; subst h_; decide)
                · rw [if_neg c25] at H
                  have c25b0 : (t151 == (wrap64 (t147 + t152))) = false := beq_eq_false_iff_ne.mpr c25
                  have c25b1 : (t151 != (wrap64 (t147 + t152))) = true := bne_iff_ne.mpr c25
                  exact absurd H (by have h_ := HT_.out; subst h_; decide)
          · rw [if_neg c10] at H
            exact absurd H (by simp)
        · rw [if_neg c9] at H
          exact absurd H (by simp)

/-- The pure statement of copperplatelaw15_DepthJoins. -/
def copperplatelaw15_DepthJoins.Pure : Prop := ∀ (l0 : List Int) (l1 : List Int), l0.length * 8 ≤ 140737488351232 → (∀ x ∈ l0, (Lit.int .i64 x).wf = true) → l1.length * 8 ≤ 140737488351232 → (∀ x ∈ l1, (Lit.int .i64 x).wf = true) → ∃ k, copperplatelaw15_DepthJoins.f k l0 l1 = some true

end Go.Proofs.Ytfpihmjdcneheaa.PDepth
