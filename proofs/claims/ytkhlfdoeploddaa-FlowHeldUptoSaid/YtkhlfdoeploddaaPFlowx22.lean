-- Written by a program of the session (drive.py, over the kit's print.py with contracts by hand). Not trusted: Lean checks it.
import Derived.Test.YtkhlfdoeploddaaPFlowx0
import Derived.Test.YtkhlfdoeploddaaPFlowx6
import Derived.Test.YtkhlfdoeploddaaPFlowx9
import Derived.Test.YtkhlfdoeploddaaHFlowFlat
import Derived.Test.YtkhlfdoeploddaaHFlowFlowA
import Derived.Test.YtkhlfdoeploddaaHFlowFlowF
namespace Go.Proofs.Ytkhlfdoeploddaa.PFlow
open Go.RowKit Go.Proofs.YtkhlfdoeploddaaW.PrintWords Go.Proofs.YtkhlfdoeploddaaW.PrintLast Go.Proofs.YtkhlfdoeploddaaW.PrintMore
attribute [local go_sem] max2_int min2_int max_two min_two max_three min_three max_four min_four   -- for this text's walks alone
set_option linter.unusedVariables false
set_option linter.unusedSimpArgs false

/-! ### copperplatelaw19_FlowHeld: function 6 -/
mutual
def copperplatelaw19_FlowHeld.j0 : Nat → List (S34) → Int → Int → Bool → Bool → Option (Bool)
  | 0, _, _, _, _, _ => none
  | k + 1, x0, x1, x2, x7, x32 => if x32 = true then (some x7) else ((flow_Flow.f x0 x1 x2).bind fun bt257 => (if bt257.2.2 = true then (if bt257.2.1 < 0 then (copperplatelaw19_FlowHeld.j1 k x0 x1 x2 bt257.2.1 bt257.2.2 true) else (if bt257.2.1 > x2 then (copperplatelaw19_FlowHeld.j1 k x0 x1 x2 bt257.2.1 bt257.2.2 true) else (copperplatelaw19_FlowHeld.j1 k x0 x1 x2 bt257.2.1 bt257.2.2 (bt257.2.1 == 0)))) else (copperplatelaw19_FlowHeld.j1 k x0 x1 x2 bt257.2.1 bt257.2.2 true)))
def copperplatelaw19_FlowHeld.j1 : Nat → List (S34) → Int → Int → Int → Bool → Bool → Option (Bool)
  | 0, _, _, _, _, _, _ => none
  | k + 1, x0, x1, x2, x9, x10, x56 => if x56 = true then (if x10 = true then (some (x9 == 0)) else (some true)) else (copperplatelaw19_FlowHeld.l0 k x0 x1 x2 x9 0 (wrap64 (x2 - x9)))
def copperplatelaw19_FlowHeld.l0 : Nat → List (S34) → Int → Int → Int → Int → Int → Option (Bool)
  | 0, _, _, _, _, _, _ => none
  | k + 1, x0, x1, x2, x9, x11, x12 => if x12 < x2 then (if 0 ≤ x12 then (if x12 < (x0.length : Int) then ((span_Flat.f ((rd_T34 x0 x12).f0) ((rd_T34 x0 x12).f1)).bind fun bt261 => ((span_Cols.f k bt261.1).bind fun t263 => (copperplatelaw19_FlowHeld.l0 k x0 x1 x2 x9 (wrap64 (x11 + t263)) (wrap64 (x12 + 1))))) else (none)) else (none)) else (if 0 ≤ (wrap64 (x2 - x9)) then (if (wrap64 (x2 - x9)) < (x0.length : Int) then (if ((rd_T34 x0 (wrap64 (x2 - x9))).f0) = 6 then (if x11 ≤ x1 then ((flow_Held.f k x0 x1 x2).bind fun t265 => (some (decide (t265 ≥ x9)))) else (some false)) else (some false)) else (none)) else (none))
end
def copperplatelaw19_FlowHeld.f (k : Nat) (l0 : List (S34)) (a1 : Int) (a2 : Int) : Option (Bool) := (copperplatelaw19_awake.f).bind fun t256 => (if t256 = true then (if (l0.length : Int) > 60 then (copperplatelaw19_FlowHeld.j0 k l0 a1 a2 t256 true) else (if a2 < 0 then (copperplatelaw19_FlowHeld.j0 k l0 a1 a2 t256 true) else (copperplatelaw19_FlowHeld.j0 k l0 a1 a2 t256 (decide (a2 > (l0.length : Int)))))) else (copperplatelaw19_FlowHeld.j0 k l0 a1 a2 t256 true))
theorem copperplatelaw19_FlowHeld.mono_l : ∀ k, (∀ y0 y1 y2 y3 y4, LeO (copperplatelaw19_FlowHeld.j0 k y0 y1 y2 y3 y4) (copperplatelaw19_FlowHeld.j0 (k + 1) y0 y1 y2 y3 y4)) ∧ (∀ y0 y1 y2 y3 y4 y5, LeO (copperplatelaw19_FlowHeld.j1 k y0 y1 y2 y3 y4 y5) (copperplatelaw19_FlowHeld.j1 (k + 1) y0 y1 y2 y3 y4 y5)) ∧ (∀ y0 y1 y2 y3 y4 y5, LeO (copperplatelaw19_FlowHeld.l0 k y0 y1 y2 y3 y4 y5) (copperplatelaw19_FlowHeld.l0 (k + 1) y0 y1 y2 y3 y4 y5))
  | 0 => ⟨fun _ _ _ _ _ r h => by simp [copperplatelaw19_FlowHeld.j0] at h, fun _ _ _ _ _ _ r h => by simp [copperplatelaw19_FlowHeld.j1] at h, fun _ _ _ _ _ _ r h => by simp [copperplatelaw19_FlowHeld.l0] at h⟩
  | k + 1 => by
    obtain ⟨ih0, ih1, ih2⟩ := copperplatelaw19_FlowHeld.mono_l k
    refine ⟨?_, ?_, ?_⟩
    · intro y0 y1 y2 y3 y4
      unfold copperplatelaw19_FlowHeld.j0
      repeat' first
      | (with_reducible exact ih0 _ _ _ _ _)
      | (with_reducible exact ih1 _ _ _ _ _ _)
      | (with_reducible exact ih2 _ _ _ _ _ _)
      | (with_reducible exact flow_Held.mono _ _ _ _)
      | (with_reducible exact span_Cols.mono _ _)
      | (with_reducible exact LeO.refl _)
      | (with_reducible exact LeO.none _)
      | (with_reducible refine LeO.ite ?_ ?_)
      | (with_reducible refine LeO.bind ?_ (fun _ => ?_))
      | exact ih0 _ _ _ _ _
      | exact ih1 _ _ _ _ _ _
      | exact ih2 _ _ _ _ _ _
      | exact flow_Held.mono _ _ _ _
      | exact span_Cols.mono _ _
      | exact LeO.none _
      | refine LeO.ite ?_ ?_
      | refine LeO.bind ?_ (fun _ => ?_)
    · intro y0 y1 y2 y3 y4 y5
      unfold copperplatelaw19_FlowHeld.j1
      repeat' first
      | (with_reducible exact ih0 _ _ _ _ _)
      | (with_reducible exact ih1 _ _ _ _ _ _)
      | (with_reducible exact ih2 _ _ _ _ _ _)
      | (with_reducible exact flow_Held.mono _ _ _ _)
      | (with_reducible exact span_Cols.mono _ _)
      | (with_reducible exact LeO.refl _)
      | (with_reducible exact LeO.none _)
      | (with_reducible refine LeO.ite ?_ ?_)
      | (with_reducible refine LeO.bind ?_ (fun _ => ?_))
      | exact ih0 _ _ _ _ _
      | exact ih1 _ _ _ _ _ _
      | exact ih2 _ _ _ _ _ _
      | exact flow_Held.mono _ _ _ _
      | exact span_Cols.mono _ _
      | exact LeO.none _
      | refine LeO.ite ?_ ?_
      | refine LeO.bind ?_ (fun _ => ?_)
    · intro y0 y1 y2 y3 y4 y5
      unfold copperplatelaw19_FlowHeld.l0
      repeat' first
      | (with_reducible exact ih0 _ _ _ _ _)
      | (with_reducible exact ih1 _ _ _ _ _ _)
      | (with_reducible exact ih2 _ _ _ _ _ _)
      | (with_reducible exact flow_Held.mono _ _ _ _)
      | (with_reducible exact span_Cols.mono _ _)
      | (with_reducible exact LeO.refl _)
      | (with_reducible exact LeO.none _)
      | (with_reducible refine LeO.ite ?_ ?_)
      | (with_reducible refine LeO.bind ?_ (fun _ => ?_))
      | exact ih0 _ _ _ _ _
      | exact ih1 _ _ _ _ _ _
      | exact ih2 _ _ _ _ _ _
      | exact flow_Held.mono _ _ _ _
      | exact span_Cols.mono _ _
      | exact LeO.none _
      | refine LeO.ite ?_ ?_
      | refine LeO.bind ?_ (fun _ => ?_)
theorem copperplatelaw19_FlowHeld.mono : ∀ a0 a1 a2 k, LeO (copperplatelaw19_FlowHeld.f k a0 a1 a2) (copperplatelaw19_FlowHeld.f (k + 1) a0 a1 a2) := by
  intro a0 a1 a2 k
  obtain ⟨ih0, ih1, ih2⟩ := copperplatelaw19_FlowHeld.mono_l k
  unfold copperplatelaw19_FlowHeld.f
  repeat' first
      | (with_reducible exact ih0 _ _ _ _ _)
      | (with_reducible exact ih1 _ _ _ _ _ _)
      | (with_reducible exact ih2 _ _ _ _ _ _)
      | (with_reducible exact flow_Held.mono _ _ _ _)
      | (with_reducible exact span_Cols.mono _ _)
      | (with_reducible exact LeO.refl _)
      | (with_reducible exact LeO.none _)
      | (with_reducible refine LeO.ite ?_ ?_)
      | (with_reducible refine LeO.bind ?_ (fun _ => ?_))
      | exact ih0 _ _ _ _ _
      | exact ih1 _ _ _ _ _ _
      | exact ih2 _ _ _ _ _ _
      | exact flow_Held.mono _ _ _ _
      | exact span_Cols.mono _ _
      | exact LeO.none _
      | refine LeO.ite ?_ ?_
      | refine LeO.bind ?_ (fun _ => ?_)
set_option maxHeartbeats 8000000 in
set_option maxRecDepth 100000 in
theorem copperplatelaw19_FlowHeld.calls (k : Nat) (A0 : Option Addr) (c0 : Nat) (l0 : List (S34)) (a1 : Int) (a2 : Int) (r : Bool) (w : World) (hr0 : Kd.C k34 w A0 l0.length l0) (hc0 : l0.length ≤ c0) (h : copperplatelaw19_FlowHeld.f k l0 a1 a2 = some r) (hT_ : r = true) :
    Calls Try.prog 6 #[.slice A0 l0.length c0, .int .i64 a1, .int .i64 a2] w fun e w' => e = .returned (.bool r) ∧ Below w.heap.size w w' := by
  have hu34 := Try.underlying34
  have HT_ := Aside0.mk hT_
  clear hT_
  have HR0 := Aside0.mk hr0
  have HC0 := Aside0.mk hc0
  clear hr0 hc0
  have HB := Aside0.mk (Below.refl w.heap.size w)
  have H : ((copperplatelaw19_awake.f).bind fun t256 => (if t256 = true then (if (l0.length : Int) > 60 then (copperplatelaw19_FlowHeld.j0 k l0 a1 a2 t256 true) else (if a2 < 0 then (copperplatelaw19_FlowHeld.j0 k l0 a1 a2 t256 true) else (copperplatelaw19_FlowHeld.j0 k l0 a1 a2 t256 (decide (a2 > (l0.length : Int)))))) else (copperplatelaw19_FlowHeld.j0 k l0 a1 a2 t256 true))) = some r := h
  clear h
  replace H := Option.bind_eq_some_iff.mp H
  obtain ⟨t256, A40, H⟩ := H
  replace H : (if t256 = true then (if (l0.length : Int) > 60 then (copperplatelaw19_FlowHeld.j0 k l0 a1 a2 t256 true) else (if a2 < 0 then (copperplatelaw19_FlowHeld.j0 k l0 a1 a2 t256 true) else (copperplatelaw19_FlowHeld.j0 k l0 a1 a2 t256 (decide (a2 > (l0.length : Int)))))) else (copperplatelaw19_FlowHeld.j0 k l0 a1 a2 t256 true)) = some r := H
  have A4 := Aside0.mk A40
  clear A40
  have HC5 := Aside0.mk H
  clear H
  go_enter Try.func6, Try.ntmps6
  go_upto_region 2 with (first | ((with_reducible refine gate_callee (f := 9) rfl ?_); refine goesL_ (some 15) rfl rfl Try.func9 (by kernel_rfl) rfl #[] rfl (by (try simp only [List.map_toArray, List.map_cons, List.map_nil]); first | done | rfl | (simp only [List.length_drop, List.length_take]; rfl)) ?_; (with_reducible refine (copperplatelaw19_awake.calls  t256 _ A4.out).mono ?_); (try clear A4); rintro e w6 ⟨rfl, hb⟩; refine ⟨_, rfl, ?_⟩; have n0_ := Aside0.mk (below_step (by repeat (first | (with_reducible first | exact HB.out | apply below_alloc | apply pw_below_drewN | apply below_drew1) | exact HB.out)) hb); clear HB; have HB := n0_; clear n0_; (try clear hb); (try clear hb2); (try clear hk); (try clear hi)))
  (try simp only [Act.put, List.setIfInBounds_toArray, List.set_cons_zero, List.set_cons_succ])
  go_cut [32] (fun v32 wc => ∃ (kq : Nat) (x32_4 : Bool), v32 = .bool x32_4 ∧ Aside0 (copperplatelaw19_FlowHeld.j0 kq l0 a1 a2 t256 x32_4 = some r) ∧ Aside0 (kq ≤ k) ∧ Aside0 (Below w.heap.size w wc))
  case first =>
    have H := HC5.out
    clear HC5
    by_cases c7 : t256 = true
    · subst c7
      have H1 : (if (l0.length : Int) > 60 then (copperplatelaw19_FlowHeld.j0 k l0 a1 a2 true true) else (if a2 < 0 then (copperplatelaw19_FlowHeld.j0 k l0 a1 a2 true true) else (copperplatelaw19_FlowHeld.j0 k l0 a1 a2 true (decide (a2 > (l0.length : Int)))))) = some r := by rw [if_pos rfl] at H; exact H
      clear H
      have H := H1
      clear H1
      by_cases c8 : (l0.length : Int) > 60
      · rw [if_pos c8] at H
        have c8b0 : decide (60 < (l0.length : Int)) = true := decide_eq_true c8
        have c8b1 : decide (60 < l0.length) = true := decide_eq_true (by omega)
        clear c8
        (first | rw [c8b0] | (simp only [i64_w, i32_w]; rw [c8b0]) | skip)
        have H' := Aside0.mk H
        clear H
        go_wp2
        go_meet
        case rel => exact ⟨_, (true), (by first | rfl | (simp; done) | (simp [*]; done)), H', ⟨by first | omega | exact Nat.le_refl _⟩, ⟨by repeat (first | (with_reducible first | exact HB.out | apply below_alloc | apply pw_below_drewN | apply below_drew1) | exact HB.out)⟩⟩
      · rw [if_neg c8] at H
        have c8b0 : decide (60 < (l0.length : Int)) = false := decide_eq_false c8
        have c8b1 : decide (60 < l0.length) = false := decide_eq_false (by omega)
        clear c8
        (first | rw [c8b0] | (simp only [i64_w, i32_w]; rw [c8b0]) | skip)
        by_cases c9 : a2 < 0
        · rw [if_pos c9] at H
          have c9b0 : decide (a2 < 0) = true := decide_eq_true c9
          clear c9
          have H' := Aside0.mk H
          clear H
          go_wp2
          go_meet
          case rel => exact ⟨_, (true), (by first | rfl | (simp; done) | (simp [*]; done)), H', ⟨by first | omega | exact Nat.le_refl _⟩, ⟨by repeat (first | (with_reducible first | exact HB.out | apply below_alloc | apply pw_below_drewN | apply below_drew1) | exact HB.out)⟩⟩
        · rw [if_neg c9] at H
          have c9b0 : decide (a2 < 0) = false := decide_eq_false c9
          clear c9
          have H' := Aside0.mk H
          clear H
          go_wp2
          go_meet
          case rel => exact ⟨_, (decide (a2 > (l0.length : Int))), (by first | rfl | (simp; done) | (simp [*]; done)), H', ⟨by first | omega | exact Nat.le_refl _⟩, ⟨by repeat (first | (with_reducible first | exact HB.out | apply below_alloc | apply pw_below_drewN | apply below_drew1) | exact HB.out)⟩⟩
    · replace c7 := Bool.eq_false_iff.mpr c7
      subst c7
      have H1 : (copperplatelaw19_FlowHeld.j0 k l0 a1 a2 false true) = some r := by rw [if_neg (show ¬ (false = true) by decide)] at H; exact H
      clear H
      have H := H1
      clear H1
      have H' := Aside0.mk H
      clear H
      go_wp2
      go_meet
      case rel => exact ⟨_, (true), (by first | rfl | (simp; done) | (simp [*]; done)), H', ⟨by first | omega | exact Nat.le_refl _⟩, ⟨by repeat (first | (with_reducible first | exact HB.out | apply below_alloc | apply pw_below_drewN | apply below_drew1) | exact HB.out)⟩⟩
  case rest =>
    clear HC5
    try clear p2
    try clear c6
    try clear c7
    try clear c8
    try clear c8b0
    try clear c8b1
    try clear c9
    try clear c9b0
    obtain ⟨kq, x32_4, rfl, HA, HJ4, HB⟩ := hcut
    cases kq with
    | zero => exact absurd HA.out (by simp [copperplatelaw19_FlowHeld.j0])
    | succ kj4 =>
      have H := HA.out
      clear HA
      simp only [copperplatelaw19_FlowHeld.j0] at H
      by_cases c10 : x32_4 = true
      · subst c10
        have H1 : (some t256) = some r := by rw [if_pos rfl] at H; exact H
        clear H
        have H := H1
        clear H1
        obtain rfl := Option.some.inj H
        go_wp2
        go_ret
        exact ⟨by first | rfl | (simp [errW_none, errW_some] <;> rfl) | (simp [*, errW_none, errW_some] <;> rfl), by repeat (first | (with_reducible first | exact HB.out | apply below_alloc | apply pw_below_drewN | apply below_drew1) | exact HB.out)⟩
      · replace c10 := Bool.eq_false_iff.mpr c10
        subst c10
        have H1 : ((flow_Flow.f l0 a1 a2).bind fun bt257 => (if bt257.2.2 = true then (if bt257.2.1 < 0 then (copperplatelaw19_FlowHeld.j1 kj4 l0 a1 a2 bt257.2.1 bt257.2.2 true) else (if bt257.2.1 > a2 then (copperplatelaw19_FlowHeld.j1 kj4 l0 a1 a2 bt257.2.1 bt257.2.2 true) else (copperplatelaw19_FlowHeld.j1 kj4 l0 a1 a2 bt257.2.1 bt257.2.2 (bt257.2.1 == 0)))) else (copperplatelaw19_FlowHeld.j1 kj4 l0 a1 a2 bt257.2.1 bt257.2.2 true))) = some r := by rw [if_neg (show ¬ (false = true) by decide)] at H; exact H
        clear H
        have H := H1
        clear H1
        replace H := Option.bind_eq_some_iff.mp H
        obtain ⟨⟨t257, t258, t259⟩, A110, H⟩ := H
        replace H : (if t259 = true then (if t258 < 0 then (copperplatelaw19_FlowHeld.j1 kj4 l0 a1 a2 t258 t259 true) else (if t258 > a2 then (copperplatelaw19_FlowHeld.j1 kj4 l0 a1 a2 t258 t259 true) else (copperplatelaw19_FlowHeld.j1 kj4 l0 a1 a2 t258 t259 (t258 == 0)))) else (copperplatelaw19_FlowHeld.j1 kj4 l0 a1 a2 t258 t259 true)) = some r := H
        have A11 := Aside0.mk A110
        clear A110
        have HC12 := Aside0.mk H
        clear H
        go_upto_region 5 with (first | ((with_reducible refine gate_callee (f := 11) rfl ?_); refine goesL_ (some 38) rfl rfl Try.func11 (by kernel_rfl) rfl #[.slice A0 l0.length c0, .int .i64 a1, .int .i64 a2] rfl (by (try simp only [List.map_toArray, List.map_cons, List.map_nil]); first | done | rfl | (simp only [List.length_drop, List.length_take]; rfl)) ?_; (with_reducible refine (flow_Flow.calls _ _ l0 a1 a2 t257 t258 t259 _ ?side1 ?side2 A11.out).mono ?_); (case side1 => repeat (first | exact (Kd.C_below HR0.out HB.out) | (with_reducible refine Kd.C_alloc ?_ _) | (with_reducible refine Kd.C_drewN ?_ _) | (with_reducible refine Kd.C_drew ?_))); (case side2 => exact HC0.out); (try clear A11); rintro e w13 ⟨rfl, hb⟩; refine ⟨_, rfl, ?_⟩; have n0_ := Aside0.mk (below_step (by repeat (first | (with_reducible first | exact HB.out | apply below_alloc | apply pw_below_drewN | apply below_drew1) | exact HB.out)) hb); clear HB; have HB := n0_; clear n0_; (try clear hb); (try clear hb2); (try clear hk); (try clear hi)))
        (try simp only [Act.put, List.setIfInBounds_toArray, List.set_cons_zero, List.set_cons_succ])
        go_cut [56] (fun v56 wc => ∃ (kq : Nat) (x56_11 : Bool), v56 = .bool x56_11 ∧ Aside0 (copperplatelaw19_FlowHeld.j1 kq l0 a1 a2 t258 t259 x56_11 = some r) ∧ Aside0 (kq ≤ kj4) ∧ Aside0 (Below w.heap.size w wc))
        case first =>
          have H := HC12.out
          clear HC12
          by_cases c14 : t259 = true
          · subst c14
            have H1 : (if t258 < 0 then (copperplatelaw19_FlowHeld.j1 kj4 l0 a1 a2 t258 true true) else (if t258 > a2 then (copperplatelaw19_FlowHeld.j1 kj4 l0 a1 a2 t258 true true) else (copperplatelaw19_FlowHeld.j1 kj4 l0 a1 a2 t258 true (t258 == 0)))) = some r := by rw [if_pos rfl] at H; exact H
            clear H
            have H := H1
            clear H1
            by_cases c15 : t258 < 0
            · rw [if_pos c15] at H
              have c15b0 : decide (t258 < 0) = true := decide_eq_true c15
              clear c15
              (first | rw [c15b0] | (simp only [i64_w, i32_w]; rw [c15b0]) | skip)
              have H' := Aside0.mk H
              clear H
              go_wp2
              go_meet
              case rel => exact ⟨_, (true), (by first | rfl | (simp; done) | (simp [*]; done)), H', ⟨by have := HJ4.out; first | omega | exact Nat.le_refl _⟩, ⟨by repeat (first | (with_reducible first | exact HB.out | apply below_alloc | apply pw_below_drewN | apply below_drew1) | exact HB.out)⟩⟩
            · rw [if_neg c15] at H
              have c15b0 : decide (t258 < 0) = false := decide_eq_false c15
              clear c15
              (first | rw [c15b0] | (simp only [i64_w, i32_w]; rw [c15b0]) | skip)
              by_cases c16 : t258 > a2
              · rw [if_pos c16] at H
                have c16b0 : decide (a2 < t258) = true := decide_eq_true c16
                clear c16
                have H' := Aside0.mk H
                clear H
                go_wp2
                go_meet
                case rel => exact ⟨_, (true), (by first | rfl | (simp; done) | (simp [*]; done)), H', ⟨by have := HJ4.out; first | omega | exact Nat.le_refl _⟩, ⟨by repeat (first | (with_reducible first | exact HB.out | apply below_alloc | apply pw_below_drewN | apply below_drew1) | exact HB.out)⟩⟩
              · rw [if_neg c16] at H
                have c16b0 : decide (a2 < t258) = false := decide_eq_false c16
                clear c16
                have H' := Aside0.mk H
                clear H
                go_wp2
                go_meet
                case rel => exact ⟨_, ((t258 == 0)), (by first | rfl | (simp; done) | (simp [*]; done)), H', ⟨by have := HJ4.out; first | omega | exact Nat.le_refl _⟩, ⟨by repeat (first | (with_reducible first | exact HB.out | apply below_alloc | apply pw_below_drewN | apply below_drew1) | exact HB.out)⟩⟩
          · replace c14 := Bool.eq_false_iff.mpr c14
            subst c14
            have H1 : (copperplatelaw19_FlowHeld.j1 kj4 l0 a1 a2 t258 false true) = some r := by rw [if_neg (show ¬ (false = true) by decide)] at H; exact H
            clear H
            have H := H1
            clear H1
            have H' := Aside0.mk H
            clear H
            go_wp2
            go_meet
            case rel => exact ⟨_, (true), (by first | rfl | (simp; done) | (simp [*]; done)), H', ⟨by have := HJ4.out; first | omega | exact Nat.le_refl _⟩, ⟨by repeat (first | (with_reducible first | exact HB.out | apply below_alloc | apply pw_below_drewN | apply below_drew1) | exact HB.out)⟩⟩
        case rest =>
          clear HC12
          try clear c1
          try clear p2
          try clear c6
          try clear c7
          try clear c8
          try clear c8b0
          try clear c8b1
          try clear c9
          try clear c9b0
          try clear c10
          try clear c11
          try clear c14
          try clear c15
          try clear c15b0
          try clear c16
          try clear c16b0
          try clear p2
          obtain ⟨kq, x56_11, rfl, HA, HJ11, HB⟩ := hcut
          cases kq with
          | zero => exact absurd HA.out (by simp [copperplatelaw19_FlowHeld.j1])
          | succ kj11 =>
            have H := HA.out
            clear HA
            simp only [copperplatelaw19_FlowHeld.j1] at H
            by_cases c17 : x56_11 = true
            · subst c17
              have H1 : (if t259 = true then (some (t258 == 0)) else (some true)) = some r := by rw [if_pos rfl] at H; exact H
              clear H
              have H := H1
              clear H1
              by_cases c18 : t259 = true
              · subst c18
                have H1 : (some (t258 == 0)) = some r := by rw [if_pos rfl] at H; exact H
                clear H
                have H := H1
                clear H1
                obtain rfl := Option.some.inj H
                go_wp2
                go_ret
                exact ⟨by first | rfl | (simp [errW_none, errW_some] <;> rfl) | (simp [*, errW_none, errW_some] <;> rfl), by repeat (first | (with_reducible first | exact HB.out | apply below_alloc | apply pw_below_drewN | apply below_drew1) | exact HB.out)⟩
              · replace c18 := Bool.eq_false_iff.mpr c18
                subst c18
                have H1 : (some true) = some r := by rw [if_neg (show ¬ (false = true) by decide)] at H; exact H
                clear H
                have H := H1
                clear H1
                obtain rfl := Option.some.inj H
                go_wp2
                go_ret
                exact ⟨by first | rfl | (simp [errW_none, errW_some] <;> rfl) | (simp [*, errW_none, errW_some] <;> rfl), by repeat (first | (with_reducible first | exact HB.out | apply below_alloc | apply pw_below_drewN | apply below_drew1) | exact HB.out)⟩
            · replace c17 := Bool.eq_false_iff.mpr c17
              subst c17
              have H1 : (copperplatelaw19_FlowHeld.l0 kj11 l0 a1 a2 t258 0 (wrap64 (a2 - t258))) = some r := by rw [if_neg (show ¬ (false = true) by decide)] at H; exact H
              clear H
              have H := H1
              clear H1
              have H' := Aside0.mk H
              clear H
              go_wp2
              go_loopg [11, 12] kj11 (fun kq v11 v12 w' => ∃ (x11_3 : Int) (x12_3 : Int), v11 = .int .i64 x11_3 ∧ v12 = .int .i64 x12_3 ∧ Aside0 (copperplatelaw19_FlowHeld.l0 kq l0 a1 a2 t258 x11_3 x12_3 = some r) ∧ Aside0 (kq ≤ kj11) ∧ Aside0 (Below w.heap.size w w'))
              case atStart => exact ⟨(0), (wrap64 (a2 - t258)), (by first | rfl | (simp; done) | (simp [*]; done)), (by first | rfl | (simp; done) | (simp [*]; done)), H', ⟨Nat.le_refl _⟩, ⟨by repeat (first | (with_reducible first | exact HB.out | apply below_alloc | apply pw_below_drewN | apply below_drew1) | exact HB.out)⟩⟩
              case round =>
                clear H'
                try clear c1
                try clear p2
                try clear c6
                try clear p6
                try clear c7
                try clear c8
                try clear c8b0
                try clear c8b1
                try clear c9
                try clear c9b0
                try clear c10
                try clear c11
                try clear c14
                try clear c15
                try clear c15b0
                try clear c16
                try clear c16b0
                try clear c17
                try clear c18
                try clear p2
                obtain ⟨x11_3, x12_3, rfl, rfl, HA, HK3, HB⟩ := hrel
                cases gk with
                | zero => exact absurd HA.out (by simp [copperplatelaw19_FlowHeld.l0])
                | succ k3 =>
                  have H := HA.out
                  clear HA
                  simp only [copperplatelaw19_FlowHeld.l0] at H
                  by_cases c19 : x12_3 < a2
                  · rw [if_pos c19] at H
                    have c19b0 : decide (x12_3 < a2) = true := decide_eq_true c19
                    clear c19
                    by_cases c20 : 0 ≤ x12_3
                    · rw [if_pos c20] at H
                      have c20b0 : decide (0 ≤ x12_3) = true := decide_eq_true c20
                      clear c20
                      by_cases c21 : x12_3 < (l0.length : Int)
                      · rw [if_pos c21] at H
                        have c21b0 : decide (x12_3 < (l0.length : Int)) = true := decide_eq_true c21
                        clear c21
                        replace H := Option.bind_eq_some_iff.mp H
                        obtain ⟨⟨t261, t262⟩, A220, H⟩ := H
                        replace H : ((span_Cols.f k3 t261).bind fun t263 => (copperplatelaw19_FlowHeld.l0 k3 l0 a1 a2 t258 (wrap64 (x11_3 + t263)) (wrap64 (x12_3 + 1)))) = some r := H
                        have A22 := Aside0.mk A220
                        clear A220
                        replace H := Option.bind_eq_some_iff.mp H
                        obtain ⟨t263, A230, H⟩ := H
                        replace H : (copperplatelaw19_FlowHeld.l0 k3 l0 a1 a2 t258 (wrap64 (x11_3 + t263)) (wrap64 (x12_3 + 1))) = some r := H
                        have A23 := Aside0.mk A230
                        clear A230
                        have H' := Aside0.mk H
                        clear H
                        have p260 : 0 ≤ (x12_3 : Int) := of_decide_eq_true (by first | (with_reducible assumption) | assumption)
                        have q260 : x12_3 < (l0.length : Int) := of_decide_eq_true (by first | (with_reducible assumption) | assumption)
                        obtain ⟨ad260, e260, hx260_0, hx260_1⟩ := at_T34 HR0.out x12_3 p260 q260
                        cases e260
                        replace hx260_0 := (HB.out.cell (World.block_lt_of_cell? w _ hx260_0)).trans hx260_0
                        replace hx260_1 := (HB.out.cell (World.block_lt_of_cell? w _ hx260_1)).trans hx260_1
                        replace p260 := eq_true p260
                        replace q260 := eq_true q260
                        go_wp2_with (first | ((with_reducible refine gate_callee (f := 18) rfl ?_); refine goesL_ (some 76) rfl rfl Try.func18 (by kernel_rfl) rfl #[.agg #[.int .i64 ((rd_T34 l0 x12_3).f0), .string ((rd_T34 l0 x12_3).f1)]] rfl (by (try simp only [List.map_toArray, List.map_cons, List.map_nil]); first | done | rfl | (simp only [List.length_drop, List.length_take]; rfl)) ?_; (with_reducible refine (span_Flat.calls ((rd_T34 l0 x12_3).f0) ((rd_T34 l0 x12_3).f1) t261 t262 _ A22.out).mono ?_); (try clear A22); rintro e w24 ⟨rfl, hb⟩; refine ⟨_, rfl, ?_⟩; have n0_ := Aside0.mk (below_step (by repeat (first | (with_reducible first | exact HB.out | apply below_alloc | apply pw_below_drewN | apply below_drew1) | exact HB.out)) hb); clear HB; have HB := n0_; clear n0_; (try clear hb); (try clear hb2); (try clear hk); (try clear hi)) | ((with_reducible refine gate_callee (f := 19) rfl ?_); refine goesL_ (some 81) rfl rfl Try.func19 (by kernel_rfl) rfl #[.string t261] rfl (by (try simp only [List.map_toArray, List.map_cons, List.map_nil]); first | done | rfl | (simp only [List.length_drop, List.length_take]; rfl)) ?_; (with_reducible refine (span_Cols.calls k3 t261 t263 _ A23.out).mono ?_); (try clear A23); rintro e w25 ⟨rfl, hb⟩; refine ⟨_, rfl, ?_⟩; have n0_ := Aside0.mk (below_step (by repeat (first | (with_reducible first | exact HB.out | apply below_alloc | apply pw_below_drewN | apply below_drew1) | exact HB.out)) hb); clear HB; have HB := n0_; clear n0_; (try clear hb); (try clear hb2); (try clear hk); (try clear hi)))
                        go_roundg k3
                        case measure => have := HJ4.out; have := HJ11.out; have := HK3.out; omega
                        case rel => exact ⟨(wrap64 (x11_3 + t263)), (wrap64 (x12_3 + 1)), (by first | rfl | (simp; done) | (simp [*]; done)), (by first | rfl | (simp; done) | (simp [*]; done)), H', ⟨by have := HJ4.out; have := HJ11.out; have := HK3.out; omega⟩, ⟨by repeat (first | (with_reducible first | exact HB.out | apply below_alloc | apply pw_below_drewN | apply below_drew1) | exact HB.out)⟩⟩
                      · rw [if_neg c21] at H
                        exact absurd H (by simp)
                    · rw [if_neg c20] at H
                      exact absurd H (by simp)
                  · rw [if_neg c19] at H
                    have c19b0 : decide (x12_3 < a2) = false := decide_eq_false c19
                    clear c19
                    obtain ⟨ji26, hji26⟩ : ∃ j_ : Int, (wrap64 (a2 - t258)) = j_ := ⟨_, rfl⟩
                    replace H : (if 0 ≤ (ji26) then (if (ji26) < (l0.length : Int) then (if ((rd_T34 l0 (ji26)).f0) = 6 then (if x11_3 ≤ a1 then ((flow_Held.f k3 l0 a1 a2).bind fun t265 => (some (decide (t265 ≥ t258)))) else (some false)) else (some false)) else (none)) else (none)) = some r := by first | (rw [hji26] at H; exact H) | (simp only [hji26] at H ⊢; exact H)
                    have hji26w : (IntKind.i64.wrap (a2 - t258)) = ji26 := (i64_w _).trans hji26
                    by_cases c27 : 0 ≤ (ji26)
                    · rw [if_pos c27] at H
                      have c27b0 : decide (0 ≤ (ji26)) = true := decide_eq_true c27
                      clear c27
                      by_cases c28 : (ji26) < (l0.length : Int)
                      · rw [if_pos c28] at H
                        have c28b0 : decide ((ji26) < (l0.length : Int)) = true := decide_eq_true c28
                        clear c28
                        by_cases c29 : ((rd_T34 l0 (ji26)).f0) = 6
                        · rw [if_pos c29] at H
                          have c29b0 : (((rd_T34 l0 (ji26)).f0) == 6) = true := beq_iff_eq.mpr c29
                          have c29b1 : (((rd_T34 l0 (ji26)).f0) != 6) = false := bne_eq_false_iff_eq.mpr c29
                          clear c29
                          by_cases c30 : x11_3 ≤ a1
                          · rw [if_pos c30] at H
                            have c30b0 : decide (x11_3 ≤ a1) = true := decide_eq_true c30
                            clear c30
                            replace H := Option.bind_eq_some_iff.mp H
                            obtain ⟨t265, A310, H⟩ := H
                            replace H : (some (decide (t265 ≥ t258))) = some r := H
                            have A31 := Aside0.mk A310
                            clear A310
                            obtain rfl := Option.some.inj H
                            have p264 : 0 ≤ ((ji26) : Int) := of_decide_eq_true (by first | (with_reducible assumption) | assumption)
                            have q264 : (ji26) < (l0.length : Int) := of_decide_eq_true (by first | (with_reducible assumption) | assumption)
                            obtain ⟨ad264, e264, hx264_0, hx264_1⟩ := at_T34 HR0.out (ji26) p264 q264
                            cases e264
                            replace hx264_0 := (HB.out.cell (World.block_lt_of_cell? w _ hx264_0)).trans hx264_0
                            replace hx264_1 := (HB.out.cell (World.block_lt_of_cell? w _ hx264_1)).trans hx264_1
                            replace p264 := eq_true p264
                            replace q264 := eq_true q264
                            go_wp2_with (first | (go_at_call 12; (with_reducible refine (flow_Held.calls k3 _ _ l0 a1 a2 t265 _ ?side1 ?side2 A31.out).mono ?_); (case side1 => repeat (first | exact (Kd.C_below HR0.out HB.out) | (with_reducible refine Kd.C_alloc ?_ _) | (with_reducible refine Kd.C_drewN ?_ _) | (with_reducible refine Kd.C_drew ?_))); (case side2 => exact HC0.out); (try clear A31); rintro e w32 ⟨rfl, hb⟩; have n0_ := Aside0.mk (below_step (by repeat (first | (with_reducible first | exact HB.out | apply below_alloc | apply pw_below_drewN | apply below_drew1) | exact HB.out)) hb); clear HB; have HB := n0_; clear n0_; (try clear hb); (try clear hb2); (try clear hk); (try clear hi)))
                            go_ret
                            exact ⟨by first | rfl | (simp [errW_none, errW_some] <;> rfl) | (simp only [← hji26]; first | rfl | (simp [errW_none, errW_some] <;> rfl)) | (simp [*, errW_none, errW_some] <;> rfl), by repeat (first | (with_reducible first | exact HB.out | apply below_alloc | apply pw_below_drewN | apply below_drew1) | exact HB.out)⟩
                          · rw [if_neg c30] at H
                            have c30b0 : decide (x11_3 ≤ a1) = false := decide_eq_false c30
                            clear c30
                            exact absurd H (by have h_ := HT_.out; subst h_; decide)
                        · rw [if_neg c29] at H
                          have c29b0 : (((rd_T34 l0 (ji26)).f0) == 6) = false := beq_eq_false_iff_ne.mpr c29
                          have c29b1 : (((rd_T34 l0 (ji26)).f0) != 6) = true := bne_iff_ne.mpr c29
                          exact absurd H (by have h_ := HT_.out; subst h_; decide)
                      · rw [if_neg c28] at H
                        exact absurd H (by simp)
                    · rw [if_neg c27] at H
                      exact absurd H (by simp)

/-- The pure statement of copperplatelaw19_FlowHeld. -/
def copperplatelaw19_FlowHeld.Pure : Prop := ∀ (l0 : List (S34)) (a1 : Int) (a2 : Int), l0.length * 24 ≤ 140737488351232 → (∀ x ∈ l0, (Lit.int .i64 x.f0).wf = true ∧ x.f1.size ≤ 140737488351232) → (Lit.int .i64 a1).wf = true → (Lit.int .i64 a2).wf = true → ∃ k, copperplatelaw19_FlowHeld.f k l0 a1 a2 = some true
def copperplatelaw19_FlowHeld.PureUp : Prop := ∀ (l0 : List (S34)) (a1 : Int) (a2 : Int), l0.length * 24 ≤ 140737488351232 → (∀ x ∈ l0, (Lit.int .i64 x.f0).wf = true ∧ x.f1.size ≤ 140737488351232) → (Lit.int .i64 a1).wf = true → (Lit.int .i64 a2).wf = true → (l0.map fun x => x.f1.size).sum ≤ 1048576 → ∃ k, copperplatelaw19_FlowHeld.f k l0 a1 a2 = some true

end Go.Proofs.Ytkhlfdoeploddaa.PFlow
