-- Written by a program of the session (drive.py, over the kit's print.py with contracts by hand). Not trusted: Lean checks it.
import Derived.Test.YtkhlfdoeploddaaPFlowx0
import Derived.Test.YtkhlfdoeploddaaPFlowx2
import Derived.Test.YtkhlfdoeploddaaPFlowx9
import Derived.Test.YtkhlfdoeploddaaHFlowFlowA
import Derived.Test.YtkhlfdoeploddaaHFlowFlowF
namespace Go.Proofs.Ytkhlfdoeploddaa.PFlow
open Go.RowKit Go.Proofs.YtkhlfdoeploddaaW.PrintWords Go.Proofs.YtkhlfdoeploddaaW.PrintLast Go.Proofs.YtkhlfdoeploddaaW.PrintMore
attribute [local go_sem] max2_int min2_int max_two min_two max_three min_three max_four min_four   -- for this text's walks alone
set_option linter.unusedVariables false
set_option linter.unusedSimpArgs false

/-! ### copperplatelaw19_FlowNone: function 8 -/
mutual
def copperplatelaw19_FlowNone.j0 : Nat → List (S34) → Int → Int → Bool → Bool → Option (Bool)
  | 0, _, _, _, _, _ => none
  | k + 1, x0, x1, x2, x7, x22 => if x22 = true then (some x7) else ((flow_Flow.f x0 x1 0).bind fun bt278 => ((flow_Flow.f x0 x1 x2).bind fun bt281 => ((wide_Room.f x0 x1).bind fun t284 => (if t284 = true then (if x2 < 0 then (copperplatelaw19_FlowNone.j1 k x0 x1 x2 bt278.1 bt278.2.1 bt278.2.2 bt281.1 bt281.2.1 bt281.2.2 t284 true) else (copperplatelaw19_FlowNone.j1 k x0 x1 x2 bt278.1 bt278.2.1 bt278.2.2 bt281.1 bt281.2.1 bt281.2.2 t284 (decide (x2 > (x0.length : Int))))) else (copperplatelaw19_FlowNone.j1 k x0 x1 x2 bt278.1 bt278.2.1 bt278.2.2 bt281.1 bt281.2.1 bt281.2.2 t284 true)))))
def copperplatelaw19_FlowNone.j1 : Nat → List (S34) → Int → Int → ByteArray → Int → Bool → ByteArray → Int → Bool → Bool → Bool → Option (Bool)
  | 0, _, _, _, _, _, _, _, _, _, _, _ => none
  | k + 1, x0, x1, x2, x8, x9, x10, x11, x12, x13, x14, x53 => if x53 = true then (if x13 = true then (some false) else (if x11.toList = ([] : List UInt8) then (if x12 = 0 then ((flow_Held.f k x0 x1 x2).bind fun t285 => (if t285 = (-1) then (some (x10 == x14)) else (some false))) else (some false)) else (some false))) else (if x10 = true then (if x8.toList = ([] : List UInt8) then (if x9 = 0 then (if x13 = true then ((flow_Held.f k x0 x1 0).bind fun t286 => (some (t286 == 0))) else (some false)) else (some false)) else (some false)) else (some false))
end
def copperplatelaw19_FlowNone.f (k : Nat) (l0 : List (S34)) (a1 : Int) (a2 : Int) : Option (Bool) := (copperplatelaw19_awake.f).bind fun t277 => (if t277 = true then (copperplatelaw19_FlowNone.j0 k l0 a1 a2 t277 (decide ((l0.length : Int) > 60))) else (copperplatelaw19_FlowNone.j0 k l0 a1 a2 t277 true))
theorem copperplatelaw19_FlowNone.mono_l : ∀ k, (∀ y0 y1 y2 y3 y4, LeO (copperplatelaw19_FlowNone.j0 k y0 y1 y2 y3 y4) (copperplatelaw19_FlowNone.j0 (k + 1) y0 y1 y2 y3 y4)) ∧ (∀ y0 y1 y2 y3 y4 y5 y6 y7 y8 y9 y10, LeO (copperplatelaw19_FlowNone.j1 k y0 y1 y2 y3 y4 y5 y6 y7 y8 y9 y10) (copperplatelaw19_FlowNone.j1 (k + 1) y0 y1 y2 y3 y4 y5 y6 y7 y8 y9 y10))
  | 0 => ⟨fun _ _ _ _ _ r h => by simp [copperplatelaw19_FlowNone.j0] at h, fun _ _ _ _ _ _ _ _ _ _ _ r h => by simp [copperplatelaw19_FlowNone.j1] at h⟩
  | k + 1 => by
    obtain ⟨ih0, ih1⟩ := copperplatelaw19_FlowNone.mono_l k
    refine ⟨?_, ?_⟩
    · intro y0 y1 y2 y3 y4
      unfold copperplatelaw19_FlowNone.j0
      repeat' first
      | (with_reducible exact ih0 _ _ _ _ _)
      | (with_reducible exact ih1 _ _ _ _ _ _ _ _ _ _ _)
      | (with_reducible exact flow_Held.mono _ _ _ _)
      | (with_reducible exact LeO.refl _)
      | (with_reducible exact LeO.none _)
      | (with_reducible refine LeO.ite ?_ ?_)
      | (with_reducible refine LeO.bind ?_ (fun _ => ?_))
      | exact ih0 _ _ _ _ _
      | exact ih1 _ _ _ _ _ _ _ _ _ _ _
      | exact flow_Held.mono _ _ _ _
      | exact LeO.none _
      | refine LeO.ite ?_ ?_
      | refine LeO.bind ?_ (fun _ => ?_)
    · intro y0 y1 y2 y3 y4 y5 y6 y7 y8 y9 y10
      unfold copperplatelaw19_FlowNone.j1
      repeat' first
      | (with_reducible exact ih0 _ _ _ _ _)
      | (with_reducible exact ih1 _ _ _ _ _ _ _ _ _ _ _)
      | (with_reducible exact flow_Held.mono _ _ _ _)
      | (with_reducible exact LeO.refl _)
      | (with_reducible exact LeO.none _)
      | (with_reducible refine LeO.ite ?_ ?_)
      | (with_reducible refine LeO.bind ?_ (fun _ => ?_))
      | exact ih0 _ _ _ _ _
      | exact ih1 _ _ _ _ _ _ _ _ _ _ _
      | exact flow_Held.mono _ _ _ _
      | exact LeO.none _
      | refine LeO.ite ?_ ?_
      | refine LeO.bind ?_ (fun _ => ?_)
theorem copperplatelaw19_FlowNone.mono : ∀ a0 a1 a2 k, LeO (copperplatelaw19_FlowNone.f k a0 a1 a2) (copperplatelaw19_FlowNone.f (k + 1) a0 a1 a2) := by
  intro a0 a1 a2 k
  obtain ⟨ih0, ih1⟩ := copperplatelaw19_FlowNone.mono_l k
  unfold copperplatelaw19_FlowNone.f
  repeat' first
      | (with_reducible exact ih0 _ _ _ _ _)
      | (with_reducible exact ih1 _ _ _ _ _ _ _ _ _ _ _)
      | (with_reducible exact flow_Held.mono _ _ _ _)
      | (with_reducible exact LeO.refl _)
      | (with_reducible exact LeO.none _)
      | (with_reducible refine LeO.ite ?_ ?_)
      | (with_reducible refine LeO.bind ?_ (fun _ => ?_))
      | exact ih0 _ _ _ _ _
      | exact ih1 _ _ _ _ _ _ _ _ _ _ _
      | exact flow_Held.mono _ _ _ _
      | exact LeO.none _
      | refine LeO.ite ?_ ?_
      | refine LeO.bind ?_ (fun _ => ?_)
set_option maxHeartbeats 8000000 in
set_option maxRecDepth 100000 in
theorem copperplatelaw19_FlowNone.calls (k : Nat) (A0 : Option Addr) (c0 : Nat) (l0 : List (S34)) (a1 : Int) (a2 : Int) (r : Bool) (w : World) (hr0 : Kd.C k34 w A0 l0.length l0) (hc0 : l0.length ≤ c0) (h : copperplatelaw19_FlowNone.f k l0 a1 a2 = some r) (hT_ : r = true) :
    Calls Try.prog 8 #[.slice A0 l0.length c0, .int .i64 a1, .int .i64 a2] w fun e w' => e = .returned (.bool r) ∧ Below w.heap.size w w' := by
  have HT_ := Aside0.mk hT_
  clear hT_
  have HR0 := Aside0.mk hr0
  have HC0 := Aside0.mk hc0
  clear hr0 hc0
  have HB := Aside0.mk (Below.refl w.heap.size w)
  have H : ((copperplatelaw19_awake.f).bind fun t277 => (if t277 = true then (copperplatelaw19_FlowNone.j0 k l0 a1 a2 t277 (decide ((l0.length : Int) > 60))) else (copperplatelaw19_FlowNone.j0 k l0 a1 a2 t277 true))) = some r := h
  clear h
  replace H := Option.bind_eq_some_iff.mp H
  obtain ⟨t277, A40, H⟩ := H
  replace H : (if t277 = true then (copperplatelaw19_FlowNone.j0 k l0 a1 a2 t277 (decide ((l0.length : Int) > 60))) else (copperplatelaw19_FlowNone.j0 k l0 a1 a2 t277 true)) = some r := H
  have A4 := Aside0.mk A40
  clear A40
  have HC5 := Aside0.mk H
  clear H
  go_enter Try.func8, Try.ntmps8
  go_upto_region 2 with (first | ((with_reducible refine gate_callee (f := 9) rfl ?_); refine goesL_ (some 15) rfl rfl Try.func9 (by kernel_rfl) rfl #[] rfl (by (try simp only [List.map_toArray, List.map_cons, List.map_nil]); first | done | rfl | (simp only [List.length_drop, List.length_take]; rfl)) ?_; (with_reducible refine (copperplatelaw19_awake.calls  t277 _ A4.out).mono ?_); (try clear A4); rintro e w6 ⟨rfl, hb⟩; refine ⟨_, rfl, ?_⟩; have n0_ := Aside0.mk (below_step (by repeat (first | (with_reducible first | exact HB.out | apply below_alloc | apply pw_below_drewN | apply below_drew1) | exact HB.out)) hb); clear HB; have HB := n0_; clear n0_; (try clear hb); (try clear hb2); (try clear hk); (try clear hi)))
  (try simp only [Act.put, List.setIfInBounds_toArray, List.set_cons_zero, List.set_cons_succ])
  go_cut [22] (fun v22 wc => ∃ (kq : Nat) (x22_4 : Bool), v22 = .bool x22_4 ∧ Aside0 (copperplatelaw19_FlowNone.j0 kq l0 a1 a2 t277 x22_4 = some r) ∧ Aside0 (kq ≤ k) ∧ Aside0 (Below w.heap.size w wc))
  case first =>
    have H := HC5.out
    clear HC5
    by_cases c7 : t277 = true
    · subst c7
      have H1 : (copperplatelaw19_FlowNone.j0 k l0 a1 a2 true (decide ((l0.length : Int) > 60))) = some r := by rw [if_pos rfl] at H; exact H
      clear H
      have H := H1
      clear H1
      have H' := Aside0.mk H
      clear H
      go_wp2
      go_meet
      case rel => exact ⟨_, (decide ((l0.length : Int) > 60)), (by first | rfl | (simp; done) | (simp [*]; done)), H', ⟨by first | omega | exact Nat.le_refl _⟩, ⟨by repeat (first | (with_reducible first | exact HB.out | apply below_alloc | apply pw_below_drewN | apply below_drew1) | exact HB.out)⟩⟩
    · replace c7 := Bool.eq_false_iff.mpr c7
      subst c7
      have H1 : (copperplatelaw19_FlowNone.j0 k l0 a1 a2 false true) = some r := by rw [if_neg (show ¬ (false = true) by decide)] at H; exact H
      clear H
      have H := H1
      clear H1
      have H' := Aside0.mk H
      clear H
      go_wp2
      go_meet
      case rel => exact ⟨_, (true), (by first | rfl | (simp; done) | (simp [*]; done)), H', ⟨by first | omega | exact Nat.le_refl _⟩, ⟨by repeat (first | (with_reducible first | exact HB.out | apply below_alloc | apply pw_below_drewN | apply below_drew1) | exact HB.out)⟩⟩
  case rest =>
    clear HC5
    try clear p2
    try clear c7
    obtain ⟨kq, x22_4, rfl, HA, HJ4, HB⟩ := hcut
    cases kq with
    | zero => exact absurd HA.out (by simp [copperplatelaw19_FlowNone.j0])
    | succ kj4 =>
      have H := HA.out
      clear HA
      simp only [copperplatelaw19_FlowNone.j0] at H
      by_cases c8 : x22_4 = true
      · subst c8
        have H1 : (some t277) = some r := by rw [if_pos rfl] at H; exact H
        clear H
        have H := H1
        clear H1
        obtain rfl := Option.some.inj H
        go_wp2
        go_ret
        exact ⟨by first | rfl | (simp [errW_none, errW_some] <;> rfl) | (simp [*, errW_none, errW_some] <;> rfl), by repeat (first | (with_reducible first | exact HB.out | apply below_alloc | apply pw_below_drewN | apply below_drew1) | exact HB.out)⟩
      · replace c8 := Bool.eq_false_iff.mpr c8
        subst c8
        have H1 : ((flow_Flow.f l0 a1 0).bind fun bt278 => ((flow_Flow.f l0 a1 a2).bind fun bt281 => ((wide_Room.f l0 a1).bind fun t284 => (if t284 = true then (if a2 < 0 then (copperplatelaw19_FlowNone.j1 kj4 l0 a1 a2 bt278.1 bt278.2.1 bt278.2.2 bt281.1 bt281.2.1 bt281.2.2 t284 true) else (copperplatelaw19_FlowNone.j1 kj4 l0 a1 a2 bt278.1 bt278.2.1 bt278.2.2 bt281.1 bt281.2.1 bt281.2.2 t284 (decide (a2 > (l0.length : Int))))) else (copperplatelaw19_FlowNone.j1 kj4 l0 a1 a2 bt278.1 bt278.2.1 bt278.2.2 bt281.1 bt281.2.1 bt281.2.2 t284 true))))) = some r := by rw [if_neg (show ¬ (false = true) by decide)] at H; exact H
        clear H
        have H := H1
        clear H1
        replace H := Option.bind_eq_some_iff.mp H
        obtain ⟨⟨t278, t279, t280⟩, A90, H⟩ := H
        replace H : ((flow_Flow.f l0 a1 a2).bind fun bt281 => ((wide_Room.f l0 a1).bind fun t284 => (if t284 = true then (if a2 < 0 then (copperplatelaw19_FlowNone.j1 kj4 l0 a1 a2 t278 t279 t280 bt281.1 bt281.2.1 bt281.2.2 t284 true) else (copperplatelaw19_FlowNone.j1 kj4 l0 a1 a2 t278 t279 t280 bt281.1 bt281.2.1 bt281.2.2 t284 (decide (a2 > (l0.length : Int))))) else (copperplatelaw19_FlowNone.j1 kj4 l0 a1 a2 t278 t279 t280 bt281.1 bt281.2.1 bt281.2.2 t284 true)))) = some r := H
        have A9 := Aside0.mk A90
        clear A90
        replace H := Option.bind_eq_some_iff.mp H
        obtain ⟨⟨t281, t282, t283⟩, A100, H⟩ := H
        replace H : ((wide_Room.f l0 a1).bind fun t284 => (if t284 = true then (if a2 < 0 then (copperplatelaw19_FlowNone.j1 kj4 l0 a1 a2 t278 t279 t280 t281 t282 t283 t284 true) else (copperplatelaw19_FlowNone.j1 kj4 l0 a1 a2 t278 t279 t280 t281 t282 t283 t284 (decide (a2 > (l0.length : Int))))) else (copperplatelaw19_FlowNone.j1 kj4 l0 a1 a2 t278 t279 t280 t281 t282 t283 t284 true))) = some r := H
        have A10 := Aside0.mk A100
        clear A100
        replace H := Option.bind_eq_some_iff.mp H
        obtain ⟨t284, A110, H⟩ := H
        replace H : (if t284 = true then (if a2 < 0 then (copperplatelaw19_FlowNone.j1 kj4 l0 a1 a2 t278 t279 t280 t281 t282 t283 t284 true) else (copperplatelaw19_FlowNone.j1 kj4 l0 a1 a2 t278 t279 t280 t281 t282 t283 t284 (decide (a2 > (l0.length : Int))))) else (copperplatelaw19_FlowNone.j1 kj4 l0 a1 a2 t278 t279 t280 t281 t282 t283 t284 true)) = some r := H
        have A11 := Aside0.mk A110
        clear A110
        have HC12 := Aside0.mk H
        clear H
        go_upto_region 7 with (first | ((with_reducible refine gate_callee (f := 11) rfl ?_); refine goesL_ (some 27) rfl rfl Try.func11 (by kernel_rfl) rfl #[.slice A0 l0.length c0, .int .i64 a1, .int .i64 0] rfl (by (try simp only [List.map_toArray, List.map_cons, List.map_nil]); first | done | rfl | (simp only [List.length_drop, List.length_take]; rfl)) ?_; (with_reducible refine (flow_Flow.calls _ _ l0 a1 0 t278 t279 t280 _ ?side1 ?side2 A9.out).mono ?_); (case side1 => repeat (first | exact (Kd.C_below HR0.out HB.out) | (with_reducible refine Kd.C_alloc ?_ _) | (with_reducible refine Kd.C_drewN ?_ _) | (with_reducible refine Kd.C_drew ?_))); (case side2 => exact HC0.out); (try clear A9); rintro e w13 ⟨rfl, hb⟩; refine ⟨_, rfl, ?_⟩; have n0_ := Aside0.mk (below_step (by repeat (first | (with_reducible first | exact HB.out | apply below_alloc | apply pw_below_drewN | apply below_drew1) | exact HB.out)) hb); clear HB; have HB := n0_; clear n0_; (try clear hb); (try clear hb2); (try clear hk); (try clear hi)) | ((with_reducible refine gate_callee (f := 11) rfl ?_); refine goesL_ (some 35) rfl rfl Try.func11 (by kernel_rfl) rfl #[.slice A0 l0.length c0, .int .i64 a1, .int .i64 a2] rfl (by (try simp only [List.map_toArray, List.map_cons, List.map_nil]); first | done | rfl | (simp only [List.length_drop, List.length_take]; rfl)) ?_; (with_reducible refine (flow_Flow.calls _ _ l0 a1 a2 t281 t282 t283 _ ?side1 ?side2 A10.out).mono ?_); (case side1 => repeat (first | exact (Kd.C_below HR0.out HB.out) | (with_reducible refine Kd.C_alloc ?_ _) | (with_reducible refine Kd.C_drewN ?_ _) | (with_reducible refine Kd.C_drew ?_))); (case side2 => exact HC0.out); (try clear A10); rintro e w14 ⟨rfl, hb⟩; refine ⟨_, rfl, ?_⟩; have n0_ := Aside0.mk (below_step (by repeat (first | (with_reducible first | exact HB.out | apply below_alloc | apply pw_below_drewN | apply below_drew1) | exact HB.out)) hb); clear HB; have HB := n0_; clear n0_; (try clear hb); (try clear hb2); (try clear hk); (try clear hi)) | ((with_reducible refine gate_callee (f := 10) rfl ?_); refine goesL_ (some 41) rfl rfl Try.func10 (by kernel_rfl) rfl #[.slice A0 l0.length c0, .int .i64 a1] rfl (by (try simp only [List.map_toArray, List.map_cons, List.map_nil]); first | done | rfl | (simp only [List.length_drop, List.length_take]; rfl)) ?_; (with_reducible refine (wide_Room.calls _ _ l0 a1 t284 _ ?side1 ?side2 A11.out).mono ?_); (case side1 => repeat (first | exact (Kd.C_below HR0.out HB.out) | (with_reducible refine Kd.C_alloc ?_ _) | (with_reducible refine Kd.C_drewN ?_ _) | (with_reducible refine Kd.C_drew ?_))); (case side2 => exact HC0.out); (try clear A11); rintro e w15 ⟨rfl, hb⟩; refine ⟨_, rfl, ?_⟩; have n0_ := Aside0.mk (below_step (by repeat (first | (with_reducible first | exact HB.out | apply below_alloc | apply pw_below_drewN | apply below_drew1) | exact HB.out)) hb); clear HB; have HB := n0_; clear n0_; (try clear hb); (try clear hb2); (try clear hk); (try clear hi)))
        (try simp only [Act.put, List.setIfInBounds_toArray, List.set_cons_zero, List.set_cons_succ])
        go_cut [53] (fun v53 wc => ∃ (kq : Nat) (x53_11 : Bool), v53 = .bool x53_11 ∧ Aside0 (copperplatelaw19_FlowNone.j1 kq l0 a1 a2 t278 t279 t280 t281 t282 t283 t284 x53_11 = some r) ∧ Aside0 (kq ≤ kj4) ∧ Aside0 (Below w.heap.size w wc))
        case first =>
          have H := HC12.out
          clear HC12
          by_cases c16 : t284 = true
          · subst c16
            have H1 : (if a2 < 0 then (copperplatelaw19_FlowNone.j1 kj4 l0 a1 a2 t278 t279 t280 t281 t282 t283 true true) else (copperplatelaw19_FlowNone.j1 kj4 l0 a1 a2 t278 t279 t280 t281 t282 t283 true (decide (a2 > (l0.length : Int))))) = some r := by rw [if_pos rfl] at H; exact H
            clear H
            have H := H1
            clear H1
            by_cases c17 : a2 < 0
            · rw [if_pos c17] at H
              have c17b0 : decide (a2 < 0) = true := decide_eq_true c17
              clear c17
              (first | rw [c17b0] | (simp only [i64_w, i32_w]; rw [c17b0]) | skip)
              have H' := Aside0.mk H
              clear H
              go_wp2
              go_meet
              case rel => exact ⟨_, (true), (by first | rfl | (simp; done) | (simp [*]; done)), H', ⟨by have := HJ4.out; first | omega | exact Nat.le_refl _⟩, ⟨by repeat (first | (with_reducible first | exact HB.out | apply below_alloc | apply pw_below_drewN | apply below_drew1) | exact HB.out)⟩⟩
            · rw [if_neg c17] at H
              have c17b0 : decide (a2 < 0) = false := decide_eq_false c17
              clear c17
              (first | rw [c17b0] | (simp only [i64_w, i32_w]; rw [c17b0]) | skip)
              have H' := Aside0.mk H
              clear H
              go_wp2
              go_meet
              case rel => exact ⟨_, (decide (a2 > (l0.length : Int))), (by first | rfl | (simp; done) | (simp [*]; done)), H', ⟨by have := HJ4.out; first | omega | exact Nat.le_refl _⟩, ⟨by repeat (first | (with_reducible first | exact HB.out | apply below_alloc | apply pw_below_drewN | apply below_drew1) | exact HB.out)⟩⟩
          · replace c16 := Bool.eq_false_iff.mpr c16
            subst c16
            have H1 : (copperplatelaw19_FlowNone.j1 kj4 l0 a1 a2 t278 t279 t280 t281 t282 t283 false true) = some r := by rw [if_neg (show ¬ (false = true) by decide)] at H; exact H
            clear H
            have H := H1
            clear H1
            have H' := Aside0.mk H
            clear H
            go_wp2
            go_meet
            case rel => exact ⟨_, (true), (by first | rfl | (simp; done) | (simp [*]; done)), H', ⟨by have := HJ4.out; first | omega | exact Nat.le_refl _⟩, ⟨by repeat (first | (with_reducible first | exact HB.out | apply below_alloc | apply pw_below_drewN | apply below_drew1) | exact HB.out)⟩⟩
        case rest =>
          clear HC12
          try clear c1
          try clear p2
          try clear c7
          try clear c8
          try clear c9
          try clear c10
          try clear c11
          try clear c16
          try clear c17
          try clear c17b0
          try clear p2
          obtain ⟨kq, x53_11, rfl, HA, HJ11, HB⟩ := hcut
          cases kq with
          | zero => exact absurd HA.out (by simp [copperplatelaw19_FlowNone.j1])
          | succ kj11 =>
            have H := HA.out
            clear HA
            simp only [copperplatelaw19_FlowNone.j1] at H
            by_cases c18 : x53_11 = true
            · subst c18
              have H1 : (if t283 = true then (some false) else (if t281.toList = ([] : List UInt8) then (if t282 = 0 then ((flow_Held.f kj11 l0 a1 a2).bind fun t285 => (if t285 = (-1) then (some (t280 == t284)) else (some false))) else (some false)) else (some false))) = some r := by rw [if_pos rfl] at H; exact H
              clear H
              have H := H1
              clear H1
              by_cases c19 : t283 = true
              · subst c19
                have H1 : (some false) = some r := by rw [if_pos rfl] at H; exact H
                clear H
                have H := H1
                clear H1
                exact absurd H (by have h_ := HT_.out; subst h_; decide)
              · replace c19 := Bool.eq_false_iff.mpr c19
                subst c19
                have H1 : (if t281.toList = ([] : List UInt8) then (if t282 = 0 then ((flow_Held.f kj11 l0 a1 a2).bind fun t285 => (if t285 = (-1) then (some (t280 == t284)) else (some false))) else (some false)) else (some false)) = some r := by rw [if_neg (show ¬ (false = true) by decide)] at H; exact H
                clear H
                have H := H1
                clear H1
                by_cases c20 : t281.toList = ([] : List UInt8)
                · rw [if_pos c20] at H
                  have c20b0 : (t281.toList == ([] : List UInt8)) = true := beq_iff_eq.mpr c20
                  have c20b1 : (t281.toList != ([] : List UInt8)) = false := bne_eq_false_iff_eq.mpr c20
                  clear c20
                  by_cases c21 : t282 = 0
                  · rw [if_pos c21] at H
                    have c21b0 : (t282 == 0) = true := beq_iff_eq.mpr c21
                    have c21b1 : (t282 != 0) = false := bne_eq_false_iff_eq.mpr c21
                    clear c21
                    replace H := Option.bind_eq_some_iff.mp H
                    obtain ⟨t285, A220, H⟩ := H
                    replace H : (if t285 = (-1) then (some (t280 == t284)) else (some false)) = some r := H
                    have A22 := Aside0.mk A220
                    clear A220
                    by_cases c23 : t285 = (-1)
                    · rw [if_pos c23] at H
                      have c23b0 : (t285 == (-1)) = true := beq_iff_eq.mpr c23
                      have c23b1 : (t285 != (-1)) = false := bne_eq_false_iff_eq.mpr c23
                      clear c23
                      obtain rfl := Option.some.inj H
                      go_wp2_with (first | (go_at_call 12; (with_reducible refine (flow_Held.calls kj11 _ _ l0 a1 a2 t285 _ ?side1 ?side2 A22.out).mono ?_); (case side1 => repeat (first | exact (Kd.C_below HR0.out HB.out) | (with_reducible refine Kd.C_alloc ?_ _) | (with_reducible refine Kd.C_drewN ?_ _) | (with_reducible refine Kd.C_drew ?_))); (case side2 => exact HC0.out); (try clear A22); rintro e w24 ⟨rfl, hb⟩; have n0_ := Aside0.mk (below_step (by repeat (first | (with_reducible first | exact HB.out | apply below_alloc | apply pw_below_drewN | apply below_drew1) | exact HB.out)) hb); clear HB; have HB := n0_; clear n0_; (try clear hb); (try clear hb2); (try clear hk); (try clear hi)))
                      go_ret
                      exact ⟨by first | rfl | (simp [errW_none, errW_some] <;> rfl) | (simp [*, errW_none, errW_some] <;> rfl), by repeat (first | (with_reducible first | exact HB.out | apply below_alloc | apply pw_below_drewN | apply below_drew1) | exact HB.out)⟩
                    · rw [if_neg c23] at H
                      have c23b0 : (t285 == (-1)) = false := beq_eq_false_iff_ne.mpr c23
                      have c23b1 : (t285 != (-1)) = true := bne_iff_ne.mpr c23
                      exact absurd H (by have h_ := HT_.out; subst h_; decide)
                  · rw [if_neg c21] at H
                    have c21b0 : (t282 == 0) = false := beq_eq_false_iff_ne.mpr c21
                    have c21b1 : (t282 != 0) = true := bne_iff_ne.mpr c21
                    exact absurd H (by have h_ := HT_.out; subst h_; decide)
                · rw [if_neg c20] at H
                  have c20b0 : (t281.toList == ([] : List UInt8)) = false := beq_eq_false_iff_ne.mpr c20
                  have c20b1 : (t281.toList != ([] : List UInt8)) = true := bne_iff_ne.mpr c20
                  exact absurd H (by have h_ := HT_.out; subst h_; decide)
            · replace c18 := Bool.eq_false_iff.mpr c18
              subst c18
              have H1 : (if t280 = true then (if t278.toList = ([] : List UInt8) then (if t279 = 0 then (if t283 = true then ((flow_Held.f kj11 l0 a1 0).bind fun t286 => (some (t286 == 0))) else (some false)) else (some false)) else (some false)) else (some false)) = some r := by rw [if_neg (show ¬ (false = true) by decide)] at H; exact H
              clear H
              have H := H1
              clear H1
              by_cases c25 : t280 = true
              · subst c25
                have H1 : (if t278.toList = ([] : List UInt8) then (if t279 = 0 then (if t283 = true then ((flow_Held.f kj11 l0 a1 0).bind fun t286 => (some (t286 == 0))) else (some false)) else (some false)) else (some false)) = some r := by rw [if_pos rfl] at H; exact H
                clear H
                have H := H1
                clear H1
                by_cases c26 : t278.toList = ([] : List UInt8)
                · rw [if_pos c26] at H
                  have c26b0 : (t278.toList == ([] : List UInt8)) = true := beq_iff_eq.mpr c26
                  have c26b1 : (t278.toList != ([] : List UInt8)) = false := bne_eq_false_iff_eq.mpr c26
                  clear c26
                  by_cases c27 : t279 = 0
                  · rw [if_pos c27] at H
                    have c27b0 : (t279 == 0) = true := beq_iff_eq.mpr c27
                    have c27b1 : (t279 != 0) = false := bne_eq_false_iff_eq.mpr c27
                    clear c27
                    by_cases c28 : t283 = true
                    · subst c28
                      have H1 : ((flow_Held.f kj11 l0 a1 0).bind fun t286 => (some (t286 == 0))) = some r := by rw [if_pos rfl] at H; exact H
                      clear H
                      have H := H1
                      clear H1
                      replace H := Option.bind_eq_some_iff.mp H
                      obtain ⟨t286, A290, H⟩ := H
                      replace H : (some (t286 == 0)) = some r := H
                      have A29 := Aside0.mk A290
                      clear A290
                      obtain rfl := Option.some.inj H
                      go_wp2_with (first | (go_at_call 12; (with_reducible refine (flow_Held.calls kj11 _ _ l0 a1 0 t286 _ ?side1 ?side2 A29.out).mono ?_); (case side1 => repeat (first | exact (Kd.C_below HR0.out HB.out) | (with_reducible refine Kd.C_alloc ?_ _) | (with_reducible refine Kd.C_drewN ?_ _) | (with_reducible refine Kd.C_drew ?_))); (case side2 => exact HC0.out); (try clear A29); rintro e w30 ⟨rfl, hb⟩; have n0_ := Aside0.mk (below_step (by repeat (first | (with_reducible first | exact HB.out | apply below_alloc | apply pw_below_drewN | apply below_drew1) | exact HB.out)) hb); clear HB; have HB := n0_; clear n0_; (try clear hb); (try clear hb2); (try clear hk); (try clear hi)))
                      go_ret
                      exact ⟨by first | rfl | (simp [errW_none, errW_some] <;> rfl) | (simp [*, errW_none, errW_some] <;> rfl), by repeat (first | (with_reducible first | exact HB.out | apply below_alloc | apply pw_below_drewN | apply below_drew1) | exact HB.out)⟩
                    · replace c28 := Bool.eq_false_iff.mpr c28
                      subst c28
                      have H1 : (some false) = some r := by rw [if_neg (show ¬ (false = true) by decide)] at H; exact H
                      clear H
                      have H := H1
                      clear H1
                      exact absurd H (by have h_ := HT_.out; subst h_; decide)
                  · rw [if_neg c27] at H
                    have c27b0 : (t279 == 0) = false := beq_eq_false_iff_ne.mpr c27
                    have c27b1 : (t279 != 0) = true := bne_iff_ne.mpr c27
                    exact absurd H (by have h_ := HT_.out; subst h_; decide)
                · rw [if_neg c26] at H
                  have c26b0 : (t278.toList == ([] : List UInt8)) = false := beq_eq_false_iff_ne.mpr c26
                  have c26b1 : (t278.toList != ([] : List UInt8)) = true := bne_iff_ne.mpr c26
                  exact absurd H (by have h_ := HT_.out; subst h_; decide)
              · replace c25 := Bool.eq_false_iff.mpr c25
                subst c25
                have H1 : (some false) = some r := by rw [if_neg (show ¬ (false = true) by decide)] at H; exact H
                clear H
                have H := H1
                clear H1
                exact absurd H (by have h_ := HT_.out; subst h_; decide)

/-- The pure statement of copperplatelaw19_FlowNone. -/
def copperplatelaw19_FlowNone.Pure : Prop := ∀ (l0 : List (S34)) (a1 : Int) (a2 : Int), l0.length * 24 ≤ 140737488351232 → (∀ x ∈ l0, (Lit.int .i64 x.f0).wf = true ∧ x.f1.size ≤ 140737488351232) → (Lit.int .i64 a1).wf = true → (Lit.int .i64 a2).wf = true → ∃ k, copperplatelaw19_FlowNone.f k l0 a1 a2 = some true
def copperplatelaw19_FlowNone.PureUp : Prop := ∀ (l0 : List (S34)) (a1 : Int) (a2 : Int), l0.length * 24 ≤ 140737488351232 → (∀ x ∈ l0, (Lit.int .i64 x.f0).wf = true ∧ x.f1.size ≤ 140737488351232) → (Lit.int .i64 a1).wf = true → (Lit.int .i64 a2).wf = true → (l0.map fun x => x.f1.size).sum ≤ 1048576 → ∃ k, copperplatelaw19_FlowNone.f k l0 a1 a2 = some true

/-! ### copperplatelaw19_FlowMore: function 3 -/
def copperplatelaw19_FlowMore.j0 : Nat → List (S34) → Int → Int → Bool → Bool → Option (Bool)
  | 0, _, _, _, _, _ => none
  | k + 1, x0, x1, x2, x7, x39 => if x39 = true then (some x7) else ((flow_Flow.f x0 x1 x2).bind fun bt289 => ((flow_Flow.f x0 x1 (wrap64 (x2 + 1))).bind fun bt292 => ((flow_Held.f k x0 x1 x2).bind fun t295 => ((flow_Held.f k x0 x1 (wrap64 (x2 + 1))).bind fun t296 => (if bt292.2.1 ≤ (wrap64 (bt289.2.1 + 1)) then (if t295 ≥ bt289.2.1 then (if t296 ≥ t295 then (if t296 ≥ bt292.2.1 then (some (decide (t296 ≤ (wrap64 (x2 + 1))))) else (some false)) else (some false)) else (some false)) else (some false))))))
def copperplatelaw19_FlowMore.f (k : Nat) (l0 : List (S34)) (a1 : Int) (a2 : Int) : Option (Bool) := (copperplatelaw19_awake.f).bind fun t287 => (if t287 = true then (if (l0.length : Int) > 60 then (copperplatelaw19_FlowMore.j0 k l0 a1 a2 t287 true) else ((wide_Room.f l0 a1).bind fun t288 => (if t288 = true then (if a2 < 0 then (copperplatelaw19_FlowMore.j0 k l0 a1 a2 t287 true) else (copperplatelaw19_FlowMore.j0 k l0 a1 a2 t287 (decide (a2 ≥ (l0.length : Int))))) else (copperplatelaw19_FlowMore.j0 k l0 a1 a2 t287 true)))) else (copperplatelaw19_FlowMore.j0 k l0 a1 a2 t287 true))
theorem copperplatelaw19_FlowMore.mono_l : ∀ k, (∀ y0 y1 y2 y3 y4, LeO (copperplatelaw19_FlowMore.j0 k y0 y1 y2 y3 y4) (copperplatelaw19_FlowMore.j0 (k + 1) y0 y1 y2 y3 y4))
  | 0 => fun _ _ _ _ _ r h => by simp [copperplatelaw19_FlowMore.j0] at h
  | k + 1 => by
    have ih0 := copperplatelaw19_FlowMore.mono_l k
    · intro y0 y1 y2 y3 y4
      unfold copperplatelaw19_FlowMore.j0
      repeat' first
      | (with_reducible exact ih0 _ _ _ _ _)
      | (with_reducible exact flow_Held.mono _ _ _ _)
      | (with_reducible exact LeO.refl _)
      | (with_reducible exact LeO.none _)
      | (with_reducible refine LeO.ite ?_ ?_)
      | (with_reducible refine LeO.bind ?_ (fun _ => ?_))
      | exact ih0 _ _ _ _ _
      | exact flow_Held.mono _ _ _ _
      | exact LeO.none _
      | refine LeO.ite ?_ ?_
      | refine LeO.bind ?_ (fun _ => ?_)
theorem copperplatelaw19_FlowMore.mono : ∀ a0 a1 a2 k, LeO (copperplatelaw19_FlowMore.f k a0 a1 a2) (copperplatelaw19_FlowMore.f (k + 1) a0 a1 a2) := by
  intro a0 a1 a2 k
  have ih0 := copperplatelaw19_FlowMore.mono_l k
  unfold copperplatelaw19_FlowMore.f
  repeat' first
      | (with_reducible exact ih0 _ _ _ _ _)
      | (with_reducible exact flow_Held.mono _ _ _ _)
      | (with_reducible exact LeO.refl _)
      | (with_reducible exact LeO.none _)
      | (with_reducible refine LeO.ite ?_ ?_)
      | (with_reducible refine LeO.bind ?_ (fun _ => ?_))
      | exact ih0 _ _ _ _ _
      | exact flow_Held.mono _ _ _ _
      | exact LeO.none _
      | refine LeO.ite ?_ ?_
      | refine LeO.bind ?_ (fun _ => ?_)
set_option maxHeartbeats 8000000 in
set_option maxRecDepth 100000 in
theorem copperplatelaw19_FlowMore.calls (k : Nat) (A0 : Option Addr) (c0 : Nat) (l0 : List (S34)) (a1 : Int) (a2 : Int) (r : Bool) (w : World) (hr0 : Kd.C k34 w A0 l0.length l0) (hc0 : l0.length ≤ c0) (h : copperplatelaw19_FlowMore.f k l0 a1 a2 = some r) (hT_ : r = true) :
    Calls Try.prog 3 #[.slice A0 l0.length c0, .int .i64 a1, .int .i64 a2] w fun e w' => e = .returned (.bool r) ∧ Below w.heap.size w w' := by
  have HT_ := Aside0.mk hT_
  clear hT_
  have HR0 := Aside0.mk hr0
  have HC0 := Aside0.mk hc0
  clear hr0 hc0
  have HB := Aside0.mk (Below.refl w.heap.size w)
  have H : ((copperplatelaw19_awake.f).bind fun t287 => (if t287 = true then (if (l0.length : Int) > 60 then (copperplatelaw19_FlowMore.j0 k l0 a1 a2 t287 true) else ((wide_Room.f l0 a1).bind fun t288 => (if t288 = true then (if a2 < 0 then (copperplatelaw19_FlowMore.j0 k l0 a1 a2 t287 true) else (copperplatelaw19_FlowMore.j0 k l0 a1 a2 t287 (decide (a2 ≥ (l0.length : Int))))) else (copperplatelaw19_FlowMore.j0 k l0 a1 a2 t287 true)))) else (copperplatelaw19_FlowMore.j0 k l0 a1 a2 t287 true))) = some r := h
  clear h
  replace H := Option.bind_eq_some_iff.mp H
  obtain ⟨t287, A40, H⟩ := H
  replace H : (if t287 = true then (if (l0.length : Int) > 60 then (copperplatelaw19_FlowMore.j0 k l0 a1 a2 t287 true) else ((wide_Room.f l0 a1).bind fun t288 => (if t288 = true then (if a2 < 0 then (copperplatelaw19_FlowMore.j0 k l0 a1 a2 t287 true) else (copperplatelaw19_FlowMore.j0 k l0 a1 a2 t287 (decide (a2 ≥ (l0.length : Int))))) else (copperplatelaw19_FlowMore.j0 k l0 a1 a2 t287 true)))) else (copperplatelaw19_FlowMore.j0 k l0 a1 a2 t287 true)) = some r := H
  have A4 := Aside0.mk A40
  clear A40
  have HC5 := Aside0.mk H
  clear H
  go_enter Try.func3, Try.ntmps3
  go_upto_region 2 with (first | ((with_reducible refine gate_callee (f := 9) rfl ?_); refine goesL_ (some 16) rfl rfl Try.func9 (by kernel_rfl) rfl #[] rfl (by (try simp only [List.map_toArray, List.map_cons, List.map_nil]); first | done | rfl | (simp only [List.length_drop, List.length_take]; rfl)) ?_; (with_reducible refine (copperplatelaw19_awake.calls  t287 _ A4.out).mono ?_); (try clear A4); rintro e w6 ⟨rfl, hb⟩; refine ⟨_, rfl, ?_⟩; have n0_ := Aside0.mk (below_step (by repeat (first | (with_reducible first | exact HB.out | apply below_alloc | apply pw_below_drewN | apply below_drew1) | exact HB.out)) hb); clear HB; have HB := n0_; clear n0_; (try clear hb); (try clear hb2); (try clear hk); (try clear hi)))
  (try simp only [Act.put, List.setIfInBounds_toArray, List.set_cons_zero, List.set_cons_succ])
  go_cut [39] (fun v39 wc => ∃ (kq : Nat) (x39_4 : Bool), v39 = .bool x39_4 ∧ Aside0 (copperplatelaw19_FlowMore.j0 kq l0 a1 a2 t287 x39_4 = some r) ∧ Aside0 (kq ≤ k) ∧ Aside0 (Below w.heap.size w wc))
  case first =>
    have H := HC5.out
    clear HC5
    by_cases c7 : t287 = true
    · subst c7
      have H1 : (if (l0.length : Int) > 60 then (copperplatelaw19_FlowMore.j0 k l0 a1 a2 true true) else ((wide_Room.f l0 a1).bind fun t288 => (if t288 = true then (if a2 < 0 then (copperplatelaw19_FlowMore.j0 k l0 a1 a2 true true) else (copperplatelaw19_FlowMore.j0 k l0 a1 a2 true (decide (a2 ≥ (l0.length : Int))))) else (copperplatelaw19_FlowMore.j0 k l0 a1 a2 true true)))) = some r := by rw [if_pos rfl] at H; exact H
      clear H
      have H := H1
      clear H1
      by_cases c8 : (l0.length : Int) > 60
      · rw [if_pos c8] at H
        have c8b0 : decide (60 < (l0.length : Int)) = true := decide_eq_true c8
        have c8b1 : decide (60 < l0.length) = true := decide_eq_true (by omega)
        clear c8
        (first | rw [c8b0] | (simp only [i64_w, i32_w]; rw [c8b0]) | skip)
        have H' := Aside0.mk H
        clear H
        go_wp2
        go_meet
        case rel => exact ⟨_, (true), (by first | rfl | (simp; done) | (simp [*]; done)), H', ⟨by first | omega | exact Nat.le_refl _⟩, ⟨by repeat (first | (with_reducible first | exact HB.out | apply below_alloc | apply pw_below_drewN | apply below_drew1) | exact HB.out)⟩⟩
      · rw [if_neg c8] at H
        have c8b0 : decide (60 < (l0.length : Int)) = false := decide_eq_false c8
        have c8b1 : decide (60 < l0.length) = false := decide_eq_false (by omega)
        clear c8
        (first | rw [c8b0] | (simp only [i64_w, i32_w]; rw [c8b0]) | skip)
        replace H := Option.bind_eq_some_iff.mp H
        obtain ⟨t288, A90, H⟩ := H
        replace H : (if t288 = true then (if a2 < 0 then (copperplatelaw19_FlowMore.j0 k l0 a1 a2 true true) else (copperplatelaw19_FlowMore.j0 k l0 a1 a2 true (decide (a2 ≥ (l0.length : Int))))) else (copperplatelaw19_FlowMore.j0 k l0 a1 a2 true true)) = some r := H
        have A9 := Aside0.mk A90
        clear A90
        by_cases c10 : t288 = true
        · subst c10
          have H1 : (if a2 < 0 then (copperplatelaw19_FlowMore.j0 k l0 a1 a2 true true) else (copperplatelaw19_FlowMore.j0 k l0 a1 a2 true (decide (a2 ≥ (l0.length : Int))))) = some r := by rw [if_pos rfl] at H; exact H
          clear H
          have H := H1
          clear H1
          by_cases c11 : a2 < 0
          · rw [if_pos c11] at H
            have c11b0 : decide (a2 < 0) = true := decide_eq_true c11
            clear c11
            have H' := Aside0.mk H
            clear H
            go_wp2_with (first | (go_at_call 10; (with_reducible refine (wide_Room.calls _ _ l0 a1 true _ ?side1 ?side2 A9.out).mono ?_); (case side1 => repeat (first | exact (Kd.C_below HR0.out HB.out) | (with_reducible refine Kd.C_alloc ?_ _) | (with_reducible refine Kd.C_drewN ?_ _) | (with_reducible refine Kd.C_drew ?_))); (case side2 => exact HC0.out); (try clear A9); rintro e w12 ⟨rfl, hb⟩; have n0_ := Aside0.mk (below_step (by repeat (first | (with_reducible first | exact HB.out | apply below_alloc | apply pw_below_drewN | apply below_drew1) | exact HB.out)) hb); clear HB; have HB := n0_; clear n0_; (try clear hb); (try clear hb2); (try clear hk); (try clear hi)))
            go_meet
            case rel => exact ⟨_, (true), (by first | rfl | (simp; done) | (simp [*]; done)), H', ⟨by first | omega | exact Nat.le_refl _⟩, ⟨by repeat (first | (with_reducible first | exact HB.out | apply below_alloc | apply pw_below_drewN | apply below_drew1) | exact HB.out)⟩⟩
          · rw [if_neg c11] at H
            have c11b0 : decide (a2 < 0) = false := decide_eq_false c11
            clear c11
            have H' := Aside0.mk H
            clear H
            go_wp2_with (first | (go_at_call 10; (with_reducible refine (wide_Room.calls _ _ l0 a1 true _ ?side1 ?side2 A9.out).mono ?_); (case side1 => repeat (first | exact (Kd.C_below HR0.out HB.out) | (with_reducible refine Kd.C_alloc ?_ _) | (with_reducible refine Kd.C_drewN ?_ _) | (with_reducible refine Kd.C_drew ?_))); (case side2 => exact HC0.out); (try clear A9); rintro e w13 ⟨rfl, hb⟩; have n0_ := Aside0.mk (below_step (by repeat (first | (with_reducible first | exact HB.out | apply below_alloc | apply pw_below_drewN | apply below_drew1) | exact HB.out)) hb); clear HB; have HB := n0_; clear n0_; (try clear hb); (try clear hb2); (try clear hk); (try clear hi)))
            go_meet
            case rel => exact ⟨_, (decide (a2 ≥ (l0.length : Int))), (by first | rfl | (simp; done) | (simp [*]; done)), H', ⟨by first | omega | exact Nat.le_refl _⟩, ⟨by repeat (first | (with_reducible first | exact HB.out | apply below_alloc | apply pw_below_drewN | apply below_drew1) | exact HB.out)⟩⟩
        · replace c10 := Bool.eq_false_iff.mpr c10
          subst c10
          have H1 : (copperplatelaw19_FlowMore.j0 k l0 a1 a2 true true) = some r := by rw [if_neg (show ¬ (false = true) by decide)] at H; exact H
          clear H
          have H := H1
          clear H1
          have H' := Aside0.mk H
          clear H
          go_wp2_with (first | (go_at_call 10; (with_reducible refine (wide_Room.calls _ _ l0 a1 false _ ?side1 ?side2 A9.out).mono ?_); (case side1 => repeat (first | exact (Kd.C_below HR0.out HB.out) | (with_reducible refine Kd.C_alloc ?_ _) | (with_reducible refine Kd.C_drewN ?_ _) | (with_reducible refine Kd.C_drew ?_))); (case side2 => exact HC0.out); (try clear A9); rintro e w14 ⟨rfl, hb⟩; have n0_ := Aside0.mk (below_step (by repeat (first | (with_reducible first | exact HB.out | apply below_alloc | apply pw_below_drewN | apply below_drew1) | exact HB.out)) hb); clear HB; have HB := n0_; clear n0_; (try clear hb); (try clear hb2); (try clear hk); (try clear hi)))
          go_meet
          case rel => exact ⟨_, (true), (by first | rfl | (simp; done) | (simp [*]; done)), H', ⟨by first | omega | exact Nat.le_refl _⟩, ⟨by repeat (first | (with_reducible first | exact HB.out | apply below_alloc | apply pw_below_drewN | apply below_drew1) | exact HB.out)⟩⟩
    · replace c7 := Bool.eq_false_iff.mpr c7
      subst c7
      have H1 : (copperplatelaw19_FlowMore.j0 k l0 a1 a2 false true) = some r := by rw [if_neg (show ¬ (false = true) by decide)] at H; exact H
      clear H
      have H := H1
      clear H1
      have H' := Aside0.mk H
      clear H
      go_wp2
      go_meet
      case rel => exact ⟨_, (true), (by first | rfl | (simp; done) | (simp [*]; done)), H', ⟨by first | omega | exact Nat.le_refl _⟩, ⟨by repeat (first | (with_reducible first | exact HB.out | apply below_alloc | apply pw_below_drewN | apply below_drew1) | exact HB.out)⟩⟩
  case rest =>
    clear HC5
    try clear c1
    try clear p2
    try clear c3
    try clear c7
    try clear c8
    try clear c8b0
    try clear c8b1
    try clear c9
    try clear c10
    try clear c11
    try clear c11b0
    obtain ⟨kq, x39_4, rfl, HA, HJ4, HB⟩ := hcut
    cases kq with
    | zero => exact absurd HA.out (by simp [copperplatelaw19_FlowMore.j0])
    | succ kj4 =>
      have H := HA.out
      clear HA
      simp only [copperplatelaw19_FlowMore.j0] at H
      by_cases c15 : x39_4 = true
      · subst c15
        have H1 : (some t287) = some r := by rw [if_pos rfl] at H; exact H
        clear H
        have H := H1
        clear H1
        obtain rfl := Option.some.inj H
        go_wp2
        go_ret
        exact ⟨by first | rfl | (simp [errW_none, errW_some] <;> rfl) | (simp [*, errW_none, errW_some] <;> rfl), by repeat (first | (with_reducible first | exact HB.out | apply below_alloc | apply pw_below_drewN | apply below_drew1) | exact HB.out)⟩
      · replace c15 := Bool.eq_false_iff.mpr c15
        subst c15
        have H1 : ((flow_Flow.f l0 a1 a2).bind fun bt289 => ((flow_Flow.f l0 a1 (wrap64 (a2 + 1))).bind fun bt292 => ((flow_Held.f kj4 l0 a1 a2).bind fun t295 => ((flow_Held.f kj4 l0 a1 (wrap64 (a2 + 1))).bind fun t296 => (if bt292.2.1 ≤ (wrap64 (bt289.2.1 + 1)) then (if t295 ≥ bt289.2.1 then (if t296 ≥ t295 then (if t296 ≥ bt292.2.1 then (some (decide (t296 ≤ (wrap64 (a2 + 1))))) else (some false)) else (some false)) else (some false)) else (some false)))))) = some r := by rw [if_neg (show ¬ (false = true) by decide)] at H; exact H
        clear H
        have H := H1
        clear H1
        replace H := Option.bind_eq_some_iff.mp H
        obtain ⟨⟨t289, t290, t291⟩, A160, H⟩ := H
        replace H : ((flow_Flow.f l0 a1 (wrap64 (a2 + 1))).bind fun bt292 => ((flow_Held.f kj4 l0 a1 a2).bind fun t295 => ((flow_Held.f kj4 l0 a1 (wrap64 (a2 + 1))).bind fun t296 => (if bt292.2.1 ≤ (wrap64 (t290 + 1)) then (if t295 ≥ t290 then (if t296 ≥ t295 then (if t296 ≥ bt292.2.1 then (some (decide (t296 ≤ (wrap64 (a2 + 1))))) else (some false)) else (some false)) else (some false)) else (some false))))) = some r := H
        have A16 := Aside0.mk A160
        clear A160
        replace H := Option.bind_eq_some_iff.mp H
        obtain ⟨⟨t292, t293, t294⟩, A170, H⟩ := H
        replace H : ((flow_Held.f kj4 l0 a1 a2).bind fun t295 => ((flow_Held.f kj4 l0 a1 (wrap64 (a2 + 1))).bind fun t296 => (if t293 ≤ (wrap64 (t290 + 1)) then (if t295 ≥ t290 then (if t296 ≥ t295 then (if t296 ≥ t293 then (some (decide (t296 ≤ (wrap64 (a2 + 1))))) else (some false)) else (some false)) else (some false)) else (some false)))) = some r := H
        have A17 := Aside0.mk A170
        clear A170
        replace H := Option.bind_eq_some_iff.mp H
        obtain ⟨t295, A180, H⟩ := H
        replace H : ((flow_Held.f kj4 l0 a1 (wrap64 (a2 + 1))).bind fun t296 => (if t293 ≤ (wrap64 (t290 + 1)) then (if t295 ≥ t290 then (if t296 ≥ t295 then (if t296 ≥ t293 then (some (decide (t296 ≤ (wrap64 (a2 + 1))))) else (some false)) else (some false)) else (some false)) else (some false))) = some r := H
        have A18 := Aside0.mk A180
        clear A180
        replace H := Option.bind_eq_some_iff.mp H
        obtain ⟨t296, A190, H⟩ := H
        replace H : (if t293 ≤ (wrap64 (t290 + 1)) then (if t295 ≥ t290 then (if t296 ≥ t295 then (if t296 ≥ t293 then (some (decide (t296 ≤ (wrap64 (a2 + 1))))) else (some false)) else (some false)) else (some false)) else (some false)) = some r := H
        have A19 := Aside0.mk A190
        clear A190
        by_cases c20 : t293 ≤ (wrap64 (t290 + 1))
        · rw [if_pos c20] at H
          have c20b0 : decide (t293 ≤ (wrap64 (t290 + 1))) = true := decide_eq_true c20
          clear c20
          by_cases c21 : t295 ≥ t290
          · rw [if_pos c21] at H
            have c21b0 : decide (t290 ≤ t295) = true := decide_eq_true c21
            clear c21
            by_cases c22 : t296 ≥ t295
            · rw [if_pos c22] at H
              have c22b0 : decide (t295 ≤ t296) = true := decide_eq_true c22
              clear c22
              by_cases c23 : t296 ≥ t293
              · rw [if_pos c23] at H
                have c23b0 : decide (t293 ≤ t296) = true := decide_eq_true c23
                clear c23
                obtain rfl := Option.some.inj H
                (try (have hw_ : wrap64 (t290 + 1) = (t290 + 1) := (by unfold wrap64; omega); have c20b0u := c20b0; rw [hw_] at c20b0u))
                go_wp2_with (first | ((with_reducible refine gate_callee (f := 11) rfl ?_); refine goesL_ (some 45) rfl rfl Try.func11 (by kernel_rfl) rfl #[.slice A0 l0.length c0, .int .i64 a1, .int .i64 a2] rfl (by (try simp only [List.map_toArray, List.map_cons, List.map_nil]); first | done | rfl | (simp only [List.length_drop, List.length_take]; rfl)) ?_; (with_reducible refine (flow_Flow.calls _ _ l0 a1 a2 t289 t290 t291 _ ?side1 ?side2 A16.out).mono ?_); (case side1 => repeat (first | exact (Kd.C_below HR0.out HB.out) | (with_reducible refine Kd.C_alloc ?_ _) | (with_reducible refine Kd.C_drewN ?_ _) | (with_reducible refine Kd.C_drew ?_))); (case side2 => exact HC0.out); (try clear A16); rintro e w24 ⟨rfl, hb⟩; refine ⟨_, rfl, ?_⟩; have n0_ := Aside0.mk (below_step (by repeat (first | (with_reducible first | exact HB.out | apply below_alloc | apply pw_below_drewN | apply below_drew1) | exact HB.out)) hb); clear HB; have HB := n0_; clear n0_; (try clear hb); (try clear hb2); (try clear hk); (try clear hi)) | ((with_reducible refine gate_callee (f := 11) rfl ?_); refine goesL_ (some 54) rfl rfl Try.func11 (by kernel_rfl) rfl #[.slice A0 l0.length c0, .int .i64 a1, .int .i64 (wrap64 (a2 + 1))] rfl (by (try simp only [List.map_toArray, List.map_cons, List.map_nil]); first | done | rfl | (simp only [List.length_drop, List.length_take]; rfl)) ?_; (with_reducible refine (flow_Flow.calls _ _ l0 a1 (wrap64 (a2 + 1)) t292 t293 t294 _ ?side1 ?side2 A17.out).mono ?_); (case side1 => repeat (first | exact (Kd.C_below HR0.out HB.out) | (with_reducible refine Kd.C_alloc ?_ _) | (with_reducible refine Kd.C_drewN ?_ _) | (with_reducible refine Kd.C_drew ?_))); (case side2 => exact HC0.out); (try clear A17); rintro e w25 ⟨rfl, hb⟩; refine ⟨_, rfl, ?_⟩; have n0_ := Aside0.mk (below_step (by repeat (first | (with_reducible first | exact HB.out | apply below_alloc | apply pw_below_drewN | apply below_drew1) | exact HB.out)) hb); clear HB; have HB := n0_; clear n0_; (try clear hb); (try clear hb2); (try clear hk); (try clear hi)) | ((with_reducible refine gate_callee (f := 12) rfl ?_); refine goesL_ (some 61) rfl rfl Try.func12 (by kernel_rfl) rfl #[.slice A0 l0.length c0, .int .i64 a1, .int .i64 a2] rfl (by (try simp only [List.map_toArray, List.map_cons, List.map_nil]); first | done | rfl | (simp only [List.length_drop, List.length_take]; rfl)) ?_; (with_reducible refine (flow_Held.calls kj4 _ _ l0 a1 a2 t295 _ ?side1 ?side2 A18.out).mono ?_); (case side1 => repeat (first | exact (Kd.C_below HR0.out HB.out) | (with_reducible refine Kd.C_alloc ?_ _) | (with_reducible refine Kd.C_drewN ?_ _) | (with_reducible refine Kd.C_drew ?_))); (case side2 => exact HC0.out); (try clear A18); rintro e w26 ⟨rfl, hb⟩; refine ⟨_, rfl, ?_⟩; have n0_ := Aside0.mk (below_step (by repeat (first | (with_reducible first | exact HB.out | apply below_alloc | apply pw_below_drewN | apply below_drew1) | exact HB.out)) hb); clear HB; have HB := n0_; clear n0_; (try clear hb); (try clear hb2); (try clear hk); (try clear hi)) | ((with_reducible refine gate_callee (f := 12) rfl ?_); refine goesL_ (some 66) rfl rfl Try.func12 (by kernel_rfl) rfl #[.slice A0 l0.length c0, .int .i64 a1, .int .i64 (wrap64 (a2 + 1))] rfl (by (try simp only [List.map_toArray, List.map_cons, List.map_nil]); first | done | rfl | (simp only [List.length_drop, List.length_take]; rfl)) ?_; (with_reducible refine (flow_Held.calls kj4 _ _ l0 a1 (wrap64 (a2 + 1)) t296 _ ?side1 ?side2 A19.out).mono ?_); (case side1 => repeat (first | exact (Kd.C_below HR0.out HB.out) | (with_reducible refine Kd.C_alloc ?_ _) | (with_reducible refine Kd.C_drewN ?_ _) | (with_reducible refine Kd.C_drew ?_))); (case side2 => exact HC0.out); (try clear A19); rintro e w27 ⟨rfl, hb⟩; refine ⟨_, rfl, ?_⟩; have n0_ := Aside0.mk (below_step (by repeat (first | (with_reducible first | exact HB.out | apply below_alloc | apply pw_below_drewN | apply below_drew1) | exact HB.out)) hb); clear HB; have HB := n0_; clear n0_; (try clear hb); (try clear hb2); (try clear hk); (try clear hi)))
                go_ret
                exact ⟨by first | rfl | (simp [errW_none, errW_some] <;> rfl) | (simp [*, errW_none, errW_some] <;> rfl), by repeat (first | (with_reducible first | exact HB.out | apply below_alloc | apply pw_below_drewN | apply below_drew1) | exact HB.out)⟩
              · rw [if_neg c23] at H
                have c23b0 : decide (t293 ≤ t296) = false := decide_eq_false c23
                clear c23
                exact absurd H (by have h_ := HT_.out; subst h_; decide)
            · rw [if_neg c22] at H
              have c22b0 : decide (t295 ≤ t296) = false := decide_eq_false c22
              clear c22
              exact absurd H (by have h_ := HT_.out; subst h_; decide)
          · rw [if_neg c21] at H
            have c21b0 : decide (t290 ≤ t295) = false := decide_eq_false c21
            clear c21
            exact absurd H (by have h_ := HT_.out; subst h_; decide)
        · rw [if_neg c20] at H
          have c20b0 : decide (t293 ≤ (wrap64 (t290 + 1))) = false := decide_eq_false c20
          clear c20
          exact absurd H (by have h_ := HT_.out; subst h_; decide)

/-- The pure statement of copperplatelaw19_FlowMore. -/
def copperplatelaw19_FlowMore.Pure : Prop := ∀ (l0 : List (S34)) (a1 : Int) (a2 : Int), l0.length * 24 ≤ 140737488351232 → (∀ x ∈ l0, (Lit.int .i64 x.f0).wf = true ∧ x.f1.size ≤ 140737488351232) → (Lit.int .i64 a1).wf = true → (Lit.int .i64 a2).wf = true → ∃ k, copperplatelaw19_FlowMore.f k l0 a1 a2 = some true
def copperplatelaw19_FlowMore.PureUp : Prop := ∀ (l0 : List (S34)) (a1 : Int) (a2 : Int), l0.length * 24 ≤ 140737488351232 → (∀ x ∈ l0, (Lit.int .i64 x.f0).wf = true ∧ x.f1.size ≤ 140737488351232) → (Lit.int .i64 a1).wf = true → (Lit.int .i64 a2).wf = true → (l0.map fun x => x.f1.size).sum ≤ 1048576 → ∃ k, copperplatelaw19_FlowMore.f k l0 a1 a2 = some true

end Go.Proofs.Ytkhlfdoeploddaa.PFlow
