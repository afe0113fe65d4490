-- Written by a program of the session (drive.py, over the kit's print.py with contracts by hand). Not trusted: Lean checks it.
import Derived.Test.YtkhlfdoeploddaaPFlowx0
import Derived.Test.YtkhlfdoeploddaaPFlowx2
import Derived.Test.YtkhlfdoeploddaaPFlowx12
import Derived.Test.YtkhlfdoeploddaaHFlowFlowA
import Derived.Test.YtkhlfdoeploddaaHFlowFlowF
import Derived.Test.YtkhlfdoeploddaaHFlowLaid
namespace Go.Proofs.Ytkhlfdoeploddaa.PFlow
open Go.RowKit Go.Proofs.YtkhlfdoeploddaaW.PrintWords Go.Proofs.YtkhlfdoeploddaaW.PrintLast Go.Proofs.YtkhlfdoeploddaaW.PrintMore
attribute [local go_sem] max2_int min2_int max_two min_two max_three min_three max_four min_four   -- for this text's walks alone
set_option linter.unusedVariables false
set_option linter.unusedSimpArgs false

/-! ### wide_Lay: function 13 -/
def wide_Lay.f (l0 : List (S34)) (a1 : Int) : Option (ByteArray × Bool) := (wide_Room.f l0 a1).bind fun t325 => (if t325 = true then ((wide_laid.f l0 a1).bind fun bt326 => (some (bt326.1, true))) else (some ((⟨#[]⟩ : ByteArray), false)))
set_option maxHeartbeats 8000000 in
set_option maxRecDepth 100000 in
theorem wide_Lay.calls (A0 : Option Addr) (c0 : Nat) (l0 : List (S34)) (a1 : Int) (r1 : ByteArray) (r2 : Bool) (w : World) (hr0 : Kd.C k34 w A0 l0.length l0) (hc0 : l0.length ≤ c0) (h : wide_Lay.f l0 a1 = some (r1, r2)) :
    Calls Try.prog 13 #[.slice A0 l0.length c0, .int .i64 a1] w fun e w' => e = .returned (.tuple #[.string r1, .bool r2]) ∧ Below w.heap.size w w' := by
  have HR0 := Aside0.mk hr0
  have HC0 := Aside0.mk hc0
  clear hr0 hc0
  have HB := Aside0.mk (Below.refl w.heap.size w)
  have H : ((wide_Room.f l0 a1).bind fun t325 => (if t325 = true then ((wide_laid.f l0 a1).bind fun bt326 => (some (bt326.1, true))) else (some ((⟨#[]⟩ : ByteArray), false)))) = some (r1, r2) := h
  clear h
  replace H := Option.bind_eq_some_iff.mp H
  obtain ⟨t325, A30, H⟩ := H
  replace H : (if t325 = true then ((wide_laid.f l0 a1).bind fun bt326 => (some (bt326.1, true))) else (some ((⟨#[]⟩ : ByteArray), false))) = some (r1, r2) := H
  have A3 := Aside0.mk A30
  clear A30
  by_cases c4 : t325 = true
  · subst c4
    have H1 : ((wide_laid.f l0 a1).bind fun bt326 => (some (bt326.1, true))) = some (r1, r2) := by rw [if_pos rfl] at H; exact H
    clear H
    have H := H1
    clear H1
    replace H := Option.bind_eq_some_iff.mp H
    obtain ⟨⟨t326, t327⟩, A50, H⟩ := H
    replace H : (some (t326, true)) = some (r1, r2) := H
    have A5 := Aside0.mk A50
    clear A50
    simp only [Option.some.injEq, Prod.mk.injEq] at H
    obtain ⟨rfl, rfl⟩ := H
    go_enter Try.func13, Try.ntmps13
    go_wp2_with (first | ((with_reducible refine gate_callee (f := 10) rfl ?_); refine goesL_ (some 10) rfl rfl Try.func10 (by kernel_rfl) rfl #[.slice A0 l0.length c0, .int .i64 a1] rfl (by (try simp only [List.map_toArray, List.map_cons, List.map_nil]); first | done | rfl | (simp only [List.length_drop, List.length_take]; rfl)) ?_; (with_reducible refine (wide_Room.calls _ _ l0 a1 true _ ?side1 ?side2 A3.out).mono ?_); (case side1 => repeat (first | exact HR0.out | (with_reducible refine Kd.C_alloc ?_ _) | (with_reducible refine Kd.C_drewN ?_ _) | (with_reducible refine Kd.C_drew ?_))); (case side2 => exact HC0.out); (try clear A3); rintro e w6 ⟨rfl, hb⟩; refine ⟨_, rfl, ?_⟩; have n0_ := Aside0.mk (below_step (by repeat (first | (with_reducible first | exact HB.out | apply below_alloc | apply pw_below_drewN | apply below_drew1) | exact HB.out)) hb); clear HB; have HB := n0_; clear n0_; (try clear hb); (try clear hb2); (try clear hk); (try clear hi)) | ((with_reducible refine gate_callee (f := 26) rfl ?_); refine goesL_ (some 15) rfl rfl Try.func26 (by kernel_rfl) rfl #[.slice A0 l0.length c0, .int .i64 a1] rfl (by (try simp only [List.map_toArray, List.map_cons, List.map_nil]); first | done | rfl | (simp only [List.length_drop, List.length_take]; rfl)) ?_; (with_reducible refine (wide_laid.calls _ _ l0 a1 t326 t327 _ ?side1 ?side2 A5.out).mono ?_); (case side1 => repeat (first | exact (Kd.C_below HR0.out HB.out) | (with_reducible refine Kd.C_alloc ?_ _) | (with_reducible refine Kd.C_drewN ?_ _) | (with_reducible refine Kd.C_drew ?_))); (case side2 => exact HC0.out); (try clear A5); rintro e w7 ⟨v328, rfl, ho0, hb⟩; refine ⟨_, rfl, ?_⟩; have n0_ := Aside0.mk (Kd.R_lower ho0 (below_size (by repeat (first | (with_reducible first | exact HB.out | apply below_alloc | apply pw_below_drewN | apply below_drew1) | exact HB.out)))); have n1_ := Aside0.mk (below_step (by repeat (first | (with_reducible first | exact HB.out | apply below_alloc | apply pw_below_drewN | apply below_drew1) | exact HB.out)) hb); clear HB; have HO329 := n0_; have HB := n1_; clear n0_ n1_; (try clear hb); (try clear hb2); (try clear hk); (try clear hi); (try clear ho0)))
    go_ret2
    exact ⟨by first | rfl | (simp [errW_none, errW_some] <;> rfl) | (simp [*, errW_none, errW_some] <;> rfl), by repeat (first | (with_reducible first | exact HB.out | apply below_alloc | apply pw_below_drewN | apply below_drew1) | exact HB.out)⟩
  · replace c4 := Bool.eq_false_iff.mpr c4
    subst c4
    have H1 : (some ((⟨#[]⟩ : ByteArray), false)) = some (r1, r2) := by rw [if_neg (show ¬ (false = true) by decide)] at H; exact H
    clear H
    have H := H1
    clear H1
    simp only [Option.some.injEq, Prod.mk.injEq] at H
    obtain ⟨rfl, rfl⟩ := H
    go_enter Try.func13, Try.ntmps13
    go_wp2_with (first | ((with_reducible refine gate_callee (f := 10) rfl ?_); refine goesL_ (some 10) rfl rfl Try.func10 (by kernel_rfl) rfl #[.slice A0 l0.length c0, .int .i64 a1] rfl (by (try simp only [List.map_toArray, List.map_cons, List.map_nil]); first | done | rfl | (simp only [List.length_drop, List.length_take]; rfl)) ?_; (with_reducible refine (wide_Room.calls _ _ l0 a1 false _ ?side1 ?side2 A3.out).mono ?_); (case side1 => repeat (first | exact HR0.out | (with_reducible refine Kd.C_alloc ?_ _) | (with_reducible refine Kd.C_drewN ?_ _) | (with_reducible refine Kd.C_drew ?_))); (case side2 => exact HC0.out); (try clear A3); rintro e w8 ⟨rfl, hb⟩; refine ⟨_, rfl, ?_⟩; have n0_ := Aside0.mk (below_step (by repeat (first | (with_reducible first | exact HB.out | apply below_alloc | apply pw_below_drewN | apply below_drew1) | exact HB.out)) hb); clear HB; have HB := n0_; clear n0_; (try clear hb); (try clear hb2); (try clear hk); (try clear hi)))
    go_ret2
    exact ⟨by first | rfl | (simp [errW_none, errW_some] <;> rfl) | (simp [*, errW_none, errW_some] <;> rfl), by repeat (first | (with_reducible first | exact HB.out | apply below_alloc | apply pw_below_drewN | apply below_drew1) | exact HB.out)⟩

/-! ### copperplatelaw19_FlowLay: function 4 -/
def copperplatelaw19_FlowLay.j0 : Nat → List (S34) → Int → Int → Int → Bool → Bool → Option (Bool)
  | 0, _, _, _, _, _, _ => none
  | k + 1, x0, x1, x2, x3, x9, x48 => if x48 = true then (some x9) else ((flow_Flow.f x0 x1 x2).bind fun bt332 => ((flow_Flow.f x0 x1 x3).bind fun bt335 => ((wide_Lay.f x0 x1).bind fun bt338 => ((flow_All.f x0 x1).bind fun bt340 => (if bt332.2.2 = true then (if bt335.2.2 = true then (if (bt332.1.size : Int) ≤ (bt335.1.size : Int) then (if (bt335.1.size : Int) ≤ (bt338.1.size : Int) then (if 0 ≤ (bt332.1.size : Int) then (if (bt335.1.extract 0 ((bt332.1.size : Int) : Int).toNat).toList = bt332.1.toList then (if 0 ≤ (bt335.1.size : Int) then (if (bt338.1.extract 0 ((bt335.1.size : Int) : Int).toNat).toList = bt335.1.toList then (if bt340.2 = true then (some (bt340.1.toList == bt338.1.toList)) else (some false)) else (some false)) else (none)) else (some false)) else (none)) else (some false)) else (some false)) else (some false)) else (some false))))))
def copperplatelaw19_FlowLay.f (k : Nat) (l0 : List (S34)) (a1 : Int) (a2 : Int) (a3 : Int) : Option (Bool) := (copperplatelaw19_awake.f).bind fun t330 => (if t330 = true then (if (l0.length : Int) > 60 then (copperplatelaw19_FlowLay.j0 k l0 a1 a2 a3 t330 true) else ((wide_Room.f l0 a1).bind fun t331 => (if t331 = true then (if a2 < 0 then (copperplatelaw19_FlowLay.j0 k l0 a1 a2 a3 t330 true) else (if a3 < a2 then (copperplatelaw19_FlowLay.j0 k l0 a1 a2 a3 t330 true) else (copperplatelaw19_FlowLay.j0 k l0 a1 a2 a3 t330 (decide (a3 > (l0.length : Int)))))) else (copperplatelaw19_FlowLay.j0 k l0 a1 a2 a3 t330 true)))) else (copperplatelaw19_FlowLay.j0 k l0 a1 a2 a3 t330 true))
theorem copperplatelaw19_FlowLay.mono_l : ∀ k, (∀ y0 y1 y2 y3 y4 y5, LeO (copperplatelaw19_FlowLay.j0 k y0 y1 y2 y3 y4 y5) (copperplatelaw19_FlowLay.j0 (k + 1) y0 y1 y2 y3 y4 y5))
  | 0 => fun _ _ _ _ _ _ r h => by simp [copperplatelaw19_FlowLay.j0] at h
  | k + 1 => by
    have ih0 := copperplatelaw19_FlowLay.mono_l k
    · intro y0 y1 y2 y3 y4 y5
      unfold copperplatelaw19_FlowLay.j0
      repeat' first
      | (with_reducible exact ih0 _ _ _ _ _ _)
      | (with_reducible exact LeO.refl _)
      | (with_reducible exact LeO.none _)
      | (with_reducible refine LeO.ite ?_ ?_)
      | (with_reducible refine LeO.bind ?_ (fun _ => ?_))
      | exact ih0 _ _ _ _ _ _
      | exact LeO.none _
      | refine LeO.ite ?_ ?_
      | refine LeO.bind ?_ (fun _ => ?_)
theorem copperplatelaw19_FlowLay.mono : ∀ a0 a1 a2 a3 k, LeO (copperplatelaw19_FlowLay.f k a0 a1 a2 a3) (copperplatelaw19_FlowLay.f (k + 1) a0 a1 a2 a3) := by
  intro a0 a1 a2 a3 k
  have ih0 := copperplatelaw19_FlowLay.mono_l k
  unfold copperplatelaw19_FlowLay.f
  repeat' first
      | (with_reducible exact ih0 _ _ _ _ _ _)
      | (with_reducible exact LeO.refl _)
      | (with_reducible exact LeO.none _)
      | (with_reducible refine LeO.ite ?_ ?_)
      | (with_reducible refine LeO.bind ?_ (fun _ => ?_))
      | exact ih0 _ _ _ _ _ _
      | exact LeO.none _
      | refine LeO.ite ?_ ?_
      | refine LeO.bind ?_ (fun _ => ?_)
set_option maxHeartbeats 8000000 in
set_option maxRecDepth 100000 in
theorem copperplatelaw19_FlowLay.calls (k : Nat) (A0 : Option Addr) (c0 : Nat) (l0 : List (S34)) (a1 : Int) (a2 : Int) (a3 : Int) (r : Bool) (w : World) (hr0 : Kd.C k34 w A0 l0.length l0) (hc0 : l0.length ≤ c0) (h : copperplatelaw19_FlowLay.f k l0 a1 a2 a3 = some r) (hT_ : r = true) :
    Calls Try.prog 4 #[.slice A0 l0.length c0, .int .i64 a1, .int .i64 a2, .int .i64 a3] w fun e w' => e = .returned (.bool r) ∧ Below w.heap.size w w' := by
  have HT_ := Aside0.mk hT_
  clear hT_
  have HR0 := Aside0.mk hr0
  have HC0 := Aside0.mk hc0
  clear hr0 hc0
  have HB := Aside0.mk (Below.refl w.heap.size w)
  have H : ((copperplatelaw19_awake.f).bind fun t330 => (if t330 = true then (if (l0.length : Int) > 60 then (copperplatelaw19_FlowLay.j0 k l0 a1 a2 a3 t330 true) else ((wide_Room.f l0 a1).bind fun t331 => (if t331 = true then (if a2 < 0 then (copperplatelaw19_FlowLay.j0 k l0 a1 a2 a3 t330 true) else (if a3 < a2 then (copperplatelaw19_FlowLay.j0 k l0 a1 a2 a3 t330 true) else (copperplatelaw19_FlowLay.j0 k l0 a1 a2 a3 t330 (decide (a3 > (l0.length : Int)))))) else (copperplatelaw19_FlowLay.j0 k l0 a1 a2 a3 t330 true)))) else (copperplatelaw19_FlowLay.j0 k l0 a1 a2 a3 t330 true))) = some r := h
  clear h
  replace H := Option.bind_eq_some_iff.mp H
  obtain ⟨t330, A50, H⟩ := H
  replace H : (if t330 = true then (if (l0.length : Int) > 60 then (copperplatelaw19_FlowLay.j0 k l0 a1 a2 a3 t330 true) else ((wide_Room.f l0 a1).bind fun t331 => (if t331 = true then (if a2 < 0 then (copperplatelaw19_FlowLay.j0 k l0 a1 a2 a3 t330 true) else (if a3 < a2 then (copperplatelaw19_FlowLay.j0 k l0 a1 a2 a3 t330 true) else (copperplatelaw19_FlowLay.j0 k l0 a1 a2 a3 t330 (decide (a3 > (l0.length : Int)))))) else (copperplatelaw19_FlowLay.j0 k l0 a1 a2 a3 t330 true)))) else (copperplatelaw19_FlowLay.j0 k l0 a1 a2 a3 t330 true)) = some r := H
  have A5 := Aside0.mk A50
  clear A50
  have HC6 := Aside0.mk H
  clear H
  go_enter Try.func4, Try.ntmps4
  go_upto_region 2 with (first | ((with_reducible refine gate_callee (f := 9) rfl ?_); refine goesL_ (some 20) rfl rfl Try.func9 (by kernel_rfl) rfl #[] rfl (by (try simp only [List.map_toArray, List.map_cons, List.map_nil]); first | done | rfl | (simp only [List.length_drop, List.length_take]; rfl)) ?_; (with_reducible refine (copperplatelaw19_awake.calls  t330 _ A5.out).mono ?_); (try clear A5); rintro e w7 ⟨rfl, hb⟩; refine ⟨_, rfl, ?_⟩; have n0_ := Aside0.mk (below_step (by repeat (first | (with_reducible first | exact HB.out | apply below_alloc | apply pw_below_drewN | apply below_drew1) | exact HB.out)) hb); clear HB; have HB := n0_; clear n0_; (try clear hb); (try clear hb2); (try clear hk); (try clear hi)))
  (try simp only [Act.put, List.setIfInBounds_toArray, List.set_cons_zero, List.set_cons_succ])
  go_cut [48] (fun v48 wc => ∃ (kq : Nat) (x48_5 : Bool), v48 = .bool x48_5 ∧ Aside0 (copperplatelaw19_FlowLay.j0 kq l0 a1 a2 a3 t330 x48_5 = some r) ∧ Aside0 (kq ≤ k) ∧ Aside0 (Below w.heap.size w wc))
  case first =>
    have H := HC6.out
    clear HC6
    by_cases c8 : t330 = true
    · subst c8
      have H1 : (if (l0.length : Int) > 60 then (copperplatelaw19_FlowLay.j0 k l0 a1 a2 a3 true true) else ((wide_Room.f l0 a1).bind fun t331 => (if t331 = true then (if a2 < 0 then (copperplatelaw19_FlowLay.j0 k l0 a1 a2 a3 true true) else (if a3 < a2 then (copperplatelaw19_FlowLay.j0 k l0 a1 a2 a3 true true) else (copperplatelaw19_FlowLay.j0 k l0 a1 a2 a3 true (decide (a3 > (l0.length : Int)))))) else (copperplatelaw19_FlowLay.j0 k l0 a1 a2 a3 true true)))) = some r := by rw [if_pos rfl] at H; exact H
      clear H
      have H := H1
      clear H1
      by_cases c9 : (l0.length : Int) > 60
      · rw [if_pos c9] at H
        have c9b0 : decide (60 < (l0.length : Int)) = true := decide_eq_true c9
        have c9b1 : decide (60 < l0.length) = true := decide_eq_true (by omega)
        clear c9
        (first | rw [c9b0] | (simp only [i64_w, i32_w]; rw [c9b0]) | skip)
        have H' := Aside0.mk H
        clear H
        go_wp2
        go_meet
        case rel => exact ⟨_, (true), (by first | rfl | (simp; done) | (simp [*]; done)), H', ⟨by first | omega | exact Nat.le_refl _⟩, ⟨by repeat (first | (with_reducible first | exact HB.out | apply below_alloc | apply pw_below_drewN | apply below_drew1) | exact HB.out)⟩⟩
      · rw [if_neg c9] at H
        have c9b0 : decide (60 < (l0.length : Int)) = false := decide_eq_false c9
        have c9b1 : decide (60 < l0.length) = false := decide_eq_false (by omega)
        clear c9
        (first | rw [c9b0] | (simp only [i64_w, i32_w]; rw [c9b0]) | skip)
        replace H := Option.bind_eq_some_iff.mp H
        obtain ⟨t331, A100, H⟩ := H
        replace H : (if t331 = true then (if a2 < 0 then (copperplatelaw19_FlowLay.j0 k l0 a1 a2 a3 true true) else (if a3 < a2 then (copperplatelaw19_FlowLay.j0 k l0 a1 a2 a3 true true) else (copperplatelaw19_FlowLay.j0 k l0 a1 a2 a3 true (decide (a3 > (l0.length : Int)))))) else (copperplatelaw19_FlowLay.j0 k l0 a1 a2 a3 true true)) = some r := H
        have A10 := Aside0.mk A100
        clear A100
        by_cases c11 : t331 = true
        · subst c11
          have H1 : (if a2 < 0 then (copperplatelaw19_FlowLay.j0 k l0 a1 a2 a3 true true) else (if a3 < a2 then (copperplatelaw19_FlowLay.j0 k l0 a1 a2 a3 true true) else (copperplatelaw19_FlowLay.j0 k l0 a1 a2 a3 true (decide (a3 > (l0.length : Int)))))) = some r := by rw [if_pos rfl] at H; exact H
          clear H
          have H := H1
          clear H1
          by_cases c12 : a2 < 0
          · rw [if_pos c12] at H
            have c12b0 : decide (a2 < 0) = true := decide_eq_true c12
            clear c12
            have H' := Aside0.mk H
            clear H
            go_wp2_with (first | (go_at_call 10; (with_reducible refine (wide_Room.calls _ _ l0 a1 true _ ?side1 ?side2 A10.out).mono ?_); (case side1 => repeat (first | exact (Kd.C_below HR0.out HB.out) | (with_reducible refine Kd.C_alloc ?_ _) | (with_reducible refine Kd.C_drewN ?_ _) | (with_reducible refine Kd.C_drew ?_))); (case side2 => exact HC0.out); (try clear A10); rintro e w13 ⟨rfl, hb⟩; have n0_ := Aside0.mk (below_step (by repeat (first | (with_reducible first | exact HB.out | apply below_alloc | apply pw_below_drewN | apply below_drew1) | exact HB.out)) hb); clear HB; have HB := n0_; clear n0_; (try clear hb); (try clear hb2); (try clear hk); (try clear hi)))
            go_meet
            case rel => exact ⟨_, (true), (by first | rfl | (simp; done) | (simp [*]; done)), H', ⟨by first | omega | exact Nat.le_refl _⟩, ⟨by repeat (first | (with_reducible first | exact HB.out | apply below_alloc | apply pw_below_drewN | apply below_drew1) | exact HB.out)⟩⟩
          · rw [if_neg c12] at H
            have c12b0 : decide (a2 < 0) = false := decide_eq_false c12
            clear c12
            by_cases c14 : a3 < a2
            · rw [if_pos c14] at H
              have c14b0 : decide (a3 < a2) = true := decide_eq_true c14
              clear c14
              have H' := Aside0.mk H
              clear H
              go_wp2_with (first | (go_at_call 10; (with_reducible refine (wide_Room.calls _ _ l0 a1 true _ ?side1 ?side2 A10.out).mono ?_); (case side1 => repeat (first | exact (Kd.C_below HR0.out HB.out) | (with_reducible refine Kd.C_alloc ?_ _) | (with_reducible refine Kd.C_drewN ?_ _) | (with_reducible refine Kd.C_drew ?_))); (case side2 => exact HC0.out); (try clear A10); rintro e w15 ⟨rfl, hb⟩; have n0_ := Aside0.mk (below_step (by repeat (first | (with_reducible first | exact HB.out | apply below_alloc | apply pw_below_drewN | apply below_drew1) | exact HB.out)) hb); clear HB; have HB := n0_; clear n0_; (try clear hb); (try clear hb2); (try clear hk); (try clear hi)))
              go_meet
              case rel => exact ⟨_, (true), (by first | rfl | (simp; done) | (simp [*]; done)), H', ⟨by first | omega | exact Nat.le_refl _⟩, ⟨by repeat (first | (with_reducible first | exact HB.out | apply below_alloc | apply pw_below_drewN | apply below_drew1) | exact HB.out)⟩⟩
            · rw [if_neg c14] at H
              have c14b0 : decide (a3 < a2) = false := decide_eq_false c14
              clear c14
              have H' := Aside0.mk H
              clear H
              go_wp2_with (first | (go_at_call 10; (with_reducible refine (wide_Room.calls _ _ l0 a1 true _ ?side1 ?side2 A10.out).mono ?_); (case side1 => repeat (first | exact (Kd.C_below HR0.out HB.out) | (with_reducible refine Kd.C_alloc ?_ _) | (with_reducible refine Kd.C_drewN ?_ _) | (with_reducible refine Kd.C_drew ?_))); (case side2 => exact HC0.out); (try clear A10); rintro e w16 ⟨rfl, hb⟩; have n0_ := Aside0.mk (below_step (by repeat (first | (with_reducible first | exact HB.out | apply below_alloc | apply pw_below_drewN | apply below_drew1) | exact HB.out)) hb); clear HB; have HB := n0_; clear n0_; (try clear hb); (try clear hb2); (try clear hk); (try clear hi)))
              go_meet
              case rel => exact ⟨_, (decide (a3 > (l0.length : Int))), (by first | rfl | (simp; done) | (simp [*]; done)), H', ⟨by first | omega | exact Nat.le_refl _⟩, ⟨by repeat (first | (with_reducible first | exact HB.out | apply below_alloc | apply pw_below_drewN | apply below_drew1) | exact HB.out)⟩⟩
        · replace c11 := Bool.eq_false_iff.mpr c11
          subst c11
          have H1 : (copperplatelaw19_FlowLay.j0 k l0 a1 a2 a3 true true) = some r := by rw [if_neg (show ¬ (false = true) by decide)] at H; exact H
          clear H
          have H := H1
          clear H1
          have H' := Aside0.mk H
          clear H
          go_wp2_with (first | (go_at_call 10; (with_reducible refine (wide_Room.calls _ _ l0 a1 false _ ?side1 ?side2 A10.out).mono ?_); (case side1 => repeat (first | exact (Kd.C_below HR0.out HB.out) | (with_reducible refine Kd.C_alloc ?_ _) | (with_reducible refine Kd.C_drewN ?_ _) | (with_reducible refine Kd.C_drew ?_))); (case side2 => exact HC0.out); (try clear A10); rintro e w17 ⟨rfl, hb⟩; have n0_ := Aside0.mk (below_step (by repeat (first | (with_reducible first | exact HB.out | apply below_alloc | apply pw_below_drewN | apply below_drew1) | exact HB.out)) hb); clear HB; have HB := n0_; clear n0_; (try clear hb); (try clear hb2); (try clear hk); (try clear hi)))
          go_meet
          case rel => exact ⟨_, (true), (by first | rfl | (simp; done) | (simp [*]; done)), H', ⟨by first | omega | exact Nat.le_refl _⟩, ⟨by repeat (first | (with_reducible first | exact HB.out | apply below_alloc | apply pw_below_drewN | apply below_drew1) | exact HB.out)⟩⟩
    · replace c8 := Bool.eq_false_iff.mpr c8
      subst c8
      have H1 : (copperplatelaw19_FlowLay.j0 k l0 a1 a2 a3 false true) = some r := by rw [if_neg (show ¬ (false = true) by decide)] at H; exact H
      clear H
      have H := H1
      clear H1
      have H' := Aside0.mk H
      clear H
      go_wp2
      go_meet
      case rel => exact ⟨_, (true), (by first | rfl | (simp; done) | (simp [*]; done)), H', ⟨by first | omega | exact Nat.le_refl _⟩, ⟨by repeat (first | (with_reducible first | exact HB.out | apply below_alloc | apply pw_below_drewN | apply below_drew1) | exact HB.out)⟩⟩
  case rest =>
    clear HC6
    try clear c1
    try clear p2
    try clear c4
    try clear c8
    try clear c9
    try clear c9b0
    try clear c9b1
    try clear c11
    try clear c12
    try clear c12b0
    try clear c14
    try clear c14b0
    obtain ⟨kq, x48_5, rfl, HA, HJ5, HB⟩ := hcut
    cases kq with
    | zero => exact absurd HA.out (by simp [copperplatelaw19_FlowLay.j0])
    | succ kj5 =>
      have H := HA.out
      clear HA
      simp only [copperplatelaw19_FlowLay.j0] at H
      by_cases c18 : x48_5 = true
      · subst c18
        have H1 : (some t330) = some r := by rw [if_pos rfl] at H; exact H
        clear H
        have H := H1
        clear H1
        obtain rfl := Option.some.inj H
        go_wp2
        go_ret
        exact ⟨by first | rfl | (simp [errW_none, errW_some] <;> rfl) | (simp [*, errW_none, errW_some] <;> rfl), by repeat (first | (with_reducible first | exact HB.out | apply below_alloc | apply pw_below_drewN | apply below_drew1) | exact HB.out)⟩
      · replace c18 := Bool.eq_false_iff.mpr c18
        subst c18
        have H1 : ((flow_Flow.f l0 a1 a2).bind fun bt332 => ((flow_Flow.f l0 a1 a3).bind fun bt335 => ((wide_Lay.f l0 a1).bind fun bt338 => ((flow_All.f l0 a1).bind fun bt340 => (if bt332.2.2 = true then (if bt335.2.2 = true then (if (bt332.1.size : Int) ≤ (bt335.1.size : Int) then (if (bt335.1.size : Int) ≤ (bt338.1.size : Int) then (if 0 ≤ (bt332.1.size : Int) then (if (bt335.1.extract 0 ((bt332.1.size : Int) : Int).toNat).toList = bt332.1.toList then (if 0 ≤ (bt335.1.size : Int) then (if (bt338.1.extract 0 ((bt335.1.size : Int) : Int).toNat).toList = bt335.1.toList then (if bt340.2 = true then (some (bt340.1.toList == bt338.1.toList)) else (some false)) else (some false)) else (none)) else (some false)) else (none)) else (some false)) else (some false)) else (some false)) else (some false)))))) = some r := by rw [if_neg (show ¬ (false = true) by decide)] at H; exact H
        clear H
        have H := H1
        clear H1
        replace H := Option.bind_eq_some_iff.mp H
        obtain ⟨⟨t332, t333, t334⟩, A190, H⟩ := H
        replace H : ((flow_Flow.f l0 a1 a3).bind fun bt335 => ((wide_Lay.f l0 a1).bind fun bt338 => ((flow_All.f l0 a1).bind fun bt340 => (if t334 = true then (if bt335.2.2 = true then (if (t332.size : Int) ≤ (bt335.1.size : Int) then (if (bt335.1.size : Int) ≤ (bt338.1.size : Int) then (if 0 ≤ (t332.size : Int) then (if (bt335.1.extract 0 ((t332.size : Int) : Int).toNat).toList = t332.toList then (if 0 ≤ (bt335.1.size : Int) then (if (bt338.1.extract 0 ((bt335.1.size : Int) : Int).toNat).toList = bt335.1.toList then (if bt340.2 = true then (some (bt340.1.toList == bt338.1.toList)) else (some false)) else (some false)) else (none)) else (some false)) else (none)) else (some false)) else (some false)) else (some false)) else (some false))))) = some r := H
        have A19 := Aside0.mk A190
        clear A190
        replace H := Option.bind_eq_some_iff.mp H
        obtain ⟨⟨t335, t336, t337⟩, A200, H⟩ := H
        replace H : ((wide_Lay.f l0 a1).bind fun bt338 => ((flow_All.f l0 a1).bind fun bt340 => (if t334 = true then (if t337 = true then (if (t332.size : Int) ≤ (t335.size : Int) then (if (t335.size : Int) ≤ (bt338.1.size : Int) then (if 0 ≤ (t332.size : Int) then (if (t335.extract 0 ((t332.size : Int) : Int).toNat).toList = t332.toList then (if 0 ≤ (t335.size : Int) then (if (bt338.1.extract 0 ((t335.size : Int) : Int).toNat).toList = t335.toList then (if bt340.2 = true then (some (bt340.1.toList == bt338.1.toList)) else (some false)) else (some false)) else (none)) else (some false)) else (none)) else (some false)) else (some false)) else (some false)) else (some false)))) = some r := H
        have A20 := Aside0.mk A200
        clear A200
        replace H := Option.bind_eq_some_iff.mp H
        obtain ⟨⟨t338, t339⟩, A210, H⟩ := H
        replace H : ((flow_All.f l0 a1).bind fun bt340 => (if t334 = true then (if t337 = true then (if (t332.size : Int) ≤ (t335.size : Int) then (if (t335.size : Int) ≤ (t338.size : Int) then (if 0 ≤ (t332.size : Int) then (if (t335.extract 0 ((t332.size : Int) : Int).toNat).toList = t332.toList then (if 0 ≤ (t335.size : Int) then (if (t338.extract 0 ((t335.size : Int) : Int).toNat).toList = t335.toList then (if bt340.2 = true then (some (bt340.1.toList == t338.toList)) else (some false)) else (some false)) else (none)) else (some false)) else (none)) else (some false)) else (some false)) else (some false)) else (some false))) = some r := H
        have A21 := Aside0.mk A210
        clear A210
        replace H := Option.bind_eq_some_iff.mp H
        obtain ⟨⟨t340, t341⟩, A220, H⟩ := H
        replace H : (if t334 = true then (if t337 = true then (if (t332.size : Int) ≤ (t335.size : Int) then (if (t335.size : Int) ≤ (t338.size : Int) then (if 0 ≤ (t332.size : Int) then (if (t335.extract 0 ((t332.size : Int) : Int).toNat).toList = t332.toList then (if 0 ≤ (t335.size : Int) then (if (t338.extract 0 ((t335.size : Int) : Int).toNat).toList = t335.toList then (if t341 = true then (some (t340.toList == t338.toList)) else (some false)) else (some false)) else (none)) else (some false)) else (none)) else (some false)) else (some false)) else (some false)) else (some false)) = some r := H
        have A22 := Aside0.mk A220
        clear A220
        by_cases c23 : t334 = true
        · subst c23
          have H1 : (if t337 = true then (if (t332.size : Int) ≤ (t335.size : Int) then (if (t335.size : Int) ≤ (t338.size : Int) then (if 0 ≤ (t332.size : Int) then (if (t335.extract 0 ((t332.size : Int) : Int).toNat).toList = t332.toList then (if 0 ≤ (t335.size : Int) then (if (t338.extract 0 ((t335.size : Int) : Int).toNat).toList = t335.toList then (if t341 = true then (some (t340.toList == t338.toList)) else (some false)) else (some false)) else (none)) else (some false)) else (none)) else (some false)) else (some false)) else (some false)) = some r := by rw [if_pos rfl] at H; exact H
          clear H
          have H := H1
          clear H1
          by_cases c24 : t337 = true
          · subst c24
            have H1 : (if (t332.size : Int) ≤ (t335.size : Int) then (if (t335.size : Int) ≤ (t338.size : Int) then (if 0 ≤ (t332.size : Int) then (if (t335.extract 0 ((t332.size : Int) : Int).toNat).toList = t332.toList then (if 0 ≤ (t335.size : Int) then (if (t338.extract 0 ((t335.size : Int) : Int).toNat).toList = t335.toList then (if t341 = true then (some (t340.toList == t338.toList)) else (some false)) else (some false)) else (none)) else (some false)) else (none)) else (some false)) else (some false)) = some r := by rw [if_pos rfl] at H; exact H
            clear H
            have H := H1
            clear H1
            by_cases c25 : (t332.size : Int) ≤ (t335.size : Int)
            · rw [if_pos c25] at H
              have c25b0 : decide ((t332.size : Int) ≤ (t335.size : Int)) = true := decide_eq_true c25
              have c25b1 : decide (t332.size ≤ t335.size) = true := decide_eq_true (Int.ofNat_le.mp c25)
              clear c25
              by_cases c26 : (t335.size : Int) ≤ (t338.size : Int)
              · rw [if_pos c26] at H
                have c26b0 : decide ((t335.size : Int) ≤ (t338.size : Int)) = true := decide_eq_true c26
                have c26b1 : decide (t335.size ≤ t338.size) = true := decide_eq_true (Int.ofNat_le.mp c26)
                clear c26
                by_cases c27 : 0 ≤ (t332.size : Int)
                · rw [if_pos c27] at H
                  have c27b0 := eq_true c27
                  have c27b1 : decide (0 ≤ (t332.size : Int)) = true := decide_eq_true c27
                  clear c27
                  have c28b0 := eq_true (of_decide_eq_true (by first | (with_reducible assumption) | assumption) : (t332.size : Int) ≤ (t335.size : Int))
                  by_cases c29 : (t335.extract 0 ((t332.size : Int) : Int).toNat).toList = t332.toList
                  · rw [if_pos c29] at H
                    have c29b0 : ((t335.extract 0 ((t332.size : Int) : Int).toNat).toList == t332.toList) = true := beq_iff_eq.mpr c29
                    try have c29b4 : ((t335.extract 0 t332.size).toList = t332.toList) = True := eq_true (by have h_ := beq_iff_eq.1 c29b0; rw [Int.toNat_natCast] at h_; exact h_)
                    try have c29b4 : ((t335.extract 0 t332.size).toList = t332.toList) = True := eq_true (by have h_ := beq_iff_eq.1 c29b0; rw [Int.toNat_natCast] at h_; exact h_)
                    have c29b1 : ((t335.extract 0 ((t332.size : Int) : Int).toNat).toList != t332.toList) = false := bne_eq_false_iff_eq.mpr c29
                    clear c29
                    by_cases c30 : 0 ≤ (t335.size : Int)
                    · rw [if_pos c30] at H
                      have c30b0 := eq_true c30
                      have c30b1 : decide (0 ≤ (t335.size : Int)) = true := decide_eq_true c30
                      clear c30
                      have c31b0 := eq_true (of_decide_eq_true (by first | (with_reducible assumption) | assumption) : (t335.size : Int) ≤ (t338.size : Int))
                      by_cases c32 : (t338.extract 0 ((t335.size : Int) : Int).toNat).toList = t335.toList
                      · rw [if_pos c32] at H
                        have c32b0 : ((t338.extract 0 ((t335.size : Int) : Int).toNat).toList == t335.toList) = true := beq_iff_eq.mpr c32
                        try have c32b4 : ((t338.extract 0 t335.size).toList = t335.toList) = True := eq_true (by have h_ := beq_iff_eq.1 c32b0; rw [Int.toNat_natCast] at h_; exact h_)
                        try have c32b4 : ((t338.extract 0 t335.size).toList = t335.toList) = True := eq_true (by have h_ := beq_iff_eq.1 c32b0; rw [Int.toNat_natCast] at h_; exact h_)
                        have c32b1 : ((t338.extract 0 ((t335.size : Int) : Int).toNat).toList != t335.toList) = false := bne_eq_false_iff_eq.mpr c32
                        clear c32
                        by_cases c33 : t341 = true
                        · subst c33
                          have H1 : (some (t340.toList == t338.toList)) = some r := by rw [if_pos rfl] at H; exact H
                          clear H
                          have H := H1
                          clear H1
                          obtain rfl := Option.some.inj H
                          go_wp2_with (first | ((with_reducible refine gate_callee (f := 11) rfl ?_); refine goesL_ (some 54) rfl rfl Try.func11 (by kernel_rfl) rfl #[.slice A0 l0.length c0, .int .i64 a1, .int .i64 a2] rfl (by (try simp only [List.map_toArray, List.map_cons, List.map_nil]); first | done | rfl | (simp only [List.length_drop, List.length_take]; rfl)) ?_; (with_reducible refine (flow_Flow.calls _ _ l0 a1 a2 t332 t333 true _ ?side1 ?side2 A19.out).mono ?_); (case side1 => repeat (first | exact (Kd.C_below HR0.out HB.out) | (with_reducible refine Kd.C_alloc ?_ _) | (with_reducible refine Kd.C_drewN ?_ _) | (with_reducible refine Kd.C_drew ?_))); (case side2 => exact HC0.out); (try clear A19); rintro e w34 ⟨rfl, hb⟩; refine ⟨_, rfl, ?_⟩; have n0_ := Aside0.mk (below_step (by repeat (first | (with_reducible first | exact HB.out | apply below_alloc | apply pw_below_drewN | apply below_drew1) | exact HB.out)) hb); clear HB; have HB := n0_; clear n0_; (try clear hb); (try clear hb2); (try clear hk); (try clear hi)) | ((with_reducible refine gate_callee (f := 11) rfl ?_); refine goesL_ (some 62) rfl rfl Try.func11 (by kernel_rfl) rfl #[.slice A0 l0.length c0, .int .i64 a1, .int .i64 a3] rfl (by (try simp only [List.map_toArray, List.map_cons, List.map_nil]); first | done | rfl | (simp only [List.length_drop, List.length_take]; rfl)) ?_; (with_reducible refine (flow_Flow.calls _ _ l0 a1 a3 t335 t336 true _ ?side1 ?side2 A20.out).mono ?_); (case side1 => repeat (first | exact (Kd.C_below HR0.out HB.out) | (with_reducible refine Kd.C_alloc ?_ _) | (with_reducible refine Kd.C_drewN ?_ _) | (with_reducible refine Kd.C_drew ?_))); (case side2 => exact HC0.out); (try clear A20); rintro e w35 ⟨rfl, hb⟩; refine ⟨_, rfl, ?_⟩; have n0_ := Aside0.mk (below_step (by repeat (first | (with_reducible first | exact HB.out | apply below_alloc | apply pw_below_drewN | apply below_drew1) | exact HB.out)) hb); clear HB; have HB := n0_; clear n0_; (try clear hb); (try clear hb2); (try clear hk); (try clear hi)) | ((with_reducible refine gate_callee (f := 13) rfl ?_); refine goesL_ (some 69) rfl rfl Try.func13 (by kernel_rfl) rfl #[.slice A0 l0.length c0, .int .i64 a1] rfl (by (try simp only [List.map_toArray, List.map_cons, List.map_nil]); first | done | rfl | (simp only [List.length_drop, List.length_take]; rfl)) ?_; (with_reducible refine (wide_Lay.calls _ _ l0 a1 t338 t339 _ ?side1 ?side2 A21.out).mono ?_); (case side1 => repeat (first | exact (Kd.C_below HR0.out HB.out) | (with_reducible refine Kd.C_alloc ?_ _) | (with_reducible refine Kd.C_drewN ?_ _) | (with_reducible refine Kd.C_drew ?_))); (case side2 => exact HC0.out); (try clear A21); rintro e w36 ⟨rfl, hb⟩; refine ⟨_, rfl, ?_⟩; have n0_ := Aside0.mk (below_step (by repeat (first | (with_reducible first | exact HB.out | apply below_alloc | apply pw_below_drewN | apply below_drew1) | exact HB.out)) hb); clear HB; have HB := n0_; clear n0_; (try clear hb); (try clear hb2); (try clear hk); (try clear hi)) | ((with_reducible refine gate_callee (f := 14) rfl ?_); refine goesL_ (some 75) rfl rfl Try.func14 (by kernel_rfl) rfl #[.slice A0 l0.length c0, .int .i64 a1] rfl (by (try simp only [List.map_toArray, List.map_cons, List.map_nil]); first | done | rfl | (simp only [List.length_drop, List.length_take]; rfl)) ?_; (with_reducible refine (flow_All.calls _ _ l0 a1 t340 true _ ?side1 ?side2 A22.out).mono ?_); (case side1 => repeat (first | exact (Kd.C_below HR0.out HB.out) | (with_reducible refine Kd.C_alloc ?_ _) | (with_reducible refine Kd.C_drewN ?_ _) | (with_reducible refine Kd.C_drew ?_))); (case side2 => exact HC0.out); (try clear A22); rintro e w37 ⟨rfl, hb⟩; refine ⟨_, rfl, ?_⟩; have n0_ := Aside0.mk (below_step (by repeat (first | (with_reducible first | exact HB.out | apply below_alloc | apply pw_below_drewN | apply below_drew1) | exact HB.out)) hb); clear HB; have HB := n0_; clear n0_; (try clear hb); (try clear hb2); (try clear hk); (try clear hi)))
                          go_ret
                          exact ⟨by first | rfl | (simp [errW_none, errW_some] <;> rfl) | (simp [*, errW_none, errW_some] <;> rfl), by repeat (first | (with_reducible first | exact HB.out | apply below_alloc | apply pw_below_drewN | apply below_drew1) | exact HB.out)⟩
                        · replace c33 := Bool.eq_false_iff.mpr c33
                          subst c33
                          have H1 : (some false) = some r := by rw [if_neg (show ¬ (false = true) by decide)] at H; exact H
                          clear H
                          have H := H1
                          clear H1
                          exact absurd H (by have h_ := HT_.out; subst h_; decide)
                      · rw [if_neg c32] at H
                        have c32b0 : ((t338.extract 0 ((t335.size : Int) : Int).toNat).toList == t335.toList) = false := beq_eq_false_iff_ne.mpr c32
                        have c32b1 : ((t338.extract 0 ((t335.size : Int) : Int).toNat).toList != t335.toList) = true := bne_iff_ne.mpr c32
                        exact absurd H (by have h_ := HT_.out; subst h_; decide)
                    · rw [if_neg c30] at H
                      exact absurd H (by simp)
                  · rw [if_neg c29] at H
                    have c29b0 : ((t335.extract 0 ((t332.size : Int) : Int).toNat).toList == t332.toList) = false := beq_eq_false_iff_ne.mpr c29
                    have c29b1 : ((t335.extract 0 ((t332.size : Int) : Int).toNat).toList != t332.toList) = true := bne_iff_ne.mpr c29
                    exact absurd H (by have h_ := HT_.out; subst h_; decide)
                · rw [if_neg c27] at H
                  exact absurd H (by simp)
              · rw [if_neg c26] at H
                have c26b0 : decide ((t335.size : Int) ≤ (t338.size : Int)) = false := decide_eq_false c26
                have c26b1 : decide (t335.size ≤ t338.size) = false := decide_eq_false (fun h => c26 (Int.ofNat_le.mpr h))
                clear c26
                exact absurd H (by have h_ := HT_.out; subst h_; decide)
            · rw [if_neg c25] at H
              have c25b0 : decide ((t332.size : Int) ≤ (t335.size : Int)) = false := decide_eq_false c25
              have c25b1 : decide (t332.size ≤ t335.size) = false := decide_eq_false (fun h => c25 (Int.ofNat_le.mpr h))
              clear c25
              exact absurd H (by have h_ := HT_.out; subst h_; decide)
          · replace c24 := Bool.eq_false_iff.mpr c24
            subst c24
            have H1 : (some false) = some r := by rw [if_neg (show ¬ (false = true) by decide)] at H; exact H
            clear H
            have H := H1
            clear H1
            exact absurd H (by have h_ := HT_.out; subst h_; decide)
        · replace c23 := Bool.eq_false_iff.mpr c23
          subst c23
          have H1 : (some false) = some r := by rw [if_neg (show ¬ (false = true) by decide)] at H; exact H
          clear H
          have H := H1
          clear H1
          exact absurd H (by have h_ := HT_.out; subst h_; decide)

/-- The pure statement of copperplatelaw19_FlowLay. -/
def copperplatelaw19_FlowLay.Pure : Prop := ∀ (l0 : List (S34)) (a1 : Int) (a2 : Int) (a3 : Int), l0.length * 24 ≤ 140737488351232 → (∀ x ∈ l0, (Lit.int .i64 x.f0).wf = true ∧ x.f1.size ≤ 140737488351232) → (Lit.int .i64 a1).wf = true → (Lit.int .i64 a2).wf = true → (Lit.int .i64 a3).wf = true → ∃ k, copperplatelaw19_FlowLay.f k l0 a1 a2 a3 = some true
def copperplatelaw19_FlowLay.PureUp : Prop := ∀ (l0 : List (S34)) (a1 : Int) (a2 : Int) (a3 : Int), l0.length * 24 ≤ 140737488351232 → (∀ x ∈ l0, (Lit.int .i64 x.f0).wf = true ∧ x.f1.size ≤ 140737488351232) → (Lit.int .i64 a1).wf = true → (Lit.int .i64 a2).wf = true → (Lit.int .i64 a3).wf = true → (l0.map fun x => x.f1.size).sum ≤ 1048576 → ∃ k, copperplatelaw19_FlowLay.f k l0 a1 a2 a3 = some true

end Go.Proofs.Ytkhlfdoeploddaa.PFlow
