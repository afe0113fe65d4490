-- Written by a program of the session (drive.py, over the kit's print.py with contracts by hand). Not trusted: Lean checks it.
import Derived.Test.YtkhlfdoeploddaaPFlowx0
import Derived.Test.YtkhlfdoeploddaaHFlowFlowF
namespace Go.Proofs.Ytkhlfdoeploddaa.PFlow
open Go.RowKit Go.Proofs.YtkhlfdoeploddaaW.PrintWords Go.Proofs.YtkhlfdoeploddaaW.PrintLast Go.Proofs.YtkhlfdoeploddaaW.PrintMore
attribute [local go_sem] max2_int min2_int max_two min_two max_three min_three max_four min_four   -- for this text's walks alone
set_option linter.unusedVariables false
set_option linter.unusedSimpArgs false

/-! ### flow_Held: function 12 -/
def flow_Held.l0 : Nat → List (S34) → Int → Int → Int → Int → Option (Int)
  | 0, _, _, _, _, _ => none
  | k + 1, x0, x1, x10, x26, x27 => if x27 < x26 then ((flow_Flow.f x0 x1 x27).bind fun bt109 => (flow_Held.l0 k x0 x1 (mx x10 bt109.2.1) x26 (wrap64 (x27 + 1)))) else (some x10)
def flow_Held.f (k : Nat) (l0 : List (S34)) (a1 : Int) (a2 : Int) : Option (Int) := (flow_Flow.f l0 a1 a2).bind fun bt106 => (if bt106.2.2 = true then (flow_Held.l0 k l0 a1 0 (wrap64 (a2 + 1)) 0) else (some (-1)))
theorem flow_Held.mono_l : ∀ k, (∀ y0 y1 y2 y3 y4, LeO (flow_Held.l0 k y0 y1 y2 y3 y4) (flow_Held.l0 (k + 1) y0 y1 y2 y3 y4))
  | 0 => fun _ _ _ _ _ r h => by simp [flow_Held.l0] at h
  | k + 1 => by
    have ih0 := flow_Held.mono_l k
    · intro y0 y1 y2 y3 y4
      unfold flow_Held.l0
      repeat' first
      | (with_reducible exact ih0 _ _ _ _ _)
      | (with_reducible exact LeO.refl _)
      | (with_reducible exact LeO.none _)
      | (with_reducible refine LeO.ite ?_ ?_)
      | (with_reducible refine LeO.bind ?_ (fun _ => ?_))
      | exact ih0 _ _ _ _ _
      | exact LeO.none _
      | refine LeO.ite ?_ ?_
      | refine LeO.bind ?_ (fun _ => ?_)
theorem flow_Held.mono : ∀ a0 a1 a2 k, LeO (flow_Held.f k a0 a1 a2) (flow_Held.f (k + 1) a0 a1 a2) := by
  intro a0 a1 a2 k
  have ih0 := flow_Held.mono_l k
  unfold flow_Held.f
  repeat' first
      | (with_reducible exact ih0 _ _ _ _ _)
      | (with_reducible exact LeO.refl _)
      | (with_reducible exact LeO.none _)
      | (with_reducible refine LeO.ite ?_ ?_)
      | (with_reducible refine LeO.bind ?_ (fun _ => ?_))
      | exact ih0 _ _ _ _ _
      | exact LeO.none _
      | refine LeO.ite ?_ ?_
      | refine LeO.bind ?_ (fun _ => ?_)
set_option maxHeartbeats 8000000 in
set_option maxRecDepth 100000 in
theorem flow_Held.calls (k : Nat) (A0 : Option Addr) (c0 : Nat) (l0 : List (S34)) (a1 : Int) (a2 : Int) (r : Int) (w : World) (hr0 : Kd.C k34 w A0 l0.length l0) (hc0 : l0.length ≤ c0) (h : flow_Held.f k l0 a1 a2 = some r) :
    Calls Try.prog 12 #[.slice A0 l0.length c0, .int .i64 a1, .int .i64 a2] w fun e w' => e = .returned (.int .i64 r) ∧ Below w.heap.size w w' := by
  have HR0 := Aside0.mk hr0
  have HC0 := Aside0.mk hc0
  clear hr0 hc0
  have HB := Aside0.mk (Below.refl w.heap.size w)
  have H : ((flow_Flow.f l0 a1 a2).bind fun bt106 => (if bt106.2.2 = true then (flow_Held.l0 k l0 a1 0 (wrap64 (a2 + 1)) 0) else (some (-1)))) = some r := h
  clear h
  replace H := Option.bind_eq_some_iff.mp H
  obtain ⟨⟨t106, t107, t108⟩, A40, H⟩ := H
  replace H : (if t108 = true then (flow_Held.l0 k l0 a1 0 (wrap64 (a2 + 1)) 0) else (some (-1))) = some r := H
  have A4 := Aside0.mk A40
  clear A40
  by_cases c5 : t108 = true
  · subst c5
    have H1 : (flow_Held.l0 k l0 a1 0 (wrap64 (a2 + 1)) 0) = some r := by rw [if_pos rfl] at H; exact H
    clear H
    have H := H1
    clear H1
    have H' := Aside0.mk H
    clear H
    go_enter Try.func12, Try.ntmps12
    go_wp2_with (first | ((with_reducible refine gate_callee (f := 11) rfl ?_); refine goesL_ (some 19) rfl rfl Try.func11 (by kernel_rfl) rfl #[.slice A0 l0.length c0, .int .i64 a1, .int .i64 a2] rfl (by (try simp only [List.map_toArray, List.map_cons, List.map_nil]); first | done | rfl | (simp only [List.length_drop, List.length_take]; rfl)) ?_; (with_reducible refine (flow_Flow.calls _ _ l0 a1 a2 t106 t107 true _ ?side1 ?side2 A4.out).mono ?_); (case side1 => repeat (first | exact HR0.out | (with_reducible refine Kd.C_alloc ?_ _) | (with_reducible refine Kd.C_drewN ?_ _) | (with_reducible refine Kd.C_drew ?_))); (case side2 => exact HC0.out); (try clear A4); rintro e w6 ⟨rfl, hb⟩; refine ⟨_, rfl, ?_⟩; have n0_ := Aside0.mk (below_step (by repeat (first | (with_reducible first | exact HB.out | apply below_alloc | apply pw_below_drewN | apply below_drew1) | exact HB.out)) hb); clear HB; have HB := n0_; clear n0_; (try clear hb); (try clear hb2); (try clear hk); (try clear hi)))
    go_loopg [10, 27] k (fun kq v10 v27 w' => ∃ (x10_1 : Int) (x27_1 : Int), v10 = .int .i64 x10_1 ∧ v27 = .int .i64 x27_1 ∧ Aside0 (flow_Held.l0 kq l0 a1 x10_1 (wrap64 (a2 + 1)) x27_1 = some r) ∧ Aside0 (kq ≤ k) ∧ Aside0 (Below w.heap.size w w'))
    case atStart => exact ⟨(0), (0), (by first | rfl | (simp; done) | (simp [*]; done)), (by first | rfl | (simp; done) | (simp [*]; done)), H', ⟨Nat.le_refl _⟩, ⟨by repeat (first | (with_reducible first | exact HB.out | apply below_alloc | apply pw_below_drewN | apply below_drew1) | exact HB.out)⟩⟩
    case round =>
      clear H'
      try clear c1
      try clear p2
      try clear c5
      try clear p6
      obtain ⟨x10_1, x27_1, rfl, rfl, HA, HK1, HB⟩ := hrel
      cases gk with
      | zero => exact absurd HA.out (by simp [flow_Held.l0])
      | succ k1 =>
        have H := HA.out
        clear HA
        simp only [flow_Held.l0] at H
        by_cases c7 : x27_1 < (wrap64 (a2 + 1))
        · rw [if_pos c7] at H
          have c7b0 : decide (x27_1 < (wrap64 (a2 + 1))) = true := decide_eq_true c7
          clear c7
          replace H := Option.bind_eq_some_iff.mp H
          obtain ⟨⟨t109, t110, t111⟩, A80, H⟩ := H
          replace H : (flow_Held.l0 k1 l0 a1 (mx x10_1 t110) (wrap64 (a2 + 1)) (wrap64 (x27_1 + 1))) = some r := H
          have A8 := Aside0.mk A80
          clear A80
          obtain ⟨ji9, hji9⟩ : ∃ j_ : Int, (mx x10_1 t110) = j_ := ⟨_, rfl⟩
          replace H : (flow_Held.l0 k1 l0 a1 ji9 (wrap64 (a2 + 1)) (wrap64 (x27_1 + 1))) = some r := by first | (rw [hji9] at H; exact H) | (simp only [hji9] at H ⊢; exact H)
          (try rw [hji9] at A8)
          have hji9_ : (if x10_1 < t110 then t110 else x10_1) = ji9 := hji9
          have H' := Aside0.mk H
          clear H
          (try (have hw_ : wrap64 (a2 + 1) = (a2 + 1) := (by unfold wrap64; omega); have c7b0u := c7b0; rw [hw_] at c7b0u))
          go_wp2_with (first | ((with_reducible refine gate_callee (f := 11) rfl ?_); refine goesL_ (some 34) rfl rfl Try.func11 (by kernel_rfl) rfl #[.slice A0 l0.length c0, .int .i64 a1, .int .i64 x27_1] rfl (by (try simp only [List.map_toArray, List.map_cons, List.map_nil]); first | done | rfl | (simp only [List.length_drop, List.length_take]; rfl)) ?_; (with_reducible refine (flow_Flow.calls _ _ l0 a1 x27_1 t109 t110 t111 _ ?side1 ?side2 A8.out).mono ?_); (case side1 => repeat (first | exact (Kd.C_below HR0.out HB.out) | (with_reducible refine Kd.C_alloc ?_ _) | (with_reducible refine Kd.C_drewN ?_ _) | (with_reducible refine Kd.C_drew ?_))); (case side2 => exact HC0.out); (try clear A8); rintro e w10 ⟨rfl, hb⟩; refine ⟨_, rfl, ?_⟩; have n0_ := Aside0.mk (below_step (by repeat (first | (with_reducible first | exact HB.out | apply below_alloc | apply pw_below_drewN | apply below_drew1) | exact HB.out)) hb); clear HB; have HB := n0_; clear n0_; (try clear hb); (try clear hb2); (try clear hk); (try clear hi)))
          go_roundg k1
          case measure => have := HK1.out; omega
          case rel => exact ⟨(ji9), (wrap64 (x27_1 + 1)), (by first | rfl | (simp; done) | (simp only [← hji9] <;> (first | rfl | simp)) | (simp [*]; done)), (by first | rfl | (simp; done) | (simp [*]; done)), H', ⟨by have := HK1.out; omega⟩, ⟨by repeat (first | (with_reducible first | exact HB.out | apply below_alloc | apply pw_below_drewN | apply below_drew1) | exact HB.out)⟩⟩
        · rw [if_neg c7] at H
          have c7b0 : decide (x27_1 < (wrap64 (a2 + 1))) = false := decide_eq_false c7
          clear c7
          obtain rfl := Option.some.inj H
          (try (have hw_ : wrap64 (a2 + 1) = (a2 + 1) := (by unfold wrap64; omega); have c7b0u := c7b0; rw [hw_] at c7b0u))
          go_wp2
          go_ret
          exact ⟨by first | rfl | (simp [errW_none, errW_some] <;> rfl) | (simp [*, errW_none, errW_some] <;> rfl), by repeat (first | (with_reducible first | exact HB.out | apply below_alloc | apply pw_below_drewN | apply below_drew1) | exact HB.out)⟩
  · replace c5 := Bool.eq_false_iff.mpr c5
    subst c5
    have H1 : (some (-1)) = some r := by rw [if_neg (show ¬ (false = true) by decide)] at H; exact H
    clear H
    have H := H1
    clear H1
    obtain rfl := Option.some.inj H
    go_enter Try.func12, Try.ntmps12
    go_wp2_with (first | ((with_reducible refine gate_callee (f := 11) rfl ?_); refine goesL_ (some 19) rfl rfl Try.func11 (by kernel_rfl) rfl #[.slice A0 l0.length c0, .int .i64 a1, .int .i64 a2] rfl (by (try simp only [List.map_toArray, List.map_cons, List.map_nil]); first | done | rfl | (simp only [List.length_drop, List.length_take]; rfl)) ?_; (with_reducible refine (flow_Flow.calls _ _ l0 a1 a2 t106 t107 false _ ?side1 ?side2 A4.out).mono ?_); (case side1 => repeat (first | exact HR0.out | (with_reducible refine Kd.C_alloc ?_ _) | (with_reducible refine Kd.C_drewN ?_ _) | (with_reducible refine Kd.C_drew ?_))); (case side2 => exact HC0.out); (try clear A4); rintro e w11 ⟨rfl, hb⟩; refine ⟨_, rfl, ?_⟩; have n0_ := Aside0.mk (below_step (by repeat (first | (with_reducible first | exact HB.out | apply below_alloc | apply pw_below_drewN | apply below_drew1) | exact HB.out)) hb); clear HB; have HB := n0_; clear n0_; (try clear hb); (try clear hb2); (try clear hk); (try clear hi)))
    go_ret
    exact ⟨by first | rfl | (simp [errW_none, errW_some] <;> rfl) | (simp [*, errW_none, errW_some] <;> rfl), by repeat (first | (with_reducible first | exact HB.out | apply below_alloc | apply pw_below_drewN | apply below_drew1) | exact HB.out)⟩

end Go.Proofs.Ytkhlfdoeploddaa.PFlow
