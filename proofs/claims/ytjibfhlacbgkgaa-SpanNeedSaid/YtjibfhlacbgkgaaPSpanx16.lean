-- Written by a program of the session (drive.py, over the kit's print.py with contracts by hand). Not trusted: Lean checks it.
import Derived.Test.YtjibfhlacbgkgaaPSpanx0
import Derived.Test.YtjibfhlacbgkgaaHSpanMarkMay
import Derived.Test.YtjibfhlacbgkgaaHSpanMatchM
import Derived.Test.YtjibfhlacbgkgaaHSpanNeed
import Derived.Test.YtjibfhlacbgkgaaHSpanSpanA
namespace Go.Proofs.Ytjibfhlacbgkgaa.PSpan
open Go.RowKit Go.Proofs.YtjibfhlacbgkgaaW.PrintWords Go.Proofs.YtjibfhlacbgkgaaW.PrintLast Go.Proofs.YtjibfhlacbgkgaaW.PrintMore
attribute [local go_sem] max2_int min2_int max_two min_two max_three min_three max_four min_four   -- for this text's walks alone
set_option linter.unusedVariables false
set_option linter.unusedSimpArgs false

/-! ### copperplatelaw17_SpanNeed: function 8 -/
mutual
def copperplatelaw17_SpanNeed.j0 : Nat → List (S23) → Int → Int → ByteArray → Bool → Bool → Option (Bool)
  | 0, _, _, _, _, _, _ => none
  | k + 1, x0, x1, x2, x3, x9, x41 => if x41 = true then (some x9) else ((span_Need.f x0 x1).bind fun t235 => ((some (([(⟨0, x3⟩ : S23)] : List (S23)) : List (S23))).bind fun y236 => (if y236.length + x0.length < 5864062014805 then ((span_Need.f (y236 ++ x0) (wrap64 (x1 + 1))).bind fun t242 => (if t242 = t235 then (if t235 ≥ 0 then (if 0 ≤ x1 then (if x1 < (x0.length : Int) then (copperplatelaw17_SpanNeed.j1 k x0 x1 x2 t235 (((rd_T23 x0 x1).f0) != 6)) else (none)) else (none)) else (copperplatelaw17_SpanNeed.j1 k x0 x1 x2 t235 false)) else (copperplatelaw17_SpanNeed.j1 k x0 x1 x2 t235 true))) else (none))))
def copperplatelaw17_SpanNeed.j1 : Nat → List (S23) → Int → Int → Int → Bool → Option (Bool)
  | 0, _, _, _, _, _ => none
  | k + 1, x0, x1, x2, x10, x68 => if x68 = true then (some false) else ((span_Match.f x0 x1).bind fun t244 => (if x10 < 0 then (some true) else (if x2 ≤ x1 then (some true) else (if x2 ≥ t244 then (some true) else (if t244 ≥ (x0.length : Int) then (some true) else (if 0 ≤ x2 then (if x2 < (x0.length : Int) then (if ((rd_T23 x0 x2).f0) = 6 then (if 0 ≤ (wrap64 (t244 + 1)) then (if (wrap64 (t244 + 1)) ≤ (x0.length : Int) then ((span_Need.f (x0.take ((wrap64 (t244 + 1)) : Int).toNat) x2).bind fun t250 => (if t250 ≥ 0 then (some (decide (t250 ≤ x10))) else (some false))) else (none)) else (none)) else (some true)) else (none)) else (none)))))))
end
def copperplatelaw17_SpanNeed.f (k : Nat) (l0 : List (S23)) (a1 : Int) (a2 : Int) (a3 : ByteArray) : Option (Bool) := (copperplatelaw17_awake.f).bind fun t233 => (if t233 = true then (if (l0.length : Int) > 300 then (copperplatelaw17_SpanNeed.j0 k l0 a1 a2 a3 t233 true) else ((mark_May.f l0).bind fun t234 => (if t234 = true then (if a1 < 0 then (copperplatelaw17_SpanNeed.j0 k l0 a1 a2 a3 t233 true) else (if a1 ≥ (l0.length : Int) then (copperplatelaw17_SpanNeed.j0 k l0 a1 a2 a3 t233 true) else (copperplatelaw17_SpanNeed.j0 k l0 a1 a2 a3 t233 (decide ((a3.size : Int) > 300))))) else (copperplatelaw17_SpanNeed.j0 k l0 a1 a2 a3 t233 true)))) else (copperplatelaw17_SpanNeed.j0 k l0 a1 a2 a3 t233 true))
theorem copperplatelaw17_SpanNeed.mono_l : ∀ k, (∀ y0 y1 y2 y3 y4 y5, LeO (copperplatelaw17_SpanNeed.j0 k y0 y1 y2 y3 y4 y5) (copperplatelaw17_SpanNeed.j0 (k + 1) y0 y1 y2 y3 y4 y5)) ∧ (∀ y0 y1 y2 y3 y4, LeO (copperplatelaw17_SpanNeed.j1 k y0 y1 y2 y3 y4) (copperplatelaw17_SpanNeed.j1 (k + 1) y0 y1 y2 y3 y4))
  | 0 => ⟨fun _ _ _ _ _ _ r h => by simp [copperplatelaw17_SpanNeed.j0] at h, fun _ _ _ _ _ r h => by simp [copperplatelaw17_SpanNeed.j1] at h⟩
  | k + 1 => by
    obtain ⟨ih0, ih1⟩ := copperplatelaw17_SpanNeed.mono_l k
    refine ⟨?_, ?_⟩
    · intro y0 y1 y2 y3 y4 y5
      unfold copperplatelaw17_SpanNeed.j0
      repeat' first
      | (with_reducible exact ih0 _ _ _ _ _ _)
      | (with_reducible exact ih1 _ _ _ _ _)
      | (with_reducible exact LeO.refl _)
      | (with_reducible exact LeO.none _)
      | (with_reducible refine LeO.ite ?_ ?_)
      | (with_reducible refine LeO.bind ?_ (fun _ => ?_))
      | exact ih0 _ _ _ _ _ _
      | exact ih1 _ _ _ _ _
      | exact LeO.none _
      | refine LeO.ite ?_ ?_
      | refine LeO.bind ?_ (fun _ => ?_)
    · intro y0 y1 y2 y3 y4
      unfold copperplatelaw17_SpanNeed.j1
      repeat' first
      | (with_reducible exact ih0 _ _ _ _ _ _)
      | (with_reducible exact ih1 _ _ _ _ _)
      | (with_reducible exact LeO.refl _)
      | (with_reducible exact LeO.none _)
      | (with_reducible refine LeO.ite ?_ ?_)
      | (with_reducible refine LeO.bind ?_ (fun _ => ?_))
      | exact ih0 _ _ _ _ _ _
      | exact ih1 _ _ _ _ _
      | exact LeO.none _
      | refine LeO.ite ?_ ?_
      | refine LeO.bind ?_ (fun _ => ?_)
theorem copperplatelaw17_SpanNeed.mono : ∀ a0 a1 a2 a3 k, LeO (copperplatelaw17_SpanNeed.f k a0 a1 a2 a3) (copperplatelaw17_SpanNeed.f (k + 1) a0 a1 a2 a3) := by
  intro a0 a1 a2 a3 k
  obtain ⟨ih0, ih1⟩ := copperplatelaw17_SpanNeed.mono_l k
  unfold copperplatelaw17_SpanNeed.f
  repeat' first
      | (with_reducible exact ih0 _ _ _ _ _ _)
      | (with_reducible exact ih1 _ _ _ _ _)
      | (with_reducible exact LeO.refl _)
      | (with_reducible exact LeO.none _)
      | (with_reducible refine LeO.ite ?_ ?_)
      | (with_reducible refine LeO.bind ?_ (fun _ => ?_))
      | exact ih0 _ _ _ _ _ _
      | exact ih1 _ _ _ _ _
      | exact LeO.none _
      | refine LeO.ite ?_ ?_
      | refine LeO.bind ?_ (fun _ => ?_)
set_option maxHeartbeats 8000000 in
set_option maxRecDepth 100000 in
theorem copperplatelaw17_SpanNeed.calls (k : Nat) (A0 : Option Addr) (c0 : Nat) (l0 : List (S23)) (a1 : Int) (a2 : Int) (a3 : ByteArray) (r : Bool) (w : World) (hr0 : Kd.C k23 w A0 l0.length l0) (hc0 : l0.length ≤ c0) (h : copperplatelaw17_SpanNeed.f k l0 a1 a2 a3 = some r) (hT_ : r = true) :
    Calls Try.prog 8 #[.slice A0 l0.length c0, .int .i64 a1, .int .i64 a2, .string a3] w fun e w' => e = .returned (.bool r) ∧ Below w.heap.size w w' := by
  have hu23 := Try.underlying23
  have HT_ := Aside0.mk hT_
  clear hT_
  have HR0 := Aside0.mk hr0
  have HC0 := Aside0.mk hc0
  clear hr0 hc0
  have HB := Aside0.mk (Below.refl w.heap.size w)
  have H : ((copperplatelaw17_awake.f).bind fun t233 => (if t233 = true then (if (l0.length : Int) > 300 then (copperplatelaw17_SpanNeed.j0 k l0 a1 a2 a3 t233 true) else ((mark_May.f l0).bind fun t234 => (if t234 = true then (if a1 < 0 then (copperplatelaw17_SpanNeed.j0 k l0 a1 a2 a3 t233 true) else (if a1 ≥ (l0.length : Int) then (copperplatelaw17_SpanNeed.j0 k l0 a1 a2 a3 t233 true) else (copperplatelaw17_SpanNeed.j0 k l0 a1 a2 a3 t233 (decide ((a3.size : Int) > 300))))) else (copperplatelaw17_SpanNeed.j0 k l0 a1 a2 a3 t233 true)))) else (copperplatelaw17_SpanNeed.j0 k l0 a1 a2 a3 t233 true))) = some r := h
  clear h
  replace H := Option.bind_eq_some_iff.mp H
  obtain ⟨t233, A50, H⟩ := H
  replace H : (if t233 = true then (if (l0.length : Int) > 300 then (copperplatelaw17_SpanNeed.j0 k l0 a1 a2 a3 t233 true) else ((mark_May.f l0).bind fun t234 => (if t234 = true then (if a1 < 0 then (copperplatelaw17_SpanNeed.j0 k l0 a1 a2 a3 t233 true) else (if a1 ≥ (l0.length : Int) then (copperplatelaw17_SpanNeed.j0 k l0 a1 a2 a3 t233 true) else (copperplatelaw17_SpanNeed.j0 k l0 a1 a2 a3 t233 (decide ((a3.size : Int) > 300))))) else (copperplatelaw17_SpanNeed.j0 k l0 a1 a2 a3 t233 true)))) else (copperplatelaw17_SpanNeed.j0 k l0 a1 a2 a3 t233 true)) = some r := H
  have A5 := Aside0.mk A50
  clear A50
  have HC6 := Aside0.mk H
  clear H
  go_enter Try.func8, Try.ntmps8
  go_upto_region 2 with (first | ((with_reducible refine gate_callee (f := 10) rfl ?_); refine goesL_ (some 14) rfl rfl Try.func10 (by kernel_rfl) rfl #[] rfl (by (try simp only [List.map_toArray, List.map_cons, List.map_nil]); first | done | rfl | (simp only [List.length_drop, List.length_take]; rfl)) ?_; (with_reducible refine (copperplatelaw17_awake.calls  t233 _ A5.out).mono ?_); (try clear A5); rintro e w7 ⟨rfl, hb⟩; refine ⟨_, rfl, ?_⟩; have n0_ := Aside0.mk (below_step (by repeat (first | (with_reducible first | exact HB.out | apply below_alloc | apply pw_below_drewN | apply below_drew1) | exact HB.out)) hb); clear HB; have HB := n0_; clear n0_; (try clear hb); (try clear hb2); (try clear hk); (try clear hi)))
  (try simp only [Act.put, List.setIfInBounds_toArray, List.set_cons_zero, List.set_cons_succ])
  go_cut [41] (fun v41 wc => ∃ (kq : Nat) (x41_5 : Bool), v41 = .bool x41_5 ∧ Aside0 (copperplatelaw17_SpanNeed.j0 kq l0 a1 a2 a3 t233 x41_5 = some r) ∧ Aside0 (kq ≤ k) ∧ Aside0 (Below w.heap.size w wc))
  case first =>
    have H := HC6.out
    clear HC6
    by_cases c8 : t233 = true
    · subst c8
      have H1 : (if (l0.length : Int) > 300 then (copperplatelaw17_SpanNeed.j0 k l0 a1 a2 a3 true true) else ((mark_May.f l0).bind fun t234 => (if t234 = true then (if a1 < 0 then (copperplatelaw17_SpanNeed.j0 k l0 a1 a2 a3 true true) else (if a1 ≥ (l0.length : Int) then (copperplatelaw17_SpanNeed.j0 k l0 a1 a2 a3 true true) else (copperplatelaw17_SpanNeed.j0 k l0 a1 a2 a3 true (decide ((a3.size : Int) > 300))))) else (copperplatelaw17_SpanNeed.j0 k l0 a1 a2 a3 true true)))) = some r := by rw [if_pos rfl] at H; exact H
      clear H
      have H := H1
      clear H1
      by_cases c9 : (l0.length : Int) > 300
      · rw [if_pos c9] at H
        have c9b0 : decide (300 < (l0.length : Int)) = true := decide_eq_true c9
        have c9b1 : decide (300 < l0.length) = true := decide_eq_true (by omega)
        clear c9
        (first | rw [c9b0] | (simp only [i64_w, i32_w]; rw [c9b0]) | skip)
        have H' := Aside0.mk H
        clear H
        go_wp2
        go_meet
        case rel => exact ⟨_, (true), (by first | rfl | (simp; done) | (simp [*]; done)), H', ⟨by first | omega | exact Nat.le_refl _⟩, ⟨by repeat (first | (with_reducible first | exact HB.out | apply below_alloc | apply pw_below_drewN | apply below_drew1) | exact HB.out)⟩⟩
      · rw [if_neg c9] at H
        have c9b0 : decide (300 < (l0.length : Int)) = false := decide_eq_false c9
        have c9b1 : decide (300 < l0.length) = false := decide_eq_false (by omega)
        clear c9
        (first | rw [c9b0] | (simp only [i64_w, i32_w]; rw [c9b0]) | skip)
        replace H := Option.bind_eq_some_iff.mp H
        obtain ⟨t234, A100, H⟩ := H
        replace H : (if t234 = true then (if a1 < 0 then (copperplatelaw17_SpanNeed.j0 k l0 a1 a2 a3 true true) else (if a1 ≥ (l0.length : Int) then (copperplatelaw17_SpanNeed.j0 k l0 a1 a2 a3 true true) else (copperplatelaw17_SpanNeed.j0 k l0 a1 a2 a3 true (decide ((a3.size : Int) > 300))))) else (copperplatelaw17_SpanNeed.j0 k l0 a1 a2 a3 true true)) = some r := H
        have A10 := Aside0.mk A100
        clear A100
        by_cases c11 : t234 = true
        · subst c11
          have H1 : (if a1 < 0 then (copperplatelaw17_SpanNeed.j0 k l0 a1 a2 a3 true true) else (if a1 ≥ (l0.length : Int) then (copperplatelaw17_SpanNeed.j0 k l0 a1 a2 a3 true true) else (copperplatelaw17_SpanNeed.j0 k l0 a1 a2 a3 true (decide ((a3.size : Int) > 300))))) = some r := by rw [if_pos rfl] at H; exact H
          clear H
          have H := H1
          clear H1
          by_cases c12 : a1 < 0
          · rw [if_pos c12] at H
            have c12b0 : decide (a1 < 0) = true := decide_eq_true c12
            clear c12
            have H' := Aside0.mk H
            clear H
            go_wp2_with (first | (go_at_call 21; (with_reducible refine (mark_May.calls _ _ l0 true _ ?side1 ?side2 A10.out).mono ?_); (case side1 => repeat (first | exact (Kd.C_below HR0.out HB.out) | (with_reducible refine Kd.C_alloc ?_ _) | (with_reducible refine Kd.C_drewN ?_ _) | (with_reducible refine Kd.C_drew ?_))); (case side2 => exact HC0.out); (try clear A10); rintro e w13 ⟨rfl, hb⟩; have n0_ := Aside0.mk (below_step (by repeat (first | (with_reducible first | exact HB.out | apply below_alloc | apply pw_below_drewN | apply below_drew1) | exact HB.out)) hb); clear HB; have HB := n0_; clear n0_; (try clear hb); (try clear hb2); (try clear hk); (try clear hi)))
            go_meet
            case rel => exact ⟨_, (true), (by first | rfl | (simp; done) | (simp [*]; done)), H', ⟨by first | omega | exact Nat.le_refl _⟩, ⟨by repeat (first | (with_reducible first | exact HB.out | apply below_alloc | apply pw_below_drewN | apply below_drew1) | exact HB.out)⟩⟩
          · rw [if_neg c12] at H
            have c12b0 : decide (a1 < 0) = false := decide_eq_false c12
            clear c12
            by_cases c14 : a1 ≥ (l0.length : Int)
            · rw [if_pos c14] at H
              have c14b0 : decide ((l0.length : Int) ≤ a1) = true := decide_eq_true c14
              clear c14
              have H' := Aside0.mk H
              clear H
              go_wp2_with (first | (go_at_call 21; (with_reducible refine (mark_May.calls _ _ l0 true _ ?side1 ?side2 A10.out).mono ?_); (case side1 => repeat (first | exact (Kd.C_below HR0.out HB.out) | (with_reducible refine Kd.C_alloc ?_ _) | (with_reducible refine Kd.C_drewN ?_ _) | (with_reducible refine Kd.C_drew ?_))); (case side2 => exact HC0.out); (try clear A10); rintro e w15 ⟨rfl, hb⟩; have n0_ := Aside0.mk (below_step (by repeat (first | (with_reducible first | exact HB.out | apply below_alloc | apply pw_below_drewN | apply below_drew1) | exact HB.out)) hb); clear HB; have HB := n0_; clear n0_; (try clear hb); (try clear hb2); (try clear hk); (try clear hi)))
              go_meet
              case rel => exact ⟨_, (true), (by first | rfl | (simp; done) | (simp [*]; done)), H', ⟨by first | omega | exact Nat.le_refl _⟩, ⟨by repeat (first | (with_reducible first | exact HB.out | apply below_alloc | apply pw_below_drewN | apply below_drew1) | exact HB.out)⟩⟩
            · rw [if_neg c14] at H
              have c14b0 : decide ((l0.length : Int) ≤ a1) = false := decide_eq_false c14
              clear c14
              have H' := Aside0.mk H
              clear H
              go_wp2_with (first | (go_at_call 21; (with_reducible refine (mark_May.calls _ _ l0 true _ ?side1 ?side2 A10.out).mono ?_); (case side1 => repeat (first | exact (Kd.C_below HR0.out HB.out) | (with_reducible refine Kd.C_alloc ?_ _) | (with_reducible refine Kd.C_drewN ?_ _) | (with_reducible refine Kd.C_drew ?_))); (case side2 => exact HC0.out); (try clear A10); rintro e w16 ⟨rfl, hb⟩; have n0_ := Aside0.mk (below_step (by repeat (first | (with_reducible first | exact HB.out | apply below_alloc | apply pw_below_drewN | apply below_drew1) | exact HB.out)) hb); clear HB; have HB := n0_; clear n0_; (try clear hb); (try clear hb2); (try clear hk); (try clear hi)))
              go_meet
              case rel => exact ⟨_, (decide ((a3.size : Int) > 300)), (by first | rfl | (simp; done) | (simp [*]; done)), H', ⟨by first | omega | exact Nat.le_refl _⟩, ⟨by repeat (first | (with_reducible first | exact HB.out | apply below_alloc | apply pw_below_drewN | apply below_drew1) | exact HB.out)⟩⟩
        · replace c11 := Bool.eq_false_iff.mpr c11
          subst c11
          have H1 : (copperplatelaw17_SpanNeed.j0 k l0 a1 a2 a3 true true) = some r := by rw [if_neg (show ¬ (false = true) by decide)] at H; exact H
          clear H
          have H := H1
          clear H1
          have H' := Aside0.mk H
          clear H
          go_wp2_with (first | (go_at_call 21; (with_reducible refine (mark_May.calls _ _ l0 false _ ?side1 ?side2 A10.out).mono ?_); (case side1 => repeat (first | exact (Kd.C_below HR0.out HB.out) | (with_reducible refine Kd.C_alloc ?_ _) | (with_reducible refine Kd.C_drewN ?_ _) | (with_reducible refine Kd.C_drew ?_))); (case side2 => exact HC0.out); (try clear A10); rintro e w17 ⟨rfl, hb⟩; have n0_ := Aside0.mk (below_step (by repeat (first | (with_reducible first | exact HB.out | apply below_alloc | apply pw_below_drewN | apply below_drew1) | exact HB.out)) hb); clear HB; have HB := n0_; clear n0_; (try clear hb); (try clear hb2); (try clear hk); (try clear hi)))
          go_meet
          case rel => exact ⟨_, (true), (by first | rfl | (simp; done) | (simp [*]; done)), H', ⟨by first | omega | exact Nat.le_refl _⟩, ⟨by repeat (first | (with_reducible first | exact HB.out | apply below_alloc | apply pw_below_drewN | apply below_drew1) | exact HB.out)⟩⟩
    · replace c8 := Bool.eq_false_iff.mpr c8
      subst c8
      have H1 : (copperplatelaw17_SpanNeed.j0 k l0 a1 a2 a3 false true) = some r := by rw [if_neg (show ¬ (false = true) by decide)] at H; exact H
      clear H
      have H := H1
      clear H1
      have H' := Aside0.mk H
      clear H
      go_wp2
      go_meet
      case rel => exact ⟨_, (true), (by first | rfl | (simp; done) | (simp [*]; done)), H', ⟨by first | omega | exact Nat.le_refl _⟩, ⟨by repeat (first | (with_reducible first | exact HB.out | apply below_alloc | apply pw_below_drewN | apply below_drew1) | exact HB.out)⟩⟩
  case rest =>
    clear HC6
    try clear c1
    try clear p2
    try clear c8
    try clear c9
    try clear c9b0
    try clear c9b1
    try clear c10
    try clear c11
    try clear c12
    try clear c12b0
    try clear c14
    try clear c14b0
    obtain ⟨kq, x41_5, rfl, HA, HJ5, HB⟩ := hcut
    cases kq with
    | zero => exact absurd HA.out (by simp [copperplatelaw17_SpanNeed.j0])
    | succ kj5 =>
      have H := HA.out
      clear HA
      simp only [copperplatelaw17_SpanNeed.j0] at H
      by_cases c18 : x41_5 = true
      · subst c18
        have H1 : (some t233) = some r := by rw [if_pos rfl] at H; exact H
        clear H
        have H := H1
        clear H1
        obtain rfl := Option.some.inj H
        go_wp2
        go_ret
        exact ⟨by first | rfl | (simp [errW_none, errW_some] <;> rfl) | (simp [*, errW_none, errW_some] <;> rfl), by repeat (first | (with_reducible first | exact HB.out | apply below_alloc | apply pw_below_drewN | apply below_drew1) | exact HB.out)⟩
      · replace c18 := Bool.eq_false_iff.mpr c18
        subst c18
        have H1 : ((span_Need.f l0 a1).bind fun t235 => ((some (([(⟨0, a3⟩ : S23)] : List (S23)) : List (S23))).bind fun y236 => (if y236.length + l0.length < 5864062014805 then ((span_Need.f (y236 ++ l0) (wrap64 (a1 + 1))).bind fun t242 => (if t242 = t235 then (if t235 ≥ 0 then (if 0 ≤ a1 then (if a1 < (l0.length : Int) then (copperplatelaw17_SpanNeed.j1 kj5 l0 a1 a2 t235 (((rd_T23 l0 a1).f0) != 6)) else (none)) else (none)) else (copperplatelaw17_SpanNeed.j1 kj5 l0 a1 a2 t235 false)) else (copperplatelaw17_SpanNeed.j1 kj5 l0 a1 a2 t235 true))) else (none)))) = some r := by rw [if_neg (show ¬ (false = true) by decide)] at H; exact H
        clear H
        have H := H1
        clear H1
        replace H := Option.bind_eq_some_iff.mp H
        obtain ⟨t235, A190, H⟩ := H
        replace H : ((some (([(⟨0, a3⟩ : S23)] : List (S23)) : List (S23))).bind fun y236 => (if y236.length + l0.length < 5864062014805 then ((span_Need.f (y236 ++ l0) (wrap64 (a1 + 1))).bind fun t242 => (if t242 = t235 then (if t235 ≥ 0 then (if 0 ≤ a1 then (if a1 < (l0.length : Int) then (copperplatelaw17_SpanNeed.j1 kj5 l0 a1 a2 t235 (((rd_T23 l0 a1).f0) != 6)) else (none)) else (none)) else (copperplatelaw17_SpanNeed.j1 kj5 l0 a1 a2 t235 false)) else (copperplatelaw17_SpanNeed.j1 kj5 l0 a1 a2 t235 true))) else (none))) = some r := H
        have A19 := Aside0.mk A190
        clear A190
        obtain ⟨y236, hy236⟩ : ∃ y_ : List (S23), y_ = (([(⟨0, a3⟩ : S23)] : List (S23))) := ⟨_, rfl⟩
        replace H : (if y236.length + l0.length < 5864062014805 then ((span_Need.f (y236 ++ l0) (wrap64 (a1 + 1))).bind fun t242 => (if t242 = t235 then (if t235 ≥ 0 then (if 0 ≤ a1 then (if a1 < (l0.length : Int) then (copperplatelaw17_SpanNeed.j1 kj5 l0 a1 a2 t235 (((rd_T23 l0 a1).f0) != 6)) else (none)) else (none)) else (copperplatelaw17_SpanNeed.j1 kj5 l0 a1 a2 t235 false)) else (copperplatelaw17_SpanNeed.j1 kj5 l0 a1 a2 t235 true))) else (none)) = some r := by first | (rw [hy236]; with_reducible exact H) | (have H2_ := (Option.bind_some _ _).symm.trans H; rw [hy236]; with_reducible exact H2_) | (have H2_ := (Option.bind_some _ _).symm.trans H; with_reducible exact H2_) | with_reducible exact H | (rw [hy236]; exact H) | exact H
        have Ny236 := Aside0.mk hy236
        clear hy236
        by_cases c20 : y236.length + l0.length < 5864062014805
        · rw [if_pos c20] at H
          have LMc20 := Aside0.mk c20
          clear c20
          obtain ⟨y239, hy239⟩ : ∃ y_ : List (S23), y_ = (y236 ++ l0) := ⟨_, rfl⟩
          replace H : ((span_Need.f y239 (wrap64 (a1 + 1))).bind fun t242 => (if t242 = t235 then (if t235 ≥ 0 then (if 0 ≤ a1 then (if a1 < (l0.length : Int) then (copperplatelaw17_SpanNeed.j1 kj5 l0 a1 a2 t235 (((rd_T23 l0 a1).f0) != 6)) else (none)) else (none)) else (copperplatelaw17_SpanNeed.j1 kj5 l0 a1 a2 t235 false)) else (copperplatelaw17_SpanNeed.j1 kj5 l0 a1 a2 t235 true))) = some r := by first | (rw [hy239]; with_reducible exact H) | (have H2_ := (Option.bind_some _ _).symm.trans H; rw [hy239]; with_reducible exact H2_) | (have H2_ := (Option.bind_some _ _).symm.trans H; with_reducible exact H2_) | with_reducible exact H | (rw [hy239]; exact H) | exact H
          have Ny239 := Aside0.mk hy239
          clear hy239
          have HC21 := Aside0.mk H
          clear H
          go_upto_region 6 with (first | ((with_reducible refine gate_callee (f := 19) rfl ?_); refine goesL_ (some 45) rfl rfl Try.func19 (by kernel_rfl) rfl #[.slice A0 l0.length c0, .int .i64 a1] rfl (by (try simp only [List.map_toArray, List.map_cons, List.map_nil]); first | done | rfl | (simp only [List.length_drop, List.length_take]; rfl)) ?_; (with_reducible refine (span_Need.calls _ _ l0 a1 t235 _ ?side1 ?side2 A19.out).mono ?_); (case side1 => repeat (first | exact (Kd.C_below HR0.out HB.out) | (with_reducible refine Kd.C_alloc ?_ _) | (with_reducible refine Kd.C_drewN ?_ _) | (with_reducible refine Kd.C_drew ?_))); (case side2 => exact HC0.out); (try clear A19); rintro e w22 ⟨rfl, hb⟩; refine ⟨_, rfl, ?_⟩; have n0_ := Aside0.mk (below_step (by repeat (first | (with_reducible first | exact HB.out | apply below_alloc | apply pw_below_drewN | apply below_drew1) | exact HB.out)) hb); clear HB; have HB := n0_; clear n0_; (try clear hb); (try clear hb2); (try clear hk); (try clear hi)) | ((with_reducible refine gate_dst (N := 48) rfl ?_); (try (refine gate_guard (by rfl) ?_; dsimp only)); refine Kd.R_lit k23 _ 23 ?hg (N := 48) ?hd (xs := ([(⟨0, a3⟩ : S23)] : List (S23))) (inner := [.int .i64 0, .string a3]) (ok := fun _ => True) (okp := fun _ => True) ?hr ?hp (fun _ hk => hk) trivial (Below.refl _ _) (Nat.le_refl _) (by simp) ?_; (case hd => rfl); (case hg => rfl); (case hr => first | (go_simp; done) | (go_simp; rfl)); (case hp => exact (Reps.c2 (show Kd.M k23 _ _ _ (⟨0, a3⟩ : S23) [.int .i64 0, .string a3] from (k23_mkM _ _ _ (⟨0, a3⟩ : S23) )) (Reps.none _ _))); intro v237 w23 ho24 hb hg_ hnew_; clear hg_ hnew_; (first | rw [← Ny236.out] at ho24 | (simp only [Int.reduceToNat] at ho24; rw [← Ny236.out] at ho24)); have n0_ := Aside0.mk (Kd.R_lower ho24 (below_size (by repeat (first | (with_reducible first | exact HB.out | apply below_alloc | apply pw_below_drewN | apply below_drew1) | exact HB.out)))); have n1_ := Aside0.mk (below_step (by repeat (first | (with_reducible first | exact HB.out | apply below_alloc | apply pw_below_drewN | apply below_drew1) | exact HB.out)) hb); clear HB; have HO238 := n0_; have HB := n1_; clear n0_ n1_; clear hb ho24) | ((with_reducible refine gate_builtin (b := .append) (xs := #[.tmp 48, .tmp 49]) rfl ?_); (try (refine gate_guard (by rfl) ?_; dsimp only)); at_builtin; refine Kd.R_append_rows k23 (w0 := w) w.heap.size rfl (.tmp 48) (.tmp 49) 24 23 (.agg #[(.int .i64 0), (.string ⟨#[]⟩)]) 24 rfl Try.underlying24 info23 rfl (by decide) (by omega) v237 y236 l0 _ _ _ (fun _ => True) (fun _ => False) rfl rfl ?aO ?aR (fun _ _ h => h) (fun _ h => h.elim) ?aF ?aB ?aS ?aL ?_; (case aR => repeat (first | exact (Kd.C_below HR0.out HB.out) | (with_reducible refine Kd.C_alloc ?_ _) | (with_reducible refine Kd.C_drewN ?_ _) | (with_reducible refine Kd.C_drew ?_))); (case aB => exact (by repeat (first | (with_reducible first | exact HB.out | apply below_alloc | apply pw_below_drewN | apply below_drew1) | exact HB.out))); (case aF => exact (fun _ _ => trivial)); (case aO => exact (by (with_reducible repeat (first | apply Kd.R_alloc | apply Kd.R_drewN | apply Kd.R_drew)); exact HO238.out)); (case aS => exact (below_size (by repeat (first | (with_reducible first | exact HB.out | apply below_alloc | apply pw_below_drewN | apply below_drew1) | exact HB.out)))); (case aL => have := LMc20.out; omega); intro v240 w25 ho hb hg hat; rw [← Ny239.out] at ho; have n0_ := Aside0.mk (hb); have n1_ := Aside0.mk (ho); clear HB; clear HO238; have HB := n0_; have HO241 := n1_; clear n0_ n1_; clear ho hb hg hat))
          (try simp only [Act.put, List.setIfInBounds_toArray, List.set_cons_zero, List.set_cons_succ])
          go_cut [68] (fun v68 wc => ∃ (kq : Nat) (x68_20 : Bool), v68 = .bool x68_20 ∧ Aside0 (copperplatelaw17_SpanNeed.j1 kq l0 a1 a2 t235 x68_20 = some r) ∧ Aside0 (kq ≤ kj5) ∧ Aside0 (Below w.heap.size w wc))
          case first =>
            have H := HC21.out
            clear HC21
            replace H := Option.bind_eq_some_iff.mp H
            obtain ⟨t242, A260, H⟩ := H
            replace H : (if t242 = t235 then (if t235 ≥ 0 then (if 0 ≤ a1 then (if a1 < (l0.length : Int) then (copperplatelaw17_SpanNeed.j1 kj5 l0 a1 a2 t235 (((rd_T23 l0 a1).f0) != 6)) else (none)) else (none)) else (copperplatelaw17_SpanNeed.j1 kj5 l0 a1 a2 t235 false)) else (copperplatelaw17_SpanNeed.j1 kj5 l0 a1 a2 t235 true)) = some r := H
            have A26 := Aside0.mk A260
            clear A260
            by_cases c27 : t242 = t235
            · rw [if_pos c27] at H
              have c27b0 : (t242 == t235) = true := beq_iff_eq.mpr c27
              have c27b1 : (t242 != t235) = false := bne_eq_false_iff_eq.mpr c27
              clear c27
              (first | rw [c27b0] | (simp only [i64_w, i32_w]; rw [c27b0]) | skip)
              by_cases c28 : t235 ≥ 0
              · rw [if_pos c28] at H
                have c28b0 : decide (0 ≤ t235) = true := decide_eq_true c28
                clear c28
                by_cases c29 : 0 ≤ a1
                · rw [if_pos c29] at H
                  have c29b0 : decide (0 ≤ a1) = true := decide_eq_true c29
                  clear c29
                  by_cases c30 : a1 < (l0.length : Int)
                  · rw [if_pos c30] at H
                    have c30b0 : decide (a1 < (l0.length : Int)) = true := decide_eq_true c30
                    clear c30
                    have H' := Aside0.mk H
                    clear H
                    obtain ⟨Ao31, co31, eo31⟩ := Kd.R_slice HO241.out
                    subst eo31
                    go_wp2_with (first | ((with_reducible refine gate_callee (f := 19) rfl ?_); refine goesL_ (some 54) rfl rfl Try.func19 (by kernel_rfl) rfl #[.slice Ao31 y239.length co31, .int .i64 (wrap64 (a1 + 1))] rfl (by (try simp only [List.map_toArray, List.map_cons, List.map_nil]); first | done | rfl | (simp only [List.length_drop, List.length_take]; rfl)) ?_; (with_reducible refine (span_Need.calls _ _ y239 (wrap64 (a1 + 1)) t242 _ ?side1 ?side2 A26.out).mono ?_); (case side1 => repeat (first | exact (Kd.R_reads' HO241.out).2.2 | (with_reducible refine Kd.C_alloc ?_ _) | (with_reducible refine Kd.C_drewN ?_ _) | (with_reducible refine Kd.C_drew ?_))); (case side2 => exact (Kd.R_reads' HO241.out).2.1); (try clear A26); rintro e w32 ⟨rfl, hb⟩; refine ⟨_, rfl, ?_⟩; have n0_ := Aside0.mk (Kd.R_below (by (with_reducible repeat (first | apply Kd.R_alloc | apply Kd.R_drewN | apply Kd.R_drew)); exact HO241.out) hb); have n1_ := Aside0.mk (below_step (by repeat (first | (with_reducible first | exact HB.out | apply below_alloc | apply pw_below_drewN | apply below_drew1) | exact HB.out)) hb); clear HO241; clear HB; have HO241 := n0_; have HB := n1_; clear n0_ n1_; (try clear hb); (try clear hb2); (try clear hk); (try clear hi); have p243 : 0 ≤ (a1 : Int) := of_decide_eq_true (by first | (with_reducible assumption) | assumption); have q243 : a1 < (l0.length : Int) := of_decide_eq_true (by first | (with_reducible assumption) | assumption); obtain ⟨ad243, e243, hx243_0, hx243_1⟩ := at_T23 HR0.out a1 p243 q243; cases e243; replace hx243_0 := (HB.out.cell (World.block_lt_of_cell? w _ hx243_0)).trans hx243_0; replace hx243_1 := (HB.out.cell (World.block_lt_of_cell? w _ hx243_1)).trans hx243_1; replace p243 := eq_true p243; replace q243 := eq_true q243))
                    go_meet
                    case rel => exact ⟨_, ((((rd_T23 l0 a1).f0) != 6)), (by first | rfl | (simp; done) | (simp [*]; done)), H', ⟨by have := HJ5.out; first | omega | exact Nat.le_refl _⟩, ⟨by repeat (first | (with_reducible first | exact HB.out | apply below_alloc | apply pw_below_drewN | apply below_drew1) | exact HB.out)⟩⟩
                  · rw [if_neg c30] at H
                    exact absurd H (by simp)
                · rw [if_neg c29] at H
                  exact absurd H (by simp)
              · rw [if_neg c28] at H
                have c28b0 : decide (0 ≤ t235) = false := decide_eq_false c28
                clear c28
                have H' := Aside0.mk H
                clear H
                obtain ⟨Ao33, co33, eo33⟩ := Kd.R_slice HO241.out
                subst eo33
                go_wp2_with (first | ((with_reducible refine gate_callee (f := 19) rfl ?_); refine goesL_ (some 54) rfl rfl Try.func19 (by kernel_rfl) rfl #[.slice Ao33 y239.length co33, .int .i64 (wrap64 (a1 + 1))] rfl (by (try simp only [List.map_toArray, List.map_cons, List.map_nil]); first | done | rfl | (simp only [List.length_drop, List.length_take]; rfl)) ?_; (with_reducible refine (span_Need.calls _ _ y239 (wrap64 (a1 + 1)) t242 _ ?side1 ?side2 A26.out).mono ?_); (case side1 => repeat (first | exact (Kd.R_reads' HO241.out).2.2 | (with_reducible refine Kd.C_alloc ?_ _) | (with_reducible refine Kd.C_drewN ?_ _) | (with_reducible refine Kd.C_drew ?_))); (case side2 => exact (Kd.R_reads' HO241.out).2.1); (try clear A26); rintro e w34 ⟨rfl, hb⟩; refine ⟨_, rfl, ?_⟩; have n0_ := Aside0.mk (Kd.R_below (by (with_reducible repeat (first | apply Kd.R_alloc | apply Kd.R_drewN | apply Kd.R_drew)); exact HO241.out) hb); have n1_ := Aside0.mk (below_step (by repeat (first | (with_reducible first | exact HB.out | apply below_alloc | apply pw_below_drewN | apply below_drew1) | exact HB.out)) hb); clear HO241; clear HB; have HO241 := n0_; have HB := n1_; clear n0_ n1_; (try clear hb); (try clear hb2); (try clear hk); (try clear hi)))
                go_meet
                case rel => exact ⟨_, (false), (by first | rfl | (simp; done) | (simp [*]; done)), H', ⟨by have := HJ5.out; first | omega | exact Nat.le_refl _⟩, ⟨by repeat (first | (with_reducible first | exact HB.out | apply below_alloc | apply pw_below_drewN | apply below_drew1) | exact HB.out)⟩⟩
            · rw [if_neg c27] at H
              have c27b0 : (t242 == t235) = false := beq_eq_false_iff_ne.mpr c27
              have c27b1 : (t242 != t235) = true := bne_iff_ne.mpr c27
              (first | rw [c27b0] | (simp only [i64_w, i32_w]; rw [c27b0]) | skip)
              have H' := Aside0.mk H
              clear H
              obtain ⟨Ao35, co35, eo35⟩ := Kd.R_slice HO241.out
              subst eo35
              go_wp2_with (first | ((with_reducible refine gate_callee (f := 19) rfl ?_); refine goesL_ (some 54) rfl rfl Try.func19 (by kernel_rfl) rfl #[.slice Ao35 y239.length co35, .int .i64 (wrap64 (a1 + 1))] rfl (by (try simp only [List.map_toArray, List.map_cons, List.map_nil]); first | done | rfl | (simp only [List.length_drop, List.length_take]; rfl)) ?_; (with_reducible refine (span_Need.calls _ _ y239 (wrap64 (a1 + 1)) t242 _ ?side1 ?side2 A26.out).mono ?_); (case side1 => repeat (first | exact (Kd.R_reads' HO241.out).2.2 | (with_reducible refine Kd.C_alloc ?_ _) | (with_reducible refine Kd.C_drewN ?_ _) | (with_reducible refine Kd.C_drew ?_))); (case side2 => exact (Kd.R_reads' HO241.out).2.1); (try clear A26); rintro e w36 ⟨rfl, hb⟩; refine ⟨_, rfl, ?_⟩; have n0_ := Aside0.mk (Kd.R_below (by (with_reducible repeat (first | apply Kd.R_alloc | apply Kd.R_drewN | apply Kd.R_drew)); exact HO241.out) hb); have n1_ := Aside0.mk (below_step (by repeat (first | (with_reducible first | exact HB.out | apply below_alloc | apply pw_below_drewN | apply below_drew1) | exact HB.out)) hb); clear HO241; clear HB; have HO241 := n0_; have HB := n1_; clear n0_ n1_; (try clear hb); (try clear hb2); (try clear hk); (try clear hi)))
              go_meet
              case rel => exact ⟨_, (true), (by first | rfl | (simp; done) | (simp [*]; done)), H', ⟨by have := HJ5.out; first | omega | exact Nat.le_refl _⟩, ⟨by repeat (first | (with_reducible first | exact HB.out | apply below_alloc | apply pw_below_drewN | apply below_drew1) | exact HB.out)⟩⟩
          case rest =>
            clear HC21
            try clear c1
            try clear c2
            try clear p2
            try clear q2
            try clear hx2
            try clear c3
            try clear p6
            try clear c8
            try clear c9
            try clear c9b0
            try clear c9b1
            try clear c10
            try clear c11
            try clear c12
            try clear c12b0
            try clear c14
            try clear c14b0
            try clear c18
            try clear c19
            try clear c20
            try clear p24
            try clear q24
            try clear hx24
            try clear c27
            try clear c27b0
            try clear c27b1
            try clear c28
            try clear c28b0
            try clear c29
            try clear c29b0
            try clear c30
            try clear c30b0
            try clear hx243_0
            try clear hx243_1
            try clear p2
            try clear p243
            try clear q243
            obtain ⟨kq, x68_20, rfl, HA, HJ20, HB⟩ := hcut
            cases kq with
            | zero => exact absurd HA.out (by simp [copperplatelaw17_SpanNeed.j1])
            | succ kj20 =>
              have H := HA.out
              clear HA
              simp only [copperplatelaw17_SpanNeed.j1] at H
              by_cases c37 : x68_20 = true
              · subst c37
                have H1 : (some false) = some r := by rw [if_pos rfl] at H; exact H
                clear H
                have H := H1
                clear H1
                exact absurd H (by have h_ := HT_.out; subst h_; decide)
              · replace c37 := Bool.eq_false_iff.mpr c37
                subst c37
                have H1 : ((span_Match.f l0 a1).bind fun t244 => (if t235 < 0 then (some true) else (if a2 ≤ a1 then (some true) else (if a2 ≥ t244 then (some true) else (if t244 ≥ (l0.length : Int) then (some true) else (if 0 ≤ a2 then (if a2 < (l0.length : Int) then (if ((rd_T23 l0 a2).f0) = 6 then (if 0 ≤ (wrap64 (t244 + 1)) then (if (wrap64 (t244 + 1)) ≤ (l0.length : Int) then ((span_Need.f (l0.take ((wrap64 (t244 + 1)) : Int).toNat) a2).bind fun t250 => (if t250 ≥ 0 then (some (decide (t250 ≤ t235))) else (some false))) else (none)) else (none)) else (some true)) else (none)) else (none))))))) = some r := by rw [if_neg (show ¬ (false = true) by decide)] at H; exact H
                clear H
                have H := H1
                clear H1
                replace H := Option.bind_eq_some_iff.mp H
                obtain ⟨t244, A380, H⟩ := H
                replace H : (if t235 < 0 then (some true) else (if a2 ≤ a1 then (some true) else (if a2 ≥ t244 then (some true) else (if t244 ≥ (l0.length : Int) then (some true) else (if 0 ≤ a2 then (if a2 < (l0.length : Int) then (if ((rd_T23 l0 a2).f0) = 6 then (if 0 ≤ (wrap64 (t244 + 1)) then (if (wrap64 (t244 + 1)) ≤ (l0.length : Int) then ((span_Need.f (l0.take ((wrap64 (t244 + 1)) : Int).toNat) a2).bind fun t250 => (if t250 ≥ 0 then (some (decide (t250 ≤ t235))) else (some false))) else (none)) else (none)) else (some true)) else (none)) else (none)))))) = some r := H
                have A38 := Aside0.mk A380
                clear A380
                by_cases c39 : t235 < 0
                · rw [if_pos c39] at H
                  have c39b0 : decide (t235 < 0) = true := decide_eq_true c39
                  clear c39
                  obtain rfl := Option.some.inj H
                  go_wp2_with (first | ((with_reducible refine gate_callee (f := 17) rfl ?_); refine goesL_ (some 71) rfl rfl Try.func17 (by kernel_rfl) rfl #[.slice A0 l0.length c0, .int .i64 a1] rfl (by (try simp only [List.map_toArray, List.map_cons, List.map_nil]); first | done | rfl | (simp only [List.length_drop, List.length_take]; rfl)) ?_; (with_reducible refine (span_Match.calls _ _ l0 a1 t244 _ ?side1 ?side2 A38.out).mono ?_); (case side1 => repeat (first | exact (Kd.C_below HR0.out HB.out) | (with_reducible refine Kd.C_alloc ?_ _) | (with_reducible refine Kd.C_drewN ?_ _) | (with_reducible refine Kd.C_drew ?_))); (case side2 => exact HC0.out); (try clear A38); rintro e w40 ⟨rfl, hb⟩; refine ⟨_, rfl, ?_⟩; have n0_ := Aside0.mk (below_step (by repeat (first | (with_reducible first | exact HB.out | apply below_alloc | apply pw_below_drewN | apply below_drew1) | exact HB.out)) hb); clear HB; have HB := n0_; clear n0_; (try clear hb); (try clear hb2); (try clear hk); (try clear hi)))
                  go_ret
                  exact ⟨by first | rfl | (simp [errW_none, errW_some] <;> rfl) | (simp [*, errW_none, errW_some] <;> rfl), by repeat (first | (with_reducible first | exact HB.out | apply below_alloc | apply pw_below_drewN | apply below_drew1) | exact HB.out)⟩
                · rw [if_neg c39] at H
                  have c39b0 : decide (t235 < 0) = false := decide_eq_false c39
                  clear c39
                  by_cases c41 : a2 ≤ a1
                  · rw [if_pos c41] at H
                    have c41b0 : decide (a2 ≤ a1) = true := decide_eq_true c41
                    clear c41
                    obtain rfl := Option.some.inj H
                    go_wp2_with (first | ((with_reducible refine gate_callee (f := 17) rfl ?_); refine goesL_ (some 71) rfl rfl Try.func17 (by kernel_rfl) rfl #[.slice A0 l0.length c0, .int .i64 a1] rfl (by (try simp only [List.map_toArray, List.map_cons, List.map_nil]); first | done | rfl | (simp only [List.length_drop, List.length_take]; rfl)) ?_; (with_reducible refine (span_Match.calls _ _ l0 a1 t244 _ ?side1 ?side2 A38.out).mono ?_); (case side1 => repeat (first | exact (Kd.C_below HR0.out HB.out) | (with_reducible refine Kd.C_alloc ?_ _) | (with_reducible refine Kd.C_drewN ?_ _) | (with_reducible refine Kd.C_drew ?_))); (case side2 => exact HC0.out); (try clear A38); rintro e w42 ⟨rfl, hb⟩; refine ⟨_, rfl, ?_⟩; have n0_ := Aside0.mk (below_step (by repeat (first | (with_reducible first | exact HB.out | apply below_alloc | apply pw_below_drewN | apply below_drew1) | exact HB.out)) hb); clear HB; have HB := n0_; clear n0_; (try clear hb); (try clear hb2); (try clear hk); (try clear hi)))
                    go_ret
                    exact ⟨by first | rfl | (simp [errW_none, errW_some] <;> rfl) | (simp [*, errW_none, errW_some] <;> rfl), by repeat (first | (with_reducible first | exact HB.out | apply below_alloc | apply pw_below_drewN | apply below_drew1) | exact HB.out)⟩
                  · rw [if_neg c41] at H
                    have c41b0 : decide (a2 ≤ a1) = false := decide_eq_false c41
                    clear c41
                    by_cases c43 : a2 ≥ t244
                    · rw [if_pos c43] at H
                      have c43b0 : decide (t244 ≤ a2) = true := decide_eq_true c43
                      clear c43
                      obtain rfl := Option.some.inj H
                      go_wp2_with (first | ((with_reducible refine gate_callee (f := 17) rfl ?_); refine goesL_ (some 71) rfl rfl Try.func17 (by kernel_rfl) rfl #[.slice A0 l0.length c0, .int .i64 a1] rfl (by (try simp only [List.map_toArray, List.map_cons, List.map_nil]); first | done | rfl | (simp only [List.length_drop, List.length_take]; rfl)) ?_; (with_reducible refine (span_Match.calls _ _ l0 a1 t244 _ ?side1 ?side2 A38.out).mono ?_); (case side1 => repeat (first | exact (Kd.C_below HR0.out HB.out) | (with_reducible refine Kd.C_alloc ?_ _) | (with_reducible refine Kd.C_drewN ?_ _) | (with_reducible refine Kd.C_drew ?_))); (case side2 => exact HC0.out); (try clear A38); rintro e w44 ⟨rfl, hb⟩; refine ⟨_, rfl, ?_⟩; have n0_ := Aside0.mk (below_step (by repeat (first | (with_reducible first | exact HB.out | apply below_alloc | apply pw_below_drewN | apply below_drew1) | exact HB.out)) hb); clear HB; have HB := n0_; clear n0_; (try clear hb); (try clear hb2); (try clear hk); (try clear hi)))
                      go_ret
                      exact ⟨by first | rfl | (simp [errW_none, errW_some] <;> rfl) | (simp [*, errW_none, errW_some] <;> rfl), by repeat (first | (with_reducible first | exact HB.out | apply below_alloc | apply pw_below_drewN | apply below_drew1) | exact HB.out)⟩
                    · rw [if_neg c43] at H
                      have c43b0 : decide (t244 ≤ a2) = false := decide_eq_false c43
                      clear c43
                      by_cases c45 : t244 ≥ (l0.length : Int)
                      · rw [if_pos c45] at H
                        have c45b0 : decide ((l0.length : Int) ≤ t244) = true := decide_eq_true c45
                        clear c45
                        obtain rfl := Option.some.inj H
                        go_wp2_with (first | ((with_reducible refine gate_callee (f := 17) rfl ?_); refine goesL_ (some 71) rfl rfl Try.func17 (by kernel_rfl) rfl #[.slice A0 l0.length c0, .int .i64 a1] rfl (by (try simp only [List.map_toArray, List.map_cons, List.map_nil]); first | done | rfl | (simp only [List.length_drop, List.length_take]; rfl)) ?_; (with_reducible refine (span_Match.calls _ _ l0 a1 t244 _ ?side1 ?side2 A38.out).mono ?_); (case side1 => repeat (first | exact (Kd.C_below HR0.out HB.out) | (with_reducible refine Kd.C_alloc ?_ _) | (with_reducible refine Kd.C_drewN ?_ _) | (with_reducible refine Kd.C_drew ?_))); (case side2 => exact HC0.out); (try clear A38); rintro e w46 ⟨rfl, hb⟩; refine ⟨_, rfl, ?_⟩; have n0_ := Aside0.mk (below_step (by repeat (first | (with_reducible first | exact HB.out | apply below_alloc | apply pw_below_drewN | apply below_drew1) | exact HB.out)) hb); clear HB; have HB := n0_; clear n0_; (try clear hb); (try clear hb2); (try clear hk); (try clear hi)))
                        go_ret
                        exact ⟨by first | rfl | (simp [errW_none, errW_some] <;> rfl) | (simp [*, errW_none, errW_some] <;> rfl), by repeat (first | (with_reducible first | exact HB.out | apply below_alloc | apply pw_below_drewN | apply below_drew1) | exact HB.out)⟩
                      · rw [if_neg c45] at H
                        have c45b0 : decide ((l0.length : Int) ≤ t244) = false := decide_eq_false c45
                        clear c45
                        by_cases c47 : 0 ≤ a2
                        · rw [if_pos c47] at H
                          have c47b0 : decide (0 ≤ a2) = true := decide_eq_true c47
                          clear c47
                          by_cases c48 : a2 < (l0.length : Int)
                          · rw [if_pos c48] at H
                            have c48b0 : decide (a2 < (l0.length : Int)) = true := decide_eq_true c48
                            clear c48
                            by_cases c49 : ((rd_T23 l0 a2).f0) = 6
                            · rw [if_pos c49] at H
                              have c49b0 : (((rd_T23 l0 a2).f0) == 6) = true := beq_iff_eq.mpr c49
                              have c49b1 : (((rd_T23 l0 a2).f0) != 6) = false := bne_eq_false_iff_eq.mpr c49
                              clear c49
                              obtain ⟨ji50, hji50⟩ : ∃ j_ : Int, (wrap64 (t244 + 1)) = j_ := ⟨_, rfl⟩
                              replace H : (if 0 ≤ (ji50) then (if (ji50) ≤ (l0.length : Int) then ((span_Need.f (l0.take ((ji50) : Int).toNat) a2).bind fun t250 => (if t250 ≥ 0 then (some (decide (t250 ≤ t235))) else (some false))) else (none)) else (none)) = some r := by first | (rw [hji50] at H; exact H) | (simp only [hji50] at H ⊢; exact H)
                              (try rw [hji50] at A38)
                              have hji50w : (IntKind.i64.wrap (t244 + 1)) = ji50 := (i64_w _).trans hji50
                              by_cases c51 : 0 ≤ (ji50)
                              · rw [if_pos c51] at H
                                have c51b0 := eq_true c51
                                have c51b1 : decide (0 ≤ (ji50)) = true := decide_eq_true c51
                                clear c51
                                by_cases c52 : (ji50) ≤ (l0.length : Int)
                                · rw [if_pos c52] at H
                                  have c52b0 := eq_true c52
                                  have c52b1 : decide ((ji50) ≤ (l0.length : Int)) = true := decide_eq_true c52
                                  clear c52
                                  obtain ⟨y246, hy246⟩ : ∃ y_ : List (S23), y_ = (l0.take ((ji50) : Int).toNat) := ⟨_, rfl⟩
                                  replace H : ((span_Need.f y246 a2).bind fun t250 => (if t250 ≥ 0 then (some (decide (t250 ≤ t235))) else (some false))) = some r := by first | (rw [hy246]; with_reducible exact H) | (have H2_ := (Option.bind_some _ _).symm.trans H; rw [hy246]; with_reducible exact H2_) | (have H2_ := (Option.bind_some _ _).symm.trans H; with_reducible exact H2_) | with_reducible exact H | (rw [hy246]; exact H) | exact H
                                  have Ny246 := Aside0.mk hy246
                                  clear hy246
                                  replace H := Option.bind_eq_some_iff.mp H
                                  obtain ⟨t250, A530, H⟩ := H
                                  replace H : (if t250 ≥ 0 then (some (decide (t250 ≤ t235))) else (some false)) = some r := H
                                  have A53 := Aside0.mk A530
                                  clear A530
                                  by_cases c54 : t250 ≥ 0
                                  · rw [if_pos c54] at H
                                    have c54b0 : decide (0 ≤ t250) = true := decide_eq_true c54
                                    clear c54
                                    obtain rfl := Option.some.inj H
                                    go_wp2_with (first | ((with_reducible refine gate_callee (f := 17) rfl ?_); refine goesL_ (some 71) rfl rfl Try.func17 (by kernel_rfl) rfl #[.slice A0 l0.length c0, .int .i64 a1] rfl (by (try simp only [List.map_toArray, List.map_cons, List.map_nil]); first | done | rfl | (simp only [List.length_drop, List.length_take]; rfl)) ?_; (with_reducible refine (span_Match.calls _ _ l0 a1 t244 _ ?side1 ?side2 A38.out).mono ?_); (case side1 => repeat (first | exact (Kd.C_below HR0.out HB.out) | (with_reducible refine Kd.C_alloc ?_ _) | (with_reducible refine Kd.C_drewN ?_ _) | (with_reducible refine Kd.C_drew ?_))); (case side2 => exact HC0.out); (try clear A38); rintro e w55 ⟨rfl, hb⟩; refine ⟨_, rfl, ?_⟩; have n0_ := Aside0.mk (below_step (by repeat (first | (with_reducible first | exact HB.out | apply below_alloc | apply pw_below_drewN | apply below_drew1) | exact HB.out)) hb); clear HB; have HB := n0_; clear n0_; (try clear hb); (try clear hb2); (try clear hk); (try clear hi); have p245 : 0 ≤ (a2 : Int) := of_decide_eq_true (by first | (with_reducible assumption) | assumption); have q245 : a2 < (l0.length : Int) := of_decide_eq_true (by first | (with_reducible assumption) | assumption); obtain ⟨ad245, e245, hx245_0, hx245_1⟩ := at_T23 HR0.out a2 p245 q245; cases e245; replace hx245_0 := (HB.out.cell (World.block_lt_of_cell? w _ hx245_0)).trans hx245_0; replace hx245_1 := (HB.out.cell (World.block_lt_of_cell? w _ hx245_1)).trans hx245_1; replace p245 := eq_true p245; replace q245 := eq_true q245; have q56 : ((ji50) : Int) ≤ ((l0.length : Int) : Int) := of_decide_eq_true (by first | (with_reducible assumption) | assumption); obtain ⟨i056, hi056, _, hsz56, _⟩ := info_parts info23; have hroom56 : l0.length ≤ c0 := HC0.out; have hC56 : Kd.C k23 _ (some ad245) l0.length l0 := HR0.out; have hcut56 := cut_to (P := Try.prog) 24 23 .i64 Try.underlying24 hi056 (some ad245) l0.length c0 (ji50) (of_decide_eq_true (by first | (with_reducible assumption) | assumption)) q56 hroom56; have hr56 := Kd.C_take (m := ((ji50) : Int).toNat) hC56 (by omega); have hy56 : y246.length = ((ji50) : Int).toNat := (by rw [Ny246.out, List.length_take]; omega); rw [← Ny246.out] at hr56; rw [← hy56] at hcut56; have HR249 := Aside0.mk hr56; have HC249 := Aside0.mk (show y246.length ≤ c0 from by omega); clear hr56 hC56 hroom56 hi056 hsz56; have KY56 := Aside0.mk hy56; clear hy56; replace q56 := eq_true q56) | ((with_reducible refine gate_callee (f := 19) rfl ?_); refine goesL_ (some 103) rfl rfl Try.func19 (by kernel_rfl) rfl #[.slice (some ad245) y246.length c0, .int .i64 a2] rfl (by (try simp only [List.map_toArray, List.map_cons, List.map_nil]); first | done | rfl | (simp only [List.length_drop, List.length_take]; rfl)) ?_; (with_reducible refine (span_Need.calls _ _ y246 a2 t250 _ ?side1 ?side2 A53.out).mono ?_); (case side1 => repeat (first | exact (Kd.C_below HR249.out HB.out) | (with_reducible refine Kd.C_alloc ?_ _) | (with_reducible refine Kd.C_drewN ?_ _) | (with_reducible refine Kd.C_drew ?_))); (case side2 => exact HC249.out); (try clear A53); rintro e w57 ⟨rfl, hb⟩; refine ⟨_, rfl, ?_⟩; have n0_ := Aside0.mk (below_step (by repeat (first | (with_reducible first | exact HB.out | apply below_alloc | apply pw_below_drewN | apply below_drew1) | exact HB.out)) hb); clear HB; have HB := n0_; clear n0_; (try clear hb); (try clear hb2); (try clear hk); (try clear hi)))
                                    go_ret
                                    exact ⟨by first | rfl | (simp [errW_none, errW_some] <;> rfl) | (simp only [← hji50]; first | rfl | (simp [errW_none, errW_some] <;> rfl)) | (simp [*, errW_none, errW_some] <;> rfl), by repeat (first | (with_reducible first | exact HB.out | apply below_alloc | apply pw_below_drewN | apply below_drew1) | exact HB.out)⟩
                                  · rw [if_neg c54] at H
                                    have c54b0 : decide (0 ≤ t250) = false := decide_eq_false c54
                                    clear c54
                                    exact absurd H (by have h_ := HT_.out; subst h_; decide)
                                · rw [if_neg c52] at H
                                  exact absurd H (by simp)
                              · rw [if_neg c51] at H
                                exact absurd H (by simp)
                            · rw [if_neg c49] at H
                              have c49b0 : (((rd_T23 l0 a2).f0) == 6) = false := beq_eq_false_iff_ne.mpr c49
                              have c49b1 : (((rd_T23 l0 a2).f0) != 6) = true := bne_iff_ne.mpr c49
                              obtain rfl := Option.some.inj H
                              go_wp2_with (first | ((with_reducible refine gate_callee (f := 17) rfl ?_); refine goesL_ (some 71) rfl rfl Try.func17 (by kernel_rfl) rfl #[.slice A0 l0.length c0, .int .i64 a1] rfl (by (try simp only [List.map_toArray, List.map_cons, List.map_nil]); first | done | rfl | (simp only [List.length_drop, List.length_take]; rfl)) ?_; (with_reducible refine (span_Match.calls _ _ l0 a1 t244 _ ?side1 ?side2 A38.out).mono ?_); (case side1 => repeat (first | exact (Kd.C_below HR0.out HB.out) | (with_reducible refine Kd.C_alloc ?_ _) | (with_reducible refine Kd.C_drewN ?_ _) | (with_reducible refine Kd.C_drew ?_))); (case side2 => exact HC0.out); (try clear A38); rintro e w58 ⟨rfl, hb⟩; refine ⟨_, rfl, ?_⟩; have n0_ := Aside0.mk (below_step (by repeat (first | (with_reducible first | exact HB.out | apply below_alloc | apply pw_below_drewN | apply below_drew1) | exact HB.out)) hb); clear HB; have HB := n0_; clear n0_; (try clear hb); (try clear hb2); (try clear hk); (try clear hi); have p245 : 0 ≤ (a2 : Int) := of_decide_eq_true (by first | (with_reducible assumption) | assumption); have q245 : a2 < (l0.length : Int) := of_decide_eq_true (by first | (with_reducible assumption) | assumption); obtain ⟨ad245, e245, hx245_0, hx245_1⟩ := at_T23 HR0.out a2 p245 q245; cases e245; replace hx245_0 := (HB.out.cell (World.block_lt_of_cell? w _ hx245_0)).trans hx245_0; replace hx245_1 := (HB.out.cell (World.block_lt_of_cell? w _ hx245_1)).trans hx245_1; replace p245 := eq_true p245; replace q245 := eq_true q245))
                              go_ret
                              exact ⟨by first | rfl | (simp [errW_none, errW_some] <;> rfl) | (simp [*, errW_none, errW_some] <;> rfl), by repeat (first | (with_reducible first | exact HB.out | apply below_alloc | apply pw_below_drewN | apply below_drew1) | exact HB.out)⟩
                          · rw [if_neg c48] at H
                            exact absurd H (by simp)
                        · rw [if_neg c47] at H
                          exact absurd H (by simp)
        · rw [if_neg c20] at H
          exact absurd H (by simp)

/-- The pure statement of copperplatelaw17_SpanNeed. -/
def copperplatelaw17_SpanNeed.Pure : Prop := ∀ (l0 : List (S23)) (a1 : Int) (a2 : Int) (a3 : ByteArray), l0.length * 24 ≤ 140737488351232 → (∀ x ∈ l0, (Lit.int .i64 x.f0).wf = true ∧ x.f1.size ≤ 140737488351232) → (Lit.int .i64 a1).wf = true → (Lit.int .i64 a2).wf = true → a3.size ≤ 140737488351232 → ∃ k, copperplatelaw17_SpanNeed.f k l0 a1 a2 a3 = some true
def copperplatelaw17_SpanNeed.PureUp : Prop := ∀ (l0 : List (S23)) (a1 : Int) (a2 : Int) (a3 : ByteArray), l0.length * 24 ≤ 140737488351232 → (∀ x ∈ l0, (Lit.int .i64 x.f0).wf = true ∧ x.f1.size ≤ 140737488351232) → (Lit.int .i64 a1).wf = true → (Lit.int .i64 a2).wf = true → a3.size ≤ 140737488351232 → (l0.map fun x => x.f1.size).sum + a3.size ≤ 1048576 → ∃ k, copperplatelaw17_SpanNeed.f k l0 a1 a2 a3 = some true

end Go.Proofs.Ytjibfhlacbgkgaa.PSpan
