-- Written by a program of the session (drive.py, over the kit's print.py with contracts by hand). Not trusted: Lean checks it.
import Derived.Test.YtkhlfdoeploddaaPFlowx0
import Derived.Test.YtkhlfdoeploddaaPFlowx2
import Derived.Test.YtkhlfdoeploddaaPFlowx6
import Derived.Test.YtkhlfdoeploddaaHFlowFlowA
import Derived.Test.YtkhlfdoeploddaaHFlowFlowF
namespace Go.Proofs.Ytkhlfdoeploddaa.PFlow
open Go.RowKit Go.Proofs.YtkhlfdoeploddaaW.PrintWords Go.Proofs.YtkhlfdoeploddaaW.PrintLast Go.Proofs.YtkhlfdoeploddaaW.PrintMore
attribute [local go_sem] max2_int min2_int max_two min_two max_three min_three max_four min_four   -- for this text's walks alone
set_option linter.unusedVariables false
set_option linter.unusedSimpArgs false

/-! ### copperplatelaw19_FlowBreaks: function 7 -/
mutual
def copperplatelaw19_FlowBreaks.j0 : Nat → List (S34) → Int → Int → Bool → Bool → Option (Bool)
 | 0, _, _, _, _, _ => none
 | k + 1, x0, x1, x2, x7, x39 => if x39 = true then (some x7) else (copperplatelaw19_FlowBreaks.l0 k x0 x1 x2 0 0 (-1) 0)
def copperplatelaw19_FlowBreaks.l0 : Nat → List (S34) → Int → Int → Int → Int → Int → Int → Option (Bool)
 | 0, _, _, _, _, _, _, _ => none
 | k + 1, x0, x1, x2, x8, x9, x10, x11 => if x11 < x2 then (if 0 ≤ x11 then (if x11 < (x0.length : Int) then (if ((rd_T34 x0 x11).f0) = 6 then (copperplatelaw19_FlowBreaks.j2 k x0 x1 x2 (wrap64 (x8 + 1)) (wrap64 (x9 + 1)) (-1) x11) else (copperplatelaw19_FlowBreaks.j2 k x0 x1 x2 x8 x9 x10 x11)) else (none)) else (none)) else ((flow_Flow.f x0 x1 x2).bind fun bt268 => (if bt268.2.2 = true then (if x9 > 0 then (if x10 = (-1) then (some true) else (some (bt268.2.1 == 0))) else (if bt268.2.1 = 0 then (if x10 = (-1) then (some true) else (some (bt268.2.1 == 0))) else (some false))) else (some false)))
def copperplatelaw19_FlowBreaks.j2 : Nat → List (S34) → Int → Int → Int → Int → Int → Int → Option (Bool)
 | 0, _, _, _, _, _, _, _ => none
 | k + 1, x0, x1, x2, x8, x9, x10, x11 => if 0 ≤ x11 then (if x11 < (x0.length : Int) then (if ((rd_T34 x0 x11).f0) = 7 then ((span_Breaks.f ((rd_T34 x0 x11).f0) ((rd_T34 x0 x11).f1)).bind fun t274 => (if (wrap64 (x8 - 1)) = 0 then (if t274 = true then (copperplatelaw19_FlowBreaks.l0 k x0 x1 x2 (wrap64 (x8 - 1)) x9 x11 (wrap64 (x11 + 1))) else (copperplatelaw19_FlowBreaks.l0 k x0 x1 x2 (wrap64 (x8 - 1)) x9 (-1) (wrap64 (x11 + 1)))) else (copperplatelaw19_FlowBreaks.l0 k x0 x1 x2 (wrap64 (x8 - 1)) x9 (-1) (wrap64 (x11 + 1))))) else ((span_Breaks.f ((rd_T34 x0 x11).f0) ((rd_T34 x0 x11).f1)).bind fun t276 => (if x8 = 0 then (if t276 = true then (copperplatelaw19_FlowBreaks.l0 k x0 x1 x2 x8 x9 x11 (wrap64 (x11 + 1))) else (copperplatelaw19_FlowBreaks.l0 k x0 x1 x2 x8 x9 x10 (wrap64 (x11 + 1)))) else (copperplatelaw19_FlowBreaks.l0 k x0 x1 x2 x8 x9 x10 (wrap64 (x11 + 1)))))) else (none)) else (none)
end
def copperplatelaw19_FlowBreaks.f (k : Nat) (l0 : List (S34)) (a1 : Int) (a2 : Int) : Option (Bool) := (copperplatelaw19_awake.f).bind fun t266 => (if t266 = true then (if (l0.length : Int) > 60 then (copperplatelaw19_FlowBreaks.j0 k l0 a1 a2 t266 true) else ((wide_Room.f l0 a1).bind fun t267 => (if t267 = true then (if a2 < 0 then (copperplatelaw19_FlowBreaks.j0 k l0 a1 a2 t266 true) else (copperplatelaw19_FlowBreaks.j0 k l0 a1 a2 t266 (decide (a2 > (l0.length : Int))))) else (copperplatelaw19_FlowBreaks.j0 k l0 a1 a2 t266 true)))) else (copperplatelaw19_FlowBreaks.j0 k l0 a1 a2 t266 true))
theorem copperplatelaw19_FlowBreaks.mono_l : ∀ k, (∀ y0 y1 y2 y3 y4, LeO (copperplatelaw19_FlowBreaks.j0 k y0 y1 y2 y3 y4) (copperplatelaw19_FlowBreaks.j0 (k + 1) y0 y1 y2 y3 y4)) ∧ (∀ y0 y1 y2 y3 y4 y5 y6, LeO (copperplatelaw19_FlowBreaks.l0 k y0 y1 y2 y3 y4 y5 y6) (copperplatelaw19_FlowBreaks.l0 (k + 1) y0 y1 y2 y3 y4 y5 y6)) ∧ (∀ y0 y1 y2 y3 y4 y5 y6, LeO (copperplatelaw19_FlowBreaks.j2 k y0 y1 y2 y3 y4 y5 y6) (copperplatelaw19_FlowBreaks.j2 (k + 1) y0 y1 y2 y3 y4 y5 y6))
 | 0 => ⟨fun _ _ _ _ _ r h => by simp [copperplatelaw19_FlowBreaks.j0] at h, fun _ _ _ _ _ _ _ r h => by simp [copperplatelaw19_FlowBreaks.l0] at h, fun _ _ _ _ _ _ _ r h => by simp [copperplatelaw19_FlowBreaks.j2] at h⟩
 | k + 1 => by
  obtain ⟨ih0, ih1, ih2⟩ := copperplatelaw19_FlowBreaks.mono_l k
  refine ⟨?_, ?_, ?_⟩
  ·intro y0 y1 y2 y3 y4
   unfold copperplatelaw19_FlowBreaks.j0
   repeat' first
   | (with_reducible exact ih0 _ _ _ _ _)
   | (with_reducible exact ih1 _ _ _ _ _ _ _)
   | (with_reducible exact ih2 _ _ _ _ _ _ _)
   | (with_reducible exact LeO.refl _)
   | (with_reducible exact LeO.none _)
   | (with_reducible refine LeO.ite ?_ ?_)
   | (with_reducible refine LeO.bind ?_ (fun _ => ?_))
   | exact ih0 _ _ _ _ _
   | exact ih1 _ _ _ _ _ _ _
   | exact ih2 _ _ _ _ _ _ _
   | exact LeO.none _
   | refine LeO.ite ?_ ?_
   | refine LeO.bind ?_ (fun _ => ?_)
  ·intro y0 y1 y2 y3 y4 y5 y6
   unfold copperplatelaw19_FlowBreaks.l0
   repeat' first
   | (with_reducible exact ih0 _ _ _ _ _)
   | (with_reducible exact ih1 _ _ _ _ _ _ _)
   | (with_reducible exact ih2 _ _ _ _ _ _ _)
   | (with_reducible exact LeO.refl _)
   | (with_reducible exact LeO.none _)
   | (with_reducible refine LeO.ite ?_ ?_)
   | (with_reducible refine LeO.bind ?_ (fun _ => ?_))
   | exact ih0 _ _ _ _ _
   | exact ih1 _ _ _ _ _ _ _
   | exact ih2 _ _ _ _ _ _ _
   | exact LeO.none _
   | refine LeO.ite ?_ ?_
   | refine LeO.bind ?_ (fun _ => ?_)
  ·intro y0 y1 y2 y3 y4 y5 y6
   unfold copperplatelaw19_FlowBreaks.j2
   repeat' first
   | (with_reducible exact ih0 _ _ _ _ _)
   | (with_reducible exact ih1 _ _ _ _ _ _ _)
   | (with_reducible exact ih2 _ _ _ _ _ _ _)
   | (with_reducible exact LeO.refl _)
   | (with_reducible exact LeO.none _)
   | (with_reducible refine LeO.ite ?_ ?_)
   | (with_reducible refine LeO.bind ?_ (fun _ => ?_))
   | exact ih0 _ _ _ _ _
   | exact ih1 _ _ _ _ _ _ _
   | exact ih2 _ _ _ _ _ _ _
   | exact LeO.none _
   | refine LeO.ite ?_ ?_
   | refine LeO.bind ?_ (fun _ => ?_)
theorem copperplatelaw19_FlowBreaks.mono : ∀ a0 a1 a2 k, LeO (copperplatelaw19_FlowBreaks.f k a0 a1 a2) (copperplatelaw19_FlowBreaks.f (k + 1) a0 a1 a2) := by
 intro a0 a1 a2 k
 obtain ⟨ih0, ih1, ih2⟩ := copperplatelaw19_FlowBreaks.mono_l k
 unfold copperplatelaw19_FlowBreaks.f
 repeat' first
   | (with_reducible exact ih0 _ _ _ _ _)
   | (with_reducible exact ih1 _ _ _ _ _ _ _)
   | (with_reducible exact ih2 _ _ _ _ _ _ _)
   | (with_reducible exact LeO.refl _)
   | (with_reducible exact LeO.none _)
   | (with_reducible refine LeO.ite ?_ ?_)
   | (with_reducible refine LeO.bind ?_ (fun _ => ?_))
   | exact ih0 _ _ _ _ _
   | exact ih1 _ _ _ _ _ _ _
   | exact ih2 _ _ _ _ _ _ _
   | exact LeO.none _
   | refine LeO.ite ?_ ?_
   | refine LeO.bind ?_ (fun _ => ?_)
set_option maxHeartbeats 8000000 in
set_option maxRecDepth 100000 in
theorem copperplatelaw19_FlowBreaks.calls (k : Nat) (A0 : Option Addr) (c0 : Nat) (l0 : List (S34)) (a1 : Int) (a2 : Int) (r : Bool) (w : World) (hr0 : Kd.C k34 w A0 l0.length l0) (hc0 : l0.length ≤ c0) (h : copperplatelaw19_FlowBreaks.f k l0 a1 a2 = some r) (hT_ : r = true) :
  Calls Try.prog 7 #[.slice A0 l0.length c0, .int .i64 a1, .int .i64 a2] w fun e w' => e = .returned (.bool r) ∧ Below w.heap.size w w' := by
 have hu34 := Try.underlying34
 have HT_ := qM hT_
 clear hT_
 have HR0 := qM hr0
 have HC0 := qM hc0
 clear hr0 hc0
 have HB := qM (Below.refl w.heap.size w)
 have H : ((copperplatelaw19_awake.f).bind fun t266 => (if t266 = true then (if (l0.length : Int) > 60 then (copperplatelaw19_FlowBreaks.j0 k l0 a1 a2 t266 true) else ((wide_Room.f l0 a1).bind fun t267 => (if t267 = true then (if a2 < 0 then (copperplatelaw19_FlowBreaks.j0 k l0 a1 a2 t266 true) else (copperplatelaw19_FlowBreaks.j0 k l0 a1 a2 t266 (decide (a2 > (l0.length : Int))))) else (copperplatelaw19_FlowBreaks.j0 k l0 a1 a2 t266 true)))) else (copperplatelaw19_FlowBreaks.j0 k l0 a1 a2 t266 true))) = some r := h
 clear h
 replace H := Option.bind_eq_some_iff.mp H
 obtain ⟨t266, A40, H⟩ := H
 replace H : (if t266 = true then (if (l0.length : Int) > 60 then (copperplatelaw19_FlowBreaks.j0 k l0 a1 a2 t266 true) else ((wide_Room.f l0 a1).bind fun t267 => (if t267 = true then (if a2 < 0 then (copperplatelaw19_FlowBreaks.j0 k l0 a1 a2 t266 true) else (copperplatelaw19_FlowBreaks.j0 k l0 a1 a2 t266 (decide (a2 > (l0.length : Int))))) else (copperplatelaw19_FlowBreaks.j0 k l0 a1 a2 t266 true)))) else (copperplatelaw19_FlowBreaks.j0 k l0 a1 a2 t266 true)) = some r := H
 have A4 := qM A40
 clear A40
 have HC5 := qM H
 clear H
 go_enter Try.func7, Try.ntmps7
 go_upto_region 2 with (first | ((with_reducible refine gate_callee (f := 9) rfl ?_); refine goesL_ (some 16) rfl rfl Try.func9 (by kernel_rfl) rfl #[] rfl (by (try simp only [List.map_toArray, List.map_cons, List.map_nil]); first | done | rfl | (simp only [List.length_drop, List.length_take]; rfl)) ?_; (with_reducible refine (copperplatelaw19_awake.calls  t266 _ A4.out).mono ?_); (try clear A4); rintro e w6 ⟨rfl, hb⟩; refine ⟨_, rfl, ?_⟩; have n0_ := qM (below_step (by repeat (first | (with_reducible first | exact HB.out | apply qJ | apply qK | apply qL) | exact HB.out)) hb); clear HB; have HB := n0_; clear n0_; (try clear hb); (try clear hb2); (try clear hk); (try clear hi)))
 (try simp only [Act.put, qA, qB, qC])
 go_cut [39] (fun v39 wc => ∃ (kq : Nat) (x39_4 : Bool), v39 = .bool x39_4 ∧ Aside0 (copperplatelaw19_FlowBreaks.j0 kq l0 a1 a2 t266 x39_4 = some r) ∧ Aside0 (kq ≤ k) ∧ Aside0 (Below w.heap.size w wc))
 case first =>
  have H := HC5.out
  clear HC5
  by_cases c7 : t266 = true
  ·subst c7
   have H1 : (if (l0.length : Int) > 60 then (copperplatelaw19_FlowBreaks.j0 k l0 a1 a2 true true) else ((wide_Room.f l0 a1).bind fun t267 => (if t267 = true then (if a2 < 0 then (copperplatelaw19_FlowBreaks.j0 k l0 a1 a2 true true) else (copperplatelaw19_FlowBreaks.j0 k l0 a1 a2 true (decide (a2 > (l0.length : Int))))) else (copperplatelaw19_FlowBreaks.j0 k l0 a1 a2 true true)))) = some r := by rw [if_pos rfl] at H; exact H
   clear H
   have H := H1
   clear H1
   by_cases c8 : (l0.length : Int) > 60
   ·rw [if_pos c8] at H
    have c8b0 : decide (60 < (l0.length : Int)) = true := decide_eq_true c8
    have c8b1 : decide (60 < l0.length) = true := decide_eq_true (by omega)
    clear c8
    (first | rw [c8b0] | (simp only [i64_w, i32_w]; rw [c8b0]) | skip)
    have H' := qM H
    clear H
    go_wp2
    go_meet
    case rel => exact ⟨_, (true), (by first | rfl | (simp; done) | (simp [*]; done)), H', ⟨by first | omega | exact Nat.le_refl _⟩, ⟨by repeat (first | (with_reducible first | exact HB.out | apply qJ | apply qK | apply qL) | exact HB.out)⟩⟩
   ·rw [if_neg c8] at H
    have c8b0 : decide (60 < (l0.length : Int)) = false := decide_eq_false c8
    have c8b1 : decide (60 < l0.length) = false := decide_eq_false (by omega)
    clear c8
    (first | rw [c8b0] | (simp only [i64_w, i32_w]; rw [c8b0]) | skip)
    replace H := Option.bind_eq_some_iff.mp H
    obtain ⟨t267, A90, H⟩ := H
    replace H : (if t267 = true then (if a2 < 0 then (copperplatelaw19_FlowBreaks.j0 k l0 a1 a2 true true) else (copperplatelaw19_FlowBreaks.j0 k l0 a1 a2 true (decide (a2 > (l0.length : Int))))) else (copperplatelaw19_FlowBreaks.j0 k l0 a1 a2 true true)) = some r := H
    have A9 := qM A90
    clear A90
    by_cases c10 : t267 = true
    ·subst c10
     have H1 : (if a2 < 0 then (copperplatelaw19_FlowBreaks.j0 k l0 a1 a2 true true) else (copperplatelaw19_FlowBreaks.j0 k l0 a1 a2 true (decide (a2 > (l0.length : Int))))) = some r := by rw [if_pos rfl] at H; exact H
     clear H
     have H := H1
     clear H1
     by_cases c11 : a2 < 0
     ·rw [if_pos c11] at H
      have c11b0 : decide (a2 < 0) = true := decide_eq_true c11
      clear c11
      have H' := qM H
      clear H
      go_wp2_with (first | (go_at_call 10; (with_reducible refine (wide_Room.calls _ _ l0 a1 true _ ?side1 ?side2 A9.out).mono ?_); (case side1 => repeat (first | exact (Kd.C_below HR0.out HB.out) | (with_reducible first | apply qO | apply qP | apply qQ))); (case side2 => exact HC0.out); (try clear A9); rintro e w12 ⟨rfl, hb⟩; have n0_ := qM (below_step (by repeat (first | (with_reducible first | exact HB.out | apply qJ | apply qK | apply qL) | exact HB.out)) hb); clear HB; have HB := n0_; clear n0_; (try clear hb); (try clear hb2); (try clear hk); (try clear hi)))
      go_meet
      case rel => exact ⟨_, (true), (by first | rfl | (simp; done) | (simp [*]; done)), H', ⟨by first | omega | exact Nat.le_refl _⟩, ⟨by repeat (first | (with_reducible first | exact HB.out | apply qJ | apply qK | apply qL) | exact HB.out)⟩⟩
     ·rw [if_neg c11] at H
      have c11b0 : decide (a2 < 0) = false := decide_eq_false c11
      clear c11
      have H' := qM H
      clear H
      go_wp2_with (first | (go_at_call 10; (with_reducible refine (wide_Room.calls _ _ l0 a1 true _ ?side1 ?side2 A9.out).mono ?_); (case side1 => repeat (first | exact (Kd.C_below HR0.out HB.out) | (with_reducible first | apply qO | apply qP | apply qQ))); (case side2 => exact HC0.out); (try clear A9); rintro e w13 ⟨rfl, hb⟩; have n0_ := qM (below_step (by repeat (first | (with_reducible first | exact HB.out | apply qJ | apply qK | apply qL) | exact HB.out)) hb); clear HB; have HB := n0_; clear n0_; (try clear hb); (try clear hb2); (try clear hk); (try clear hi)))
      go_meet
      case rel => exact ⟨_, (decide (a2 > (l0.length : Int))), (by first | rfl | (simp; done) | (simp [*]; done)), H', ⟨by first | omega | exact Nat.le_refl _⟩, ⟨by repeat (first | (with_reducible first | exact HB.out | apply qJ | apply qK | apply qL) | exact HB.out)⟩⟩
    ·replace c10 := Bool.eq_false_iff.mpr c10
     subst c10
     have H1 : (copperplatelaw19_FlowBreaks.j0 k l0 a1 a2 true true) = some r := by rw [if_neg (show ¬ (false = true) by decide)] at H; exact H
     clear H
     have H := H1
     clear H1
     have H' := qM H
     clear H
     go_wp2_with (first | (go_at_call 10; (with_reducible refine (wide_Room.calls _ _ l0 a1 false _ ?side1 ?side2 A9.out).mono ?_); (case side1 => repeat (first | exact (Kd.C_below HR0.out HB.out) | (with_reducible first | apply qO | apply qP | apply qQ))); (case side2 => exact HC0.out); (try clear A9); rintro e w14 ⟨rfl, hb⟩; have n0_ := qM (below_step (by repeat (first | (with_reducible first | exact HB.out | apply qJ | apply qK | apply qL) | exact HB.out)) hb); clear HB; have HB := n0_; clear n0_; (try clear hb); (try clear hb2); (try clear hk); (try clear hi)))
     go_meet
     case rel => exact ⟨_, (true), (by first | rfl | (simp; done) | (simp [*]; done)), H', ⟨by first | omega | exact Nat.le_refl _⟩, ⟨by repeat (first | (with_reducible first | exact HB.out | apply qJ | apply qK | apply qL) | exact HB.out)⟩⟩
  ·replace c7 := Bool.eq_false_iff.mpr c7
   subst c7
   have H1 : (copperplatelaw19_FlowBreaks.j0 k l0 a1 a2 false true) = some r := by rw [if_neg (show ¬ (false = true) by decide)] at H; exact H
   clear H
   have H := H1
   clear H1
   have H' := qM H
   clear H
   go_wp2
   go_meet
   case rel => exact ⟨_, (true), (by first | rfl | (simp; done) | (simp [*]; done)), H', ⟨by first | omega | exact Nat.le_refl _⟩, ⟨by repeat (first | (with_reducible first | exact HB.out | apply qJ | apply qK | apply qL) | exact HB.out)⟩⟩
 case rest =>
  clear HC5
  try clear c1
  try clear p2
  try clear c7
  try clear c8
  try clear c8b0
  try clear c8b1
  try clear c9
  try clear c10
  try clear c11
  try clear c11b0
  obtain ⟨kq, x39_4, rfl, HA, HJ4, HB⟩ := hcut
  cases kq with
  | zero => exact absurd HA.out (by simp [copperplatelaw19_FlowBreaks.j0])
  | succ kj4 =>
   have H := HA.out
   clear HA
   simp only [copperplatelaw19_FlowBreaks.j0] at H
   by_cases c15 : x39_4 = true
   ·subst c15
    have H1 : (some t266) = some r := by rw [if_pos rfl] at H; exact H
    clear H
    have H := H1
    clear H1
    obtain rfl := Option.some.inj H
    go_wp2
    go_ret
    exact ⟨by first | rfl | (simp [errW_none, errW_some] <;> rfl) | (simp [*, errW_none, errW_some] <;> rfl), by repeat (first | (with_reducible first | exact HB.out | apply qJ | apply qK | apply qL) | exact HB.out)⟩
   ·replace c15 := Bool.eq_false_iff.mpr c15
    subst c15
    have H1 : (copperplatelaw19_FlowBreaks.l0 kj4 l0 a1 a2 0 0 (-1) 0) = some r := by rw [if_neg (show ¬ (false = true) by decide)] at H; exact H
    clear H
    have H := H1
    clear H1
    have H' := qM H
    clear H
    go_wp2
    go_loopg [8, 9, 10, 11] kj4 (fun kq v8 v9 v10 v11 w' => ∃ (x8_2 : Int) (x9_2 : Int) (x10_2 : Int) (x11_2 : Int), v8 = .int .i64 x8_2 ∧ v9 = .int .i64 x9_2 ∧ v10 = .int .i64 x10_2 ∧ v11 = .int .i64 x11_2 ∧ Aside0 (copperplatelaw19_FlowBreaks.l0 kq l0 a1 a2 x8_2 x9_2 x10_2 x11_2 = some r) ∧ Aside0 (kq ≤ kj4) ∧ Aside0 (Below w.heap.size w w'))
    case atStart => exact ⟨(0), (0), ((-1)), (0), (by first | rfl | (simp; done) | (simp [*]; done)), (by first | rfl | (simp; done) | (simp [*]; done)), (by first | rfl | (simp; done) | (simp [*]; done)), (by first | rfl | (simp; done) | (simp [*]; done)), H', ⟨Nat.le_refl _⟩, ⟨by repeat (first | (with_reducible first | exact HB.out | apply qJ | apply qK | apply qL) | exact HB.out)⟩⟩
    case round =>
     clear H'
     try clear c1
     try clear p2
     try clear c7
     try clear c8
     try clear c8b0
     try clear c8b1
     try clear c9
     try clear c10
     try clear c11
     try clear c11b0
     try clear c15
     try clear p2
     obtain ⟨x8_2, x9_2, x10_2, x11_2, rfl, rfl, rfl, rfl, HA, HK2, HB⟩ := hrel
     cases gk with
     | zero => exact absurd HA.out (by simp [copperplatelaw19_FlowBreaks.l0])
     | succ k2 =>
      have H := HA.out
      clear HA
      simp only [copperplatelaw19_FlowBreaks.l0] at H
      by_cases c16 : x11_2 < a2
      ·rw [if_pos c16] at H
       have c16b0 : decide (x11_2 < a2) = true := decide_eq_true c16
       clear c16
       by_cases c17 : 0 ≤ x11_2
       ·rw [if_pos c17] at H
        have c17b0 : decide (0 ≤ x11_2) = true := decide_eq_true c17
        clear c17
        by_cases c18 : x11_2 < (l0.length : Int)
        ·rw [if_pos c18] at H
         have c18b0 : decide (x11_2 < (l0.length : Int)) = true := decide_eq_true c18
         clear c18
         have HC19 := qM H
         clear H
         have p271 : 0 ≤ (x11_2 : Int) := qN (by assumption)
         have q271 : x11_2 < (l0.length : Int) := qN (by assumption)
         obtain ⟨ad271, e271, hx271_0, hx271_1⟩ := at_T34 HR0.out x11_2 p271 q271
         cases e271
         replace hx271_0 := (HB.out.cell (World.block_lt_of_cell? w _ hx271_0)).trans hx271_0
         replace hx271_1 := (HB.out.cell (World.block_lt_of_cell? w _ hx271_1)).trans hx271_1
         replace p271 := eq_true p271
         replace q271 := eq_true q271
         go_upto_if 51 with (fail)
         go_cut [8, 9, 10] (fun v8 v9 v10 wc => ∃ (kq : Nat) (x8_18 : Int) (x9_18 : Int) (x10_18 : Int), v8 = .int .i64 x8_18 ∧ v9 = .int .i64 x9_18 ∧ v10 = .int .i64 x10_18 ∧ Aside0 (copperplatelaw19_FlowBreaks.j2 kq l0 a1 a2 x8_18 x9_18 x10_18 x11_2 = some r) ∧ Aside0 (kq ≤ k2) ∧ Aside0 (Below w.heap.size w wc))
         case first =>
          have H := HC19.out
          clear HC19
          by_cases c20 : ((rd_T34 l0 x11_2).f0) = 6
          ·rw [if_pos c20] at H
           have c20b0 : (((rd_T34 l0 x11_2).f0) == 6) = true := beq_iff_eq.mpr c20
           have c20b1 : (((rd_T34 l0 x11_2).f0) != 6) = false := bne_eq_false_iff_eq.mpr c20
           clear c20
           (first | rw [c20b0] | (simp only [i64_w, i32_w]; rw [c20b0]) | skip)
           have H' := qM H
           clear H
           go_wp2
           go_meet
           case rel => exact ⟨_, (wrap64 (x8_2 + 1)), (wrap64 (x9_2 + 1)), ((-1)), (by first | rfl | (simp; done) | (simp [*]; done)), (by first | rfl | (simp; done) | (simp [*]; done)), (by first | rfl | (simp; done) | (simp [*]; done)), H', ⟨by have := HJ4.out; have := HK2.out; first | omega | exact Nat.le_refl _⟩, ⟨by repeat (first | (with_reducible first | exact HB.out | apply qJ | apply qK | apply qL) | exact HB.out)⟩⟩
          ·rw [if_neg c20] at H
           have c20b0 : (((rd_T34 l0 x11_2).f0) == 6) = false := beq_eq_false_iff_ne.mpr c20
           have c20b1 : (((rd_T34 l0 x11_2).f0) != 6) = true := bne_iff_ne.mpr c20
           (first | rw [c20b0] | (simp only [i64_w, i32_w]; rw [c20b0]) | skip)
           have H' := qM H
           clear H
           go_wp2
           go_meet
           case rel => exact ⟨_, (x8_2), (x9_2), (x10_2), (by first | rfl | (simp; done) | (simp [*]; done)), (by first | rfl | (simp; done) | (simp [*]; done)), (by first | rfl | (simp; done) | (simp [*]; done)), H', ⟨by have := HJ4.out; have := HK2.out; first | omega | exact Nat.le_refl _⟩, ⟨by repeat (first | (with_reducible first | exact HB.out | apply qJ | apply qK | apply qL) | exact HB.out)⟩⟩
         case rest =>
          clear HC19
          try clear c1
          try clear c2
          try clear p2
          try clear q2
          try clear hx2
          try clear p6
          try clear c7
          try clear c8
          try clear c8b0
          try clear c8b1
          try clear c9
          try clear c10
          try clear c11
          try clear c11b0
          try clear c15
          try clear c16
          try clear c16b0
          try clear c17
          try clear c17b0
          try clear c18
          try clear c18b0
          try clear c20
          try clear c20b0
          try clear c20b1
          try clear hx271_0
          try clear hx271_1
          try clear p2
          try clear p271
          try clear q271
          obtain ⟨kq, x8_18, x9_18, x10_18, rfl, rfl, rfl, HA, HJ18, HB⟩ := hcut
          cases kq with
          | zero => exact absurd HA.out (by simp [copperplatelaw19_FlowBreaks.j2])
          | succ kj18 =>
           have H := HA.out
           clear HA
           simp only [copperplatelaw19_FlowBreaks.j2] at H
           by_cases c21 : 0 ≤ x11_2
           ·rw [if_pos c21] at H
            have c21b0 : decide (0 ≤ x11_2) = true := decide_eq_true c21
            clear c21
            by_cases c22 : x11_2 < (l0.length : Int)
            ·rw [if_pos c22] at H
             have c22b0 : decide (x11_2 < (l0.length : Int)) = true := decide_eq_true c22
             clear c22
             by_cases c23 : ((rd_T34 l0 x11_2).f0) = 7
             ·rw [if_pos c23] at H
              have c23b0 : (((rd_T34 l0 x11_2).f0) == 7) = true := beq_iff_eq.mpr c23
              have c23b1 : (((rd_T34 l0 x11_2).f0) != 7) = false := bne_eq_false_iff_eq.mpr c23
              clear c23
              replace H := Option.bind_eq_some_iff.mp H
              obtain ⟨t274, A240, H⟩ := H
              replace H : (if (wrap64 (x8_18 - 1)) = 0 then (if t274 = true then (copperplatelaw19_FlowBreaks.l0 kj18 l0 a1 a2 (wrap64 (x8_18 - 1)) x9_18 x11_2 (wrap64 (x11_2 + 1))) else (copperplatelaw19_FlowBreaks.l0 kj18 l0 a1 a2 (wrap64 (x8_18 - 1)) x9_18 (-1) (wrap64 (x11_2 + 1)))) else (copperplatelaw19_FlowBreaks.l0 kj18 l0 a1 a2 (wrap64 (x8_18 - 1)) x9_18 (-1) (wrap64 (x11_2 + 1)))) = some r := H
              have A24 := qM A240
              clear A240
              by_cases c25 : (wrap64 (x8_18 - 1)) = 0
              ·rw [if_pos c25] at H
               have c25b0 : ((wrap64 (x8_18 - 1)) == 0) = true := beq_iff_eq.mpr c25
               have c25b1 : ((wrap64 (x8_18 - 1)) != 0) = false := bne_eq_false_iff_eq.mpr c25
               clear c25
               by_cases c26 : t274 = true
               ·subst c26
                have H1 : (copperplatelaw19_FlowBreaks.l0 kj18 l0 a1 a2 (wrap64 (x8_18 - 1)) x9_18 x11_2 (wrap64 (x11_2 + 1))) = some r := by rw [if_pos rfl] at H; exact H
                clear H
                have H := H1
                clear H1
                have H' := qM H
                clear H
                have p272 : 0 ≤ (x11_2 : Int) := qN (by assumption)
                have q272 : x11_2 < (l0.length : Int) := qN (by assumption)
                obtain ⟨ad272, e272, hx272_0, hx272_1⟩ := at_T34 HR0.out x11_2 p272 q272
                obtain rfl : ad271 = ad272 := (by injection e272)
                replace hx272_0 := (HB.out.cell (World.block_lt_of_cell? w _ hx272_0)).trans hx272_0
                replace hx272_1 := (HB.out.cell (World.block_lt_of_cell? w _ hx272_1)).trans hx272_1
                replace p272 := eq_true p272
                replace q272 := eq_true q272
                have p273 : 0 ≤ (x11_2 : Int) := qN (by assumption)
                have q273 : x11_2 < (l0.length : Int) := qN (by assumption)
                obtain ⟨ad273, e273, hx273_0, hx273_1⟩ := at_T34 HR0.out x11_2 p273 q273
                obtain rfl : ad271 = ad273 := (by injection e273)
                replace hx273_0 := (HB.out.cell (World.block_lt_of_cell? w _ hx273_0)).trans hx273_0
                replace hx273_1 := (HB.out.cell (World.block_lt_of_cell? w _ hx273_1)).trans hx273_1
                replace p273 := eq_true p273
                replace q273 := eq_true q273
                (try (have hw_ : wrap64 (x8_18 - 1) = (x8_18 - 1) := (by unfold wrap64; omega); have c25b0u := c25b0; rw [hw_] at c25b0u))
                (try (have hw_ : wrap64 (x8_18 - 1) = (x8_18 - 1) := (by unfold wrap64; omega); have c25b1u := c25b1; rw [hw_] at c25b1u))
                go_wp2_with (first | ((with_reducible refine gate_callee (f := 20) rfl ?_); refine goesL_ (some 68) rfl rfl Try.func20 (by kernel_rfl) rfl #[.agg #[.int .i64 ((rd_T34 l0 x11_2).f0), .string ((rd_T34 l0 x11_2).f1)]] rfl (by (try simp only [List.map_toArray, List.map_cons, List.map_nil]); first | done | rfl | (simp only [List.length_drop, List.length_take]; rfl)) ?_; (with_reducible refine (span_Breaks.calls ((rd_T34 l0 x11_2).f0) ((rd_T34 l0 x11_2).f1) true _ A24.out).mono ?_); (try clear A24); rintro e w27 ⟨rfl, hb⟩; refine ⟨_, rfl, ?_⟩; have n0_ := qM (below_step (by repeat (first | (with_reducible first | exact HB.out | apply qJ | apply qK | apply qL) | exact HB.out)) hb); clear HB; have HB := n0_; clear n0_; (try clear hb); (try clear hb2); (try clear hk); (try clear hi)))
                go_roundg kj18
                case measure => have := HJ4.out; have := HK2.out; have := HJ18.out; omega
                case rel => exact ⟨(wrap64 (x8_18 - 1)), (x9_18), (x11_2), (wrap64 (x11_2 + 1)), (by first | rfl | (simp; done) | (simp [*]; done)), (by first | rfl | (simp; done) | (simp [*]; done)), (by first | rfl | (simp; done) | (simp [*]; done)), (by first | rfl | (simp; done) | (simp [*]; done)), H', ⟨by have := HJ4.out; have := HK2.out; have := HJ18.out; omega⟩, ⟨by repeat (first | (with_reducible first | exact HB.out | apply qJ | apply qK | apply qL) | exact HB.out)⟩⟩
               ·replace c26 := Bool.eq_false_iff.mpr c26
                subst c26
                have H1 : (copperplatelaw19_FlowBreaks.l0 kj18 l0 a1 a2 (wrap64 (x8_18 - 1)) x9_18 (-1) (wrap64 (x11_2 + 1))) = some r := by rw [if_neg (show ¬ (false = true) by decide)] at H; exact H
                clear H
                have H := H1
                clear H1
                have H' := qM H
                clear H
                have p272 : 0 ≤ (x11_2 : Int) := qN (by assumption)
                have q272 : x11_2 < (l0.length : Int) := qN (by assumption)
                obtain ⟨ad272, e272, hx272_0, hx272_1⟩ := at_T34 HR0.out x11_2 p272 q272
                obtain rfl : ad271 = ad272 := (by injection e272)
                replace hx272_0 := (HB.out.cell (World.block_lt_of_cell? w _ hx272_0)).trans hx272_0
                replace hx272_1 := (HB.out.cell (World.block_lt_of_cell? w _ hx272_1)).trans hx272_1
                replace p272 := eq_true p272
                replace q272 := eq_true q272
                have p273 : 0 ≤ (x11_2 : Int) := qN (by assumption)
                have q273 : x11_2 < (l0.length : Int) := qN (by assumption)
                obtain ⟨ad273, e273, hx273_0, hx273_1⟩ := at_T34 HR0.out x11_2 p273 q273
                obtain rfl : ad271 = ad273 := (by injection e273)
                replace hx273_0 := (HB.out.cell (World.block_lt_of_cell? w _ hx273_0)).trans hx273_0
                replace hx273_1 := (HB.out.cell (World.block_lt_of_cell? w _ hx273_1)).trans hx273_1
                replace p273 := eq_true p273
                replace q273 := eq_true q273
                (try (have hw_ : wrap64 (x8_18 - 1) = (x8_18 - 1) := (by unfold wrap64; omega); have c25b0u := c25b0; rw [hw_] at c25b0u))
                (try (have hw_ : wrap64 (x8_18 - 1) = (x8_18 - 1) := (by unfold wrap64; omega); have c25b1u := c25b1; rw [hw_] at c25b1u))
                go_wp2_with (first | ((with_reducible refine gate_callee (f := 20) rfl ?_); refine goesL_ (some 68) rfl rfl Try.func20 (by kernel_rfl) rfl #[.agg #[.int .i64 ((rd_T34 l0 x11_2).f0), .string ((rd_T34 l0 x11_2).f1)]] rfl (by (try simp only [List.map_toArray, List.map_cons, List.map_nil]); first | done | rfl | (simp only [List.length_drop, List.length_take]; rfl)) ?_; (with_reducible refine (span_Breaks.calls ((rd_T34 l0 x11_2).f0) ((rd_T34 l0 x11_2).f1) false _ A24.out).mono ?_); (try clear A24); rintro e w28 ⟨rfl, hb⟩; refine ⟨_, rfl, ?_⟩; have n0_ := qM (below_step (by repeat (first | (with_reducible first | exact HB.out | apply qJ | apply qK | apply qL) | exact HB.out)) hb); clear HB; have HB := n0_; clear n0_; (try clear hb); (try clear hb2); (try clear hk); (try clear hi)))
                go_roundg kj18
                case measure => have := HJ4.out; have := HK2.out; have := HJ18.out; omega
                case rel => exact ⟨(wrap64 (x8_18 - 1)), (x9_18), ((-1)), (wrap64 (x11_2 + 1)), (by first | rfl | (simp; done) | (simp [*]; done)), (by first | rfl | (simp; done) | (simp [*]; done)), (by first | rfl | (simp; done) | (simp [*]; done)), (by first | rfl | (simp; done) | (simp [*]; done)), H', ⟨by have := HJ4.out; have := HK2.out; have := HJ18.out; omega⟩, ⟨by repeat (first | (with_reducible first | exact HB.out | apply qJ | apply qK | apply qL) | exact HB.out)⟩⟩
              ·rw [if_neg c25] at H
               have c25b0 : ((wrap64 (x8_18 - 1)) == 0) = false := beq_eq_false_iff_ne.mpr c25
               have c25b1 : ((wrap64 (x8_18 - 1)) != 0) = true := bne_iff_ne.mpr c25
               have H' := qM H
               clear H
               have p272 : 0 ≤ (x11_2 : Int) := qN (by assumption)
               have q272 : x11_2 < (l0.length : Int) := qN (by assumption)
               obtain ⟨ad272, e272, hx272_0, hx272_1⟩ := at_T34 HR0.out x11_2 p272 q272
               obtain rfl : ad271 = ad272 := (by injection e272)
               replace hx272_0 := (HB.out.cell (World.block_lt_of_cell? w _ hx272_0)).trans hx272_0
               replace hx272_1 := (HB.out.cell (World.block_lt_of_cell? w _ hx272_1)).trans hx272_1
               replace p272 := eq_true p272
               replace q272 := eq_true q272
               have p273 : 0 ≤ (x11_2 : Int) := qN (by assumption)
               have q273 : x11_2 < (l0.length : Int) := qN (by assumption)
               obtain ⟨ad273, e273, hx273_0, hx273_1⟩ := at_T34 HR0.out x11_2 p273 q273
               obtain rfl : ad271 = ad273 := (by injection e273)
               replace hx273_0 := (HB.out.cell (World.block_lt_of_cell? w _ hx273_0)).trans hx273_0
               replace hx273_1 := (HB.out.cell (World.block_lt_of_cell? w _ hx273_1)).trans hx273_1
               replace p273 := eq_true p273
               replace q273 := eq_true q273
               (try (have hw_ : wrap64 (x8_18 - 1) = (x8_18 - 1) := (by unfold wrap64; omega); have c25b0u := c25b0; rw [hw_] at c25b0u))
               (try (have hw_ : wrap64 (x8_18 - 1) = (x8_18 - 1) := (by unfold wrap64; omega); have c25b1u := c25b1; rw [hw_] at c25b1u))
               go_wp2_with (first | ((with_reducible refine gate_callee (f := 20) rfl ?_); refine goesL_ (some 68) rfl rfl Try.func20 (by kernel_rfl) rfl #[.agg #[.int .i64 ((rd_T34 l0 x11_2).f0), .string ((rd_T34 l0 x11_2).f1)]] rfl (by (try simp only [List.map_toArray, List.map_cons, List.map_nil]); first | done | rfl | (simp only [List.length_drop, List.length_take]; rfl)) ?_; (with_reducible refine (span_Breaks.calls ((rd_T34 l0 x11_2).f0) ((rd_T34 l0 x11_2).f1) t274 _ A24.out).mono ?_); (try clear A24); rintro e w29 ⟨rfl, hb⟩; refine ⟨_, rfl, ?_⟩; have n0_ := qM (below_step (by repeat (first | (with_reducible first | exact HB.out | apply qJ | apply qK | apply qL) | exact HB.out)) hb); clear HB; have HB := n0_; clear n0_; (try clear hb); (try clear hb2); (try clear hk); (try clear hi)))
               go_roundg kj18
               case measure => have := HJ4.out; have := HK2.out; have := HJ18.out; omega
               case rel => exact ⟨(wrap64 (x8_18 - 1)), (x9_18), ((-1)), (wrap64 (x11_2 + 1)), (by first | rfl | (simp; done) | (simp [*]; done)), (by first | rfl | (simp; done) | (simp [*]; done)), (by first | rfl | (simp; done) | (simp [*]; done)), (by first | rfl | (simp; done) | (simp [*]; done)), H', ⟨by have := HJ4.out; have := HK2.out; have := HJ18.out; omega⟩, ⟨by repeat (first | (with_reducible first | exact HB.out | apply qJ | apply qK | apply qL) | exact HB.out)⟩⟩
             ·rw [if_neg c23] at H
              have c23b0 : (((rd_T34 l0 x11_2).f0) == 7) = false := beq_eq_false_iff_ne.mpr c23
              have c23b1 : (((rd_T34 l0 x11_2).f0) != 7) = true := bne_iff_ne.mpr c23
              replace H := Option.bind_eq_some_iff.mp H
              obtain ⟨t276, A300, H⟩ := H
              replace H : (if x8_18 = 0 then (if t276 = true then (copperplatelaw19_FlowBreaks.l0 kj18 l0 a1 a2 x8_18 x9_18 x11_2 (wrap64 (x11_2 + 1))) else (copperplatelaw19_FlowBreaks.l0 kj18 l0 a1 a2 x8_18 x9_18 x10_18 (wrap64 (x11_2 + 1)))) else (copperplatelaw19_FlowBreaks.l0 kj18 l0 a1 a2 x8_18 x9_18 x10_18 (wrap64 (x11_2 + 1)))) = some r := H
              have A30 := qM A300
              clear A300
              by_cases c31 : x8_18 = 0
              ·rw [if_pos c31] at H
               have c31b0 : (x8_18 == 0) = true := beq_iff_eq.mpr c31
               have c31b1 : (x8_18 != 0) = false := bne_eq_false_iff_eq.mpr c31
               clear c31
               by_cases c32 : t276 = true
               ·subst c32
                have H1 : (copperplatelaw19_FlowBreaks.l0 kj18 l0 a1 a2 x8_18 x9_18 x11_2 (wrap64 (x11_2 + 1))) = some r := by rw [if_pos rfl] at H; exact H
                clear H
                have H := H1
                clear H1
                have H' := qM H
                clear H
                have p272 : 0 ≤ (x11_2 : Int) := qN (by assumption)
                have q272 : x11_2 < (l0.length : Int) := qN (by assumption)
                obtain ⟨ad272, e272, hx272_0, hx272_1⟩ := at_T34 HR0.out x11_2 p272 q272
                obtain rfl : ad271 = ad272 := (by injection e272)
                replace hx272_0 := (HB.out.cell (World.block_lt_of_cell? w _ hx272_0)).trans hx272_0
                replace hx272_1 := (HB.out.cell (World.block_lt_of_cell? w _ hx272_1)).trans hx272_1
                replace p272 := eq_true p272
                replace q272 := eq_true q272
                have p275 : 0 ≤ (x11_2 : Int) := qN (by assumption)
                have q275 : x11_2 < (l0.length : Int) := qN (by assumption)
                obtain ⟨ad275, e275, hx275_0, hx275_1⟩ := at_T34 HR0.out x11_2 p275 q275
                obtain rfl : ad271 = ad275 := (by injection e275)
                replace hx275_0 := (HB.out.cell (World.block_lt_of_cell? w _ hx275_0)).trans hx275_0
                replace hx275_1 := (HB.out.cell (World.block_lt_of_cell? w _ hx275_1)).trans hx275_1
                replace p275 := eq_true p275
                replace q275 := eq_true q275
                go_wp2_with (first | ((with_reducible refine gate_callee (f := 20) rfl ?_); refine goesL_ (some 68) rfl rfl Try.func20 (by kernel_rfl) rfl #[.agg #[.int .i64 ((rd_T34 l0 x11_2).f0), .string ((rd_T34 l0 x11_2).f1)]] rfl (by (try simp only [List.map_toArray, List.map_cons, List.map_nil]); first | done | rfl | (simp only [List.length_drop, List.length_take]; rfl)) ?_; (with_reducible refine (span_Breaks.calls ((rd_T34 l0 x11_2).f0) ((rd_T34 l0 x11_2).f1) true _ A30.out).mono ?_); (try clear A30); rintro e w33 ⟨rfl, hb⟩; refine ⟨_, rfl, ?_⟩; have n0_ := qM (below_step (by repeat (first | (with_reducible first | exact HB.out | apply qJ | apply qK | apply qL) | exact HB.out)) hb); clear HB; have HB := n0_; clear n0_; (try clear hb); (try clear hb2); (try clear hk); (try clear hi)))
                go_roundg kj18
                case measure => have := HJ4.out; have := HK2.out; have := HJ18.out; omega
                case rel => exact ⟨(x8_18), (x9_18), (x11_2), (wrap64 (x11_2 + 1)), (by first | rfl | (simp; done) | (simp [*]; done)), (by first | rfl | (simp; done) | (simp [*]; done)), (by first | rfl | (simp; done) | (simp [*]; done)), (by first | rfl | (simp; done) | (simp [*]; done)), H', ⟨by have := HJ4.out; have := HK2.out; have := HJ18.out; omega⟩, ⟨by repeat (first | (with_reducible first | exact HB.out | apply qJ | apply qK | apply qL) | exact HB.out)⟩⟩
               ·replace c32 := Bool.eq_false_iff.mpr c32
                subst c32
                have H1 : (copperplatelaw19_FlowBreaks.l0 kj18 l0 a1 a2 x8_18 x9_18 x10_18 (wrap64 (x11_2 + 1))) = some r := by rw [if_neg (show ¬ (false = true) by decide)] at H; exact H
                clear H
                have H := H1
                clear H1
                have H' := qM H
                clear H
                have p272 : 0 ≤ (x11_2 : Int) := qN (by assumption)
                have q272 : x11_2 < (l0.length : Int) := qN (by assumption)
                obtain ⟨ad272, e272, hx272_0, hx272_1⟩ := at_T34 HR0.out x11_2 p272 q272
                obtain rfl : ad271 = ad272 := (by injection e272)
                replace hx272_0 := (HB.out.cell (World.block_lt_of_cell? w _ hx272_0)).trans hx272_0
                replace hx272_1 := (HB.out.cell (World.block_lt_of_cell? w _ hx272_1)).trans hx272_1
                replace p272 := eq_true p272
                replace q272 := eq_true q272
                have p275 : 0 ≤ (x11_2 : Int) := qN (by assumption)
                have q275 : x11_2 < (l0.length : Int) := qN (by assumption)
                obtain ⟨ad275, e275, hx275_0, hx275_1⟩ := at_T34 HR0.out x11_2 p275 q275
                obtain rfl : ad271 = ad275 := (by injection e275)
                replace hx275_0 := (HB.out.cell (World.block_lt_of_cell? w _ hx275_0)).trans hx275_0
                replace hx275_1 := (HB.out.cell (World.block_lt_of_cell? w _ hx275_1)).trans hx275_1
                replace p275 := eq_true p275
                replace q275 := eq_true q275
                go_wp2_with (first | ((with_reducible refine gate_callee (f := 20) rfl ?_); refine goesL_ (some 68) rfl rfl Try.func20 (by kernel_rfl) rfl #[.agg #[.int .i64 ((rd_T34 l0 x11_2).f0), .string ((rd_T34 l0 x11_2).f1)]] rfl (by (try simp only [List.map_toArray, List.map_cons, List.map_nil]); first | done | rfl | (simp only [List.length_drop, List.length_take]; rfl)) ?_; (with_reducible refine (span_Breaks.calls ((rd_T34 l0 x11_2).f0) ((rd_T34 l0 x11_2).f1) false _ A30.out).mono ?_); (try clear A30); rintro e w34 ⟨rfl, hb⟩; refine ⟨_, rfl, ?_⟩; have n0_ := qM (below_step (by repeat (first | (with_reducible first | exact HB.out | apply qJ | apply qK | apply qL) | exact HB.out)) hb); clear HB; have HB := n0_; clear n0_; (try clear hb); (try clear hb2); (try clear hk); (try clear hi)))
                go_roundg kj18
                case measure => have := HJ4.out; have := HK2.out; have := HJ18.out; omega
                case rel => exact ⟨(x8_18), (x9_18), (x10_18), (wrap64 (x11_2 + 1)), (by first | rfl | (simp; done) | (simp [*]; done)), (by first | rfl | (simp; done) | (simp [*]; done)), (by first | rfl | (simp; done) | (simp [*]; done)), (by first | rfl | (simp; done) | (simp [*]; done)), H', ⟨by have := HJ4.out; have := HK2.out; have := HJ18.out; omega⟩, ⟨by repeat (first | (with_reducible first | exact HB.out | apply qJ | apply qK | apply qL) | exact HB.out)⟩⟩
              ·rw [if_neg c31] at H
               have c31b0 : (x8_18 == 0) = false := beq_eq_false_iff_ne.mpr c31
               have c31b1 : (x8_18 != 0) = true := bne_iff_ne.mpr c31
               have H' := qM H
               clear H
               have p272 : 0 ≤ (x11_2 : Int) := qN (by assumption)
               have q272 : x11_2 < (l0.length : Int) := qN (by assumption)
               obtain ⟨ad272, e272, hx272_0, hx272_1⟩ := at_T34 HR0.out x11_2 p272 q272
               obtain rfl : ad271 = ad272 := (by injection e272)
               replace hx272_0 := (HB.out.cell (World.block_lt_of_cell? w _ hx272_0)).trans hx272_0
               replace hx272_1 := (HB.out.cell (World.block_lt_of_cell? w _ hx272_1)).trans hx272_1
               replace p272 := eq_true p272
               replace q272 := eq_true q272
               have p275 : 0 ≤ (x11_2 : Int) := qN (by assumption)
               have q275 : x11_2 < (l0.length : Int) := qN (by assumption)
               obtain ⟨ad275, e275, hx275_0, hx275_1⟩ := at_T34 HR0.out x11_2 p275 q275
               obtain rfl : ad271 = ad275 := (by injection e275)
               replace hx275_0 := (HB.out.cell (World.block_lt_of_cell? w _ hx275_0)).trans hx275_0
               replace hx275_1 := (HB.out.cell (World.block_lt_of_cell? w _ hx275_1)).trans hx275_1
               replace p275 := eq_true p275
               replace q275 := eq_true q275
               go_wp2_with (first | ((with_reducible refine gate_callee (f := 20) rfl ?_); refine goesL_ (some 68) rfl rfl Try.func20 (by kernel_rfl) rfl #[.agg #[.int .i64 ((rd_T34 l0 x11_2).f0), .string ((rd_T34 l0 x11_2).f1)]] rfl (by (try simp only [List.map_toArray, List.map_cons, List.map_nil]); first | done | rfl | (simp only [List.length_drop, List.length_take]; rfl)) ?_; (with_reducible refine (span_Breaks.calls ((rd_T34 l0 x11_2).f0) ((rd_T34 l0 x11_2).f1) t276 _ A30.out).mono ?_); (try clear A30); rintro e w35 ⟨rfl, hb⟩; refine ⟨_, rfl, ?_⟩; have n0_ := qM (below_step (by repeat (first | (with_reducible first | exact HB.out | apply qJ | apply qK | apply qL) | exact HB.out)) hb); clear HB; have HB := n0_; clear n0_; (try clear hb); (try clear hb2); (try clear hk); (try clear hi)))
               go_roundg kj18
               case measure => have := HJ4.out; have := HK2.out; have := HJ18.out; omega
               case rel => exact ⟨(x8_18), (x9_18), (x10_18), (wrap64 (x11_2 + 1)), (by first | rfl | (simp; done) | (simp [*]; done)), (by first | rfl | (simp; done) | (simp [*]; done)), (by first | rfl | (simp; done) | (simp [*]; done)), (by first | rfl | (simp; done) | (simp [*]; done)), H', ⟨by have := HJ4.out; have := HK2.out; have := HJ18.out; omega⟩, ⟨by repeat (first | (with_reducible first | exact HB.out | apply qJ | apply qK | apply qL) | exact HB.out)⟩⟩
            ·rw [if_neg c22] at H
             exact absurd H (by simp)
           ·rw [if_neg c21] at H
            exact absurd H (by simp)
        ·rw [if_neg c18] at H
         exact absurd H (by simp)
       ·rw [if_neg c17] at H
        exact absurd H (by simp)
      ·rw [if_neg c16] at H
       have c16b0 : decide (x11_2 < a2) = false := decide_eq_false c16
       clear c16
       replace H := Option.bind_eq_some_iff.mp H
       obtain ⟨⟨t268, t269, t270⟩, A360, H⟩ := H
       replace H : (if t270 = true then (if x9_2 > 0 then (if x10_2 = (-1) then (some true) else (some (t269 == 0))) else (if t269 = 0 then (if x10_2 = (-1) then (some true) else (some (t269 == 0))) else (some false))) else (some false)) = some r := H
       have A36 := qM A360
       clear A360
       by_cases c37 : t270 = true
       ·subst c37
        have H1 : (if x9_2 > 0 then (if x10_2 = (-1) then (some true) else (some (t269 == 0))) else (if t269 = 0 then (if x10_2 = (-1) then (some true) else (some (t269 == 0))) else (some false))) = some r := by rw [if_pos rfl] at H; exact H
        clear H
        have H := H1
        clear H1
        by_cases c38 : x9_2 > 0
        ·rw [if_pos c38] at H
         have c38b0 : decide (0 < x9_2) = true := decide_eq_true c38
         clear c38
         by_cases c39 : x10_2 = (-1)
         ·rw [if_pos c39] at H
          have c39b0 : (x10_2 == (-1)) = true := beq_iff_eq.mpr c39
          have c39b1 : (x10_2 != (-1)) = false := bne_eq_false_iff_eq.mpr c39
          clear c39
          obtain rfl := Option.some.inj H
          go_wp2_with (first | ((with_reducible refine gate_callee (f := 11) rfl ?_); refine goesL_ (some 79) rfl rfl Try.func11 (by kernel_rfl) rfl #[.slice A0 l0.length c0, .int .i64 a1, .int .i64 a2] rfl (by (try simp only [List.map_toArray, List.map_cons, List.map_nil]); first | done | rfl | (simp only [List.length_drop, List.length_take]; rfl)) ?_; (with_reducible refine (flow_Flow.calls _ _ l0 a1 a2 t268 t269 true _ ?side1 ?side2 A36.out).mono ?_); (case side1 => repeat (first | exact (Kd.C_below HR0.out HB.out) | (with_reducible first | apply qO | apply qP | apply qQ))); (case side2 => exact HC0.out); (try clear A36); rintro e w40 ⟨rfl, hb⟩; refine ⟨_, rfl, ?_⟩; have n0_ := qM (below_step (by repeat (first | (with_reducible first | exact HB.out | apply qJ | apply qK | apply qL) | exact HB.out)) hb); clear HB; have HB := n0_; clear n0_; (try clear hb); (try clear hb2); (try clear hk); (try clear hi)))
          go_ret
          exact ⟨by first | rfl | (simp [errW_none, errW_some] <;> rfl) | (simp [*, errW_none, errW_some] <;> rfl), by repeat (first | (with_reducible first | exact HB.out | apply qJ | apply qK | apply qL) | exact HB.out)⟩
         ·rw [if_neg c39] at H
          have c39b0 : (x10_2 == (-1)) = false := beq_eq_false_iff_ne.mpr c39
          have c39b1 : (x10_2 != (-1)) = true := bne_iff_ne.mpr c39
          obtain rfl := Option.some.inj H
          go_wp2_with (first | ((with_reducible refine gate_callee (f := 11) rfl ?_); refine goesL_ (some 79) rfl rfl Try.func11 (by kernel_rfl) rfl #[.slice A0 l0.length c0, .int .i64 a1, .int .i64 a2] rfl (by (try simp only [List.map_toArray, List.map_cons, List.map_nil]); first | done | rfl | (simp only [List.length_drop, List.length_take]; rfl)) ?_; (with_reducible refine (flow_Flow.calls _ _ l0 a1 a2 t268 t269 true _ ?side1 ?side2 A36.out).mono ?_); (case side1 => repeat (first | exact (Kd.C_below HR0.out HB.out) | (with_reducible first | apply qO | apply qP | apply qQ))); (case side2 => exact HC0.out); (try clear A36); rintro e w41 ⟨rfl, hb⟩; refine ⟨_, rfl, ?_⟩; have n0_ := qM (below_step (by repeat (first | (with_reducible first | exact HB.out | apply qJ | apply qK | apply qL) | exact HB.out)) hb); clear HB; have HB := n0_; clear n0_; (try clear hb); (try clear hb2); (try clear hk); (try clear hi)))
          go_ret
          exact ⟨by first | rfl | (simp [errW_none, errW_some] <;> rfl) | (simp [*, errW_none, errW_some] <;> rfl), by repeat (first | (with_reducible first | exact HB.out | apply qJ | apply qK | apply qL) | exact HB.out)⟩
        ·rw [if_neg c38] at H
         have c38b0 : decide (0 < x9_2) = false := decide_eq_false c38
         clear c38
         by_cases c42 : t269 = 0
         ·rw [if_pos c42] at H
          have c42b0 : (t269 == 0) = true := beq_iff_eq.mpr c42
          have c42b1 : (t269 != 0) = false := bne_eq_false_iff_eq.mpr c42
          clear c42
          by_cases c43 : x10_2 = (-1)
          ·rw [if_pos c43] at H
           have c43b0 : (x10_2 == (-1)) = true := beq_iff_eq.mpr c43
           have c43b1 : (x10_2 != (-1)) = false := bne_eq_false_iff_eq.mpr c43
           clear c43
           obtain rfl := Option.some.inj H
           go_wp2_with (first | ((with_reducible refine gate_callee (f := 11) rfl ?_); refine goesL_ (some 79) rfl rfl Try.func11 (by kernel_rfl) rfl #[.slice A0 l0.length c0, .int .i64 a1, .int .i64 a2] rfl (by (try simp only [List.map_toArray, List.map_cons, List.map_nil]); first | done | rfl | (simp only [List.length_drop, List.length_take]; rfl)) ?_; (with_reducible refine (flow_Flow.calls _ _ l0 a1 a2 t268 t269 true _ ?side1 ?side2 A36.out).mono ?_); (case side1 => repeat (first | exact (Kd.C_below HR0.out HB.out) | (with_reducible first | apply qO | apply qP | apply qQ))); (case side2 => exact HC0.out); (try clear A36); rintro e w44 ⟨rfl, hb⟩; refine ⟨_, rfl, ?_⟩; have n0_ := qM (below_step (by repeat (first | (with_reducible first | exact HB.out | apply qJ | apply qK | apply qL) | exact HB.out)) hb); clear HB; have HB := n0_; clear n0_; (try clear hb); (try clear hb2); (try clear hk); (try clear hi)))
           go_ret
           exact ⟨by first | rfl | (simp [errW_none, errW_some] <;> rfl) | (simp [*, errW_none, errW_some] <;> rfl), by repeat (first | (with_reducible first | exact HB.out | apply qJ | apply qK | apply qL) | exact HB.out)⟩
          ·rw [if_neg c43] at H
           have c43b0 : (x10_2 == (-1)) = false := beq_eq_false_iff_ne.mpr c43
           have c43b1 : (x10_2 != (-1)) = true := bne_iff_ne.mpr c43
           obtain rfl := Option.some.inj H
           go_wp2_with (first | ((with_reducible refine gate_callee (f := 11) rfl ?_); refine goesL_ (some 79) rfl rfl Try.func11 (by kernel_rfl) rfl #[.slice A0 l0.length c0, .int .i64 a1, .int .i64 a2] rfl (by (try simp only [List.map_toArray, List.map_cons, List.map_nil]); first | done | rfl | (simp only [List.length_drop, List.length_take]; rfl)) ?_; (with_reducible refine (flow_Flow.calls _ _ l0 a1 a2 t268 t269 true _ ?side1 ?side2 A36.out).mono ?_); (case side1 => repeat (first | exact (Kd.C_below HR0.out HB.out) | (with_reducible first | apply qO | apply qP | apply qQ))); (case side2 => exact HC0.out); (try clear A36); rintro e w45 ⟨rfl, hb⟩; refine ⟨_, rfl, ?_⟩; have n0_ := qM (below_step (by repeat (first | (with_reducible first | exact HB.out | apply qJ | apply qK | apply qL) | exact HB.out)) hb); clear HB; have HB := n0_; clear n0_; (try clear hb); (try clear hb2); (try clear hk); (try clear hi)))
           go_ret
           exact ⟨by first | rfl | (simp [errW_none, errW_some] <;> rfl) | (simp [*, errW_none, errW_some] <;> rfl), by repeat (first | (with_reducible first | exact HB.out | apply qJ | apply qK | apply qL) | exact HB.out)⟩
         ·rw [if_neg c42] at H
          have c42b0 : (t269 == 0) = false := beq_eq_false_iff_ne.mpr c42
          have c42b1 : (t269 != 0) = true := bne_iff_ne.mpr c42
          exact absurd H (by have h_ := HT_.out; subst h_; decide)
       ·replace c37 := Bool.eq_false_iff.mpr c37
        subst c37
        have H1 : (some false) = some r := by rw [if_neg (show ¬ (false = true) by decide)] at H; exact H
        clear H
        have H := H1
        clear H1
        exact absurd H (by have h_ := HT_.out; subst h_; decide)

/-- The pure statement of copperplatelaw19_FlowBreaks. -/
def copperplatelaw19_FlowBreaks.Pure : Prop := ∀ (l0 : List (S34)) (a1 : Int) (a2 : Int), l0.length * 24 ≤ 140737488351232 → (∀ x ∈ l0, (Lit.int .i64 x.f0).wf = true ∧ x.f1.size ≤ 140737488351232) → (Lit.int .i64 a1).wf = true → (Lit.int .i64 a2).wf = true → ∃ k, copperplatelaw19_FlowBreaks.f k l0 a1 a2 = some true
def copperplatelaw19_FlowBreaks.PureUp : Prop := ∀ (l0 : List (S34)) (a1 : Int) (a2 : Int), l0.length * 24 ≤ 140737488351232 → (∀ x ∈ l0, (Lit.int .i64 x.f0).wf = true ∧ x.f1.size ≤ 140737488351232) → (Lit.int .i64 a1).wf = true → (Lit.int .i64 a2).wf = true → (l0.map fun x => x.f1.size).sum ≤ 1048576 → ∃ k, copperplatelaw19_FlowBreaks.f k l0 a1 a2 = some true

end Go.Proofs.Ytkhlfdoeploddaa.PFlow
