-- Written by a program of the session (drive.py, over the kit's print.py with contracts by hand). Not trusted: Lean checks it.
import Derived.Test.YtipjfdamkpgecaaPWidex0
import Derived.Test.YtipjfdamkpgecaaPWidex2
import Derived.Test.YtipjfdamkpgecaaPWidex6
import Derived.Test.YtipjfdamkpgecaaPWidex10
import Derived.Test.YtipjfdamkpgecaaHWideFlat
import Derived.Test.YtipjfdamkpgecaaHWideWideA
namespace Go.Proofs.Ytipjfdamkpgecaa.PWide
open Go.RowKit Go.Proofs.YtipjfdamkpgecaaW.PrintWords Go.Proofs.YtipjfdamkpgecaaW.PrintLast Go.Proofs.YtipjfdamkpgecaaW.PrintMore
attribute [local go_sem] max2_int min2_int max_two min_two max_three min_three max_four min_four   -- for this text's walks alone
set_option linter.unusedVariables false
set_option linter.unusedSimpArgs false

/-! ### copperplatelaw18_WideCol: function 8 -/
mutual
def copperplatelaw18_WideCol.j0 : Nat → List (S31) → Int → Int → Bool → Bool → Option (Bool)
 | 0, _, _, _, _, _ => none
 | k + 1, x0, x1, x2, x7, x37 => if x37 = true then (if x7 = true then ((wide_Room.f x0 x1).bind fun t245 => (if t245 = true then (some true) else ((wide_Col.f x0 x1 0).bind fun t246 => (some (t246 == (-1)))))) else (some false)) else ((wide_Col.f x0 x1 x2).bind fun t247 => ((wide_Col.f x0 x1 (wrap64 (x2 + 1))).bind fun t248 => ((wide_Col.f x0 x1 0).bind fun t249 => (if t249 = 0 then ((wide_Col.f x0 x1 (wrap64 ((x0.length : Int) + 1))).bind fun t250 => (if t250 = (-1) then (copperplatelaw18_WideCol.j1 k x0 x2 t247 t248 (decide (t247 < 0))) else (copperplatelaw18_WideCol.j1 k x0 x2 t247 t248 true))) else (copperplatelaw18_WideCol.j1 k x0 x2 t247 t248 true)))))
def copperplatelaw18_WideCol.j1 : Nat → List (S31) → Int → Int → Int → Bool → Option (Bool)
 | 0, _, _, _, _, _ => none
 | k + 1, x0, x2, x8, x9, x75 => if x75 = true then (some false) else (if 0 ≤ x2 then (if x2 < (x0.length : Int) then (if ((rd_T31 x0 x2).f0) = 0 then (copperplatelaw18_WideCol.j2 k x0 x2 x8 x9 true) else (copperplatelaw18_WideCol.j2 k x0 x2 x8 x9 (((rd_T31 x0 x2).f0) == 1))) else (none)) else (none))
def copperplatelaw18_WideCol.j2 : Nat → List (S31) → Int → Int → Int → Bool → Option (Bool)
 | 0, _, _, _, _, _ => none
 | k + 1, x0, x2, x8, x9, x89 => if x89 = true then (if 0 ≤ x2 then (if x2 < (x0.length : Int) then ((span_Flat.f ((rd_T31 x0 x2).f0) ((rd_T31 x0 x2).f1)).bind fun bt254 => ((span_Cols.f k bt254.1).bind fun t256 => (some (x9 == (wrap64 (x8 + t256)))))) else (none)) else (none)) else (if 0 ≤ x2 then (if x2 < (x0.length : Int) then (if ((rd_T31 x0 x2).f0) = 5 then (some ((Int.tmod x9 2) == 0)) else ((span_Flat.f ((rd_T31 x0 x2).f0) ((rd_T31 x0 x2).f1)).bind fun bt259 => (if x9 = x8 then (some true) else (if (Int.tmod x9 2) = 0 then (some true) else ((span_Cols.f k bt259.1).bind fun t261 => (some (x9 == (wrap64 (x8 + t261))))))))) else (none)) else (none))
end
def copperplatelaw18_WideCol.f (k : Nat) (l0 : List (S31)) (a1 : Int) (a2 : Int) : Option (Bool) := (copperplatelaw18_awake.f).bind fun t243 => (if t243 = true then (if (l0.length : Int) > 300 then (copperplatelaw18_WideCol.j0 k l0 a1 a2 t243 true) else ((wide_Room.f l0 a1).bind fun t244 => (if t244 = true then (if a2 < 0 then (copperplatelaw18_WideCol.j0 k l0 a1 a2 t243 true) else (copperplatelaw18_WideCol.j0 k l0 a1 a2 t243 (decide (a2 ≥ (l0.length : Int))))) else (copperplatelaw18_WideCol.j0 k l0 a1 a2 t243 true)))) else (copperplatelaw18_WideCol.j0 k l0 a1 a2 t243 true))
theorem copperplatelaw18_WideCol.mono_l : ∀ k, (∀ y0 y1 y2 y3 y4, LeO (copperplatelaw18_WideCol.j0 k y0 y1 y2 y3 y4) (copperplatelaw18_WideCol.j0 (k + 1) y0 y1 y2 y3 y4)) ∧ (∀ y0 y1 y2 y3 y4, LeO (copperplatelaw18_WideCol.j1 k y0 y1 y2 y3 y4) (copperplatelaw18_WideCol.j1 (k + 1) y0 y1 y2 y3 y4)) ∧ (∀ y0 y1 y2 y3 y4, LeO (copperplatelaw18_WideCol.j2 k y0 y1 y2 y3 y4) (copperplatelaw18_WideCol.j2 (k + 1) y0 y1 y2 y3 y4))
 | 0 => ⟨fun _ _ _ _ _ r h => by simp [copperplatelaw18_WideCol.j0] at h, fun _ _ _ _ _ r h => by simp [copperplatelaw18_WideCol.j1] at h, fun _ _ _ _ _ r h => by simp [copperplatelaw18_WideCol.j2] at h⟩
 | k + 1 => by
  obtain ⟨ih0, ih1, ih2⟩ := copperplatelaw18_WideCol.mono_l k
  refine ⟨?_, ?_, ?_⟩
  ·intro y0 y1 y2 y3 y4
   unfold copperplatelaw18_WideCol.j0
   repeat' first
   | (with_reducible exact ih0 _ _ _ _ _)
   | (with_reducible exact ih1 _ _ _ _ _)
   | (with_reducible exact ih2 _ _ _ _ _)
   | (with_reducible exact span_Cols.mono _ _)
   | (with_reducible exact LeO.refl _)
   | (with_reducible exact LeO.none _)
   | (with_reducible refine LeO.ite ?_ ?_)
   | (with_reducible refine LeO.bind ?_ (fun _ => ?_))
   | exact ih0 _ _ _ _ _
   | exact ih1 _ _ _ _ _
   | exact ih2 _ _ _ _ _
   | exact span_Cols.mono _ _
   | exact LeO.none _
   | refine LeO.ite ?_ ?_
   | refine LeO.bind ?_ (fun _ => ?_)
  ·intro y0 y1 y2 y3 y4
   unfold copperplatelaw18_WideCol.j1
   repeat' first
   | (with_reducible exact ih0 _ _ _ _ _)
   | (with_reducible exact ih1 _ _ _ _ _)
   | (with_reducible exact ih2 _ _ _ _ _)
   | (with_reducible exact span_Cols.mono _ _)
   | (with_reducible exact LeO.refl _)
   | (with_reducible exact LeO.none _)
   | (with_reducible refine LeO.ite ?_ ?_)
   | (with_reducible refine LeO.bind ?_ (fun _ => ?_))
   | exact ih0 _ _ _ _ _
   | exact ih1 _ _ _ _ _
   | exact ih2 _ _ _ _ _
   | exact span_Cols.mono _ _
   | exact LeO.none _
   | refine LeO.ite ?_ ?_
   | refine LeO.bind ?_ (fun _ => ?_)
  ·intro y0 y1 y2 y3 y4
   unfold copperplatelaw18_WideCol.j2
   repeat' first
   | (with_reducible exact ih0 _ _ _ _ _)
   | (with_reducible exact ih1 _ _ _ _ _)
   | (with_reducible exact ih2 _ _ _ _ _)
   | (with_reducible exact span_Cols.mono _ _)
   | (with_reducible exact LeO.refl _)
   | (with_reducible exact LeO.none _)
   | (with_reducible refine LeO.ite ?_ ?_)
   | (with_reducible refine LeO.bind ?_ (fun _ => ?_))
   | exact ih0 _ _ _ _ _
   | exact ih1 _ _ _ _ _
   | exact ih2 _ _ _ _ _
   | exact span_Cols.mono _ _
   | exact LeO.none _
   | refine LeO.ite ?_ ?_
   | refine LeO.bind ?_ (fun _ => ?_)
theorem copperplatelaw18_WideCol.mono : ∀ a0 a1 a2 k, LeO (copperplatelaw18_WideCol.f k a0 a1 a2) (copperplatelaw18_WideCol.f (k + 1) a0 a1 a2) := by
 intro a0 a1 a2 k
 obtain ⟨ih0, ih1, ih2⟩ := copperplatelaw18_WideCol.mono_l k
 unfold copperplatelaw18_WideCol.f
 repeat' first
   | (with_reducible exact ih0 _ _ _ _ _)
   | (with_reducible exact ih1 _ _ _ _ _)
   | (with_reducible exact ih2 _ _ _ _ _)
   | (with_reducible exact span_Cols.mono _ _)
   | (with_reducible exact LeO.refl _)
   | (with_reducible exact LeO.none _)
   | (with_reducible refine LeO.ite ?_ ?_)
   | (with_reducible refine LeO.bind ?_ (fun _ => ?_))
   | exact ih0 _ _ _ _ _
   | exact ih1 _ _ _ _ _
   | exact ih2 _ _ _ _ _
   | exact span_Cols.mono _ _
   | exact LeO.none _
   | refine LeO.ite ?_ ?_
   | refine LeO.bind ?_ (fun _ => ?_)
set_option maxHeartbeats 8000000 in
set_option maxRecDepth 100000 in
theorem copperplatelaw18_WideCol.calls (k : Nat) (A0 : Option Addr) (c0 : Nat) (l0 : List (S31)) (a1 : Int) (a2 : Int) (r : Bool) (w : World) (hr0 : Kd.C k31 w A0 l0.length l0) (hc0 : l0.length ≤ c0) (h : copperplatelaw18_WideCol.f k l0 a1 a2 = some r) (hT_ : r = true) :
  Calls Try.prog 8 #[.slice A0 l0.length c0, .int .i64 a1, .int .i64 a2] w fun e w' => e = .returned (.bool r) ∧ Below w.heap.size w w' := by
 have hu31 := Try.underlying31
 have HT_ := qM hT_
 clear hT_
 have HR0 := qM hr0
 have HC0 := qM hc0
 clear hr0 hc0
 have HB := qM (Below.refl w.heap.size w)
 have H : ((copperplatelaw18_awake.f).bind fun t243 => (if t243 = true then (if (l0.length : Int) > 300 then (copperplatelaw18_WideCol.j0 k l0 a1 a2 t243 true) else ((wide_Room.f l0 a1).bind fun t244 => (if t244 = true then (if a2 < 0 then (copperplatelaw18_WideCol.j0 k l0 a1 a2 t243 true) else (copperplatelaw18_WideCol.j0 k l0 a1 a2 t243 (decide (a2 ≥ (l0.length : Int))))) else (copperplatelaw18_WideCol.j0 k l0 a1 a2 t243 true)))) else (copperplatelaw18_WideCol.j0 k l0 a1 a2 t243 true))) = some r := h
 clear h
 replace H := Option.bind_eq_some_iff.mp H
 obtain ⟨t243, A40, H⟩ := H
 replace H : (if t243 = true then (if (l0.length : Int) > 300 then (copperplatelaw18_WideCol.j0 k l0 a1 a2 t243 true) else ((wide_Room.f l0 a1).bind fun t244 => (if t244 = true then (if a2 < 0 then (copperplatelaw18_WideCol.j0 k l0 a1 a2 t243 true) else (copperplatelaw18_WideCol.j0 k l0 a1 a2 t243 (decide (a2 ≥ (l0.length : Int))))) else (copperplatelaw18_WideCol.j0 k l0 a1 a2 t243 true)))) else (copperplatelaw18_WideCol.j0 k l0 a1 a2 t243 true)) = some r := H
 have A4 := qM A40
 clear A40
 have HC5 := qM H
 clear H
 go_enter Try.func8, Try.ntmps8
 go_upto_region 2 with (first | ((with_reducible refine gate_callee (f := 10) rfl ?_); refine goesL_ (some 14) rfl rfl Try.func10 (by kernel_rfl) rfl #[] rfl (by (try simp only [List.map_toArray, List.map_cons, List.map_nil]); first | done | rfl | (simp only [List.length_drop, List.length_take]; rfl)) ?_; (with_reducible refine (copperplatelaw18_awake.calls  t243 _ A4.out).mono ?_); (try clear A4); rintro e w6 ⟨rfl, hb⟩; refine ⟨_, rfl, ?_⟩; have n0_ := qM (below_step (by repeat (first | (with_reducible first | exact HB.out | apply qJ | apply qK | apply qL) | exact HB.out)) hb); clear HB; have HB := n0_; clear n0_; (try clear hb); (try clear hb2); (try clear hk); (try clear hi)))
 (try simp only [Act.put, qA, qB, qC])
 go_cut [37] (fun v37 wc => ∃ (kq : Nat) (x37_4 : Bool), v37 = .bool x37_4 ∧ Aside0 (copperplatelaw18_WideCol.j0 kq l0 a1 a2 t243 x37_4 = some r) ∧ Aside0 (kq ≤ k) ∧ Aside0 (Below w.heap.size w wc))
 case first =>
  have H := HC5.out
  clear HC5
  by_cases c7 : t243 = true
  ·subst c7
   have H1 : (if (l0.length : Int) > 300 then (copperplatelaw18_WideCol.j0 k l0 a1 a2 true true) else ((wide_Room.f l0 a1).bind fun t244 => (if t244 = true then (if a2 < 0 then (copperplatelaw18_WideCol.j0 k l0 a1 a2 true true) else (copperplatelaw18_WideCol.j0 k l0 a1 a2 true (decide (a2 ≥ (l0.length : Int))))) else (copperplatelaw18_WideCol.j0 k l0 a1 a2 true true)))) = some r := by rw [if_pos rfl] at H; exact H
   clear H
   have H := H1
   clear H1
   by_cases c8 : (l0.length : Int) > 300
   ·rw [if_pos c8] at H
    have c8b0 : decide (300 < (l0.length : Int)) = true := decide_eq_true c8
    have c8b1 : decide (300 < l0.length) = true := decide_eq_true (by omega)
    clear c8
    (first | rw [c8b0] | (simp only [i64_w, i32_w]; rw [c8b0]) | skip)
    have H' := qM H
    clear H
    go_wp2
    go_meet
    case rel => exact ⟨_, (true), (by first | rfl | (simp; done) | (simp [*]; done)), H', ⟨by first | omega | exact Nat.le_refl _⟩, ⟨by repeat (first | (with_reducible first | exact HB.out | apply qJ | apply qK | apply qL) | exact HB.out)⟩⟩
   ·rw [if_neg c8] at H
    have c8b0 : decide (300 < (l0.length : Int)) = false := decide_eq_false c8
    have c8b1 : decide (300 < l0.length) = false := decide_eq_false (by omega)
    clear c8
    (first | rw [c8b0] | (simp only [i64_w, i32_w]; rw [c8b0]) | skip)
    replace H := Option.bind_eq_some_iff.mp H
    obtain ⟨t244, A90, H⟩ := H
    replace H : (if t244 = true then (if a2 < 0 then (copperplatelaw18_WideCol.j0 k l0 a1 a2 true true) else (copperplatelaw18_WideCol.j0 k l0 a1 a2 true (decide (a2 ≥ (l0.length : Int))))) else (copperplatelaw18_WideCol.j0 k l0 a1 a2 true true)) = some r := H
    have A9 := qM A90
    clear A90
    by_cases c10 : t244 = true
    ·subst c10
     have H1 : (if a2 < 0 then (copperplatelaw18_WideCol.j0 k l0 a1 a2 true true) else (copperplatelaw18_WideCol.j0 k l0 a1 a2 true (decide (a2 ≥ (l0.length : Int))))) = some r := by rw [if_pos rfl] at H; exact H
     clear H
     have H := H1
     clear H1
     by_cases c11 : a2 < 0
     ·rw [if_pos c11] at H
      have c11b0 : decide (a2 < 0) = true := decide_eq_true c11
      clear c11
      have H' := qM H
      clear H
      go_wp2_with (first | (go_at_call 14; (with_reducible refine (wide_Room.calls _ _ l0 a1 true _ ?side1 ?side2 A9.out).mono ?_); (case side1 => repeat (first | exact (Kd.C_below HR0.out HB.out) | (with_reducible first | apply qO | apply qP | apply qQ))); (case side2 => exact HC0.out); (try clear A9); rintro e w12 ⟨rfl, hb⟩; have n0_ := qM (below_step (by repeat (first | (with_reducible first | exact HB.out | apply qJ | apply qK | apply qL) | exact HB.out)) hb); clear HB; have HB := n0_; clear n0_; (try clear hb); (try clear hb2); (try clear hk); (try clear hi)))
      go_meet
      case rel => exact ⟨_, (true), (by first | rfl | (simp; done) | (simp [*]; done)), H', ⟨by first | omega | exact Nat.le_refl _⟩, ⟨by repeat (first | (with_reducible first | exact HB.out | apply qJ | apply qK | apply qL) | exact HB.out)⟩⟩
     ·rw [if_neg c11] at H
      have c11b0 : decide (a2 < 0) = false := decide_eq_false c11
      clear c11
      have H' := qM H
      clear H
      go_wp2_with (first | (go_at_call 14; (with_reducible refine (wide_Room.calls _ _ l0 a1 true _ ?side1 ?side2 A9.out).mono ?_); (case side1 => repeat (first | exact (Kd.C_below HR0.out HB.out) | (with_reducible first | apply qO | apply qP | apply qQ))); (case side2 => exact HC0.out); (try clear A9); rintro e w13 ⟨rfl, hb⟩; have n0_ := qM (below_step (by repeat (first | (with_reducible first | exact HB.out | apply qJ | apply qK | apply qL) | exact HB.out)) hb); clear HB; have HB := n0_; clear n0_; (try clear hb); (try clear hb2); (try clear hk); (try clear hi)))
      go_meet
      case rel => exact ⟨_, (decide (a2 ≥ (l0.length : Int))), (by first | rfl | (simp; done) | (simp [*]; done)), H', ⟨by first | omega | exact Nat.le_refl _⟩, ⟨by repeat (first | (with_reducible first | exact HB.out | apply qJ | apply qK | apply qL) | exact HB.out)⟩⟩
    ·replace c10 := Bool.eq_false_iff.mpr c10
     subst c10
     have H1 : (copperplatelaw18_WideCol.j0 k l0 a1 a2 true true) = some r := by rw [if_neg (show ¬ (false = true) by decide)] at H; exact H
     clear H
     have H := H1
     clear H1
     have H' := qM H
     clear H
     go_wp2_with (first | (go_at_call 14; (with_reducible refine (wide_Room.calls _ _ l0 a1 false _ ?side1 ?side2 A9.out).mono ?_); (case side1 => repeat (first | exact (Kd.C_below HR0.out HB.out) | (with_reducible first | apply qO | apply qP | apply qQ))); (case side2 => exact HC0.out); (try clear A9); rintro e w14 ⟨rfl, hb⟩; have n0_ := qM (below_step (by repeat (first | (with_reducible first | exact HB.out | apply qJ | apply qK | apply qL) | exact HB.out)) hb); clear HB; have HB := n0_; clear n0_; (try clear hb); (try clear hb2); (try clear hk); (try clear hi)))
     go_meet
     case rel => exact ⟨_, (true), (by first | rfl | (simp; done) | (simp [*]; done)), H', ⟨by first | omega | exact Nat.le_refl _⟩, ⟨by repeat (first | (with_reducible first | exact HB.out | apply qJ | apply qK | apply qL) | exact HB.out)⟩⟩
  ·replace c7 := Bool.eq_false_iff.mpr c7
   subst c7
   have H1 : (copperplatelaw18_WideCol.j0 k l0 a1 a2 false true) = some r := by rw [if_neg (show ¬ (false = true) by decide)] at H; exact H
   clear H
   have H := H1
   clear H1
   have H' := qM H
   clear H
   go_wp2
   go_meet
   case rel => exact ⟨_, (true), (by first | rfl | (simp; done) | (simp [*]; done)), H', ⟨by first | omega | exact Nat.le_refl _⟩, ⟨by repeat (first | (with_reducible first | exact HB.out | apply qJ | apply qK | apply qL) | exact HB.out)⟩⟩
 case rest =>
  clear HC5
  try clear c1
  try clear p2
  try clear c7
  try clear c8
  try clear c8b0
  try clear c8b1
  try clear c10
  try clear c11
  try clear c11b0
  obtain ⟨kq, x37_4, rfl, HA, HJ4, HB⟩ := hcut
  cases kq with
  | zero => exact absurd HA.out (by simp [copperplatelaw18_WideCol.j0])
  | succ kj4 =>
   have H := HA.out
   clear HA
   simp only [copperplatelaw18_WideCol.j0] at H
   by_cases c15 : x37_4 = true
   ·subst c15
    have H1 : (if t243 = true then ((wide_Room.f l0 a1).bind fun t245 => (if t245 = true then (some true) else ((wide_Col.f l0 a1 0).bind fun t246 => (some (t246 == (-1)))))) else (some false)) = some r := by rw [if_pos rfl] at H; exact H
    clear H
    have H := H1
    clear H1
    by_cases c16 : t243 = true
    ·subst c16
     have H1 : ((wide_Room.f l0 a1).bind fun t245 => (if t245 = true then (some true) else ((wide_Col.f l0 a1 0).bind fun t246 => (some (t246 == (-1)))))) = some r := by rw [if_pos rfl] at H; exact H
     clear H
     have H := H1
     clear H1
     replace H := Option.bind_eq_some_iff.mp H
     obtain ⟨t245, A170, H⟩ := H
     replace H : (if t245 = true then (some true) else ((wide_Col.f l0 a1 0).bind fun t246 => (some (t246 == (-1))))) = some r := H
     have A17 := qM A170
     clear A170
     by_cases c18 : t245 = true
     ·subst c18
      have H1 : (some true) = some r := by rw [if_pos rfl] at H; exact H
      clear H
      have H := H1
      clear H1
      obtain rfl := Option.some.inj H
      go_wp2_with (first | (go_at_call 14; (with_reducible refine (wide_Room.calls _ _ l0 a1 true _ ?side1 ?side2 A17.out).mono ?_); (case side1 => repeat (first | exact (Kd.C_below HR0.out HB.out) | (with_reducible first | apply qO | apply qP | apply qQ))); (case side2 => exact HC0.out); (try clear A17); rintro e w19 ⟨rfl, hb⟩; have n0_ := qM (below_step (by repeat (first | (with_reducible first | exact HB.out | apply qJ | apply qK | apply qL) | exact HB.out)) hb); clear HB; have HB := n0_; clear n0_; (try clear hb); (try clear hb2); (try clear hk); (try clear hi)))
      go_ret
      exact ⟨by first | rfl | (simp [errW_none, errW_some] <;> rfl) | (simp [*, errW_none, errW_some] <;> rfl), by repeat (first | (with_reducible first | exact HB.out | apply qJ | apply qK | apply qL) | exact HB.out)⟩
     ·replace c18 := Bool.eq_false_iff.mpr c18
      subst c18
      have H1 : ((wide_Col.f l0 a1 0).bind fun t246 => (some (t246 == (-1)))) = some r := by rw [if_neg (show ¬ (false = true) by decide)] at H; exact H
      clear H
      have H := H1
      clear H1
      replace H := Option.bind_eq_some_iff.mp H
      obtain ⟨t246, A200, H⟩ := H
      replace H : (some (t246 == (-1))) = some r := H
      have A20 := qM A200
      clear A200
      obtain rfl := Option.some.inj H
      go_wp2_with (first | (go_at_call 14; (with_reducible refine (wide_Room.calls _ _ l0 a1 false _ ?side1 ?side2 A17.out).mono ?_); (case side1 => repeat (first | exact (Kd.C_below HR0.out HB.out) | (with_reducible first | apply qO | apply qP | apply qQ))); (case side2 => exact HC0.out); (try clear A17); rintro e w21 ⟨rfl, hb⟩; have n0_ := qM (below_step (by repeat (first | (with_reducible first | exact HB.out | apply qJ | apply qK | apply qL) | exact HB.out)) hb); clear HB; have HB := n0_; clear n0_; (try clear hb); (try clear hb2); (try clear hk); (try clear hi)) | (go_at_call 15; (with_reducible refine (wide_Col.calls _ _ l0 a1 0 t246 _ ?side1 ?side2 A20.out).mono ?_); (case side1 => repeat (first | exact (Kd.C_below HR0.out HB.out) | (with_reducible first | apply qO | apply qP | apply qQ))); (case side2 => exact HC0.out); (try clear A20); rintro e w22 ⟨rfl, hb⟩; have n0_ := qM (below_step (by repeat (first | (with_reducible first | exact HB.out | apply qJ | apply qK | apply qL) | exact HB.out)) hb); clear HB; have HB := n0_; clear n0_; (try clear hb); (try clear hb2); (try clear hk); (try clear hi)))
      go_ret
      exact ⟨by first | rfl | (simp [errW_none, errW_some] <;> rfl) | (simp [*, errW_none, errW_some] <;> rfl), by repeat (first | (with_reducible first | exact HB.out | apply qJ | apply qK | apply qL) | exact HB.out)⟩
    ·replace c16 := Bool.eq_false_iff.mpr c16
     subst c16
     have H1 : (some false) = some r := by rw [if_neg (show ¬ (false = true) by decide)] at H; exact H
     clear H
     have H := H1
     clear H1
     exact absurd H (by have h_ := HT_.out; subst h_; decide)
   ·replace c15 := Bool.eq_false_iff.mpr c15
    subst c15
    have H1 : ((wide_Col.f l0 a1 a2).bind fun t247 => ((wide_Col.f l0 a1 (wrap64 (a2 + 1))).bind fun t248 => ((wide_Col.f l0 a1 0).bind fun t249 => (if t249 = 0 then ((wide_Col.f l0 a1 (wrap64 ((l0.length : Int) + 1))).bind fun t250 => (if t250 = (-1) then (copperplatelaw18_WideCol.j1 kj4 l0 a2 t247 t248 (decide (t247 < 0))) else (copperplatelaw18_WideCol.j1 kj4 l0 a2 t247 t248 true))) else (copperplatelaw18_WideCol.j1 kj4 l0 a2 t247 t248 true))))) = some r := by rw [if_neg (show ¬ (false = true) by decide)] at H; exact H
    clear H
    have H := H1
    clear H1
    replace H := Option.bind_eq_some_iff.mp H
    obtain ⟨t247, A230, H⟩ := H
    replace H : ((wide_Col.f l0 a1 (wrap64 (a2 + 1))).bind fun t248 => ((wide_Col.f l0 a1 0).bind fun t249 => (if t249 = 0 then ((wide_Col.f l0 a1 (wrap64 ((l0.length : Int) + 1))).bind fun t250 => (if t250 = (-1) then (copperplatelaw18_WideCol.j1 kj4 l0 a2 t247 t248 (decide (t247 < 0))) else (copperplatelaw18_WideCol.j1 kj4 l0 a2 t247 t248 true))) else (copperplatelaw18_WideCol.j1 kj4 l0 a2 t247 t248 true)))) = some r := H
    have A23 := qM A230
    clear A230
    replace H := Option.bind_eq_some_iff.mp H
    obtain ⟨t248, A240, H⟩ := H
    replace H : ((wide_Col.f l0 a1 0).bind fun t249 => (if t249 = 0 then ((wide_Col.f l0 a1 (wrap64 ((l0.length : Int) + 1))).bind fun t250 => (if t250 = (-1) then (copperplatelaw18_WideCol.j1 kj4 l0 a2 t247 t248 (decide (t247 < 0))) else (copperplatelaw18_WideCol.j1 kj4 l0 a2 t247 t248 true))) else (copperplatelaw18_WideCol.j1 kj4 l0 a2 t247 t248 true))) = some r := H
    have A24 := qM A240
    clear A240
    have HC25 := qM H
    clear H
    go_upto_region 6 with (first | ((with_reducible refine gate_callee (f := 15) rfl ?_); refine goesL_ (some 53) rfl rfl Try.func15 (by kernel_rfl) rfl #[.slice A0 l0.length c0, .int .i64 a1, .int .i64 a2] rfl (by (try simp only [List.map_toArray, List.map_cons, List.map_nil]); first | done | rfl | (simp only [List.length_drop, List.length_take]; rfl)) ?_; (with_reducible refine (wide_Col.calls _ _ l0 a1 a2 t247 _ ?side1 ?side2 A23.out).mono ?_); (case side1 => repeat (first | exact (Kd.C_below HR0.out HB.out) | (with_reducible first | apply qO | apply qP | apply qQ))); (case side2 => exact HC0.out); (try clear A23); rintro e w26 ⟨rfl, hb⟩; refine ⟨_, rfl, ?_⟩; have n0_ := qM (below_step (by repeat (first | (with_reducible first | exact HB.out | apply qJ | apply qK | apply qL) | exact HB.out)) hb); clear HB; have HB := n0_; clear n0_; (try clear hb); (try clear hb2); (try clear hk); (try clear hi)) | ((with_reducible refine gate_callee (f := 15) rfl ?_); refine goesL_ (some 58) rfl rfl Try.func15 (by kernel_rfl) rfl #[.slice A0 l0.length c0, .int .i64 a1, .int .i64 (wrap64 (a2 + 1))] rfl (by (try simp only [List.map_toArray, List.map_cons, List.map_nil]); first | done | rfl | (simp only [List.length_drop, List.length_take]; rfl)) ?_; (with_reducible refine (wide_Col.calls _ _ l0 a1 (wrap64 (a2 + 1)) t248 _ ?side1 ?side2 A24.out).mono ?_); (case side1 => repeat (first | exact (Kd.C_below HR0.out HB.out) | (with_reducible first | apply qO | apply qP | apply qQ))); (case side2 => exact HC0.out); (try clear A24); rintro e w27 ⟨rfl, hb⟩; refine ⟨_, rfl, ?_⟩; have n0_ := qM (below_step (by repeat (first | (with_reducible first | exact HB.out | apply qJ | apply qK | apply qL) | exact HB.out)) hb); clear HB; have HB := n0_; clear n0_; (try clear hb); (try clear hb2); (try clear hk); (try clear hi)))
    (try simp only [Act.put, qA, qB, qC])
    go_cut [75] (fun v75 wc => ∃ (kq : Nat) (x75_24 : Bool), v75 = .bool x75_24 ∧ Aside0 (copperplatelaw18_WideCol.j1 kq l0 a2 t247 t248 x75_24 = some r) ∧ Aside0 (kq ≤ kj4) ∧ Aside0 (Below w.heap.size w wc))
    case first =>
     have H := HC25.out
     clear HC25
     replace H := Option.bind_eq_some_iff.mp H
     obtain ⟨t249, A280, H⟩ := H
     replace H : (if t249 = 0 then ((wide_Col.f l0 a1 (wrap64 ((l0.length : Int) + 1))).bind fun t250 => (if t250 = (-1) then (copperplatelaw18_WideCol.j1 kj4 l0 a2 t247 t248 (decide (t247 < 0))) else (copperplatelaw18_WideCol.j1 kj4 l0 a2 t247 t248 true))) else (copperplatelaw18_WideCol.j1 kj4 l0 a2 t247 t248 true)) = some r := H
     have A28 := qM A280
     clear A280
     by_cases c29 : t249 = 0
     ·rw [if_pos c29] at H
      have c29b0 : (t249 == 0) = true := beq_iff_eq.mpr c29
      have c29b1 : (t249 != 0) = false := bne_eq_false_iff_eq.mpr c29
      clear c29
      (first | rw [c29b0] | (simp only [i64_w, i32_w]; rw [c29b0]) | skip)
      replace H := Option.bind_eq_some_iff.mp H
      obtain ⟨t250, A300, H⟩ := H
      replace H : (if t250 = (-1) then (copperplatelaw18_WideCol.j1 kj4 l0 a2 t247 t248 (decide (t247 < 0))) else (copperplatelaw18_WideCol.j1 kj4 l0 a2 t247 t248 true)) = some r := H
      have A30 := qM A300
      clear A300
      by_cases c31 : t250 = (-1)
      ·rw [if_pos c31] at H
       have c31b0 : (t250 == (-1)) = true := beq_iff_eq.mpr c31
       have c31b1 : (t250 != (-1)) = false := bne_eq_false_iff_eq.mpr c31
       clear c31
       have H' := qM H
       clear H
       go_wp2_with (first | ((with_reducible refine gate_callee (f := 15) rfl ?_); refine goesL_ (some 61) rfl rfl Try.func15 (by kernel_rfl) rfl #[.slice A0 l0.length c0, .int .i64 a1, .int .i64 0] rfl (by (try simp only [List.map_toArray, List.map_cons, List.map_nil]); first | done | rfl | (simp only [List.length_drop, List.length_take]; rfl)) ?_; (with_reducible refine (wide_Col.calls _ _ l0 a1 0 t249 _ ?side1 ?side2 A28.out).mono ?_); (case side1 => repeat (first | exact (Kd.C_below HR0.out HB.out) | (with_reducible first | apply qO | apply qP | apply qQ))); (case side2 => exact HC0.out); (try clear A28); rintro e w32 ⟨rfl, hb⟩; refine ⟨_, rfl, ?_⟩; have n0_ := qM (below_step (by repeat (first | (with_reducible first | exact HB.out | apply qJ | apply qK | apply qL) | exact HB.out)) hb); clear HB; have HB := n0_; clear n0_; (try clear hb); (try clear hb2); (try clear hk); (try clear hi)) | (go_at_call 15; (with_reducible refine (wide_Col.calls _ _ l0 a1 (wrap64 ((l0.length : Int) + 1)) t250 _ ?side1 ?side2 A30.out).mono ?_); (case side1 => repeat (first | exact (Kd.C_below HR0.out HB.out) | (with_reducible first | apply qO | apply qP | apply qQ))); (case side2 => exact HC0.out); (try clear A30); rintro e w33 ⟨rfl, hb⟩; have n0_ := qM (below_step (by repeat (first | (with_reducible first | exact HB.out | apply qJ | apply qK | apply qL) | exact HB.out)) hb); clear HB; have HB := n0_; clear n0_; (try clear hb); (try clear hb2); (try clear hk); (try clear hi)))
       go_meet
       case rel => exact ⟨_, (decide (t247 < 0)), (by first | rfl | (simp; done) | (simp [*]; done)), H', ⟨by have := HJ4.out; first | omega | exact Nat.le_refl _⟩, ⟨by repeat (first | (with_reducible first | exact HB.out | apply qJ | apply qK | apply qL) | exact HB.out)⟩⟩
      ·rw [if_neg c31] at H
       have c31b0 : (t250 == (-1)) = false := beq_eq_false_iff_ne.mpr c31
       have c31b1 : (t250 != (-1)) = true := bne_iff_ne.mpr c31
       have H' := qM H
       clear H
       go_wp2_with (first | ((with_reducible refine gate_callee (f := 15) rfl ?_); refine goesL_ (some 61) rfl rfl Try.func15 (by kernel_rfl) rfl #[.slice A0 l0.length c0, .int .i64 a1, .int .i64 0] rfl (by (try simp only [List.map_toArray, List.map_cons, List.map_nil]); first | done | rfl | (simp only [List.length_drop, List.length_take]; rfl)) ?_; (with_reducible refine (wide_Col.calls _ _ l0 a1 0 t249 _ ?side1 ?side2 A28.out).mono ?_); (case side1 => repeat (first | exact (Kd.C_below HR0.out HB.out) | (with_reducible first | apply qO | apply qP | apply qQ))); (case side2 => exact HC0.out); (try clear A28); rintro e w34 ⟨rfl, hb⟩; refine ⟨_, rfl, ?_⟩; have n0_ := qM (below_step (by repeat (first | (with_reducible first | exact HB.out | apply qJ | apply qK | apply qL) | exact HB.out)) hb); clear HB; have HB := n0_; clear n0_; (try clear hb); (try clear hb2); (try clear hk); (try clear hi)) | (go_at_call 15; (with_reducible refine (wide_Col.calls _ _ l0 a1 (wrap64 ((l0.length : Int) + 1)) t250 _ ?side1 ?side2 A30.out).mono ?_); (case side1 => repeat (first | exact (Kd.C_below HR0.out HB.out) | (with_reducible first | apply qO | apply qP | apply qQ))); (case side2 => exact HC0.out); (try clear A30); rintro e w35 ⟨rfl, hb⟩; have n0_ := qM (below_step (by repeat (first | (with_reducible first | exact HB.out | apply qJ | apply qK | apply qL) | exact HB.out)) hb); clear HB; have HB := n0_; clear n0_; (try clear hb); (try clear hb2); (try clear hk); (try clear hi)))
       go_meet
       case rel => exact ⟨_, (true), (by first | rfl | (simp; done) | (simp [*]; done)), H', ⟨by have := HJ4.out; first | omega | exact Nat.le_refl _⟩, ⟨by repeat (first | (with_reducible first | exact HB.out | apply qJ | apply qK | apply qL) | exact HB.out)⟩⟩
     ·rw [if_neg c29] at H
      have c29b0 : (t249 == 0) = false := beq_eq_false_iff_ne.mpr c29
      have c29b1 : (t249 != 0) = true := bne_iff_ne.mpr c29
      (first | rw [c29b0] | (simp only [i64_w, i32_w]; rw [c29b0]) | skip)
      have H' := qM H
      clear H
      go_wp2_with (first | ((with_reducible refine gate_callee (f := 15) rfl ?_); refine goesL_ (some 61) rfl rfl Try.func15 (by kernel_rfl) rfl #[.slice A0 l0.length c0, .int .i64 a1, .int .i64 0] rfl (by (try simp only [List.map_toArray, List.map_cons, List.map_nil]); first | done | rfl | (simp only [List.length_drop, List.length_take]; rfl)) ?_; (with_reducible refine (wide_Col.calls _ _ l0 a1 0 t249 _ ?side1 ?side2 A28.out).mono ?_); (case side1 => repeat (first | exact (Kd.C_below HR0.out HB.out) | (with_reducible first | apply qO | apply qP | apply qQ))); (case side2 => exact HC0.out); (try clear A28); rintro e w36 ⟨rfl, hb⟩; refine ⟨_, rfl, ?_⟩; have n0_ := qM (below_step (by repeat (first | (with_reducible first | exact HB.out | apply qJ | apply qK | apply qL) | exact HB.out)) hb); clear HB; have HB := n0_; clear n0_; (try clear hb); (try clear hb2); (try clear hk); (try clear hi)))
      go_meet
      case rel => exact ⟨_, (true), (by first | rfl | (simp; done) | (simp [*]; done)), H', ⟨by have := HJ4.out; first | omega | exact Nat.le_refl _⟩, ⟨by repeat (first | (with_reducible first | exact HB.out | apply qJ | apply qK | apply qL) | exact HB.out)⟩⟩
    case rest =>
     clear HC25
     try clear c1
     try clear c2
     try clear p2
     try clear c3
     try clear p6
     try clear c7
     try clear c8
     try clear c8b0
     try clear c8b1
     try clear c10
     try clear c11
     try clear c11b0
     try clear c15
     try clear c16
     try clear c18
     try clear c29
     try clear c29b0
     try clear c29b1
     try clear c31
     try clear c31b0
     try clear c31b1
     try clear p2
     obtain ⟨kq, x75_24, rfl, HA, HJ24, HB⟩ := hcut
     cases kq with
     | zero => exact absurd HA.out (by simp [copperplatelaw18_WideCol.j1])
     | succ kj24 =>
      have H := HA.out
      clear HA
      simp only [copperplatelaw18_WideCol.j1] at H
      by_cases c37 : x75_24 = true
      ·subst c37
       have H1 : (some false) = some r := by rw [if_pos rfl] at H; exact H
       clear H
       have H := H1
       clear H1
       exact absurd H (by have h_ := HT_.out; subst h_; decide)
      ·replace c37 := Bool.eq_false_iff.mpr c37
       subst c37
       have H1 : (if 0 ≤ a2 then (if a2 < (l0.length : Int) then (if ((rd_T31 l0 a2).f0) = 0 then (copperplatelaw18_WideCol.j2 kj24 l0 a2 t247 t248 true) else (copperplatelaw18_WideCol.j2 kj24 l0 a2 t247 t248 (((rd_T31 l0 a2).f0) == 1))) else (none)) else (none)) = some r := by rw [if_neg (show ¬ (false = true) by decide)] at H; exact H
       clear H
       have H := H1
       clear H1
       have HC38 := qM H
       clear H
       go_upto_region 8 with (fail)
       go_cut [89] (fun v89 wc => ∃ (kq : Nat) (x89_37 : Bool), v89 = .bool x89_37 ∧ Aside0 (copperplatelaw18_WideCol.j2 kq l0 a2 t247 t248 x89_37 = some r) ∧ Aside0 (kq ≤ kj24) ∧ Aside0 (Below w.heap.size w wc))
       case first =>
        have H := HC38.out
        clear HC38
        by_cases c39 : 0 ≤ a2
        ·rw [if_pos c39] at H
         have c39b0 : decide (0 ≤ a2) = true := decide_eq_true c39
         clear c39
         (first | rw [c39b0] | (simp only [i64_w, i32_w]; rw [c39b0]) | skip)
         by_cases c40 : a2 < (l0.length : Int)
         ·rw [if_pos c40] at H
          have c40b0 : decide (a2 < (l0.length : Int)) = true := decide_eq_true c40
          clear c40
          by_cases c41 : ((rd_T31 l0 a2).f0) = 0
          ·rw [if_pos c41] at H
           have c41b0 : (((rd_T31 l0 a2).f0) == 0) = true := beq_iff_eq.mpr c41
           have c41b1 : (((rd_T31 l0 a2).f0) != 0) = false := bne_eq_false_iff_eq.mpr c41
           clear c41
           have H' := qM H
           clear H
           have p251 : 0 ≤ (a2 : Int) := qN (by assumption)
           have q251 : a2 < (l0.length : Int) := qN (by assumption)
           obtain ⟨ad251, e251, hx251_0, hx251_1⟩ := at_T31 HR0.out a2 p251 q251
           cases e251
           replace hx251_0 := (HB.out.cell (World.block_lt_of_cell? w _ hx251_0)).trans hx251_0
           replace hx251_1 := (HB.out.cell (World.block_lt_of_cell? w _ hx251_1)).trans hx251_1
           replace p251 := eq_true p251
           replace q251 := eq_true q251
           go_wp2
           go_meet
           case rel => exact ⟨_, (true), (by first | rfl | (simp; done) | (simp [*]; done)), H', ⟨by have := HJ4.out; have := HJ24.out; first | omega | exact Nat.le_refl _⟩, ⟨by repeat (first | (with_reducible first | exact HB.out | apply qJ | apply qK | apply qL) | exact HB.out)⟩⟩
          ·rw [if_neg c41] at H
           have c41b0 : (((rd_T31 l0 a2).f0) == 0) = false := beq_eq_false_iff_ne.mpr c41
           have c41b1 : (((rd_T31 l0 a2).f0) != 0) = true := bne_iff_ne.mpr c41
           have H' := qM H
           clear H
           have p251 : 0 ≤ (a2 : Int) := qN (by assumption)
           have q251 : a2 < (l0.length : Int) := qN (by assumption)
           obtain ⟨ad251, e251, hx251_0, hx251_1⟩ := at_T31 HR0.out a2 p251 q251
           cases e251
           replace hx251_0 := (HB.out.cell (World.block_lt_of_cell? w _ hx251_0)).trans hx251_0
           replace hx251_1 := (HB.out.cell (World.block_lt_of_cell? w _ hx251_1)).trans hx251_1
           replace p251 := eq_true p251
           replace q251 := eq_true q251
           have p252 : 0 ≤ (a2 : Int) := qN (by assumption)
           have q252 : a2 < (l0.length : Int) := qN (by assumption)
           obtain ⟨ad252, e252, hx252_0, hx252_1⟩ := at_T31 HR0.out a2 p252 q252
           obtain rfl : ad251 = ad252 := (by injection e252)
           replace hx252_0 := (HB.out.cell (World.block_lt_of_cell? w _ hx252_0)).trans hx252_0
           replace hx252_1 := (HB.out.cell (World.block_lt_of_cell? w _ hx252_1)).trans hx252_1
           replace p252 := eq_true p252
           replace q252 := eq_true q252
           go_wp2
           go_meet
           case rel => exact ⟨_, ((((rd_T31 l0 a2).f0) == 1)), (by first | rfl | (simp; done) | (simp [*]; done)), H', ⟨by have := HJ4.out; have := HJ24.out; first | omega | exact Nat.le_refl _⟩, ⟨by repeat (first | (with_reducible first | exact HB.out | apply qJ | apply qK | apply qL) | exact HB.out)⟩⟩
         ·rw [if_neg c40] at H
          exact absurd H (by simp)
        ·rw [if_neg c39] at H
         exact absurd H (by simp)
       case rest =>
        clear HC38
        try clear c1
        try clear c2
        try clear p2
        try clear q2
        try clear hx2
        try clear c3
        try clear c4
        try clear p6
        try clear c7
        try clear c8
        try clear c8b0
        try clear c8b1
        try clear c10
        try clear c11
        try clear c11b0
        try clear c15
        try clear c16
        try clear c18
        try clear p25
        try clear q25
        try clear hx25
        try clear c29
        try clear c29b0
        try clear c29b1
        try clear c31
        try clear c31b0
        try clear c31b1
        try clear c37
        try clear c39
        try clear c39b0
        try clear c40
        try clear c40b0
        try clear c41
        try clear c41b0
        try clear c41b1
        try clear hx251_0
        try clear hx251_1
        try clear hx252_0
        try clear hx252_1
        try clear p2
        try clear p251
        try clear p252
        try clear p6
        try clear q251
        try clear q252
        obtain ⟨kq, x89_37, rfl, HA, HJ37, HB⟩ := hcut
        cases kq with
        | zero => exact absurd HA.out (by simp [copperplatelaw18_WideCol.j2])
        | succ kj37 =>
         have H := HA.out
         clear HA
         simp only [copperplatelaw18_WideCol.j2] at H
         by_cases c42 : x89_37 = true
         ·subst c42
          have H1 : (if 0 ≤ a2 then (if a2 < (l0.length : Int) then ((span_Flat.f ((rd_T31 l0 a2).f0) ((rd_T31 l0 a2).f1)).bind fun bt254 => ((span_Cols.f kj37 bt254.1).bind fun t256 => (some (t248 == (wrap64 (t247 + t256)))))) else (none)) else (none)) = some r := by rw [if_pos rfl] at H; exact H
          clear H
          have H := H1
          clear H1
          by_cases c43 : 0 ≤ a2
          ·rw [if_pos c43] at H
           have c43b0 : decide (0 ≤ a2) = true := decide_eq_true c43
           clear c43
           by_cases c44 : a2 < (l0.length : Int)
           ·rw [if_pos c44] at H
            have c44b0 : decide (a2 < (l0.length : Int)) = true := decide_eq_true c44
            clear c44
            replace H := Option.bind_eq_some_iff.mp H
            obtain ⟨⟨t254, t255⟩, A450, H⟩ := H
            replace H : ((span_Cols.f kj37 t254).bind fun t256 => (some (t248 == (wrap64 (t247 + t256))))) = some r := H
            have A45 := qM A450
            clear A450
            replace H := Option.bind_eq_some_iff.mp H
            obtain ⟨t256, A460, H⟩ := H
            replace H : (some (t248 == (wrap64 (t247 + t256)))) = some r := H
            have A46 := qM A460
            clear A460
            obtain rfl := Option.some.inj H
            have p253 : 0 ≤ (a2 : Int) := qN (by assumption)
            have q253 : a2 < (l0.length : Int) := qN (by assumption)
            obtain ⟨ad253, e253, hx253_0, hx253_1⟩ := at_T31 HR0.out a2 p253 q253
            cases e253
            replace hx253_0 := (HB.out.cell (World.block_lt_of_cell? w _ hx253_0)).trans hx253_0
            replace hx253_1 := (HB.out.cell (World.block_lt_of_cell? w _ hx253_1)).trans hx253_1
            replace p253 := eq_true p253
            replace q253 := eq_true q253
            go_wp2_with (first | ((with_reducible refine gate_callee (f := 17) rfl ?_); refine goesL_ (some 95) rfl rfl Try.func17 (by kernel_rfl) rfl #[.agg #[.int .i64 ((rd_T31 l0 a2).f0), .string ((rd_T31 l0 a2).f1)]] rfl (by (try simp only [List.map_toArray, List.map_cons, List.map_nil]); first | done | rfl | (simp only [List.length_drop, List.length_take]; rfl)) ?_; (with_reducible refine (span_Flat.calls ((rd_T31 l0 a2).f0) ((rd_T31 l0 a2).f1) t254 t255 _ A45.out).mono ?_); (try clear A45); rintro e w47 ⟨rfl, hb⟩; refine ⟨_, rfl, ?_⟩; have n0_ := qM (below_step (by repeat (first | (with_reducible first | exact HB.out | apply qJ | apply qK | apply qL) | exact HB.out)) hb); clear HB; have HB := n0_; clear n0_; (try clear hb); (try clear hb2); (try clear hk); (try clear hi)) | ((with_reducible refine gate_callee (f := 18) rfl ?_); refine goesL_ (some 101) rfl rfl Try.func18 (by kernel_rfl) rfl #[.string t254] rfl (by (try simp only [List.map_toArray, List.map_cons, List.map_nil]); first | done | rfl | (simp only [List.length_drop, List.length_take]; rfl)) ?_; (with_reducible refine (span_Cols.calls kj37 t254 t256 _ A46.out).mono ?_); (try clear A46); rintro e w48 ⟨rfl, hb⟩; refine ⟨_, rfl, ?_⟩; have n0_ := qM (below_step (by repeat (first | (with_reducible first | exact HB.out | apply qJ | apply qK | apply qL) | exact HB.out)) hb); clear HB; have HB := n0_; clear n0_; (try clear hb); (try clear hb2); (try clear hk); (try clear hi)))
            go_ret
            exact ⟨by first | rfl | (simp [errW_none, errW_some] <;> rfl) | (simp [*, errW_none, errW_some] <;> rfl), by repeat (first | (with_reducible first | exact HB.out | apply qJ | apply qK | apply qL) | exact HB.out)⟩
           ·rw [if_neg c44] at H
            exact absurd H (by simp)
          ·rw [if_neg c43] at H
           exact absurd H (by simp)
         ·replace c42 := Bool.eq_false_iff.mpr c42
          subst c42
          have H1 : (if 0 ≤ a2 then (if a2 < (l0.length : Int) then (if ((rd_T31 l0 a2).f0) = 5 then (some ((Int.tmod t248 2) == 0)) else ((span_Flat.f ((rd_T31 l0 a2).f0) ((rd_T31 l0 a2).f1)).bind fun bt259 => (if t248 = t247 then (some true) else (if (Int.tmod t248 2) = 0 then (some true) else ((span_Cols.f kj37 bt259.1).bind fun t261 => (some (t248 == (wrap64 (t247 + t261))))))))) else (none)) else (none)) = some r := by rw [if_neg (show ¬ (false = true) by decide)] at H; exact H
          clear H
          have H := H1
          clear H1
          by_cases c49 : 0 ≤ a2
          ·rw [if_pos c49] at H
           have c49b0 : decide (0 ≤ a2) = true := decide_eq_true c49
           clear c49
           by_cases c50 : a2 < (l0.length : Int)
           ·rw [if_pos c50] at H
            have c50b0 : decide (a2 < (l0.length : Int)) = true := decide_eq_true c50
            clear c50
            by_cases c51 : ((rd_T31 l0 a2).f0) = 5
            ·rw [if_pos c51] at H
             have c51b0 : (((rd_T31 l0 a2).f0) == 5) = true := beq_iff_eq.mpr c51
             have c51b1 : (((rd_T31 l0 a2).f0) != 5) = false := bne_eq_false_iff_eq.mpr c51
             clear c51
             obtain rfl := Option.some.inj H
             have p257 : 0 ≤ (a2 : Int) := qN (by assumption)
             have q257 : a2 < (l0.length : Int) := qN (by assumption)
             obtain ⟨ad257, e257, hx257_0, hx257_1⟩ := at_T31 HR0.out a2 p257 q257
             cases e257
             replace hx257_0 := (HB.out.cell (World.block_lt_of_cell? w _ hx257_0)).trans hx257_0
             replace hx257_1 := (HB.out.cell (World.block_lt_of_cell? w _ hx257_1)).trans hx257_1
             replace p257 := eq_true p257
             replace q257 := eq_true q257
             go_wp2
             go_ret
             exact ⟨by first | rfl | (simp [errW_none, errW_some] <;> rfl) | (simp [*, errW_none, errW_some] <;> rfl), by repeat (first | (with_reducible first | exact HB.out | apply qJ | apply qK | apply qL) | exact HB.out)⟩
            ·rw [if_neg c51] at H
             have c51b0 : (((rd_T31 l0 a2).f0) == 5) = false := beq_eq_false_iff_ne.mpr c51
             have c51b1 : (((rd_T31 l0 a2).f0) != 5) = true := bne_iff_ne.mpr c51
             replace H := Option.bind_eq_some_iff.mp H
             obtain ⟨⟨t259, t260⟩, A520, H⟩ := H
             replace H : (if t248 = t247 then (some true) else (if (Int.tmod t248 2) = 0 then (some true) else ((span_Cols.f kj37 t259).bind fun t261 => (some (t248 == (wrap64 (t247 + t261))))))) = some r := H
             have A52 := qM A520
             clear A520
             by_cases c53 : t248 = t247
             ·rw [if_pos c53] at H
              have c53b0 : (t248 == t247) = true := beq_iff_eq.mpr c53
              have c53b1 : (t248 != t247) = false := bne_eq_false_iff_eq.mpr c53
              clear c53
              obtain rfl := Option.some.inj H
              have p257 : 0 ≤ (a2 : Int) := qN (by assumption)
              have q257 : a2 < (l0.length : Int) := qN (by assumption)
              obtain ⟨ad257, e257, hx257_0, hx257_1⟩ := at_T31 HR0.out a2 p257 q257
              cases e257
              replace hx257_0 := (HB.out.cell (World.block_lt_of_cell? w _ hx257_0)).trans hx257_0
              replace hx257_1 := (HB.out.cell (World.block_lt_of_cell? w _ hx257_1)).trans hx257_1
              replace p257 := eq_true p257
              replace q257 := eq_true q257
              have p258 : 0 ≤ (a2 : Int) := qN (by assumption)
              have q258 : a2 < (l0.length : Int) := qN (by assumption)
              obtain ⟨ad258, e258, hx258_0, hx258_1⟩ := at_T31 HR0.out a2 p258 q258
              obtain rfl : ad257 = ad258 := (by injection e258)
              replace hx258_0 := (HB.out.cell (World.block_lt_of_cell? w _ hx258_0)).trans hx258_0
              replace hx258_1 := (HB.out.cell (World.block_lt_of_cell? w _ hx258_1)).trans hx258_1
              replace p258 := eq_true p258
              replace q258 := eq_true q258
              go_wp2_with (first | ((with_reducible refine gate_callee (f := 17) rfl ?_); refine goesL_ (some 118) rfl rfl Try.func17 (by kernel_rfl) rfl #[.agg #[.int .i64 ((rd_T31 l0 a2).f0), .string ((rd_T31 l0 a2).f1)]] rfl (by (try simp only [List.map_toArray, List.map_cons, List.map_nil]); first | done | rfl | (simp only [List.length_drop, List.length_take]; rfl)) ?_; (with_reducible refine (span_Flat.calls ((rd_T31 l0 a2).f0) ((rd_T31 l0 a2).f1) t259 t260 _ A52.out).mono ?_); (try clear A52); rintro e w54 ⟨rfl, hb⟩; refine ⟨_, rfl, ?_⟩; have n0_ := qM (below_step (by repeat (first | (with_reducible first | exact HB.out | apply qJ | apply qK | apply qL) | exact HB.out)) hb); clear HB; have HB := n0_; clear n0_; (try clear hb); (try clear hb2); (try clear hk); (try clear hi)))
              go_ret
              exact ⟨by first | rfl | (simp [errW_none, errW_some] <;> rfl) | (simp [*, errW_none, errW_some] <;> rfl), by repeat (first | (with_reducible first | exact HB.out | apply qJ | apply qK | apply qL) | exact HB.out)⟩
             ·rw [if_neg c53] at H
              have c53b0 : (t248 == t247) = false := beq_eq_false_iff_ne.mpr c53
              have c53b1 : (t248 != t247) = true := bne_iff_ne.mpr c53
              by_cases c55 : (Int.tmod t248 2) = 0
              ·rw [if_pos c55] at H
               have c55b0 : ((Int.tmod t248 2) == 0) = true := beq_iff_eq.mpr c55
               have c55b1 : ((Int.tmod t248 2) != 0) = false := bne_eq_false_iff_eq.mpr c55
               clear c55
               obtain rfl := Option.some.inj H
               have p257 : 0 ≤ (a2 : Int) := qN (by assumption)
               have q257 : a2 < (l0.length : Int) := qN (by assumption)
               obtain ⟨ad257, e257, hx257_0, hx257_1⟩ := at_T31 HR0.out a2 p257 q257
               cases e257
               replace hx257_0 := (HB.out.cell (World.block_lt_of_cell? w _ hx257_0)).trans hx257_0
               replace hx257_1 := (HB.out.cell (World.block_lt_of_cell? w _ hx257_1)).trans hx257_1
               replace p257 := eq_true p257
               replace q257 := eq_true q257
               have p258 : 0 ≤ (a2 : Int) := qN (by assumption)
               have q258 : a2 < (l0.length : Int) := qN (by assumption)
               obtain ⟨ad258, e258, hx258_0, hx258_1⟩ := at_T31 HR0.out a2 p258 q258
               obtain rfl : ad257 = ad258 := (by injection e258)
               replace hx258_0 := (HB.out.cell (World.block_lt_of_cell? w _ hx258_0)).trans hx258_0
               replace hx258_1 := (HB.out.cell (World.block_lt_of_cell? w _ hx258_1)).trans hx258_1
               replace p258 := eq_true p258
               replace q258 := eq_true q258
               go_wp2_with (first | ((with_reducible refine gate_callee (f := 17) rfl ?_); refine goesL_ (some 118) rfl rfl Try.func17 (by kernel_rfl) rfl #[.agg #[.int .i64 ((rd_T31 l0 a2).f0), .string ((rd_T31 l0 a2).f1)]] rfl (by (try simp only [List.map_toArray, List.map_cons, List.map_nil]); first | done | rfl | (simp only [List.length_drop, List.length_take]; rfl)) ?_; (with_reducible refine (span_Flat.calls ((rd_T31 l0 a2).f0) ((rd_T31 l0 a2).f1) t259 t260 _ A52.out).mono ?_); (try clear A52); rintro e w56 ⟨rfl, hb⟩; refine ⟨_, rfl, ?_⟩; have n0_ := qM (below_step (by repeat (first | (with_reducible first | exact HB.out | apply qJ | apply qK | apply qL) | exact HB.out)) hb); clear HB; have HB := n0_; clear n0_; (try clear hb); (try clear hb2); (try clear hk); (try clear hi)))
               go_ret
               exact ⟨by first | rfl | (simp [errW_none, errW_some] <;> rfl) | (simp [*, errW_none, errW_some] <;> rfl), by repeat (first | (with_reducible first | exact HB.out | apply qJ | apply qK | apply qL) | exact HB.out)⟩
              ·rw [if_neg c55] at H
               have c55b0 : ((Int.tmod t248 2) == 0) = false := beq_eq_false_iff_ne.mpr c55
               have c55b1 : ((Int.tmod t248 2) != 0) = true := bne_iff_ne.mpr c55
               replace H := Option.bind_eq_some_iff.mp H
               obtain ⟨t261, A570, H⟩ := H
               replace H : (some (t248 == (wrap64 (t247 + t261)))) = some r := H
               have A57 := qM A570
               clear A570
               obtain rfl := Option.some.inj H
               have p257 : 0 ≤ (a2 : Int) := qN (by assumption)
               have q257 : a2 < (l0.length : Int) := qN (by assumption)
               obtain ⟨ad257, e257, hx257_0, hx257_1⟩ := at_T31 HR0.out a2 p257 q257
               cases e257
               replace hx257_0 := (HB.out.cell (World.block_lt_of_cell? w _ hx257_0)).trans hx257_0
               replace hx257_1 := (HB.out.cell (World.block_lt_of_cell? w _ hx257_1)).trans hx257_1
               replace p257 := eq_true p257
               replace q257 := eq_true q257
               have p258 : 0 ≤ (a2 : Int) := qN (by assumption)
               have q258 : a2 < (l0.length : Int) := qN (by assumption)
               obtain ⟨ad258, e258, hx258_0, hx258_1⟩ := at_T31 HR0.out a2 p258 q258
               obtain rfl : ad257 = ad258 := (by injection e258)
               replace hx258_0 := (HB.out.cell (World.block_lt_of_cell? w _ hx258_0)).trans hx258_0
               replace hx258_1 := (HB.out.cell (World.block_lt_of_cell? w _ hx258_1)).trans hx258_1
               replace p258 := eq_true p258
               replace q258 := eq_true q258
               go_wp2_with (first | ((with_reducible refine gate_callee (f := 17) rfl ?_); refine goesL_ (some 118) rfl rfl Try.func17 (by kernel_rfl) rfl #[.agg #[.int .i64 ((rd_T31 l0 a2).f0), .string ((rd_T31 l0 a2).f1)]] rfl (by (try simp only [List.map_toArray, List.map_cons, List.map_nil]); first | done | rfl | (simp only [List.length_drop, List.length_take]; rfl)) ?_; (with_reducible refine (span_Flat.calls ((rd_T31 l0 a2).f0) ((rd_T31 l0 a2).f1) t259 t260 _ A52.out).mono ?_); (try clear A52); rintro e w58 ⟨rfl, hb⟩; refine ⟨_, rfl, ?_⟩; have n0_ := qM (below_step (by repeat (first | (with_reducible first | exact HB.out | apply qJ | apply qK | apply qL) | exact HB.out)) hb); clear HB; have HB := n0_; clear n0_; (try clear hb); (try clear hb2); (try clear hk); (try clear hi)) | (go_at_call 18; (with_reducible refine (span_Cols.calls kj37 t259 t261 _ A57.out).mono ?_); (try clear A57); rintro e w59 ⟨rfl, hb⟩; have n0_ := qM (below_step (by repeat (first | (with_reducible first | exact HB.out | apply qJ | apply qK | apply qL) | exact HB.out)) hb); clear HB; have HB := n0_; clear n0_; (try clear hb); (try clear hb2); (try clear hk); (try clear hi)))
               go_ret
               exact ⟨by first | rfl | (simp [errW_none, errW_some] <;> rfl) | (simp [*, errW_none, errW_some] <;> rfl), by repeat (first | (with_reducible first | exact HB.out | apply qJ | apply qK | apply qL) | exact HB.out)⟩
           ·rw [if_neg c50] at H
            exact absurd H (by simp)
          ·rw [if_neg c49] at H
           exact absurd H (by simp)

/-- The pure statement of copperplatelaw18_WideCol. -/
def copperplatelaw18_WideCol.Pure : Prop := ∀ (l0 : List (S31)) (a1 : Int) (a2 : Int), l0.length * 24 ≤ 140737488351232 → (∀ x ∈ l0, (Lit.int .i64 x.f0).wf = true ∧ x.f1.size ≤ 140737488351232) → (Lit.int .i64 a1).wf = true → (Lit.int .i64 a2).wf = true → ∃ k, copperplatelaw18_WideCol.f k l0 a1 a2 = some true
def copperplatelaw18_WideCol.PureUp : Prop := ∀ (l0 : List (S31)) (a1 : Int) (a2 : Int), l0.length * 24 ≤ 140737488351232 → (∀ x ∈ l0, (Lit.int .i64 x.f0).wf = true ∧ x.f1.size ≤ 140737488351232) → (Lit.int .i64 a1).wf = true → (Lit.int .i64 a2).wf = true → (l0.map fun x => x.f1.size).sum ≤ 1048576 → ∃ k, copperplatelaw18_WideCol.f k l0 a1 a2 = some true

end Go.Proofs.Ytipjfdamkpgecaa.PWide
