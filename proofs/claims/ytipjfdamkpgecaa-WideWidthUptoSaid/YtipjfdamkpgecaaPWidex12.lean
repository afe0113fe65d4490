-- Written by a program of the session (drive.py, over the kit's print.py with contracts by hand). Not trusted: Lean checks it.
import Derived.Test.YtipjfdamkpgecaaPWidex0
import Derived.Test.YtipjfdamkpgecaaPWidex2
import Derived.Test.YtipjfdamkpgecaaPWidex6
import Derived.Test.YtipjfdamkpgecaaPWidex10
import Derived.Test.YtipjfdamkpgecaaHWideFlat
import Derived.Test.YtipjfdamkpgecaaHWideWideA
namespace Go.Proofs.Ytipjfdamkpgecaa.PWide
open Go.RowKit Go.Proofs.YtipjfdamkpgecaaW.PrintWords Go.Proofs.YtipjfdamkpgecaaW.PrintLast Go.Proofs.YtipjfdamkpgecaaW.PrintMore
attribute [local go_sem] max2_int min2_int max_two min_two max_three min_three max_four min_four   -- for this text's walks alone
set_option linter.unusedVariables false
set_option linter.unusedSimpArgs false

/-! ### copperplatelaw18_WideFits: function 4 -/
mutual
def copperplatelaw18_WideFits.j0 : Nat → List (S31) → Int → Bool → Bool → Option (Bool)
 | 0, _, _, _, _ => none
 | k + 1, x0, x1, x5, x30 => if x30 = true then (some x5) else (copperplatelaw18_WideFits.l0 k x0 x1 (⟨#[]⟩ : ByteArray) 0 true 0)
def copperplatelaw18_WideFits.l0 : Nat → List (S31) → Int → ByteArray → Int → Bool → Int → Option (Bool)
 | 0, _, _, _, _, _, _ => none
 | k + 1, x0, x1, x6, x7, x8, x9 => if x9 < (x0.length : Int) then (if 0 ≤ x9 then ((span_Flat.f ((rd_T31 x0 x9).f0) ((rd_T31 x0 x9).f1)).bind fun bt197 => (if x6.size + bt197.1.size ≤ 9223372036854775807 then ((span_Cols.f k bt197.1).bind fun t199 => (if x8 = true then (copperplatelaw18_WideFits.l0 k x0 x1 (x6 ++ bt197.1) (wrap64 (x7 + t199)) bt197.2 (wrap64 (x9 + 1))) else (copperplatelaw18_WideFits.l0 k x0 x1 (x6 ++ bt197.1) (wrap64 (x7 + t199)) false (wrap64 (x9 + 1))))) else (none))) else (none)) else ((some (([(⟨6, (⟨#[]⟩ : ByteArray)⟩ : S31)] : List (S31)) : List (S31))).bind fun y200 => (if y200.length + x0.length < 5864062014805 then ((some (y200 ++ x0 : List (S31))).bind fun y203 => (if y203.length < 5864062014805 then ((wide_Lay.f (y203 ++ [(⟨7, (⟨#[]⟩ : ByteArray)⟩ : S31)]) x1).bind fun bt209 => (copperplatelaw18_WideFits.l1 k x1 x6 x7 x8 bt209.1 bt209.2 0 0)) else (none))) else (none)))
def copperplatelaw18_WideFits.l1 : Nat → Int → ByteArray → Int → Bool → ByteArray → Bool → Int → Int → Option (Bool)
 | 0, _, _, _, _, _, _, _, _ => none
 | k + 1, x1, x6, x7, x8, x13, x14, x15, x16 => if x16 < (x13.size : Int) then (if 0 ≤ x16 then (if (bt x13 x16) = 10 then (copperplatelaw18_WideFits.l1 k x1 x6 x7 x8 x13 x14 (wrap64 (x15 + 1)) (wrap64 (x16 + 1))) else (copperplatelaw18_WideFits.l1 k x1 x6 x7 x8 x13 x14 x15 (wrap64 (x16 + 1)))) else (none)) else (if x8 = true then (if x7 ≤ x1 then (if x14 = true then (some (x13.toList == x6.toList)) else (some false)) else (if x14 = true then (some true) else (some false))) else (if x14 = true then (some (decide (x15 > 0))) else (some false)))
end
def copperplatelaw18_WideFits.f (k : Nat) (l0 : List (S31)) (a1 : Int) : Option (Bool) := (copperplatelaw18_awake.f).bind fun t194 => (if t194 = true then (if (l0.length : Int) > 300 then (copperplatelaw18_WideFits.j0 k l0 a1 t194 true) else ((wide_Room.f l0 a1).bind fun t195 => (copperplatelaw18_WideFits.j0 k l0 a1 t194 (!t195)))) else (copperplatelaw18_WideFits.j0 k l0 a1 t194 true))
theorem copperplatelaw18_WideFits.mono_l : ∀ k, (∀ y0 y1 y2 y3, LeO (copperplatelaw18_WideFits.j0 k y0 y1 y2 y3) (copperplatelaw18_WideFits.j0 (k + 1) y0 y1 y2 y3)) ∧ (∀ y0 y1 y2 y3 y4 y5, LeO (copperplatelaw18_WideFits.l0 k y0 y1 y2 y3 y4 y5) (copperplatelaw18_WideFits.l0 (k + 1) y0 y1 y2 y3 y4 y5)) ∧ (∀ y0 y1 y2 y3 y4 y5 y6 y7, LeO (copperplatelaw18_WideFits.l1 k y0 y1 y2 y3 y4 y5 y6 y7) (copperplatelaw18_WideFits.l1 (k + 1) y0 y1 y2 y3 y4 y5 y6 y7))
 | 0 => ⟨fun _ _ _ _ r h => by simp [copperplatelaw18_WideFits.j0] at h, fun _ _ _ _ _ _ r h => by simp [copperplatelaw18_WideFits.l0] at h, fun _ _ _ _ _ _ _ _ r h => by simp [copperplatelaw18_WideFits.l1] at h⟩
 | k + 1 => by
  obtain ⟨ih0, ih1, ih2⟩ := copperplatelaw18_WideFits.mono_l k
  refine ⟨?_, ?_, ?_⟩
  ·intro y0 y1 y2 y3
   unfold copperplatelaw18_WideFits.j0
   repeat' first
   | (with_reducible exact ih0 _ _ _ _)
   | (with_reducible exact ih1 _ _ _ _ _ _)
   | (with_reducible exact ih2 _ _ _ _ _ _ _ _)
   | (with_reducible exact span_Cols.mono _ _)
   | (with_reducible exact LeO.refl _)
   | (with_reducible exact LeO.none _)
   | (with_reducible refine LeO.ite ?_ ?_)
   | (with_reducible refine LeO.bind ?_ (fun _ => ?_))
   | exact ih0 _ _ _ _
   | exact ih1 _ _ _ _ _ _
   | exact ih2 _ _ _ _ _ _ _ _
   | exact span_Cols.mono _ _
   | exact LeO.none _
   | refine LeO.ite ?_ ?_
   | refine LeO.bind ?_ (fun _ => ?_)
  ·intro y0 y1 y2 y3 y4 y5
   unfold copperplatelaw18_WideFits.l0
   repeat' first
   | (with_reducible exact ih0 _ _ _ _)
   | (with_reducible exact ih1 _ _ _ _ _ _)
   | (with_reducible exact ih2 _ _ _ _ _ _ _ _)
   | (with_reducible exact span_Cols.mono _ _)
   | (with_reducible exact LeO.refl _)
   | (with_reducible exact LeO.none _)
   | (with_reducible refine LeO.ite ?_ ?_)
   | (with_reducible refine LeO.bind ?_ (fun _ => ?_))
   | exact ih0 _ _ _ _
   | exact ih1 _ _ _ _ _ _
   | exact ih2 _ _ _ _ _ _ _ _
   | exact span_Cols.mono _ _
   | exact LeO.none _
   | refine LeO.ite ?_ ?_
   | refine LeO.bind ?_ (fun _ => ?_)
  ·intro y0 y1 y2 y3 y4 y5 y6 y7
   unfold copperplatelaw18_WideFits.l1
   repeat' first
   | (with_reducible exact ih0 _ _ _ _)
   | (with_reducible exact ih1 _ _ _ _ _ _)
   | (with_reducible exact ih2 _ _ _ _ _ _ _ _)
   | (with_reducible exact span_Cols.mono _ _)
   | (with_reducible exact LeO.refl _)
   | (with_reducible exact LeO.none _)
   | (with_reducible refine LeO.ite ?_ ?_)
   | (with_reducible refine LeO.bind ?_ (fun _ => ?_))
   | exact ih0 _ _ _ _
   | exact ih1 _ _ _ _ _ _
   | exact ih2 _ _ _ _ _ _ _ _
   | exact span_Cols.mono _ _
   | exact LeO.none _
   | refine LeO.ite ?_ ?_
   | refine LeO.bind ?_ (fun _ => ?_)
theorem copperplatelaw18_WideFits.mono : ∀ a0 a1 k, LeO (copperplatelaw18_WideFits.f k a0 a1) (copperplatelaw18_WideFits.f (k + 1) a0 a1) := by
 intro a0 a1 k
 obtain ⟨ih0, ih1, ih2⟩ := copperplatelaw18_WideFits.mono_l k
 unfold copperplatelaw18_WideFits.f
 repeat' first
   | (with_reducible exact ih0 _ _ _ _)
   | (with_reducible exact ih1 _ _ _ _ _ _)
   | (with_reducible exact ih2 _ _ _ _ _ _ _ _)
   | (with_reducible exact span_Cols.mono _ _)
   | (with_reducible exact LeO.refl _)
   | (with_reducible exact LeO.none _)
   | (with_reducible refine LeO.ite ?_ ?_)
   | (with_reducible refine LeO.bind ?_ (fun _ => ?_))
   | exact ih0 _ _ _ _
   | exact ih1 _ _ _ _ _ _
   | exact ih2 _ _ _ _ _ _ _ _
   | exact span_Cols.mono _ _
   | exact LeO.none _
   | refine LeO.ite ?_ ?_
   | refine LeO.bind ?_ (fun _ => ?_)
set_option maxHeartbeats 8000000 in
set_option maxRecDepth 100000 in
theorem copperplatelaw18_WideFits.calls (k : Nat) (A0 : Option Addr) (c0 : Nat) (l0 : List (S31)) (a1 : Int) (r : Bool) (w : World) (hr0 : Kd.C k31 w A0 l0.length l0) (hc0 : l0.length ≤ c0) (h : copperplatelaw18_WideFits.f k l0 a1 = some r) (hT_ : r = true) :
  Calls Try.prog 4 #[.slice A0 l0.length c0, .int .i64 a1] w fun e w' => e = .returned (.bool r) ∧ Below w.heap.size w w' := by
 have hu31 := Try.underlying31
 have HT_ := qM hT_
 clear hT_
 have HR0 := qM hr0
 have HC0 := qM hc0
 clear hr0 hc0
 have HB := qM (Below.refl w.heap.size w)
 have H : ((copperplatelaw18_awake.f).bind fun t194 => (if t194 = true then (if (l0.length : Int) > 300 then (copperplatelaw18_WideFits.j0 k l0 a1 t194 true) else ((wide_Room.f l0 a1).bind fun t195 => (copperplatelaw18_WideFits.j0 k l0 a1 t194 (!t195)))) else (copperplatelaw18_WideFits.j0 k l0 a1 t194 true))) = some r := h
 clear h
 replace H := Option.bind_eq_some_iff.mp H
 obtain ⟨t194, A30, H⟩ := H
 replace H : (if t194 = true then (if (l0.length : Int) > 300 then (copperplatelaw18_WideFits.j0 k l0 a1 t194 true) else ((wide_Room.f l0 a1).bind fun t195 => (copperplatelaw18_WideFits.j0 k l0 a1 t194 (!t195)))) else (copperplatelaw18_WideFits.j0 k l0 a1 t194 true)) = some r := H
 have A3 := qM A30
 clear A30
 have HC4 := qM H
 clear H
 go_enter Try.func4, Try.ntmps4
 go_upto_region 2 with (first | ((with_reducible refine gate_callee (f := 10) rfl ?_); refine goesL_ (some 17) rfl rfl Try.func10 (by kernel_rfl) rfl #[] rfl (by (try simp only [List.map_toArray, List.map_cons, List.map_nil]); first | done | rfl | (simp only [List.length_drop, List.length_take]; rfl)) ?_; (with_reducible refine (copperplatelaw18_awake.calls  t194 _ A3.out).mono ?_); (try clear A3); rintro e w5 ⟨rfl, hb⟩; refine ⟨_, rfl, ?_⟩; have n0_ := qM (below_step (by repeat (first | (with_reducible first | exact HB.out | apply qJ | apply qK | apply qL) | exact HB.out)) hb); clear HB; have HB := n0_; clear n0_; (try clear hb); (try clear hb2); (try clear hk); (try clear hi)))
 (try simp only [Act.put, qA, qB, qC])
 go_cut [30] (fun v30 wc => ∃ (kq : Nat) (x30_3 : Bool), v30 = .bool x30_3 ∧ Aside0 (copperplatelaw18_WideFits.j0 kq l0 a1 t194 x30_3 = some r) ∧ Aside0 (kq ≤ k) ∧ Aside0 (Below w.heap.size w wc))
 case first =>
  have H := HC4.out
  clear HC4
  by_cases c6 : t194 = true
  ·subst c6
   have H1 : (if (l0.length : Int) > 300 then (copperplatelaw18_WideFits.j0 k l0 a1 true true) else ((wide_Room.f l0 a1).bind fun t195 => (copperplatelaw18_WideFits.j0 k l0 a1 true (!t195)))) = some r := by rw [if_pos rfl] at H; exact H
   clear H
   have H := H1
   clear H1
   by_cases c7 : (l0.length : Int) > 300
   ·rw [if_pos c7] at H
    have c7b0 : decide (300 < (l0.length : Int)) = true := decide_eq_true c7
    have c7b1 : decide (300 < l0.length) = true := decide_eq_true (by omega)
    clear c7
    (first | rw [c7b0] | (simp only [i64_w, i32_w]; rw [c7b0]) | skip)
    have H' := qM H
    clear H
    go_wp2
    go_meet
    case rel => exact ⟨_, (true), (by first | rfl | (simp; done) | (simp [*]; done)), H', ⟨by first | omega | exact Nat.le_refl _⟩, ⟨by repeat (first | (with_reducible first | exact HB.out | apply qJ | apply qK | apply qL) | exact HB.out)⟩⟩
   ·rw [if_neg c7] at H
    have c7b0 : decide (300 < (l0.length : Int)) = false := decide_eq_false c7
    have c7b1 : decide (300 < l0.length) = false := decide_eq_false (by omega)
    clear c7
    (first | rw [c7b0] | (simp only [i64_w, i32_w]; rw [c7b0]) | skip)
    replace H := Option.bind_eq_some_iff.mp H
    obtain ⟨t195, A80, H⟩ := H
    replace H : (copperplatelaw18_WideFits.j0 k l0 a1 true (!t195)) = some r := H
    have A8 := qM A80
    clear A80
    have H' := qM H
    clear H
    go_wp2_with (first | (go_at_call 14; (with_reducible refine (wide_Room.calls _ _ l0 a1 t195 _ ?side1 ?side2 A8.out).mono ?_); (case side1 => repeat (first | exact (Kd.C_below HR0.out HB.out) | (with_reducible first | apply qO | apply qP | apply qQ))); (case side2 => exact HC0.out); (try clear A8); rintro e w9 ⟨rfl, hb⟩; have n0_ := qM (below_step (by repeat (first | (with_reducible first | exact HB.out | apply qJ | apply qK | apply qL) | exact HB.out)) hb); clear HB; have HB := n0_; clear n0_; (try clear hb); (try clear hb2); (try clear hk); (try clear hi)))
    go_meet
    case rel => exact ⟨_, (!t195), (by first | rfl | (simp; done) | (simp [*]; done)), H', ⟨by first | omega | exact Nat.le_refl _⟩, ⟨by repeat (first | (with_reducible first | exact HB.out | apply qJ | apply qK | apply qL) | exact HB.out)⟩⟩
  ·replace c6 := Bool.eq_false_iff.mpr c6
   subst c6
   have H1 : (copperplatelaw18_WideFits.j0 k l0 a1 false true) = some r := by rw [if_neg (show ¬ (false = true) by decide)] at H; exact H
   clear H
   have H := H1
   clear H1
   have H' := qM H
   clear H
   go_wp2
   go_meet
   case rel => exact ⟨_, (true), (by first | rfl | (simp; done) | (simp [*]; done)), H', ⟨by first | omega | exact Nat.le_refl _⟩, ⟨by repeat (first | (with_reducible first | exact HB.out | apply qJ | apply qK | apply qL) | exact HB.out)⟩⟩
 case rest =>
  clear HC4
  try clear c1
  try clear p2
  try clear c4
  try clear c6
  try clear c7
  try clear c7b0
  try clear c7b1
  obtain ⟨kq, x30_3, rfl, HA, HJ3, HB⟩ := hcut
  cases kq with
  | zero => exact absurd HA.out (by simp [copperplatelaw18_WideFits.j0])
  | succ kj3 =>
   have H := HA.out
   clear HA
   simp only [copperplatelaw18_WideFits.j0] at H
   by_cases c10 : x30_3 = true
   ·subst c10
    have H1 : (some t194) = some r := by rw [if_pos rfl] at H; exact H
    clear H
    have H := H1
    clear H1
    obtain rfl := Option.some.inj H
    go_wp2
    go_ret
    exact ⟨by first | rfl | (simp [errW_none, errW_some] <;> rfl) | (simp [*, errW_none, errW_some] <;> rfl), by repeat (first | (with_reducible first | exact HB.out | apply qJ | apply qK | apply qL) | exact HB.out)⟩
   ·replace c10 := Bool.eq_false_iff.mpr c10
    subst c10
    have H1 : (copperplatelaw18_WideFits.l0 kj3 l0 a1 (⟨#[]⟩ : ByteArray) 0 true 0) = some r := by rw [if_neg (show ¬ (false = true) by decide)] at H; exact H
    clear H
    have H := H1
    clear H1
    have H' := qM H
    clear H
    go_wp2
    go_loopg [6, 7, 8, 9] kj3 (fun kq v6 v7 v8 v9 w' => ∃ (x6_2 : ByteArray) (x7_2 : Int) (x8_2 : Bool) (x9_2 : Int), v6 = .string x6_2 ∧ v7 = .int .i64 x7_2 ∧ v8 = .bool x8_2 ∧ v9 = .int .i64 x9_2 ∧ Aside0 (copperplatelaw18_WideFits.l0 kq l0 a1 x6_2 x7_2 x8_2 x9_2 = some r) ∧ Aside0 (kq ≤ kj3) ∧ Aside0 (Below w.heap.size w w'))
    case atStart => exact ⟨((⟨#[]⟩ : ByteArray)), (0), (true), (0), (by first | rfl | (simp; done) | (simp [*]; done)), (by first | rfl | (simp; done) | (simp [*]; done)), (by first | rfl | (simp; done) | (simp [*]; done)), (by first | rfl | (simp; done) | (simp [*]; done)), H', ⟨Nat.le_refl _⟩, ⟨by repeat (first | (with_reducible first | exact HB.out | apply qJ | apply qK | apply qL) | exact HB.out)⟩⟩
    case round =>
     clear H'
     try clear c1
     try clear p2
     try clear c4
     try clear c6
     try clear c7
     try clear c7b0
     try clear c7b1
     try clear c10
     try clear p2
     obtain ⟨x6_2, x7_2, x8_2, x9_2, rfl, rfl, rfl, rfl, HA, HK2, HB⟩ := hrel
     cases gk with
     | zero => exact absurd HA.out (by simp [copperplatelaw18_WideFits.l0])
     | succ k2 =>
      have H := HA.out
      clear HA
      simp only [copperplatelaw18_WideFits.l0] at H
      by_cases c11 : x9_2 < (l0.length : Int)
      ·rw [if_pos c11] at H
       have c11b0 : decide (x9_2 < (l0.length : Int)) = true := decide_eq_true c11
       clear c11
       by_cases c12 : 0 ≤ x9_2
       ·rw [if_pos c12] at H
        have c12b0 : decide (0 ≤ x9_2) = true := decide_eq_true c12
        clear c12
        replace H := Option.bind_eq_some_iff.mp H
        obtain ⟨⟨t197, t198⟩, A130, H⟩ := H
        replace H : (if x6_2.size + t197.size ≤ 9223372036854775807 then ((span_Cols.f k2 t197).bind fun t199 => (if x8_2 = true then (copperplatelaw18_WideFits.l0 k2 l0 a1 (x6_2 ++ t197) (wrap64 (x7_2 + t199)) t198 (wrap64 (x9_2 + 1))) else (copperplatelaw18_WideFits.l0 k2 l0 a1 (x6_2 ++ t197) (wrap64 (x7_2 + t199)) false (wrap64 (x9_2 + 1))))) else (none)) = some r := H
        have A13 := qM A130
        clear A130
        by_cases c14 : x6_2.size + t197.size ≤ 9223372036854775807
        ·rw [if_pos c14] at H
         have c14b0 := eq_true c14
         have c14b1 : decide (x6_2.size + t197.size ≤ 9223372036854775807) = true := decide_eq_true c14
         try have c14b2 : (9223372036854775807 < x6_2.size + t197.size) = False := eq_false (Nat.not_lt.2 c14)
         replace H := Option.bind_eq_some_iff.mp H
         obtain ⟨t199, A150, H⟩ := H
         replace H : (if x8_2 = true then (copperplatelaw18_WideFits.l0 k2 l0 a1 (x6_2 ++ t197) (wrap64 (x7_2 + t199)) t198 (wrap64 (x9_2 + 1))) else (copperplatelaw18_WideFits.l0 k2 l0 a1 (x6_2 ++ t197) (wrap64 (x7_2 + t199)) false (wrap64 (x9_2 + 1)))) = some r := H
         have A15 := qM A150
         clear A150
         by_cases c16 : x8_2 = true
         ·subst c16
          have H1 : (copperplatelaw18_WideFits.l0 k2 l0 a1 (x6_2 ++ t197) (wrap64 (x7_2 + t199)) t198 (wrap64 (x9_2 + 1))) = some r := by rw [if_pos rfl] at H; exact H
          clear H
          have H := H1
          clear H1
          have H' := qM H
          clear H
          have p196 : 0 ≤ (x9_2 : Int) := qN (by assumption)
          have q196 : x9_2 < (l0.length : Int) := qN (by assumption)
          obtain ⟨ad196, e196, hx196_0, hx196_1⟩ := at_T31 HR0.out x9_2 p196 q196
          cases e196
          replace hx196_0 := (HB.out.cell (World.block_lt_of_cell? w _ hx196_0)).trans hx196_0
          replace hx196_1 := (HB.out.cell (World.block_lt_of_cell? w _ hx196_1)).trans hx196_1
          replace p196 := eq_true p196
          replace q196 := eq_true q196
          go_wp2_with (first | ((with_reducible refine gate_callee (f := 17) rfl ?_); refine goesL_ (some 43) rfl rfl Try.func17 (by kernel_rfl) rfl #[.agg #[.int .i64 ((rd_T31 l0 x9_2).f0), .string ((rd_T31 l0 x9_2).f1)]] rfl (by (try simp only [List.map_toArray, List.map_cons, List.map_nil]); first | done | rfl | (simp only [List.length_drop, List.length_take]; rfl)) ?_; (with_reducible refine (span_Flat.calls ((rd_T31 l0 x9_2).f0) ((rd_T31 l0 x9_2).f1) t197 t198 _ A13.out).mono ?_); (try clear A13); rintro e w17 ⟨rfl, hb⟩; refine ⟨_, rfl, ?_⟩; have n0_ := qM (below_step (by repeat (first | (with_reducible first | exact HB.out | apply qJ | apply qK | apply qL) | exact HB.out)) hb); clear HB; have HB := n0_; clear n0_; (try clear hb); (try clear hb2); (try clear hk); (try clear hi)) | ((with_reducible refine gate_callee (f := 18) rfl ?_); refine goesL_ (some 51) rfl rfl Try.func18 (by kernel_rfl) rfl #[.string t197] rfl (by (try simp only [List.map_toArray, List.map_cons, List.map_nil]); first | done | rfl | (simp only [List.length_drop, List.length_take]; rfl)) ?_; (with_reducible refine (span_Cols.calls k2 t197 t199 _ A15.out).mono ?_); (try clear A15); rintro e w18 ⟨rfl, hb⟩; refine ⟨_, rfl, ?_⟩; have n0_ := qM (below_step (by repeat (first | (with_reducible first | exact HB.out | apply qJ | apply qK | apply qL) | exact HB.out)) hb); clear HB; have HB := n0_; clear n0_; (try clear hb); (try clear hb2); (try clear hk); (try clear hi)))
          go_roundg k2
          case measure => have := HJ3.out; have := HK2.out; omega
          case rel => exact ⟨(x6_2 ++ t197), (wrap64 (x7_2 + t199)), (t198), (wrap64 (x9_2 + 1)), (by first | rfl | (simp; done) | (simp [*]; done)), (by first | rfl | (simp; done) | (simp [*]; done)), (by first | rfl | (simp; done) | (simp [*]; done)), (by first | rfl | (simp; done) | (simp [*]; done)), H', ⟨by have := HJ3.out; have := HK2.out; omega⟩, ⟨by repeat (first | (with_reducible first | exact HB.out | apply qJ | apply qK | apply qL) | exact HB.out)⟩⟩
         ·replace c16 := Bool.eq_false_iff.mpr c16
          subst c16
          have H1 : (copperplatelaw18_WideFits.l0 k2 l0 a1 (x6_2 ++ t197) (wrap64 (x7_2 + t199)) false (wrap64 (x9_2 + 1))) = some r := by rw [if_neg (show ¬ (false = true) by decide)] at H; exact H
          clear H
          have H := H1
          clear H1
          have H' := qM H
          clear H
          have p196 : 0 ≤ (x9_2 : Int) := qN (by assumption)
          have q196 : x9_2 < (l0.length : Int) := qN (by assumption)
          obtain ⟨ad196, e196, hx196_0, hx196_1⟩ := at_T31 HR0.out x9_2 p196 q196
          cases e196
          replace hx196_0 := (HB.out.cell (World.block_lt_of_cell? w _ hx196_0)).trans hx196_0
          replace hx196_1 := (HB.out.cell (World.block_lt_of_cell? w _ hx196_1)).trans hx196_1
          replace p196 := eq_true p196
          replace q196 := eq_true q196
          go_wp2_with (first | ((with_reducible refine gate_callee (f := 17) rfl ?_); refine goesL_ (some 43) rfl rfl Try.func17 (by kernel_rfl) rfl #[.agg #[.int .i64 ((rd_T31 l0 x9_2).f0), .string ((rd_T31 l0 x9_2).f1)]] rfl (by (try simp only [List.map_toArray, List.map_cons, List.map_nil]); first | done | rfl | (simp only [List.length_drop, List.length_take]; rfl)) ?_; (with_reducible refine (span_Flat.calls ((rd_T31 l0 x9_2).f0) ((rd_T31 l0 x9_2).f1) t197 t198 _ A13.out).mono ?_); (try clear A13); rintro e w19 ⟨rfl, hb⟩; refine ⟨_, rfl, ?_⟩; have n0_ := qM (below_step (by repeat (first | (with_reducible first | exact HB.out | apply qJ | apply qK | apply qL) | exact HB.out)) hb); clear HB; have HB := n0_; clear n0_; (try clear hb); (try clear hb2); (try clear hk); (try clear hi)) | ((with_reducible refine gate_callee (f := 18) rfl ?_); refine goesL_ (some 51) rfl rfl Try.func18 (by kernel_rfl) rfl #[.string t197] rfl (by (try simp only [List.map_toArray, List.map_cons, List.map_nil]); first | done | rfl | (simp only [List.length_drop, List.length_take]; rfl)) ?_; (with_reducible refine (span_Cols.calls k2 t197 t199 _ A15.out).mono ?_); (try clear A15); rintro e w20 ⟨rfl, hb⟩; refine ⟨_, rfl, ?_⟩; have n0_ := qM (below_step (by repeat (first | (with_reducible first | exact HB.out | apply qJ | apply qK | apply qL) | exact HB.out)) hb); clear HB; have HB := n0_; clear n0_; (try clear hb); (try clear hb2); (try clear hk); (try clear hi)))
          go_roundg k2
          case measure => have := HJ3.out; have := HK2.out; omega
          case rel => exact ⟨(x6_2 ++ t197), (wrap64 (x7_2 + t199)), (false), (wrap64 (x9_2 + 1)), (by first | rfl | (simp; done) | (simp [*]; done)), (by first | rfl | (simp; done) | (simp [*]; done)), (by first | rfl | (simp; done) | (simp [*]; done)), (by first | rfl | (simp; done) | (simp [*]; done)), H', ⟨by have := HJ3.out; have := HK2.out; omega⟩, ⟨by repeat (first | (with_reducible first | exact HB.out | apply qJ | apply qK | apply qL) | exact HB.out)⟩⟩
        ·rw [if_neg c14] at H
         exact absurd H (by simp)
       ·rw [if_neg c12] at H
        exact absurd H (by simp)
      ·rw [if_neg c11] at H
       have c11b0 : decide (x9_2 < (l0.length : Int)) = false := decide_eq_false c11
       clear c11
       obtain ⟨y200, hy200⟩ : ∃ y_ : List (S31), y_ = (([(⟨6, (⟨#[]⟩ : ByteArray)⟩ : S31)] : List (S31))) := ⟨_, rfl⟩
       replace H : (if y200.length + l0.length < 5864062014805 then ((some (y200 ++ l0 : List (S31))).bind fun y203 => (if y203.length < 5864062014805 then ((wide_Lay.f (y203 ++ [(⟨7, (⟨#[]⟩ : ByteArray)⟩ : S31)]) a1).bind fun bt209 => (copperplatelaw18_WideFits.l1 k2 a1 x6_2 x7_2 x8_2 bt209.1 bt209.2 0 0)) else (none))) else (none)) = some r := by first | (rw [hy200]; with_reducible exact H) | (have H2_ := (Option.bind_some _ _).symm.trans H; rw [hy200]; with_reducible exact H2_) | (have H2_ := (Option.bind_some _ _).symm.trans H; with_reducible exact H2_) | with_reducible exact H | (rw [hy200]; exact H) | exact H
       have Ny200 := qM hy200
       clear hy200
       by_cases c21 : y200.length + l0.length < 5864062014805
       ·rw [if_pos c21] at H
        have LMc21 := qM c21
        clear c21
        obtain ⟨y203, hy203⟩ : ∃ y_ : List (S31), y_ = (y200 ++ l0) := ⟨_, rfl⟩
        replace H : (if y203.length < 5864062014805 then ((wide_Lay.f (y203 ++ [(⟨7, (⟨#[]⟩ : ByteArray)⟩ : S31)]) a1).bind fun bt209 => (copperplatelaw18_WideFits.l1 k2 a1 x6_2 x7_2 x8_2 bt209.1 bt209.2 0 0)) else (none)) = some r := by first | (rw [hy203]; with_reducible exact H) | (have H2_ := (Option.bind_some _ _).symm.trans H; rw [hy203]; with_reducible exact H2_) | (have H2_ := (Option.bind_some _ _).symm.trans H; with_reducible exact H2_) | with_reducible exact H | (rw [hy203]; exact H) | exact H
        have Ny203 := qM hy203
        clear hy203
        by_cases c22 : y203.length < 5864062014805
        ·rw [if_pos c22] at H
         have LMc22 := qM c22
         clear c22
         obtain ⟨y206, hy206⟩ : ∃ y_ : List (S31), y_ = (y203 ++ [(⟨7, (⟨#[]⟩ : ByteArray)⟩ : S31)]) := ⟨_, rfl⟩
         replace H : ((wide_Lay.f y206 a1).bind fun bt209 => (copperplatelaw18_WideFits.l1 k2 a1 x6_2 x7_2 x8_2 bt209.1 bt209.2 0 0)) = some r := by first | (rw [hy206]; with_reducible exact H) | (have H2_ := (Option.bind_some _ _).symm.trans H; rw [hy206]; with_reducible exact H2_) | (have H2_ := (Option.bind_some _ _).symm.trans H; with_reducible exact H2_) | with_reducible exact H | (rw [hy206]; exact H) | exact H
         have Ny206 := qM hy206
         clear hy206
         replace H := Option.bind_eq_some_iff.mp H
         obtain ⟨⟨t209, t210⟩, A230, H⟩ := H
         replace H : (copperplatelaw18_WideFits.l1 k2 a1 x6_2 x7_2 x8_2 t209 t210 0 0) = some r := H
         have A23 := qM A230
         clear A230
         have H' := qM H
         clear H
         go_wp2_with (first | ((with_reducible refine gate_dst (N := 58) rfl ?_); (try (refine gate_guard (by rfl) ?_; dsimp only)); refine Kd.R_lit k31 _ 31 ?hg (N := 58) ?hd (xs := ([(⟨6, (⟨#[]⟩ : ByteArray)⟩ : S31)] : List (S31))) (inner := [.int .i64 6, .string (⟨#[]⟩ : ByteArray)]) (ok := fun _ => True) (okp := fun _ => True) ?hr ?hp (fun _ hk => hk) trivial (Below.refl _ _) (Nat.le_refl _) (by simp) ?_; (case hd => rfl); (case hg => rfl); (case hr => first | (go_simp; done) | (go_simp; rfl)); (case hp => exact (Reps.c2 (show Kd.M k31 _ _ _ (⟨6, (⟨#[]⟩ : ByteArray)⟩ : S31) [.int .i64 6, .string (⟨#[]⟩ : ByteArray)] from (k31_mkM _ _ _ (⟨6, (⟨#[]⟩ : ByteArray)⟩ : S31) )) (Reps.none _ _))); intro v201 w24 ho25 hb hg_ hnew_; clear hg_ hnew_; (first | rw [← Ny200.out] at ho25 | (simp only [Int.reduceToNat] at ho25; rw [← Ny200.out] at ho25)); have n0_ := qM (Kd.R_lower ho25 (below_size (by repeat (first | (with_reducible first | exact HB.out | apply qJ | apply qK | apply qL) | exact HB.out)))); have n1_ := qM (below_step (by repeat (first | (with_reducible first | exact HB.out | apply qJ | apply qK | apply qL) | exact HB.out)) hb); clear HB; have HO202 := n0_; have HB := n1_; clear n0_ n1_; clear hb ho25) | ((with_reducible refine gate_builtin (b := .append) (xs := #[.tmp 58, .tmp 59]) rfl ?_); (try (refine gate_guard (by rfl) ?_; dsimp only)); at_builtin; refine Kd.R_append_rows k31 (w0 := w) w.heap.size rfl (.tmp 58) (.tmp 59) 22 31 (.agg #[(.int .i64 0), (.string ⟨#[]⟩)]) 24 rfl Try.underlying22 info31 rfl (by decide) (by omega) v201 y200 l0 _ _ _ (fun _ => True) (fun _ => False) rfl rfl ?aO ?aR (fun _ _ h => h) (fun _ h => h.elim) ?aF ?aB ?aS ?aL ?_; (case aR => repeat (first | exact (Kd.C_below HR0.out HB.out) | (with_reducible first | apply qO | apply qP | apply qQ))); (case aB => exact (by repeat (first | (with_reducible first | exact HB.out | apply qJ | apply qK | apply qL) | exact HB.out))); (case aF => exact (fun _ _ => trivial)); (case aO => exact (by (with_reducible repeat (first | apply qG | apply qH | apply qI)); exact HO202.out)); (case aS => exact (below_size (by repeat (first | (with_reducible first | exact HB.out | apply qJ | apply qK | apply qL) | exact HB.out)))); (case aL => have := LMc21.out; omega); intro v204 w26 ho hb hg hat; rw [← Ny203.out] at ho; have n0_ := qM (hb); have n1_ := qM (ho); clear HB; clear HO202; have HB := n0_; have HO205 := n1_; clear n0_ n1_; clear ho hb hg hat) | ((with_reducible refine gate_builtin (b := .append) (xs := #[.tmp 60, .tmp 62]) rfl ?_); (try (refine gate_guard (by rfl) ?_; dsimp only)); at_builtin; refine Kd.R_append k31 (w0 := w) w.heap.size rfl (.tmp 60) (.tmp 62) 22 31 (.agg #[(.int .i64 0), (.string ⟨#[]⟩)]) 24 rfl Try.underlying22 info31 rfl (by decide) (by omega) v204 y203 (⟨7, (⟨#[]⟩ : ByteArray)⟩ : S31) [.int .i64 7, .string (⟨#[]⟩ : ByteArray)] (fun _ => True) (fun _ => False) rfl rfl ?aP (fun _ hk => hk.elim) ?aF ?aO ?aB ?aS ?aL ?_; (case aP => exact k31_mkM _ _ _ (⟨7, (⟨#[]⟩ : ByteArray)⟩ : S31)); (case aB => exact (by repeat (first | (with_reducible first | exact HB.out | apply qJ | apply qK | apply qL) | exact HB.out))); (case aF => exact (fun _ _ => trivial)); (case aO => exact (by (with_reducible repeat (first | apply qG | apply qH | apply qI)); exact HO205.out)); (case aS => exact (below_size (by repeat (first | (with_reducible first | exact HB.out | apply qJ | apply qK | apply qL) | exact HB.out)))); (case aL => have := LMc22.out; omega); intro v207 w27 ho hb hg hat; rw [← Ny206.out] at ho; have n0_ := qM (hb); have n1_ := qM (ho); clear HB; clear HO205; have HB := n0_; have HO208 := n1_; clear n0_ n1_; clear ho hb hg hat; obtain ⟨Ao28, co28, eo28⟩ := Kd.R_slice HO208.out; subst eo28) | ((with_reducible refine gate_callee (f := 11) rfl ?_); refine goesL_ (some 67) rfl rfl Try.func11 (by kernel_rfl) rfl #[.slice Ao28 y206.length co28, .int .i64 a1] rfl (by (try simp only [List.map_toArray, List.map_cons, List.map_nil]); first | done | rfl | (simp only [List.length_drop, List.length_take]; rfl)) ?_; (with_reducible refine (wide_Lay.calls _ _ y206 a1 t209 t210 _ ?side1 ?side2 A23.out).mono ?_); (case side1 => repeat (first | exact (Kd.R_reads' HO208.out).2.2 | (with_reducible first | apply qO | apply qP | apply qQ))); (case side2 => exact (Kd.R_reads' HO208.out).2.1); (try clear A23); rintro e w29 ⟨rfl, hb⟩; refine ⟨_, rfl, ?_⟩; have n0_ := qM (Kd.R_below (by (with_reducible repeat (first | apply qG | apply qH | apply qI)); exact HO208.out) hb); have n1_ := qM (below_step (by repeat (first | (with_reducible first | exact HB.out | apply qJ | apply qK | apply qL) | exact HB.out)) hb); clear HO208; clear HB; have HO208 := n0_; have HB := n1_; clear n0_ n1_; (try clear hb); (try clear hb2); (try clear hk); (try clear hi)))
         go_loopg [15, 16] k2 (fun kq v15 v16 w' => ∃ (x15_3 : Int) (x16_3 : Int), v15 = .int .i64 x15_3 ∧ v16 = .int .i64 x16_3 ∧ Aside0 (copperplatelaw18_WideFits.l1 kq a1 x6_2 x7_2 x8_2 t209 t210 x15_3 x16_3 = some r) ∧ Aside0 (kq ≤ k2) ∧ Aside0 (Below w.heap.size w w'))
         case atStart => exact ⟨(0), (0), (by first | rfl | (simp; done) | (simp [*]; done)), (by first | rfl | (simp; done) | (simp [*]; done)), H', ⟨Nat.le_refl _⟩, ⟨by repeat (first | (with_reducible first | exact HB.out | apply qJ | apply qK | apply qL) | exact HB.out)⟩⟩
         case round =>
          clear H'
          try clear c1
          try clear p1
          try clear q1
          try clear hx1
          try clear c2
          try clear p2
          try clear c4
          try clear c6
          try clear p6
          try clear c7
          try clear c7b0
          try clear c7b1
          try clear c10
          try clear c11
          try clear c11b0
          try clear c12
          try clear c12b0
          try clear c14
          try clear c14b0
          try clear c14b1
          try clear c14b2
          try clear c16
          try clear c17
          try clear c18
          try clear p19
          try clear q19
          try clear hx19
          try clear c21
          try clear c22
          try clear hx196_0
          try clear hx196_1
          try clear p196
          try clear p2
          try clear q196
          obtain ⟨x15_3, x16_3, rfl, rfl, HA, HK3, HB⟩ := hrel
          cases gk with
          | zero => exact absurd HA.out (by simp [copperplatelaw18_WideFits.l1])
          | succ k3 =>
           have H := HA.out
           clear HA
           simp only [copperplatelaw18_WideFits.l1] at H
           by_cases c30 : x16_3 < (t209.size : Int)
           ·rw [if_pos c30] at H
            have c30b0 : decide (x16_3 < (t209.size : Int)) = true := decide_eq_true c30
            clear c30
            by_cases c31 : 0 ≤ x16_3
            ·rw [if_pos c31] at H
             have c31b0 : decide (0 ≤ x16_3) = true := decide_eq_true c31
             clear c31
             by_cases c33 : (bt t209 x16_3) = 10
             ·rw [if_pos c33] at H
              have c33b0 : ((bt t209 x16_3) == 10) = true := beq_iff_eq.mpr c33
              have c33b1 : ((bt t209 x16_3) != 10) = false := bne_eq_false_iff_eq.mpr c33
              clear c33
              have H' := qM H
              clear H
              have p32 : 0 ≤ (x16_3 : Int) := qN (by assumption)
              have q32 : x16_3 < (t209.size : Int) := qN (by assumption)
              have hx32 := bt_at t209 x16_3
              replace p32 := eq_true p32
              replace q32 := eq_true q32
              go_wp2
              go_roundg k3
              case measure => have := HJ3.out; have := HK2.out; have := HK3.out; omega
              case rel => exact ⟨(wrap64 (x15_3 + 1)), (wrap64 (x16_3 + 1)), (by first | rfl | (simp; done) | (simp [*]; done)), (by first | rfl | (simp; done) | (simp [*]; done)), H', ⟨by have := HJ3.out; have := HK2.out; have := HK3.out; omega⟩, ⟨by repeat (first | (with_reducible first | exact HB.out | apply qJ | apply qK | apply qL) | exact HB.out)⟩⟩
             ·rw [if_neg c33] at H
              have c33b0 : ((bt t209 x16_3) == 10) = false := beq_eq_false_iff_ne.mpr c33
              have c33b1 : ((bt t209 x16_3) != 10) = true := bne_iff_ne.mpr c33
              have H' := qM H
              clear H
              have p32 : 0 ≤ (x16_3 : Int) := qN (by assumption)
              have q32 : x16_3 < (t209.size : Int) := qN (by assumption)
              have hx32 := bt_at t209 x16_3
              replace p32 := eq_true p32
              replace q32 := eq_true q32
              go_wp2
              go_roundg k3
              case measure => have := HJ3.out; have := HK2.out; have := HK3.out; omega
              case rel => exact ⟨(x15_3), (wrap64 (x16_3 + 1)), (by first | rfl | (simp; done) | (simp [*]; done)), (by first | rfl | (simp; done) | (simp [*]; done)), H', ⟨by have := HJ3.out; have := HK2.out; have := HK3.out; omega⟩, ⟨by repeat (first | (with_reducible first | exact HB.out | apply qJ | apply qK | apply qL) | exact HB.out)⟩⟩
            ·rw [if_neg c31] at H
             exact absurd H (by simp)
           ·rw [if_neg c30] at H
            have c30b0 : decide (x16_3 < (t209.size : Int)) = false := decide_eq_false c30
            clear c30
            by_cases c34 : x8_2 = true
            ·subst c34
             have H1 : (if x7_2 ≤ a1 then (if t210 = true then (some (t209.toList == x6_2.toList)) else (some false)) else (if t210 = true then (some true) else (some false))) = some r := by rw [if_pos rfl] at H; exact H
             clear H
             have H := H1
             clear H1
             by_cases c35 : x7_2 ≤ a1
             ·rw [if_pos c35] at H
              have c35b0 : decide (x7_2 ≤ a1) = true := decide_eq_true c35
              clear c35
              by_cases c36 : t210 = true
              ·subst c36
               have H1 : (some (t209.toList == x6_2.toList)) = some r := by rw [if_pos rfl] at H; exact H
               clear H
               have H := H1
               clear H1
               obtain rfl := Option.some.inj H
               go_wp2
               go_ret
               exact ⟨by first | rfl | (simp [errW_none, errW_some] <;> rfl) | (simp [*, errW_none, errW_some] <;> rfl), by repeat (first | (with_reducible first | exact HB.out | apply qJ | apply qK | apply qL) | exact HB.out)⟩
              ·replace c36 := Bool.eq_false_iff.mpr c36
               subst c36
               have H1 : (some false) = some r := by rw [if_neg (show ¬ (false = true) by decide)] at H; exact H
               clear H
               have H := H1
               clear H1
               exact absurd H (by have h_ := HT_.out; subst h_; decide)
             ·rw [if_neg c35] at H
              have c35b0 : decide (x7_2 ≤ a1) = false := decide_eq_false c35
              clear c35
              by_cases c37 : t210 = true
              ·subst c37
               have H1 : (some true) = some r := by rw [if_pos rfl] at H; exact H
               clear H
               have H := H1
               clear H1
               obtain rfl := Option.some.inj H
               go_wp2
               go_ret
               exact ⟨by first | rfl | (simp [errW_none, errW_some] <;> rfl) | (simp [*, errW_none, errW_some] <;> rfl), by repeat (first | (with_reducible first | exact HB.out | apply qJ | apply qK | apply qL) | exact HB.out)⟩
              ·replace c37 := Bool.eq_false_iff.mpr c37
               subst c37
               have H1 : (some false) = some r := by rw [if_neg (show ¬ (false = true) by decide)] at H; exact H
               clear H
               have H := H1
               clear H1
               exact absurd H (by have h_ := HT_.out; subst h_; decide)
            ·replace c34 := Bool.eq_false_iff.mpr c34
             subst c34
             have H1 : (if t210 = true then (some (decide (x15_3 > 0))) else (some false)) = some r := by rw [if_neg (show ¬ (false = true) by decide)] at H; exact H
             clear H
             have H := H1
             clear H1
             by_cases c38 : t210 = true
             ·subst c38
              have H1 : (some (decide (x15_3 > 0))) = some r := by rw [if_pos rfl] at H; exact H
              clear H
              have H := H1
              clear H1
              obtain rfl := Option.some.inj H
              go_wp2
              go_ret
              exact ⟨by first | rfl | (simp [errW_none, errW_some] <;> rfl) | (simp [*, errW_none, errW_some] <;> rfl), by repeat (first | (with_reducible first | exact HB.out | apply qJ | apply qK | apply qL) | exact HB.out)⟩
             ·replace c38 := Bool.eq_false_iff.mpr c38
              subst c38
              have H1 : (some false) = some r := by rw [if_neg (show ¬ (false = true) by decide)] at H; exact H
              clear H
              have H := H1
              clear H1
              exact absurd H (by have h_ := HT_.out; subst h_; decide)
        ·rw [if_neg c22] at H
         exact absurd H (by simp)
       ·rw [if_neg c21] at H
        exact absurd H (by simp)

/-- The pure statement of copperplatelaw18_WideFits. -/
def copperplatelaw18_WideFits.Pure : Prop := ∀ (l0 : List (S31)) (a1 : Int), l0.length * 24 ≤ 140737488351232 → (∀ x ∈ l0, (Lit.int .i64 x.f0).wf = true ∧ x.f1.size ≤ 140737488351232) → (Lit.int .i64 a1).wf = true → ∃ k, copperplatelaw18_WideFits.f k l0 a1 = some true
def copperplatelaw18_WideFits.PureUp : Prop := ∀ (l0 : List (S31)) (a1 : Int), l0.length * 24 ≤ 140737488351232 → (∀ x ∈ l0, (Lit.int .i64 x.f0).wf = true ∧ x.f1.size ≤ 140737488351232) → (Lit.int .i64 a1).wf = true → (l0.map fun x => x.f1.size).sum ≤ 1048576 → ∃ k, copperplatelaw18_WideFits.f k l0 a1 = some true

/-! ### copperplatelaw18_WideWidth: function 5 -/
mutual
def copperplatelaw18_WideWidth.j0 : Nat → List (S31) → Int → Int → Bool → Bool → Option (Bool)
  | 0, _, _, _, _, _ => none
  | k + 1, x0, x1, x2, x7, x37 => if x37 = true then (some x7) else ((wide_Lay.f x0 x1).bind fun bt214 => ((wide_Lay.f x0 x2).bind fun bt216 => (copperplatelaw18_WideWidth.l0 k bt214.1 bt216.1 0)))
def copperplatelaw18_WideWidth.l0 : Nat → ByteArray → ByteArray → Int → Option (Bool)
  | 0, _, _, _ => none
  | k + 1, x8, x10, x12 => if x12 < (x8.size : Int) then (if 0 ≤ x12 then (if (bt x8 x12) = 10 then (some true) else (copperplatelaw18_WideWidth.l0 k x8 x10 (wrap64 (x12 + 1)))) else (none)) else (some (x8.toList == x10.toList))
end
def copperplatelaw18_WideWidth.f (k : Nat) (l0 : List (S31)) (a1 : Int) (a2 : Int) : Option (Bool) := (copperplatelaw18_awake.f).bind fun t211 => (if t211 = true then (if (l0.length : Int) > 300 then (copperplatelaw18_WideWidth.j0 k l0 a1 a2 t211 true) else (if a2 < a1 then (copperplatelaw18_WideWidth.j0 k l0 a1 a2 t211 true) else ((wide_Room.f l0 a1).bind fun t212 => (if t212 = true then ((wide_Room.f l0 a2).bind fun t213 => (copperplatelaw18_WideWidth.j0 k l0 a1 a2 t211 (!t213))) else (copperplatelaw18_WideWidth.j0 k l0 a1 a2 t211 true))))) else (copperplatelaw18_WideWidth.j0 k l0 a1 a2 t211 true))
theorem copperplatelaw18_WideWidth.mono_l : ∀ k, (∀ y0 y1 y2 y3 y4, LeO (copperplatelaw18_WideWidth.j0 k y0 y1 y2 y3 y4) (copperplatelaw18_WideWidth.j0 (k + 1) y0 y1 y2 y3 y4)) ∧ (∀ y0 y1 y2, LeO (copperplatelaw18_WideWidth.l0 k y0 y1 y2) (copperplatelaw18_WideWidth.l0 (k + 1) y0 y1 y2))
  | 0 => ⟨fun _ _ _ _ _ r h => by simp [copperplatelaw18_WideWidth.j0] at h, fun _ _ _ r h => by simp [copperplatelaw18_WideWidth.l0] at h⟩
  | k + 1 => by
    obtain ⟨ih0, ih1⟩ := copperplatelaw18_WideWidth.mono_l k
    refine ⟨?_, ?_⟩
    · intro y0 y1 y2 y3 y4
      unfold copperplatelaw18_WideWidth.j0
      repeat' first
      | (with_reducible exact ih0 _ _ _ _ _)
      | (with_reducible exact ih1 _ _ _)
      | (with_reducible exact LeO.refl _)
      | (with_reducible exact LeO.none _)
      | (with_reducible refine LeO.ite ?_ ?_)
      | (with_reducible refine LeO.bind ?_ (fun _ => ?_))
      | exact ih0 _ _ _ _ _
      | exact ih1 _ _ _
      | exact LeO.none _
      | refine LeO.ite ?_ ?_
      | refine LeO.bind ?_ (fun _ => ?_)
    · intro y0 y1 y2
      unfold copperplatelaw18_WideWidth.l0
      repeat' first
      | (with_reducible exact ih0 _ _ _ _ _)
      | (with_reducible exact ih1 _ _ _)
      | (with_reducible exact LeO.refl _)
      | (with_reducible exact LeO.none _)
      | (with_reducible refine LeO.ite ?_ ?_)
      | (with_reducible refine LeO.bind ?_ (fun _ => ?_))
      | exact ih0 _ _ _ _ _
      | exact ih1 _ _ _
      | exact LeO.none _
      | refine LeO.ite ?_ ?_
      | refine LeO.bind ?_ (fun _ => ?_)
theorem copperplatelaw18_WideWidth.mono : ∀ a0 a1 a2 k, LeO (copperplatelaw18_WideWidth.f k a0 a1 a2) (copperplatelaw18_WideWidth.f (k + 1) a0 a1 a2) := by
  intro a0 a1 a2 k
  obtain ⟨ih0, ih1⟩ := copperplatelaw18_WideWidth.mono_l k
  unfold copperplatelaw18_WideWidth.f
  repeat' first
      | (with_reducible exact ih0 _ _ _ _ _)
      | (with_reducible exact ih1 _ _ _)
      | (with_reducible exact LeO.refl _)
      | (with_reducible exact LeO.none _)
      | (with_reducible refine LeO.ite ?_ ?_)
      | (with_reducible refine LeO.bind ?_ (fun _ => ?_))
      | exact ih0 _ _ _ _ _
      | exact ih1 _ _ _
      | exact LeO.none _
      | refine LeO.ite ?_ ?_
      | refine LeO.bind ?_ (fun _ => ?_)
set_option maxHeartbeats 8000000 in
set_option maxRecDepth 100000 in
theorem copperplatelaw18_WideWidth.calls (k : Nat) (A0 : Option Addr) (c0 : Nat) (l0 : List (S31)) (a1 : Int) (a2 : Int) (r : Bool) (w : World) (hr0 : Kd.C k31 w A0 l0.length l0) (hc0 : l0.length ≤ c0) (h : copperplatelaw18_WideWidth.f k l0 a1 a2 = some r) (hT_ : r = true) :
    Calls Try.prog 5 #[.slice A0 l0.length c0, .int .i64 a1, .int .i64 a2] w fun e w' => e = .returned (.bool r) ∧ Below w.heap.size w w' := by
  have HT_ := Aside0.mk hT_
  clear hT_
  have HR0 := Aside0.mk hr0
  have HC0 := Aside0.mk hc0
  clear hr0 hc0
  have HB := Aside0.mk (Below.refl w.heap.size w)
  have H : ((copperplatelaw18_awake.f).bind fun t211 => (if t211 = true then (if (l0.length : Int) > 300 then (copperplatelaw18_WideWidth.j0 k l0 a1 a2 t211 true) else (if a2 < a1 then (copperplatelaw18_WideWidth.j0 k l0 a1 a2 t211 true) else ((wide_Room.f l0 a1).bind fun t212 => (if t212 = true then ((wide_Room.f l0 a2).bind fun t213 => (copperplatelaw18_WideWidth.j0 k l0 a1 a2 t211 (!t213))) else (copperplatelaw18_WideWidth.j0 k l0 a1 a2 t211 true))))) else (copperplatelaw18_WideWidth.j0 k l0 a1 a2 t211 true))) = some r := h
  clear h
  replace H := Option.bind_eq_some_iff.mp H
  obtain ⟨t211, A40, H⟩ := H
  replace H : (if t211 = true then (if (l0.length : Int) > 300 then (copperplatelaw18_WideWidth.j0 k l0 a1 a2 t211 true) else (if a2 < a1 then (copperplatelaw18_WideWidth.j0 k l0 a1 a2 t211 true) else ((wide_Room.f l0 a1).bind fun t212 => (if t212 = true then ((wide_Room.f l0 a2).bind fun t213 => (copperplatelaw18_WideWidth.j0 k l0 a1 a2 t211 (!t213))) else (copperplatelaw18_WideWidth.j0 k l0 a1 a2 t211 true))))) else (copperplatelaw18_WideWidth.j0 k l0 a1 a2 t211 true)) = some r := H
  have A4 := Aside0.mk A40
  clear A40
  have HC5 := Aside0.mk H
  clear H
  go_enter Try.func5, Try.ntmps5
  go_upto_region 2 with (first | ((with_reducible refine gate_callee (f := 10) rfl ?_); refine goesL_ (some 13) rfl rfl Try.func10 (by kernel_rfl) rfl #[] rfl (by (try simp only [List.map_toArray, List.map_cons, List.map_nil]); first | done | rfl | (simp only [List.length_drop, List.length_take]; rfl)) ?_; (with_reducible refine (copperplatelaw18_awake.calls  t211 _ A4.out).mono ?_); (try clear A4); rintro e w6 ⟨rfl, hb⟩; refine ⟨_, rfl, ?_⟩; have n0_ := Aside0.mk (below_step (by repeat (first | (with_reducible first | exact HB.out | apply below_alloc | apply pw_below_drewN | apply below_drew1) | exact HB.out)) hb); clear HB; have HB := n0_; clear n0_; (try clear hb); (try clear hb2); (try clear hk); (try clear hi)))
  (try simp only [Act.put, List.setIfInBounds_toArray, List.set_cons_zero, List.set_cons_succ])
  go_cut [37] (fun v37 wc => ∃ (kq : Nat) (x37_4 : Bool), v37 = .bool x37_4 ∧ Aside0 (copperplatelaw18_WideWidth.j0 kq l0 a1 a2 t211 x37_4 = some r) ∧ Aside0 (kq ≤ k) ∧ Aside0 (Below w.heap.size w wc))
  case first =>
    have H := HC5.out
    clear HC5
    by_cases c7 : t211 = true
    · subst c7
      have H1 : (if (l0.length : Int) > 300 then (copperplatelaw18_WideWidth.j0 k l0 a1 a2 true true) else (if a2 < a1 then (copperplatelaw18_WideWidth.j0 k l0 a1 a2 true true) else ((wide_Room.f l0 a1).bind fun t212 => (if t212 = true then ((wide_Room.f l0 a2).bind fun t213 => (copperplatelaw18_WideWidth.j0 k l0 a1 a2 true (!t213))) else (copperplatelaw18_WideWidth.j0 k l0 a1 a2 true true))))) = some r := by rw [if_pos rfl] at H; exact H
      clear H
      have H := H1
      clear H1
      by_cases c8 : (l0.length : Int) > 300
      · rw [if_pos c8] at H
        have c8b0 : decide (300 < (l0.length : Int)) = true := decide_eq_true c8
        have c8b1 : decide (300 < l0.length) = true := decide_eq_true (by omega)
        clear c8
        (first | rw [c8b0] | (simp only [i64_w, i32_w]; rw [c8b0]) | skip)
        have H' := Aside0.mk H
        clear H
        go_wp2
        go_meet
        case rel => exact ⟨_, (true), (by first | rfl | (simp; done) | (simp [*]; done)), H', ⟨by first | omega | exact Nat.le_refl _⟩, ⟨by repeat (first | (with_reducible first | exact HB.out | apply below_alloc | apply pw_below_drewN | apply below_drew1) | exact HB.out)⟩⟩
      · rw [if_neg c8] at H
        have c8b0 : decide (300 < (l0.length : Int)) = false := decide_eq_false c8
        have c8b1 : decide (300 < l0.length) = false := decide_eq_false (by omega)
        clear c8
        (first | rw [c8b0] | (simp only [i64_w, i32_w]; rw [c8b0]) | skip)
        by_cases c9 : a2 < a1
        · rw [if_pos c9] at H
          have c9b0 : decide (a2 < a1) = true := decide_eq_true c9
          clear c9
          have H' := Aside0.mk H
          clear H
          go_wp2
          go_meet
          case rel => exact ⟨_, (true), (by first | rfl | (simp; done) | (simp [*]; done)), H', ⟨by first | omega | exact Nat.le_refl _⟩, ⟨by repeat (first | (with_reducible first | exact HB.out | apply below_alloc | apply pw_below_drewN | apply below_drew1) | exact HB.out)⟩⟩
        · rw [if_neg c9] at H
          have c9b0 : decide (a2 < a1) = false := decide_eq_false c9
          clear c9
          replace H := Option.bind_eq_some_iff.mp H
          obtain ⟨t212, A100, H⟩ := H
          replace H : (if t212 = true then ((wide_Room.f l0 a2).bind fun t213 => (copperplatelaw18_WideWidth.j0 k l0 a1 a2 true (!t213))) else (copperplatelaw18_WideWidth.j0 k l0 a1 a2 true true)) = some r := H
          have A10 := Aside0.mk A100
          clear A100
          by_cases c11 : t212 = true
          · subst c11
            have H1 : ((wide_Room.f l0 a2).bind fun t213 => (copperplatelaw18_WideWidth.j0 k l0 a1 a2 true (!t213))) = some r := by rw [if_pos rfl] at H; exact H
            clear H
            have H := H1
            clear H1
            replace H := Option.bind_eq_some_iff.mp H
            obtain ⟨t213, A120, H⟩ := H
            replace H : (copperplatelaw18_WideWidth.j0 k l0 a1 a2 true (!t213)) = some r := H
            have A12 := Aside0.mk A120
            clear A120
            have H' := Aside0.mk H
            clear H
            go_wp2_with (first | (go_at_call 14; (with_reducible refine (wide_Room.calls _ _ l0 a1 true _ ?side1 ?side2 A10.out).mono ?_); (case side1 => repeat (first | exact (Kd.C_below HR0.out HB.out) | (with_reducible refine Kd.C_alloc ?_ _) | (with_reducible refine Kd.C_drewN ?_ _) | (with_reducible refine Kd.C_drew ?_))); (case side2 => exact HC0.out); (try clear A10); rintro e w13 ⟨rfl, hb⟩; have n0_ := Aside0.mk (below_step (by repeat (first | (with_reducible first | exact HB.out | apply below_alloc | apply pw_below_drewN | apply below_drew1) | exact HB.out)) hb); clear HB; have HB := n0_; clear n0_; (try clear hb); (try clear hb2); (try clear hk); (try clear hi)) | (go_at_call 14; (with_reducible refine (wide_Room.calls _ _ l0 a2 t213 _ ?side1 ?side2 A12.out).mono ?_); (case side1 => repeat (first | exact (Kd.C_below HR0.out HB.out) | (with_reducible refine Kd.C_alloc ?_ _) | (with_reducible refine Kd.C_drewN ?_ _) | (with_reducible refine Kd.C_drew ?_))); (case side2 => exact HC0.out); (try clear A12); rintro e w14 ⟨rfl, hb⟩; have n0_ := Aside0.mk (below_step (by repeat (first | (with_reducible first | exact HB.out | apply below_alloc | apply pw_below_drewN | apply below_drew1) | exact HB.out)) hb); clear HB; have HB := n0_; clear n0_; (try clear hb); (try clear hb2); (try clear hk); (try clear hi)))
            go_meet
            case rel => exact ⟨_, (!t213), (by first | rfl | (simp; done) | (simp [*]; done)), H', ⟨by first | omega | exact Nat.le_refl _⟩, ⟨by repeat (first | (with_reducible first | exact HB.out | apply below_alloc | apply pw_below_drewN | apply below_drew1) | exact HB.out)⟩⟩
          · replace c11 := Bool.eq_false_iff.mpr c11
            subst c11
            have H1 : (copperplatelaw18_WideWidth.j0 k l0 a1 a2 true true) = some r := by rw [if_neg (show ¬ (false = true) by decide)] at H; exact H
            clear H
            have H := H1
            clear H1
            have H' := Aside0.mk H
            clear H
            go_wp2_with (first | (go_at_call 14; (with_reducible refine (wide_Room.calls _ _ l0 a1 false _ ?side1 ?side2 A10.out).mono ?_); (case side1 => repeat (first | exact (Kd.C_below HR0.out HB.out) | (with_reducible refine Kd.C_alloc ?_ _) | (with_reducible refine Kd.C_drewN ?_ _) | (with_reducible refine Kd.C_drew ?_))); (case side2 => exact HC0.out); (try clear A10); rintro e w15 ⟨rfl, hb⟩; have n0_ := Aside0.mk (below_step (by repeat (first | (with_reducible first | exact HB.out | apply below_alloc | apply pw_below_drewN | apply below_drew1) | exact HB.out)) hb); clear HB; have HB := n0_; clear n0_; (try clear hb); (try clear hb2); (try clear hk); (try clear hi)))
            go_meet
            case rel => exact ⟨_, (true), (by first | rfl | (simp; done) | (simp [*]; done)), H', ⟨by first | omega | exact Nat.le_refl _⟩, ⟨by repeat (first | (with_reducible first | exact HB.out | apply below_alloc | apply pw_below_drewN | apply below_drew1) | exact HB.out)⟩⟩
    · replace c7 := Bool.eq_false_iff.mpr c7
      subst c7
      have H1 : (copperplatelaw18_WideWidth.j0 k l0 a1 a2 false true) = some r := by rw [if_neg (show ¬ (false = true) by decide)] at H; exact H
      clear H
      have H := H1
      clear H1
      have H' := Aside0.mk H
      clear H
      go_wp2
      go_meet
      case rel => exact ⟨_, (true), (by first | rfl | (simp; done) | (simp [*]; done)), H', ⟨by first | omega | exact Nat.le_refl _⟩, ⟨by repeat (first | (with_reducible first | exact HB.out | apply below_alloc | apply pw_below_drewN | apply below_drew1) | exact HB.out)⟩⟩
  case rest =>
    clear HC5
    try clear c1
    try clear p2
    try clear c5
    try clear c7
    try clear c8
    try clear c8b0
    try clear c8b1
    try clear c9
    try clear c9b0
    try clear c10
    try clear c11
    obtain ⟨kq, x37_4, rfl, HA, HJ4, HB⟩ := hcut
    cases kq with
    | zero => exact absurd HA.out (by simp [copperplatelaw18_WideWidth.j0])
    | succ kj4 =>
      have H := HA.out
      clear HA
      simp only [copperplatelaw18_WideWidth.j0] at H
      by_cases c16 : x37_4 = true
      · subst c16
        have H1 : (some t211) = some r := by rw [if_pos rfl] at H; exact H
        clear H
        have H := H1
        clear H1
        obtain rfl := Option.some.inj H
        go_wp2
        go_ret
        exact ⟨by first | rfl | (simp [errW_none, errW_some] <;> rfl) | (simp [*, errW_none, errW_some] <;> rfl), by repeat (first | (with_reducible first | exact HB.out | apply below_alloc | apply pw_below_drewN | apply below_drew1) | exact HB.out)⟩
      · replace c16 := Bool.eq_false_iff.mpr c16
        subst c16
        have H1 : ((wide_Lay.f l0 a1).bind fun bt214 => ((wide_Lay.f l0 a2).bind fun bt216 => (copperplatelaw18_WideWidth.l0 kj4 bt214.1 bt216.1 0))) = some r := by rw [if_neg (show ¬ (false = true) by decide)] at H; exact H
        clear H
        have H := H1
        clear H1
        replace H := Option.bind_eq_some_iff.mp H
        obtain ⟨⟨t214, t215⟩, A170, H⟩ := H
        replace H : ((wide_Lay.f l0 a2).bind fun bt216 => (copperplatelaw18_WideWidth.l0 kj4 t214 bt216.1 0)) = some r := H
        have A17 := Aside0.mk A170
        clear A170
        replace H := Option.bind_eq_some_iff.mp H
        obtain ⟨⟨t216, t217⟩, A180, H⟩ := H
        replace H : (copperplatelaw18_WideWidth.l0 kj4 t214 t216 0) = some r := H
        have A18 := Aside0.mk A180
        clear A180
        have H' := Aside0.mk H
        clear H
        go_wp2_with (first | ((with_reducible refine gate_callee (f := 11) rfl ?_); refine goesL_ (some 42) rfl rfl Try.func11 (by kernel_rfl) rfl #[.slice A0 l0.length c0, .int .i64 a1] rfl (by (try simp only [List.map_toArray, List.map_cons, List.map_nil]); first | done | rfl | (simp only [List.length_drop, List.length_take]; rfl)) ?_; (with_reducible refine (wide_Lay.calls _ _ l0 a1 t214 t215 _ ?side1 ?side2 A17.out).mono ?_); (case side1 => repeat (first | exact (Kd.C_below HR0.out HB.out) | (with_reducible refine Kd.C_alloc ?_ _) | (with_reducible refine Kd.C_drewN ?_ _) | (with_reducible refine Kd.C_drew ?_))); (case side2 => exact HC0.out); (try clear A17); rintro e w19 ⟨rfl, hb⟩; refine ⟨_, rfl, ?_⟩; have n0_ := Aside0.mk (below_step (by repeat (first | (with_reducible first | exact HB.out | apply below_alloc | apply pw_below_drewN | apply below_drew1) | exact HB.out)) hb); clear HB; have HB := n0_; clear n0_; (try clear hb); (try clear hb2); (try clear hk); (try clear hi)) | ((with_reducible refine gate_callee (f := 11) rfl ?_); refine goesL_ (some 48) rfl rfl Try.func11 (by kernel_rfl) rfl #[.slice A0 l0.length c0, .int .i64 a2] rfl (by (try simp only [List.map_toArray, List.map_cons, List.map_nil]); first | done | rfl | (simp only [List.length_drop, List.length_take]; rfl)) ?_; (with_reducible refine (wide_Lay.calls _ _ l0 a2 t216 t217 _ ?side1 ?side2 A18.out).mono ?_); (case side1 => repeat (first | exact (Kd.C_below HR0.out HB.out) | (with_reducible refine Kd.C_alloc ?_ _) | (with_reducible refine Kd.C_drewN ?_ _) | (with_reducible refine Kd.C_drew ?_))); (case side2 => exact HC0.out); (try clear A18); rintro e w20 ⟨rfl, hb⟩; refine ⟨_, rfl, ?_⟩; have n0_ := Aside0.mk (below_step (by repeat (first | (with_reducible first | exact HB.out | apply below_alloc | apply pw_below_drewN | apply below_drew1) | exact HB.out)) hb); clear HB; have HB := n0_; clear n0_; (try clear hb); (try clear hb2); (try clear hk); (try clear hi)))
        go_loopg [12] kj4 (fun kq v12 w' => ∃ (x12_2 : Int), v12 = .int .i64 x12_2 ∧ Aside0 (copperplatelaw18_WideWidth.l0 kq t214 t216 x12_2 = some r) ∧ Aside0 (kq ≤ kj4) ∧ Aside0 (Below w.heap.size w w'))
        case atStart => exact ⟨(0), (by first | rfl | (simp; done) | (simp [*]; done)), H', ⟨Nat.le_refl _⟩, ⟨by repeat (first | (with_reducible first | exact HB.out | apply below_alloc | apply pw_below_drewN | apply below_drew1) | exact HB.out)⟩⟩
        case round =>
          clear H'
          try clear c1
          try clear p2
          try clear c5
          try clear c7
          try clear c8
          try clear c8b0
          try clear c8b1
          try clear c9
          try clear c9b0
          try clear c10
          try clear c11
          try clear c16
          try clear p2
          obtain ⟨x12_2, rfl, HA, HK2, HB⟩ := hrel
          cases gk with
          | zero => exact absurd HA.out (by simp [copperplatelaw18_WideWidth.l0])
          | succ k2 =>
            have H := HA.out
            clear HA
            simp only [copperplatelaw18_WideWidth.l0] at H
            by_cases c21 : x12_2 < (t214.size : Int)
            · rw [if_pos c21] at H
              have c21b0 : decide (x12_2 < (t214.size : Int)) = true := decide_eq_true c21
              clear c21
              by_cases c22 : 0 ≤ x12_2
              · rw [if_pos c22] at H
                have c22b0 : decide (0 ≤ x12_2) = true := decide_eq_true c22
                clear c22
                by_cases c24 : (bt t214 x12_2) = 10
                · rw [if_pos c24] at H
                  have c24b0 : ((bt t214 x12_2) == 10) = true := beq_iff_eq.mpr c24
                  have c24b1 : ((bt t214 x12_2) != 10) = false := bne_eq_false_iff_eq.mpr c24
                  clear c24
                  obtain rfl := Option.some.inj H
                  have p23 : 0 ≤ (x12_2 : Int) := of_decide_eq_true (by first | (with_reducible assumption) | assumption)
                  have q23 : x12_2 < (t214.size : Int) := of_decide_eq_true (by first | (with_reducible assumption) | assumption)
                  have hx23 := bt_at t214 x12_2
                  replace p23 := eq_true p23
                  replace q23 := eq_true q23
                  go_wp2
                  go_ret
                  exact ⟨by first | rfl | (simp [errW_none, errW_some] <;> rfl) | (simp [*, errW_none, errW_some] <;> rfl), by repeat (first | (with_reducible first | exact HB.out | apply below_alloc | apply pw_below_drewN | apply below_drew1) | exact HB.out)⟩
                · rw [if_neg c24] at H
                  have c24b0 : ((bt t214 x12_2) == 10) = false := beq_eq_false_iff_ne.mpr c24
                  have c24b1 : ((bt t214 x12_2) != 10) = true := bne_iff_ne.mpr c24
                  have H' := Aside0.mk H
                  clear H
                  have p23 : 0 ≤ (x12_2 : Int) := of_decide_eq_true (by first | (with_reducible assumption) | assumption)
                  have q23 : x12_2 < (t214.size : Int) := of_decide_eq_true (by first | (with_reducible assumption) | assumption)
                  have hx23 := bt_at t214 x12_2
                  replace p23 := eq_true p23
                  replace q23 := eq_true q23
                  go_wp2
                  go_roundg k2
                  case measure => have := HJ4.out; have := HK2.out; omega
                  case rel => exact ⟨(wrap64 (x12_2 + 1)), (by first | rfl | (simp; done) | (simp [*]; done)), H', ⟨by have := HJ4.out; have := HK2.out; omega⟩, ⟨by repeat (first | (with_reducible first | exact HB.out | apply below_alloc | apply pw_below_drewN | apply below_drew1) | exact HB.out)⟩⟩
              · rw [if_neg c22] at H
                exact absurd H (by simp)
            · rw [if_neg c21] at H
              have c21b0 : decide (x12_2 < (t214.size : Int)) = false := decide_eq_false c21
              clear c21
              obtain rfl := Option.some.inj H
              go_wp2
              go_ret
              exact ⟨by first | rfl | (simp [errW_none, errW_some] <;> rfl) | (simp [*, errW_none, errW_some] <;> rfl), by repeat (first | (with_reducible first | exact HB.out | apply below_alloc | apply pw_below_drewN | apply below_drew1) | exact HB.out)⟩

/-- The pure statement of copperplatelaw18_WideWidth. -/
def copperplatelaw18_WideWidth.Pure : Prop := ∀ (l0 : List (S31)) (a1 : Int) (a2 : Int), l0.length * 24 ≤ 140737488351232 → (∀ x ∈ l0, (Lit.int .i64 x.f0).wf = true ∧ x.f1.size ≤ 140737488351232) → (Lit.int .i64 a1).wf = true → (Lit.int .i64 a2).wf = true → ∃ k, copperplatelaw18_WideWidth.f k l0 a1 a2 = some true
def copperplatelaw18_WideWidth.PureUp : Prop := ∀ (l0 : List (S31)) (a1 : Int) (a2 : Int), l0.length * 24 ≤ 140737488351232 → (∀ x ∈ l0, (Lit.int .i64 x.f0).wf = true ∧ x.f1.size ≤ 140737488351232) → (Lit.int .i64 a1).wf = true → (Lit.int .i64 a2).wf = true → (l0.map fun x => x.f1.size).sum ≤ 1048576 → ∃ k, copperplatelaw18_WideWidth.f k l0 a1 a2 = some true

end Go.Proofs.Ytipjfdamkpgecaa.PWide
