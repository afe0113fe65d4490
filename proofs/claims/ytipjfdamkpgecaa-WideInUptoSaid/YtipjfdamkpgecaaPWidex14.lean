-- Written by a program of the session (drive.py, over the kit's print.py with contracts by hand). Not trusted: Lean checks it.
import Derived.Test.YtipjfdamkpgecaaPWidex0
import Derived.Test.YtipjfdamkpgecaaPWidex2
import Derived.Test.YtipjfdamkpgecaaPWidex10
import Derived.Test.YtipjfdamkpgecaaHWideWideA
namespace Go.Proofs.Ytipjfdamkpgecaa.PWide
open Go.RowKit Go.Proofs.YtipjfdamkpgecaaW.PrintWords Go.Proofs.YtipjfdamkpgecaaW.PrintLast Go.Proofs.YtipjfdamkpgecaaW.PrintMore
attribute [local go_sem] max2_int min2_int max_two min_two max_three min_three max_four min_four   -- for this text's walks alone
set_option linter.unusedVariables false
set_option linter.unusedSimpArgs false

/-! ### copperplatelaw18_WideIn: function 7 -/
mutual
def copperplatelaw18_WideIn.j0 : Nat → List (S31) → Int → Bool → Bool → Option (Bool)
 | 0, _, _, _, _ => none
 | k + 1, x0, x1, x5, x27 => if x27 = true then (some x5) else (copperplatelaw18_WideIn.l0 k x0 x1 0)
def copperplatelaw18_WideIn.l0 : Nat → List (S31) → Int → Int → Option (Bool)
 | 0, _, _, _ => none
 | k + 1, x0, x1, x6 => if x6 < (x0.length : Int) then (if 0 ≤ x6 then (if ((rd_T31 x0 x6).f0) = 6 then (some true) else (copperplatelaw18_WideIn.l1 k x0 x1 x6 0)) else (none)) else ((wide_Lay.f x0 x1).bind fun bt230 => ((some (([(⟨8, (⟨#[]⟩ : ByteArray)⟩ : S31)] : List (S31)) : List (S31))).bind fun y232 => (if y232.length + x0.length < 5864062014805 then ((some (y232 ++ x0 : List (S31))).bind fun y235 => (if y235.length < 5864062014805 then ((wide_Lay.f (y235 ++ [(⟨9, (⟨#[]⟩ : ByteArray)⟩ : S31)]) x1).bind fun bt241 => (copperplatelaw18_WideIn.l2 k bt230.1 bt241.1 bt241.2 (⟨#[]⟩ : ByteArray) 0)) else (none))) else (none))))
def copperplatelaw18_WideIn.l1 : Nat → List (S31) → Int → Int → Int → Option (Bool)
 | 0, _, _, _, _ => none
 | k + 1, x0, x1, x6, x7 => if 0 ≤ x6 then (if x6 < (x0.length : Int) then (if x7 < (((rd_T31 x0 x6).f1).size : Int) then (if 0 ≤ x7 then (if (bt ((rd_T31 x0 x6).f1) x7) = 10 then (some true) else (copperplatelaw18_WideIn.l1 k x0 x1 x6 (wrap64 (x7 + 1)))) else (none)) else (copperplatelaw18_WideIn.l0 k x0 x1 (wrap64 (x6 + 1)))) else (none)) else (none)
def copperplatelaw18_WideIn.l2 : Nat → ByteArray → ByteArray → Bool → ByteArray → Int → Option (Bool)
 | 0, _, _, _, _, _ => none
 | k + 1, x8, x10, x11, x12, x13 => if x13 < (x8.size : Int) then (if x13 > 0 then (if 0 ≤ (wrap64 (x13 - 1)) then (if (wrap64 (x13 - 1)) < (x8.size : Int) then (if (bt x8 (wrap64 (x13 - 1))) = 10 then (if 0 ≤ x13 then (if (bt x8 x13) = 10 then (if x13 ≤ (wrap64 (x13 + 1)) then (if (wrap64 (x13 + 1)) ≤ (x8.size : Int) then (if x12.size + (x8.extract (x13 : Int).toNat ((wrap64 (x13 + 1)) : Int).toNat).size ≤ 9223372036854775807 then (copperplatelaw18_WideIn.l2 k x8 x10 x11 (x12 ++ (x8.extract (x13 : Int).toNat ((wrap64 (x13 + 1)) : Int).toNat)) (wrap64 (x13 + 1))) else (none)) else (none)) else (none)) else (if x12.size + 2 ≤ 9223372036854775807 then (if x13 ≤ (wrap64 (x13 + 1)) then (if (wrap64 (x13 + 1)) ≤ (x8.size : Int) then (if (x12 ++ (⟨#[32, 32]⟩ : ByteArray)).size + (x8.extract (x13 : Int).toNat ((wrap64 (x13 + 1)) : Int).toNat).size ≤ 9223372036854775807 then (copperplatelaw18_WideIn.l2 k x8 x10 x11 ((x12 ++ (⟨#[32, 32]⟩ : ByteArray)) ++ (x8.extract (x13 : Int).toNat ((wrap64 (x13 + 1)) : Int).toNat)) (wrap64 (x13 + 1))) else (none)) else (none)) else (none)) else (none))) else (none)) else (if 0 ≤ x13 then (if x13 ≤ (wrap64 (x13 + 1)) then (if (wrap64 (x13 + 1)) ≤ (x8.size : Int) then (if x12.size + (x8.extract (x13 : Int).toNat ((wrap64 (x13 + 1)) : Int).toNat).size ≤ 9223372036854775807 then (copperplatelaw18_WideIn.l2 k x8 x10 x11 (x12 ++ (x8.extract (x13 : Int).toNat ((wrap64 (x13 + 1)) : Int).toNat)) (wrap64 (x13 + 1))) else (none)) else (none)) else (none)) else (none))) else (none)) else (none)) else (if 0 ≤ x13 then (if x13 ≤ (wrap64 (x13 + 1)) then (if (wrap64 (x13 + 1)) ≤ (x8.size : Int) then (if x12.size + (x8.extract (x13 : Int).toNat ((wrap64 (x13 + 1)) : Int).toNat).size ≤ 9223372036854775807 then (copperplatelaw18_WideIn.l2 k x8 x10 x11 (x12 ++ (x8.extract (x13 : Int).toNat ((wrap64 (x13 + 1)) : Int).toNat)) (wrap64 (x13 + 1))) else (none)) else (none)) else (none)) else (none))) else (if x11 = true then (some (x10.toList == x12.toList)) else (some false))
end
def copperplatelaw18_WideIn.f (k : Nat) (l0 : List (S31)) (a1 : Int) : Option (Bool) := (copperplatelaw18_awake.f).bind fun t225 => (if t225 = true then (if (l0.length : Int) > 300 then (copperplatelaw18_WideIn.j0 k l0 a1 t225 true) else ((wide_Room.f l0 a1).bind fun t226 => (copperplatelaw18_WideIn.j0 k l0 a1 t225 (!t226)))) else (copperplatelaw18_WideIn.j0 k l0 a1 t225 true))
theorem copperplatelaw18_WideIn.mono_l : ∀ k, (∀ y0 y1 y2 y3, LeO (copperplatelaw18_WideIn.j0 k y0 y1 y2 y3) (copperplatelaw18_WideIn.j0 (k + 1) y0 y1 y2 y3)) ∧ (∀ y0 y1 y2, LeO (copperplatelaw18_WideIn.l0 k y0 y1 y2) (copperplatelaw18_WideIn.l0 (k + 1) y0 y1 y2)) ∧ (∀ y0 y1 y2 y3, LeO (copperplatelaw18_WideIn.l1 k y0 y1 y2 y3) (copperplatelaw18_WideIn.l1 (k + 1) y0 y1 y2 y3)) ∧ (∀ y0 y1 y2 y3 y4, LeO (copperplatelaw18_WideIn.l2 k y0 y1 y2 y3 y4) (copperplatelaw18_WideIn.l2 (k + 1) y0 y1 y2 y3 y4))
 | 0 => ⟨fun _ _ _ _ r h => by simp [copperplatelaw18_WideIn.j0] at h, fun _ _ _ r h => by simp [copperplatelaw18_WideIn.l0] at h, fun _ _ _ _ r h => by simp [copperplatelaw18_WideIn.l1] at h, fun _ _ _ _ _ r h => by simp [copperplatelaw18_WideIn.l2] at h⟩
 | k + 1 => by
  obtain ⟨ih0, ih1, ih2, ih3⟩ := copperplatelaw18_WideIn.mono_l k
  refine ⟨?_, ?_, ?_, ?_⟩
  ·intro y0 y1 y2 y3
   unfold copperplatelaw18_WideIn.j0
   repeat' first
   | (with_reducible exact ih0 _ _ _ _)
   | (with_reducible exact ih1 _ _ _)
   | (with_reducible exact ih2 _ _ _ _)
   | (with_reducible exact ih3 _ _ _ _ _)
   | (with_reducible exact LeO.refl _)
   | (with_reducible exact LeO.none _)
   | (with_reducible refine LeO.ite ?_ ?_)
   | (with_reducible refine LeO.bind ?_ (fun _ => ?_))
   | exact ih0 _ _ _ _
   | exact ih1 _ _ _
   | exact ih2 _ _ _ _
   | exact ih3 _ _ _ _ _
   | exact LeO.none _
   | refine LeO.ite ?_ ?_
   | refine LeO.bind ?_ (fun _ => ?_)
  ·intro y0 y1 y2
   unfold copperplatelaw18_WideIn.l0
   repeat' first
   | (with_reducible exact ih0 _ _ _ _)
   | (with_reducible exact ih1 _ _ _)
   | (with_reducible exact ih2 _ _ _ _)
   | (with_reducible exact ih3 _ _ _ _ _)
   | (with_reducible exact LeO.refl _)
   | (with_reducible exact LeO.none _)
   | (with_reducible refine LeO.ite ?_ ?_)
   | (with_reducible refine LeO.bind ?_ (fun _ => ?_))
   | exact ih0 _ _ _ _
   | exact ih1 _ _ _
   | exact ih2 _ _ _ _
   | exact ih3 _ _ _ _ _
   | exact LeO.none _
   | refine LeO.ite ?_ ?_
   | refine LeO.bind ?_ (fun _ => ?_)
  ·intro y0 y1 y2 y3
   unfold copperplatelaw18_WideIn.l1
   repeat' first
   | (with_reducible exact ih0 _ _ _ _)
   | (with_reducible exact ih1 _ _ _)
   | (with_reducible exact ih2 _ _ _ _)
   | (with_reducible exact ih3 _ _ _ _ _)
   | (with_reducible exact LeO.refl _)
   | (with_reducible exact LeO.none _)
   | (with_reducible refine LeO.ite ?_ ?_)
   | (with_reducible refine LeO.bind ?_ (fun _ => ?_))
   | exact ih0 _ _ _ _
   | exact ih1 _ _ _
   | exact ih2 _ _ _ _
   | exact ih3 _ _ _ _ _
   | exact LeO.none _
   | refine LeO.ite ?_ ?_
   | refine LeO.bind ?_ (fun _ => ?_)
  ·intro y0 y1 y2 y3 y4
   unfold copperplatelaw18_WideIn.l2
   repeat' first
   | (with_reducible exact ih0 _ _ _ _)
   | (with_reducible exact ih1 _ _ _)
   | (with_reducible exact ih2 _ _ _ _)
   | (with_reducible exact ih3 _ _ _ _ _)
   | (with_reducible exact LeO.refl _)
   | (with_reducible exact LeO.none _)
   | (with_reducible refine LeO.ite ?_ ?_)
   | (with_reducible refine LeO.bind ?_ (fun _ => ?_))
   | exact ih0 _ _ _ _
   | exact ih1 _ _ _
   | exact ih2 _ _ _ _
   | exact ih3 _ _ _ _ _
   | exact LeO.none _
   | refine LeO.ite ?_ ?_
   | refine LeO.bind ?_ (fun _ => ?_)
theorem copperplatelaw18_WideIn.mono : ∀ a0 a1 k, LeO (copperplatelaw18_WideIn.f k a0 a1) (copperplatelaw18_WideIn.f (k + 1) a0 a1) := by
 intro a0 a1 k
 obtain ⟨ih0, ih1, ih2, ih3⟩ := copperplatelaw18_WideIn.mono_l k
 unfold copperplatelaw18_WideIn.f
 repeat' first
   | (with_reducible exact ih0 _ _ _ _)
   | (with_reducible exact ih1 _ _ _)
   | (with_reducible exact ih2 _ _ _ _)
   | (with_reducible exact ih3 _ _ _ _ _)
   | (with_reducible exact LeO.refl _)
   | (with_reducible exact LeO.none _)
   | (with_reducible refine LeO.ite ?_ ?_)
   | (with_reducible refine LeO.bind ?_ (fun _ => ?_))
   | exact ih0 _ _ _ _
   | exact ih1 _ _ _
   | exact ih2 _ _ _ _
   | exact ih3 _ _ _ _ _
   | exact LeO.none _
   | refine LeO.ite ?_ ?_
   | refine LeO.bind ?_ (fun _ => ?_)
set_option maxHeartbeats 8000000 in
set_option maxRecDepth 100000 in
theorem copperplatelaw18_WideIn.calls (k : Nat) (A0 : Option Addr) (c0 : Nat) (l0 : List (S31)) (a1 : Int) (r : Bool) (w : World) (hr0 : Kd.C k31 w A0 l0.length l0) (hc0 : l0.length ≤ c0) (h : copperplatelaw18_WideIn.f k l0 a1 = some r) (hT_ : r = true) :
  Calls Try.prog 7 #[.slice A0 l0.length c0, .int .i64 a1] w fun e w' => e = .returned (.bool r) ∧ Below w.heap.size w w' := by
 have hu31 := Try.underlying31
 have HT_ := qM hT_
 clear hT_
 have HR0 := qM hr0
 have HC0 := qM hc0
 clear hr0 hc0
 have HB := qM (Below.refl w.heap.size w)
 have H : ((copperplatelaw18_awake.f).bind fun t225 => (if t225 = true then (if (l0.length : Int) > 300 then (copperplatelaw18_WideIn.j0 k l0 a1 t225 true) else ((wide_Room.f l0 a1).bind fun t226 => (copperplatelaw18_WideIn.j0 k l0 a1 t225 (!t226)))) else (copperplatelaw18_WideIn.j0 k l0 a1 t225 true))) = some r := h
 clear h
 replace H := Option.bind_eq_some_iff.mp H
 obtain ⟨t225, A30, H⟩ := H
 replace H : (if t225 = true then (if (l0.length : Int) > 300 then (copperplatelaw18_WideIn.j0 k l0 a1 t225 true) else ((wide_Room.f l0 a1).bind fun t226 => (copperplatelaw18_WideIn.j0 k l0 a1 t225 (!t226)))) else (copperplatelaw18_WideIn.j0 k l0 a1 t225 true)) = some r := H
 have A3 := qM A30
 clear A30
 have HC4 := qM H
 clear H
 go_enter Try.func7, Try.ntmps7
 go_upto_region 2 with (first | ((with_reducible refine gate_callee (f := 10) rfl ?_); refine goesL_ (some 14) rfl rfl Try.func10 (by kernel_rfl) rfl #[] rfl (by (try simp only [List.map_toArray, List.map_cons, List.map_nil]); first | done | rfl | (simp only [List.length_drop, List.length_take]; rfl)) ?_; (with_reducible refine (copperplatelaw18_awake.calls  t225 _ A3.out).mono ?_); (try clear A3); rintro e w5 ⟨rfl, hb⟩; refine ⟨_, rfl, ?_⟩; have n0_ := qM (below_step (by repeat (first | (with_reducible first | exact HB.out | apply qJ | apply qK | apply qL) | exact HB.out)) hb); clear HB; have HB := n0_; clear n0_; (try clear hb); (try clear hb2); (try clear hk); (try clear hi)))
 (try simp only [Act.put, qA, qB, qC])
 go_cut [27] (fun v27 wc => ∃ (kq : Nat) (x27_3 : Bool), v27 = .bool x27_3 ∧ Aside0 (copperplatelaw18_WideIn.j0 kq l0 a1 t225 x27_3 = some r) ∧ Aside0 (kq ≤ k) ∧ Aside0 (Below w.heap.size w wc))
 case first =>
  have H := HC4.out
  clear HC4
  by_cases c6 : t225 = true
  ·subst c6
   have H1 : (if (l0.length : Int) > 300 then (copperplatelaw18_WideIn.j0 k l0 a1 true true) else ((wide_Room.f l0 a1).bind fun t226 => (copperplatelaw18_WideIn.j0 k l0 a1 true (!t226)))) = some r := by rw [if_pos rfl] at H; exact H
   clear H
   have H := H1
   clear H1
   by_cases c7 : (l0.length : Int) > 300
   ·rw [if_pos c7] at H
    have c7b0 : decide (300 < (l0.length : Int)) = true := decide_eq_true c7
    have c7b1 : decide (300 < l0.length) = true := decide_eq_true (by omega)
    clear c7
    (first | rw [c7b0] | (simp only [i64_w, i32_w]; rw [c7b0]) | skip)
    have H' := qM H
    clear H
    go_wp2
    go_meet
    case rel => exact ⟨_, (true), (by first | rfl | (simp; done) | (simp [*]; done)), H', ⟨by first | omega | exact Nat.le_refl _⟩, ⟨by repeat (first | (with_reducible first | exact HB.out | apply qJ | apply qK | apply qL) | exact HB.out)⟩⟩
   ·rw [if_neg c7] at H
    have c7b0 : decide (300 < (l0.length : Int)) = false := decide_eq_false c7
    have c7b1 : decide (300 < l0.length) = false := decide_eq_false (by omega)
    clear c7
    (first | rw [c7b0] | (simp only [i64_w, i32_w]; rw [c7b0]) | skip)
    replace H := Option.bind_eq_some_iff.mp H
    obtain ⟨t226, A80, H⟩ := H
    replace H : (copperplatelaw18_WideIn.j0 k l0 a1 true (!t226)) = some r := H
    have A8 := qM A80
    clear A80
    have H' := qM H
    clear H
    go_wp2_with (first | (go_at_call 14; (with_reducible refine (wide_Room.calls _ _ l0 a1 t226 _ ?side1 ?side2 A8.out).mono ?_); (case side1 => repeat (first | exact (Kd.C_below HR0.out HB.out) | (with_reducible first | apply qO | apply qP | apply qQ))); (case side2 => exact HC0.out); (try clear A8); rintro e w9 ⟨rfl, hb⟩; have n0_ := qM (below_step (by repeat (first | (with_reducible first | exact HB.out | apply qJ | apply qK | apply qL) | exact HB.out)) hb); clear HB; have HB := n0_; clear n0_; (try clear hb); (try clear hb2); (try clear hk); (try clear hi)))
    go_meet
    case rel => exact ⟨_, (!t226), (by first | rfl | (simp; done) | (simp [*]; done)), H', ⟨by first | omega | exact Nat.le_refl _⟩, ⟨by repeat (first | (with_reducible first | exact HB.out | apply qJ | apply qK | apply qL) | exact HB.out)⟩⟩
  ·replace c6 := Bool.eq_false_iff.mpr c6
   subst c6
   have H1 : (copperplatelaw18_WideIn.j0 k l0 a1 false true) = some r := by rw [if_neg (show ¬ (false = true) by decide)] at H; exact H
   clear H
   have H := H1
   clear H1
   have H' := qM H
   clear H
   go_wp2
   go_meet
   case rel => exact ⟨_, (true), (by first | rfl | (simp; done) | (simp [*]; done)), H', ⟨by first | omega | exact Nat.le_refl _⟩, ⟨by repeat (first | (with_reducible first | exact HB.out | apply qJ | apply qK | apply qL) | exact HB.out)⟩⟩
 case rest =>
  clear HC4
  try clear c1
  try clear p2
  try clear c6
  try clear c7
  try clear c7b0
  try clear c7b1
  obtain ⟨kq, x27_3, rfl, HA, HJ3, HB⟩ := hcut
  cases kq with
  | zero => exact absurd HA.out (by simp [copperplatelaw18_WideIn.j0])
  | succ kj3 =>
   have H := HA.out
   clear HA
   simp only [copperplatelaw18_WideIn.j0] at H
   by_cases c10 : x27_3 = true
   ·subst c10
    have H1 : (some t225) = some r := by rw [if_pos rfl] at H; exact H
    clear H
    have H := H1
    clear H1
    obtain rfl := Option.some.inj H
    go_wp2
    go_ret
    exact ⟨by first | rfl | (simp [errW_none, errW_some] <;> rfl) | (simp [*, errW_none, errW_some] <;> rfl), by repeat (first | (with_reducible first | exact HB.out | apply qJ | apply qK | apply qL) | exact HB.out)⟩
   ·replace c10 := Bool.eq_false_iff.mpr c10
    subst c10
    have H1 : (copperplatelaw18_WideIn.l0 kj3 l0 a1 0) = some r := by rw [if_neg (show ¬ (false = true) by decide)] at H; exact H
    clear H
    have H := H1
    clear H1
    have H' := qM H
    clear H
    go_wp2
    go_loopg [6] kj3 (fun kq v6 w' => ∃ (x6_2 : Int), v6 = .int .i64 x6_2 ∧ Aside0 (copperplatelaw18_WideIn.l0 kq l0 a1 x6_2 = some r) ∧ Aside0 (kq ≤ kj3) ∧ Aside0 (Below w.heap.size w w'))
    case atStart => exact ⟨(0), (by first | rfl | (simp; done) | (simp [*]; done)), H', ⟨Nat.le_refl _⟩, ⟨by repeat (first | (with_reducible first | exact HB.out | apply qJ | apply qK | apply qL) | exact HB.out)⟩⟩
    case round =>
     clear H'
     try clear c1
     try clear p2
     try clear c6
     try clear c7
     try clear c7b0
     try clear c7b1
     try clear c10
     try clear p2
     obtain ⟨x6_2, rfl, HA, HK2, HB⟩ := hrel
     cases gk with
     | zero => exact absurd HA.out (by simp [copperplatelaw18_WideIn.l0])
     | succ k2 =>
      have H := HA.out
      clear HA
      simp only [copperplatelaw18_WideIn.l0] at H
      by_cases c11 : x6_2 < (l0.length : Int)
      ·rw [if_pos c11] at H
       have c11b0 : decide (x6_2 < (l0.length : Int)) = true := decide_eq_true c11
       clear c11
       by_cases c12 : 0 ≤ x6_2
       ·rw [if_pos c12] at H
        have c12b0 : decide (0 ≤ x6_2) = true := decide_eq_true c12
        clear c12
        by_cases c13 : ((rd_T31 l0 x6_2).f0) = 6
        ·rw [if_pos c13] at H
         have c13b0 : (((rd_T31 l0 x6_2).f0) == 6) = true := beq_iff_eq.mpr c13
         have c13b1 : (((rd_T31 l0 x6_2).f0) != 6) = false := bne_eq_false_iff_eq.mpr c13
         clear c13
         obtain rfl := Option.some.inj H
         have p227 : 0 ≤ (x6_2 : Int) := qN (by assumption)
         have q227 : x6_2 < (l0.length : Int) := qN (by assumption)
         obtain ⟨ad227, e227, hx227_0, hx227_1⟩ := at_T31 HR0.out x6_2 p227 q227
         cases e227
         replace hx227_0 := (HB.out.cell (World.block_lt_of_cell? w _ hx227_0)).trans hx227_0
         replace hx227_1 := (HB.out.cell (World.block_lt_of_cell? w _ hx227_1)).trans hx227_1
         replace p227 := eq_true p227
         replace q227 := eq_true q227
         go_wp2
         go_ret
         exact ⟨by first | rfl | (simp [errW_none, errW_some] <;> rfl) | (simp [*, errW_none, errW_some] <;> rfl), by repeat (first | (with_reducible first | exact HB.out | apply qJ | apply qK | apply qL) | exact HB.out)⟩
        ·rw [if_neg c13] at H
         have c13b0 : (((rd_T31 l0 x6_2).f0) == 6) = false := beq_eq_false_iff_ne.mpr c13
         have c13b1 : (((rd_T31 l0 x6_2).f0) != 6) = true := bne_iff_ne.mpr c13
         have H' := qM H
         clear H
         have p227 : 0 ≤ (x6_2 : Int) := qN (by assumption)
         have q227 : x6_2 < (l0.length : Int) := qN (by assumption)
         obtain ⟨ad227, e227, hx227_0, hx227_1⟩ := at_T31 HR0.out x6_2 p227 q227
         cases e227
         replace hx227_0 := (HB.out.cell (World.block_lt_of_cell? w _ hx227_0)).trans hx227_0
         replace hx227_1 := (HB.out.cell (World.block_lt_of_cell? w _ hx227_1)).trans hx227_1
         replace p227 := eq_true p227
         replace q227 := eq_true q227
         go_wp2
         go_loopg [7] k2 (fun kq v7 w' => ∃ (x7_3 : Int), v7 = .int .i64 x7_3 ∧ Aside0 (copperplatelaw18_WideIn.l1 kq l0 a1 x6_2 x7_3 = some r) ∧ Aside0 (kq ≤ k2) ∧ Aside0 (Below w.heap.size w w'))
         case atStart => exact ⟨(0), (by first | rfl | (simp; done) | (simp [*]; done)), H', ⟨Nat.le_refl _⟩, ⟨by repeat (first | (with_reducible first | exact HB.out | apply qJ | apply qK | apply qL) | exact HB.out)⟩⟩
         case round =>
          clear H'
          try clear c1
          try clear p2
          try clear q2
          try clear hx2
          try clear c6
          try clear c7
          try clear c7b0
          try clear c7b1
          try clear c10
          try clear c11
          try clear c11b0
          try clear c12
          try clear c12b0
          try clear c13
          try clear c13b0
          try clear c13b1
          try clear hx227_0
          try clear hx227_1
          try clear p2
          try clear p227
          try clear q227
          obtain ⟨x7_3, rfl, HA, HK3, HB⟩ := hrel
          cases gk with
          | zero => exact absurd HA.out (by simp [copperplatelaw18_WideIn.l1])
          | succ k3 =>
           have H := HA.out
           clear HA
           simp only [copperplatelaw18_WideIn.l1] at H
           by_cases c14 : 0 ≤ x6_2
           ·rw [if_pos c14] at H
            have c14b0 : decide (0 ≤ x6_2) = true := decide_eq_true c14
            clear c14
            by_cases c15 : x6_2 < (l0.length : Int)
            ·rw [if_pos c15] at H
             have c15b0 : decide (x6_2 < (l0.length : Int)) = true := decide_eq_true c15
             clear c15
             by_cases c16 : x7_3 < (((rd_T31 l0 x6_2).f1).size : Int)
             ·rw [if_pos c16] at H
              have c16b0 : decide (x7_3 < (((rd_T31 l0 x6_2).f1).size : Int)) = true := decide_eq_true c16
              clear c16
              by_cases c17 : 0 ≤ x7_3
              ·rw [if_pos c17] at H
               have c17b0 : decide (0 ≤ x7_3) = true := decide_eq_true c17
               clear c17
               by_cases c19 : (bt ((rd_T31 l0 x6_2).f1) x7_3) = 10
               ·rw [if_pos c19] at H
                have c19b0 : ((bt ((rd_T31 l0 x6_2).f1) x7_3) == 10) = true := beq_iff_eq.mpr c19
                have c19b1 : ((bt ((rd_T31 l0 x6_2).f1) x7_3) != 10) = false := bne_eq_false_iff_eq.mpr c19
                clear c19
                obtain rfl := Option.some.inj H
                have p228 : 0 ≤ (x6_2 : Int) := qN (by assumption)
                have q228 : x6_2 < (l0.length : Int) := qN (by assumption)
                obtain ⟨ad228, e228, hx228_0, hx228_1⟩ := at_T31 HR0.out x6_2 p228 q228
                obtain rfl : ad227 = ad228 := (by injection e228)
                replace hx228_0 := (HB.out.cell (World.block_lt_of_cell? w _ hx228_0)).trans hx228_0
                replace hx228_1 := (HB.out.cell (World.block_lt_of_cell? w _ hx228_1)).trans hx228_1
                replace p228 := eq_true p228
                replace q228 := eq_true q228
                have p229 : 0 ≤ (x6_2 : Int) := qN (by assumption)
                have q229 : x6_2 < (l0.length : Int) := qN (by assumption)
                obtain ⟨ad229, e229, hx229_0, hx229_1⟩ := at_T31 HR0.out x6_2 p229 q229
                obtain rfl : ad227 = ad229 := (by injection e229)
                replace hx229_0 := (HB.out.cell (World.block_lt_of_cell? w _ hx229_0)).trans hx229_0
                replace hx229_1 := (HB.out.cell (World.block_lt_of_cell? w _ hx229_1)).trans hx229_1
                replace p229 := eq_true p229
                replace q229 := eq_true q229
                have p18 : 0 ≤ (x7_3 : Int) := qN (by assumption)
                have q18 : x7_3 < (((rd_T31 l0 x6_2).f1).size : Int) := qN (by assumption)
                have hx18 := bt_at ((rd_T31 l0 x6_2).f1) x7_3
                replace p18 := eq_true p18
                replace q18 := eq_true q18
                go_wp2
                go_ret
                exact ⟨by first | rfl | (simp [errW_none, errW_some] <;> rfl) | (simp [*, errW_none, errW_some] <;> rfl), by repeat (first | (with_reducible first | exact HB.out | apply qJ | apply qK | apply qL) | exact HB.out)⟩
               ·rw [if_neg c19] at H
                have c19b0 : ((bt ((rd_T31 l0 x6_2).f1) x7_3) == 10) = false := beq_eq_false_iff_ne.mpr c19
                have c19b1 : ((bt ((rd_T31 l0 x6_2).f1) x7_3) != 10) = true := bne_iff_ne.mpr c19
                have H' := qM H
                clear H
                have p228 : 0 ≤ (x6_2 : Int) := qN (by assumption)
                have q228 : x6_2 < (l0.length : Int) := qN (by assumption)
                obtain ⟨ad228, e228, hx228_0, hx228_1⟩ := at_T31 HR0.out x6_2 p228 q228
                obtain rfl : ad227 = ad228 := (by injection e228)
                replace hx228_0 := (HB.out.cell (World.block_lt_of_cell? w _ hx228_0)).trans hx228_0
                replace hx228_1 := (HB.out.cell (World.block_lt_of_cell? w _ hx228_1)).trans hx228_1
                replace p228 := eq_true p228
                replace q228 := eq_true q228
                have p229 : 0 ≤ (x6_2 : Int) := qN (by assumption)
                have q229 : x6_2 < (l0.length : Int) := qN (by assumption)
                obtain ⟨ad229, e229, hx229_0, hx229_1⟩ := at_T31 HR0.out x6_2 p229 q229
                obtain rfl : ad227 = ad229 := (by injection e229)
                replace hx229_0 := (HB.out.cell (World.block_lt_of_cell? w _ hx229_0)).trans hx229_0
                replace hx229_1 := (HB.out.cell (World.block_lt_of_cell? w _ hx229_1)).trans hx229_1
                replace p229 := eq_true p229
                replace q229 := eq_true q229
                have p18 : 0 ≤ (x7_3 : Int) := qN (by assumption)
                have q18 : x7_3 < (((rd_T31 l0 x6_2).f1).size : Int) := qN (by assumption)
                have hx18 := bt_at ((rd_T31 l0 x6_2).f1) x7_3
                replace p18 := eq_true p18
                replace q18 := eq_true q18
                go_wp2
                go_roundg k3
                case measure => have := HJ3.out; have := HK2.out; have := HK3.out; omega
                case rel => exact ⟨(wrap64 (x7_3 + 1)), (by first | rfl | (simp; done) | (simp [*]; done)), H', ⟨by have := HJ3.out; have := HK2.out; have := HK3.out; omega⟩, ⟨by repeat (first | (with_reducible first | exact HB.out | apply qJ | apply qK | apply qL) | exact HB.out)⟩⟩
              ·rw [if_neg c17] at H
               exact absurd H (by simp)
             ·rw [if_neg c16] at H
              have c16b0 : decide (x7_3 < (((rd_T31 l0 x6_2).f1).size : Int)) = false := decide_eq_false c16
              clear c16
              have H' := qM H
              clear H
              have p228 : 0 ≤ (x6_2 : Int) := qN (by assumption)
              have q228 : x6_2 < (l0.length : Int) := qN (by assumption)
              obtain ⟨ad228, e228, hx228_0, hx228_1⟩ := at_T31 HR0.out x6_2 p228 q228
              obtain rfl : ad227 = ad228 := (by injection e228)
              replace hx228_0 := (HB.out.cell (World.block_lt_of_cell? w _ hx228_0)).trans hx228_0
              replace hx228_1 := (HB.out.cell (World.block_lt_of_cell? w _ hx228_1)).trans hx228_1
              replace p228 := eq_true p228
              replace q228 := eq_true q228
              go_wp2
              go_roundg k3
              case measure => have := HJ3.out; have := HK2.out; have := HK3.out; omega
              case rel => exact ⟨(wrap64 (x6_2 + 1)), (by first | rfl | (simp; done) | (simp [*]; done)), H', ⟨by have := HJ3.out; have := HK2.out; have := HK3.out; omega⟩, ⟨by repeat (first | (with_reducible first | exact HB.out | apply qJ | apply qK | apply qL) | exact HB.out)⟩⟩
            ·rw [if_neg c15] at H
             exact absurd H (by simp)
           ·rw [if_neg c14] at H
            exact absurd H (by simp)
       ·rw [if_neg c12] at H
        exact absurd H (by simp)
      ·rw [if_neg c11] at H
       have c11b0 : decide (x6_2 < (l0.length : Int)) = false := decide_eq_false c11
       clear c11
       replace H := Option.bind_eq_some_iff.mp H
       obtain ⟨⟨t230, t231⟩, A200, H⟩ := H
       replace H : ((some (([(⟨8, (⟨#[]⟩ : ByteArray)⟩ : S31)] : List (S31)) : List (S31))).bind fun y232 => (if y232.length + l0.length < 5864062014805 then ((some (y232 ++ l0 : List (S31))).bind fun y235 => (if y235.length < 5864062014805 then ((wide_Lay.f (y235 ++ [(⟨9, (⟨#[]⟩ : ByteArray)⟩ : S31)]) a1).bind fun bt241 => (copperplatelaw18_WideIn.l2 k2 t230 bt241.1 bt241.2 (⟨#[]⟩ : ByteArray) 0)) else (none))) else (none))) = some r := H
       have A20 := qM A200
       clear A200
       obtain ⟨y232, hy232⟩ : ∃ y_ : List (S31), y_ = (([(⟨8, (⟨#[]⟩ : ByteArray)⟩ : S31)] : List (S31))) := ⟨_, rfl⟩
       replace H : (if y232.length + l0.length < 5864062014805 then ((some (y232 ++ l0 : List (S31))).bind fun y235 => (if y235.length < 5864062014805 then ((wide_Lay.f (y235 ++ [(⟨9, (⟨#[]⟩ : ByteArray)⟩ : S31)]) a1).bind fun bt241 => (copperplatelaw18_WideIn.l2 k2 t230 bt241.1 bt241.2 (⟨#[]⟩ : ByteArray) 0)) else (none))) else (none)) = some r := by first | (rw [hy232]; with_reducible exact H) | (have H2_ := (Option.bind_some _ _).symm.trans H; rw [hy232]; with_reducible exact H2_) | (have H2_ := (Option.bind_some _ _).symm.trans H; with_reducible exact H2_) | with_reducible exact H | (rw [hy232]; exact H) | exact H
       have Ny232 := qM hy232
       clear hy232
       by_cases c21 : y232.length + l0.length < 5864062014805
       ·rw [if_pos c21] at H
        have LMc21 := qM c21
        clear c21
        obtain ⟨y235, hy235⟩ : ∃ y_ : List (S31), y_ = (y232 ++ l0) := ⟨_, rfl⟩
        replace H : (if y235.length < 5864062014805 then ((wide_Lay.f (y235 ++ [(⟨9, (⟨#[]⟩ : ByteArray)⟩ : S31)]) a1).bind fun bt241 => (copperplatelaw18_WideIn.l2 k2 t230 bt241.1 bt241.2 (⟨#[]⟩ : ByteArray) 0)) else (none)) = some r := by first | (rw [hy235]; with_reducible exact H) | (have H2_ := (Option.bind_some _ _).symm.trans H; rw [hy235]; with_reducible exact H2_) | (have H2_ := (Option.bind_some _ _).symm.trans H; with_reducible exact H2_) | with_reducible exact H | (rw [hy235]; exact H) | exact H
        have Ny235 := qM hy235
        clear hy235
        by_cases c22 : y235.length < 5864062014805
        ·rw [if_pos c22] at H
         have LMc22 := qM c22
         clear c22
         obtain ⟨y238, hy238⟩ : ∃ y_ : List (S31), y_ = (y235 ++ [(⟨9, (⟨#[]⟩ : ByteArray)⟩ : S31)]) := ⟨_, rfl⟩
         replace H : ((wide_Lay.f y238 a1).bind fun bt241 => (copperplatelaw18_WideIn.l2 k2 t230 bt241.1 bt241.2 (⟨#[]⟩ : ByteArray) 0)) = some r := by first | (rw [hy238]; with_reducible exact H) | (have H2_ := (Option.bind_some _ _).symm.trans H; rw [hy238]; with_reducible exact H2_) | (have H2_ := (Option.bind_some _ _).symm.trans H; with_reducible exact H2_) | with_reducible exact H | (rw [hy238]; exact H) | exact H
         have Ny238 := qM hy238
         clear hy238
         replace H := Option.bind_eq_some_iff.mp H
         obtain ⟨⟨t241, t242⟩, A230, H⟩ := H
         replace H : (copperplatelaw18_WideIn.l2 k2 t230 t241 t242 (⟨#[]⟩ : ByteArray) 0) = some r := H
         have A23 := qM A230
         clear A230
         have H' := qM H
         clear H
         go_wp2_with (first | ((with_reducible refine gate_callee (f := 11) rfl ?_); refine goesL_ (some 62) rfl rfl Try.func11 (by kernel_rfl) rfl #[.slice A0 l0.length c0, .int .i64 a1] rfl (by (try simp only [List.map_toArray, List.map_cons, List.map_nil]); first | done | rfl | (simp only [List.length_drop, List.length_take]; rfl)) ?_; (with_reducible refine (wide_Lay.calls _ _ l0 a1 t230 t231 _ ?side1 ?side2 A20.out).mono ?_); (case side1 => repeat (first | exact (Kd.C_below HR0.out HB.out) | (with_reducible first | apply qO | apply qP | apply qQ))); (case side2 => exact HC0.out); (try clear A20); rintro e w24 ⟨rfl, hb⟩; refine ⟨_, rfl, ?_⟩; have n0_ := qM (below_step (by repeat (first | (with_reducible first | exact HB.out | apply qJ | apply qK | apply qL) | exact HB.out)) hb); clear HB; have HB := n0_; clear n0_; (try clear hb); (try clear hb2); (try clear hk); (try clear hi)) | ((with_reducible refine gate_dst (N := 67) rfl ?_); (try (refine gate_guard (by rfl) ?_; dsimp only)); refine Kd.R_lit k31 _ 31 ?hg (N := 67) ?hd (xs := ([(⟨8, (⟨#[]⟩ : ByteArray)⟩ : S31)] : List (S31))) (inner := [.int .i64 8, .string (⟨#[]⟩ : ByteArray)]) (ok := fun _ => True) (okp := fun _ => True) ?hr ?hp (fun _ hk => hk) trivial (Below.refl _ _) (Nat.le_refl _) (by simp) ?_; (case hd => rfl); (case hg => rfl); (case hr => first | (go_simp; done) | (go_simp; rfl)); (case hp => exact (Reps.c2 (show Kd.M k31 _ _ _ (⟨8, (⟨#[]⟩ : ByteArray)⟩ : S31) [.int .i64 8, .string (⟨#[]⟩ : ByteArray)] from (k31_mkM _ _ _ (⟨8, (⟨#[]⟩ : ByteArray)⟩ : S31) )) (Reps.none _ _))); intro v233 w25 ho26 hb hg_ hnew_; clear hg_ hnew_; (first | rw [← Ny232.out] at ho26 | (simp only [Int.reduceToNat] at ho26; rw [← Ny232.out] at ho26)); have n0_ := qM (Kd.R_lower ho26 (below_size (by repeat (first | (with_reducible first | exact HB.out | apply qJ | apply qK | apply qL) | exact HB.out)))); have n1_ := qM (below_step (by repeat (first | (with_reducible first | exact HB.out | apply qJ | apply qK | apply qL) | exact HB.out)) hb); clear HB; have HO234 := n0_; have HB := n1_; clear n0_ n1_; clear hb ho26) | ((with_reducible refine gate_builtin (b := .append) (xs := #[.tmp 67, .tmp 68]) rfl ?_); (try (refine gate_guard (by rfl) ?_; dsimp only)); at_builtin; refine Kd.R_append_rows k31 (w0 := w) w.heap.size rfl (.tmp 67) (.tmp 68) 22 31 (.agg #[(.int .i64 0), (.string ⟨#[]⟩)]) 24 rfl Try.underlying22 info31 rfl (by decide) (by omega) v233 y232 l0 _ _ _ (fun _ => True) (fun _ => False) rfl rfl ?aO ?aR (fun _ _ h => h) (fun _ h => h.elim) ?aF ?aB ?aS ?aL ?_; (case aR => repeat (first | exact (Kd.C_below HR0.out HB.out) | (with_reducible first | apply qO | apply qP | apply qQ))); (case aB => exact (by repeat (first | (with_reducible first | exact HB.out | apply qJ | apply qK | apply qL) | exact HB.out))); (case aF => exact (fun _ _ => trivial)); (case aO => exact (by (with_reducible repeat (first | apply qG | apply qH | apply qI)); exact HO234.out)); (case aS => exact (below_size (by repeat (first | (with_reducible first | exact HB.out | apply qJ | apply qK | apply qL) | exact HB.out)))); (case aL => have := LMc21.out; omega); intro v236 w27 ho hb hg hat; rw [← Ny235.out] at ho; have n0_ := qM (hb); have n1_ := qM (ho); clear HB; clear HO234; have HB := n0_; have HO237 := n1_; clear n0_ n1_; clear ho hb hg hat) | ((with_reducible refine gate_builtin (b := .append) (xs := #[.tmp 69, .tmp 71]) rfl ?_); (try (refine gate_guard (by rfl) ?_; dsimp only)); at_builtin; refine Kd.R_append k31 (w0 := w) w.heap.size rfl (.tmp 69) (.tmp 71) 22 31 (.agg #[(.int .i64 0), (.string ⟨#[]⟩)]) 24 rfl Try.underlying22 info31 rfl (by decide) (by omega) v236 y235 (⟨9, (⟨#[]⟩ : ByteArray)⟩ : S31) [.int .i64 9, .string (⟨#[]⟩ : ByteArray)] (fun _ => True) (fun _ => False) rfl rfl ?aP (fun _ hk => hk.elim) ?aF ?aO ?aB ?aS ?aL ?_; (case aP => exact k31_mkM _ _ _ (⟨9, (⟨#[]⟩ : ByteArray)⟩ : S31)); (case aB => exact (by repeat (first | (with_reducible first | exact HB.out | apply qJ | apply qK | apply qL) | exact HB.out))); (case aF => exact (fun _ _ => trivial)); (case aO => exact (by (with_reducible repeat (first | apply qG | apply qH | apply qI)); exact HO237.out)); (case aS => exact (below_size (by repeat (first | (with_reducible first | exact HB.out | apply qJ | apply qK | apply qL) | exact HB.out)))); (case aL => have := LMc22.out; omega); intro v239 w28 ho hb hg hat; rw [← Ny238.out] at ho; have n0_ := qM (hb); have n1_ := qM (ho); clear HB; clear HO237; have HB := n0_; have HO240 := n1_; clear n0_ n1_; clear ho hb hg hat; obtain ⟨Ao29, co29, eo29⟩ := Kd.R_slice HO240.out; subst eo29) | ((with_reducible refine gate_callee (f := 11) rfl ?_); refine goesL_ (some 74) rfl rfl Try.func11 (by kernel_rfl) rfl #[.slice Ao29 y238.length co29, .int .i64 a1] rfl (by (try simp only [List.map_toArray, List.map_cons, List.map_nil]); first | done | rfl | (simp only [List.length_drop, List.length_take]; rfl)) ?_; (with_reducible refine (wide_Lay.calls _ _ y238 a1 t241 t242 _ ?side1 ?side2 A23.out).mono ?_); (case side1 => repeat (first | exact (Kd.R_reads' HO240.out).2.2 | (with_reducible first | apply qO | apply qP | apply qQ))); (case side2 => exact (Kd.R_reads' HO240.out).2.1); (try clear A23); rintro e w30 ⟨rfl, hb⟩; refine ⟨_, rfl, ?_⟩; have n0_ := qM (Kd.R_below (by (with_reducible repeat (first | apply qG | apply qH | apply qI)); exact HO240.out) hb); have n1_ := qM (below_step (by repeat (first | (with_reducible first | exact HB.out | apply qJ | apply qK | apply qL) | exact HB.out)) hb); clear HO240; clear HB; have HO240 := n0_; have HB := n1_; clear n0_ n1_; (try clear hb); (try clear hb2); (try clear hk); (try clear hi)))
         go_loopg [12, 13] k2 (fun kq v12 v13 w' => ∃ (x12_3 : ByteArray) (x13_3 : Int), v12 = .string x12_3 ∧ v13 = .int .i64 x13_3 ∧ Aside0 (copperplatelaw18_WideIn.l2 kq t230 t241 t242 x12_3 x13_3 = some r) ∧ Aside0 (kq ≤ k2) ∧ Aside0 (Below w.heap.size w w'))
         case atStart => exact ⟨((⟨#[]⟩ : ByteArray)), (0), (by first | rfl | (simp; done) | (simp [*]; done)), (by first | rfl | (simp; done) | (simp [*]; done)), H', ⟨Nat.le_refl _⟩, ⟨by repeat (first | (with_reducible first | exact HB.out | apply qJ | apply qK | apply qL) | exact HB.out)⟩⟩
         case round =>
          clear H'
          try clear c1
          try clear p1
          try clear q1
          try clear hx1
          try clear c2
          try clear p2
          try clear q2
          try clear hx2
          try clear c6
          try clear p6
          try clear c7
          try clear c7b0
          try clear c7b1
          try clear c10
          try clear c11
          try clear c11b0
          try clear c12
          try clear c12b0
          try clear c13
          try clear c13b0
          try clear c13b1
          try clear c14
          try clear c14b0
          try clear c15
          try clear c15b0
          try clear c16
          try clear c16b0
          try clear c17
          try clear c17b0
          try clear p18
          try clear q18
          try clear hx18
          try clear c19
          try clear c19b0
          try clear c19b1
          try clear c21
          try clear c22
          try clear p22
          try clear q22
          try clear hx22
          try clear hx227_0
          try clear hx227_1
          try clear hx228_0
          try clear hx228_1
          try clear hx229_0
          try clear hx229_1
          try clear p18
          try clear p2
          try clear p227
          try clear p228
          try clear p229
          try clear q18
          try clear q2
          try clear q227
          try clear q228
          try clear q229
          obtain ⟨x12_3, x13_3, rfl, rfl, HA, HK3, HB⟩ := hrel
          cases gk with
          | zero => exact absurd HA.out (by simp [copperplatelaw18_WideIn.l2])
          | succ k3 =>
           have H := HA.out
           clear HA
           simp only [copperplatelaw18_WideIn.l2] at H
           by_cases c31 : x13_3 < (t230.size : Int)
           ·rw [if_pos c31] at H
            have c31b0 : decide (x13_3 < (t230.size : Int)) = true := decide_eq_true c31
            clear c31
            by_cases c32 : x13_3 > 0
            ·rw [if_pos c32] at H
             have c32b0 : decide (0 < x13_3) = true := decide_eq_true c32
             clear c32
             obtain ⟨ji33, hji33⟩ : ∃ j_ : Int, (wrap64 (x13_3 - 1)) = j_ := ⟨_, rfl⟩
             replace H : (if 0 ≤ (ji33) then (if (ji33) < (t230.size : Int) then (if (bt t230 (ji33)) = 10 then (if 0 ≤ x13_3 then (if (bt t230 x13_3) = 10 then (if x13_3 ≤ (wrap64 (x13_3 + 1)) then (if (wrap64 (x13_3 + 1)) ≤ (t230.size : Int) then (if x12_3.size + (t230.extract (x13_3 : Int).toNat ((wrap64 (x13_3 + 1)) : Int).toNat).size ≤ 9223372036854775807 then (copperplatelaw18_WideIn.l2 k3 t230 t241 t242 (x12_3 ++ (t230.extract (x13_3 : Int).toNat ((wrap64 (x13_3 + 1)) : Int).toNat)) (wrap64 (x13_3 + 1))) else (none)) else (none)) else (none)) else (if x12_3.size + 2 ≤ 9223372036854775807 then (if x13_3 ≤ (wrap64 (x13_3 + 1)) then (if (wrap64 (x13_3 + 1)) ≤ (t230.size : Int) then (if (x12_3 ++ (⟨#[32, 32]⟩ : ByteArray)).size + (t230.extract (x13_3 : Int).toNat ((wrap64 (x13_3 + 1)) : Int).toNat).size ≤ 9223372036854775807 then (copperplatelaw18_WideIn.l2 k3 t230 t241 t242 ((x12_3 ++ (⟨#[32, 32]⟩ : ByteArray)) ++ (t230.extract (x13_3 : Int).toNat ((wrap64 (x13_3 + 1)) : Int).toNat)) (wrap64 (x13_3 + 1))) else (none)) else (none)) else (none)) else (none))) else (none)) else (if 0 ≤ x13_3 then (if x13_3 ≤ (wrap64 (x13_3 + 1)) then (if (wrap64 (x13_3 + 1)) ≤ (t230.size : Int) then (if x12_3.size + (t230.extract (x13_3 : Int).toNat ((wrap64 (x13_3 + 1)) : Int).toNat).size ≤ 9223372036854775807 then (copperplatelaw18_WideIn.l2 k3 t230 t241 t242 (x12_3 ++ (t230.extract (x13_3 : Int).toNat ((wrap64 (x13_3 + 1)) : Int).toNat)) (wrap64 (x13_3 + 1))) else (none)) else (none)) else (none)) else (none))) else (none)) else (none)) = some r := by first | (rw [hji33] at H; exact H) | (simp only [hji33] at H ⊢; exact H)
             have hji33w : (IntKind.i64.wrap (x13_3 - 1)) = ji33 := (i64_w _).trans hji33
             by_cases c34 : 0 ≤ (ji33)
             ·rw [if_pos c34] at H
              have c34b0 : decide (0 ≤ (ji33)) = true := decide_eq_true c34
              clear c34
              by_cases c35 : (ji33) < (t230.size : Int)
              ·rw [if_pos c35] at H
               have c35b0 : decide ((ji33) < (t230.size : Int)) = true := decide_eq_true c35
               clear c35
               by_cases c37 : (bt t230 (ji33)) = 10
               ·rw [if_pos c37] at H
                have c37b0 : ((bt t230 (ji33)) == 10) = true := beq_iff_eq.mpr c37
                have c37b1 : ((bt t230 (ji33)) != 10) = false := bne_eq_false_iff_eq.mpr c37
                clear c37
                by_cases c38 : 0 ≤ x13_3
                ·rw [if_pos c38] at H
                 have c38b0 : decide (0 ≤ x13_3) = true := decide_eq_true c38
                 clear c38
                 by_cases c40 : (bt t230 x13_3) = 10
                 ·rw [if_pos c40] at H
                  have c40b0 : ((bt t230 x13_3) == 10) = true := beq_iff_eq.mpr c40
                  have c40b1 : ((bt t230 x13_3) != 10) = false := bne_eq_false_iff_eq.mpr c40
                  clear c40
                  have c41b0 := eq_true (qN (by assumption) : 0 ≤ x13_3)
                  by_cases c42 : x13_3 ≤ (wrap64 (x13_3 + 1))
                  ·rw [if_pos c42] at H
                   have c42b0 := eq_true c42
                   have c42b1 : decide (x13_3 ≤ (wrap64 (x13_3 + 1))) = true := decide_eq_true c42
                   by_cases c43 : (wrap64 (x13_3 + 1)) ≤ (t230.size : Int)
                   ·rw [if_pos c43] at H
                    have c43b0 := eq_true c43
                    have c43b1 : decide ((wrap64 (x13_3 + 1)) ≤ (t230.size : Int)) = true := decide_eq_true c43
                    by_cases c44 : x12_3.size + (t230.extract (x13_3 : Int).toNat ((wrap64 (x13_3 + 1)) : Int).toNat).size ≤ 9223372036854775807
                    ·rw [if_pos c44] at H
                     have c44b0 := eq_true c44
                     have c44b1 : decide (x12_3.size + (t230.extract (x13_3 : Int).toNat ((wrap64 (x13_3 + 1)) : Int).toNat).size ≤ 9223372036854775807) = true := decide_eq_true c44
                     try have c44b2 : (9223372036854775807 < x12_3.size + (t230.extract (x13_3 : Int).toNat ((wrap64 (x13_3 + 1)) : Int).toNat).size) = False := eq_false (Nat.not_lt.2 c44)
                     have H' := qM H
                     clear H
                     have p36 : 0 ≤ ((ji33) : Int) := qN (by assumption)
                     have q36 : (ji33) < (t230.size : Int) := qN (by assumption)
                     have hx36 := bt_at t230 (ji33)
                     replace p36 := eq_true p36
                     replace q36 := eq_true q36
                     have p39 : 0 ≤ (x13_3 : Int) := qN (by assumption)
                     have q39 : x13_3 < (t230.size : Int) := qN (by assumption)
                     have hx39 := bt_at t230 x13_3
                     replace p39 := eq_true p39
                     replace q39 := eq_true q39
                     (try (have hw_ : wrap64 (x13_3 + 1) = (x13_3 + 1) := (by unfold wrap64; omega); have c42b0u := c42b0; rw [hw_] at c42b0u))
                     (try (have hw_ : wrap64 (x13_3 + 1) = (x13_3 + 1) := (by unfold wrap64; omega); have c42b1u := c42b1; rw [hw_] at c42b1u))
                     (try (have hw_ : wrap64 (x13_3 + 1) = (x13_3 + 1) := (by unfold wrap64; omega); have c42u := c42; rw [hw_] at c42u))
                     (try (have hw_ : wrap64 (x13_3 + 1) = (x13_3 + 1) := (by unfold wrap64; omega); have c43b0u := c43b0; rw [hw_] at c43b0u))
                     (try (have hw_ : wrap64 (x13_3 + 1) = (x13_3 + 1) := (by unfold wrap64; omega); have c43b1u := c43b1; rw [hw_] at c43b1u))
                     (try (have hw_ : wrap64 (x13_3 + 1) = (x13_3 + 1) := (by unfold wrap64; omega); have c43u := c43; rw [hw_] at c43u))
                     (try (have hw_ : wrap64 (x13_3 + 1) = (x13_3 + 1) := (by unfold wrap64; omega); have c44b0u := c44b0; rw [hw_] at c44b0u))
                     (try (have hw_ : wrap64 (x13_3 + 1) = (x13_3 + 1) := (by unfold wrap64; omega); have c44b1u := c44b1; rw [hw_] at c44b1u))
                     (try (have hw_ : wrap64 (x13_3 + 1) = (x13_3 + 1) := (by unfold wrap64; omega); have c44u := c44; rw [hw_] at c44u))
                     go_wp2
                     go_roundg k3
                     case measure => have := HJ3.out; have := HK2.out; have := HK3.out; omega
                     case rel => exact ⟨(x12_3 ++ (t230.extract (x13_3 : Int).toNat ((wrap64 (x13_3 + 1)) : Int).toNat)), (wrap64 (x13_3 + 1)), (by first | rfl | (simp; done) | (simp [*]; done)), (by first | rfl | (simp; done) | (simp [*]; done)), H', ⟨by have := HJ3.out; have := HK2.out; have := HK3.out; omega⟩, ⟨by repeat (first | (with_reducible first | exact HB.out | apply qJ | apply qK | apply qL) | exact HB.out)⟩⟩
                    ·rw [if_neg c44] at H
                     exact absurd H (by simp)
                   ·rw [if_neg c43] at H
                    exact absurd H (by simp)
                  ·rw [if_neg c42] at H
                   exact absurd H (by simp)
                 ·rw [if_neg c40] at H
                  have c40b0 : ((bt t230 x13_3) == 10) = false := beq_eq_false_iff_ne.mpr c40
                  have c40b1 : ((bt t230 x13_3) != 10) = true := bne_iff_ne.mpr c40
                  by_cases c45 : x12_3.size + 2 ≤ 9223372036854775807
                  ·rw [if_pos c45] at H
                   have c45b0 := eq_true c45
                   have c45b1 : decide (x12_3.size + 2 ≤ 9223372036854775807) = true := decide_eq_true c45
                   try have c45b2 : (9223372036854775807 < x12_3.size + 2) = False := eq_false (Nat.not_lt.2 c45)
                   have c46b0 := eq_true (qN (by assumption) : 0 ≤ x13_3)
                   by_cases c47 : x13_3 ≤ (wrap64 (x13_3 + 1))
                   ·rw [if_pos c47] at H
                    have c47b0 := eq_true c47
                    have c47b1 : decide (x13_3 ≤ (wrap64 (x13_3 + 1))) = true := decide_eq_true c47
                    by_cases c48 : (wrap64 (x13_3 + 1)) ≤ (t230.size : Int)
                    ·rw [if_pos c48] at H
                     have c48b0 := eq_true c48
                     have c48b1 : decide ((wrap64 (x13_3 + 1)) ≤ (t230.size : Int)) = true := decide_eq_true c48
                     by_cases c49 : (x12_3 ++ (⟨#[32, 32]⟩ : ByteArray)).size + (t230.extract (x13_3 : Int).toNat ((wrap64 (x13_3 + 1)) : Int).toNat).size ≤ 9223372036854775807
                     ·rw [if_pos c49] at H
                      have c49b0 := eq_true c49
                      have c49b1 : decide ((x12_3 ++ (⟨#[32, 32]⟩ : ByteArray)).size + (t230.extract (x13_3 : Int).toNat ((wrap64 (x13_3 + 1)) : Int).toNat).size ≤ 9223372036854775807) = true := decide_eq_true c49
                      try have c49b2 : (9223372036854775807 < (x12_3 ++ (⟨#[32, 32]⟩ : ByteArray)).size + (t230.extract (x13_3 : Int).toNat ((wrap64 (x13_3 + 1)) : Int).toNat).size) = False := eq_false (Nat.not_lt.2 c49)
                      have H' := qM H
                      clear H
                      have p36 : 0 ≤ ((ji33) : Int) := qN (by assumption)
                      have q36 : (ji33) < (t230.size : Int) := qN (by assumption)
                      have hx36 := bt_at t230 (ji33)
                      replace p36 := eq_true p36
                      replace q36 := eq_true q36
                      have p39 : 0 ≤ (x13_3 : Int) := qN (by assumption)
                      have q39 : x13_3 < (t230.size : Int) := qN (by assumption)
                      have hx39 := bt_at t230 x13_3
                      replace p39 := eq_true p39
                      replace q39 := eq_true q39
                      (try (have hw_ : wrap64 (x13_3 + 1) = (x13_3 + 1) := (by unfold wrap64; omega); have c47b0u := c47b0; rw [hw_] at c47b0u))
                      (try (have hw_ : wrap64 (x13_3 + 1) = (x13_3 + 1) := (by unfold wrap64; omega); have c47b1u := c47b1; rw [hw_] at c47b1u))
                      (try (have hw_ : wrap64 (x13_3 + 1) = (x13_3 + 1) := (by unfold wrap64; omega); have c47u := c47; rw [hw_] at c47u))
                      (try (have hw_ : wrap64 (x13_3 + 1) = (x13_3 + 1) := (by unfold wrap64; omega); have c48b0u := c48b0; rw [hw_] at c48b0u))
                      (try (have hw_ : wrap64 (x13_3 + 1) = (x13_3 + 1) := (by unfold wrap64; omega); have c48b1u := c48b1; rw [hw_] at c48b1u))
                      (try (have hw_ : wrap64 (x13_3 + 1) = (x13_3 + 1) := (by unfold wrap64; omega); have c48u := c48; rw [hw_] at c48u))
                      (try (have hw_ : wrap64 (x13_3 + 1) = (x13_3 + 1) := (by unfold wrap64; omega); have c49b0u := c49b0; rw [hw_] at c49b0u))
                      (try (have hw_ : wrap64 (x13_3 + 1) = (x13_3 + 1) := (by unfold wrap64; omega); have c49b1u := c49b1; rw [hw_] at c49b1u))
                      (try (have hw_ : wrap64 (x13_3 + 1) = (x13_3 + 1) := (by unfold wrap64; omega); have c49u := c49; rw [hw_] at c49u))
                      go_wp2
                      go_roundg k3
                      case measure => have := HJ3.out; have := HK2.out; have := HK3.out; omega
                      case rel => exact ⟨((x12_3 ++ (⟨#[32, 32]⟩ : ByteArray)) ++ (t230.extract (x13_3 : Int).toNat ((wrap64 (x13_3 + 1)) : Int).toNat)), (wrap64 (x13_3 + 1)), (by first | rfl | (simp; done) | (simp [*]; done)), (by first | rfl | (simp; done) | (simp [*]; done)), H', ⟨by have := HJ3.out; have := HK2.out; have := HK3.out; omega⟩, ⟨by repeat (first | (with_reducible first | exact HB.out | apply qJ | apply qK | apply qL) | exact HB.out)⟩⟩
                     ·rw [if_neg c49] at H
                      exact absurd H (by simp)
                    ·rw [if_neg c48] at H
                     exact absurd H (by simp)
                   ·rw [if_neg c47] at H
                    exact absurd H (by simp)
                  ·rw [if_neg c45] at H
                   exact absurd H (by simp)
                ·rw [if_neg c38] at H
                 exact absurd H (by simp)
               ·rw [if_neg c37] at H
                have c37b0 : ((bt t230 (ji33)) == 10) = false := beq_eq_false_iff_ne.mpr c37
                have c37b1 : ((bt t230 (ji33)) != 10) = true := bne_iff_ne.mpr c37
                by_cases c50 : 0 ≤ x13_3
                ·rw [if_pos c50] at H
                 have c50b0 := eq_true c50
                 have c50b1 : decide (0 ≤ x13_3) = true := decide_eq_true c50
                 clear c50
                 by_cases c51 : x13_3 ≤ (wrap64 (x13_3 + 1))
                 ·rw [if_pos c51] at H
                  have c51b0 := eq_true c51
                  have c51b1 : decide (x13_3 ≤ (wrap64 (x13_3 + 1))) = true := decide_eq_true c51
                  by_cases c52 : (wrap64 (x13_3 + 1)) ≤ (t230.size : Int)
                  ·rw [if_pos c52] at H
                   have c52b0 := eq_true c52
                   have c52b1 : decide ((wrap64 (x13_3 + 1)) ≤ (t230.size : Int)) = true := decide_eq_true c52
                   by_cases c53 : x12_3.size + (t230.extract (x13_3 : Int).toNat ((wrap64 (x13_3 + 1)) : Int).toNat).size ≤ 9223372036854775807
                   ·rw [if_pos c53] at H
                    have c53b0 := eq_true c53
                    have c53b1 : decide (x12_3.size + (t230.extract (x13_3 : Int).toNat ((wrap64 (x13_3 + 1)) : Int).toNat).size ≤ 9223372036854775807) = true := decide_eq_true c53
                    try have c53b2 : (9223372036854775807 < x12_3.size + (t230.extract (x13_3 : Int).toNat ((wrap64 (x13_3 + 1)) : Int).toNat).size) = False := eq_false (Nat.not_lt.2 c53)
                    have H' := qM H
                    clear H
                    have p36 : 0 ≤ ((ji33) : Int) := qN (by assumption)
                    have q36 : (ji33) < (t230.size : Int) := qN (by assumption)
                    have hx36 := bt_at t230 (ji33)
                    replace p36 := eq_true p36
                    replace q36 := eq_true q36
                    (try (have hw_ : wrap64 (x13_3 + 1) = (x13_3 + 1) := (by unfold wrap64; omega); have c51b0u := c51b0; rw [hw_] at c51b0u))
                    (try (have hw_ : wrap64 (x13_3 + 1) = (x13_3 + 1) := (by unfold wrap64; omega); have c51b1u := c51b1; rw [hw_] at c51b1u))
                    (try (have hw_ : wrap64 (x13_3 + 1) = (x13_3 + 1) := (by unfold wrap64; omega); have c51u := c51; rw [hw_] at c51u))
                    (try (have hw_ : wrap64 (x13_3 + 1) = (x13_3 + 1) := (by unfold wrap64; omega); have c52b0u := c52b0; rw [hw_] at c52b0u))
                    (try (have hw_ : wrap64 (x13_3 + 1) = (x13_3 + 1) := (by unfold wrap64; omega); have c52b1u := c52b1; rw [hw_] at c52b1u))
                    (try (have hw_ : wrap64 (x13_3 + 1) = (x13_3 + 1) := (by unfold wrap64; omega); have c52u := c52; rw [hw_] at c52u))
                    (try (have hw_ : wrap64 (x13_3 + 1) = (x13_3 + 1) := (by unfold wrap64; omega); have c53b0u := c53b0; rw [hw_] at c53b0u))
                    (try (have hw_ : wrap64 (x13_3 + 1) = (x13_3 + 1) := (by unfold wrap64; omega); have c53b1u := c53b1; rw [hw_] at c53b1u))
                    (try (have hw_ : wrap64 (x13_3 + 1) = (x13_3 + 1) := (by unfold wrap64; omega); have c53u := c53; rw [hw_] at c53u))
                    go_wp2
                    go_roundg k3
                    case measure => have := HJ3.out; have := HK2.out; have := HK3.out; omega
                    case rel => exact ⟨(x12_3 ++ (t230.extract (x13_3 : Int).toNat ((wrap64 (x13_3 + 1)) : Int).toNat)), (wrap64 (x13_3 + 1)), (by first | rfl | (simp; done) | (simp [*]; done)), (by first | rfl | (simp; done) | (simp [*]; done)), H', ⟨by have := HJ3.out; have := HK2.out; have := HK3.out; omega⟩, ⟨by repeat (first | (with_reducible first | exact HB.out | apply qJ | apply qK | apply qL) | exact HB.out)⟩⟩
                   ·rw [if_neg c53] at H
                    exact absurd H (by simp)
                  ·rw [if_neg c52] at H
                   exact absurd H (by simp)
                 ·rw [if_neg c51] at H
                  exact absurd H (by simp)
                ·rw [if_neg c50] at H
                 exact absurd H (by simp)
              ·rw [if_neg c35] at H
               exact absurd H (by simp)
             ·rw [if_neg c34] at H
              exact absurd H (by simp)
            ·rw [if_neg c32] at H
             have c32b0 : decide (0 < x13_3) = false := decide_eq_false c32
             clear c32
             by_cases c54 : 0 ≤ x13_3
             ·rw [if_pos c54] at H
              have c54b0 := eq_true c54
              have c54b1 : decide (0 ≤ x13_3) = true := decide_eq_true c54
              clear c54
              by_cases c55 : x13_3 ≤ (wrap64 (x13_3 + 1))
              ·rw [if_pos c55] at H
               have c55b0 := eq_true c55
               have c55b1 : decide (x13_3 ≤ (wrap64 (x13_3 + 1))) = true := decide_eq_true c55
               by_cases c56 : (wrap64 (x13_3 + 1)) ≤ (t230.size : Int)
               ·rw [if_pos c56] at H
                have c56b0 := eq_true c56
                have c56b1 : decide ((wrap64 (x13_3 + 1)) ≤ (t230.size : Int)) = true := decide_eq_true c56
                by_cases c57 : x12_3.size + (t230.extract (x13_3 : Int).toNat ((wrap64 (x13_3 + 1)) : Int).toNat).size ≤ 9223372036854775807
                ·rw [if_pos c57] at H
                 have c57b0 := eq_true c57
                 have c57b1 : decide (x12_3.size + (t230.extract (x13_3 : Int).toNat ((wrap64 (x13_3 + 1)) : Int).toNat).size ≤ 9223372036854775807) = true := decide_eq_true c57
                 try have c57b2 : (9223372036854775807 < x12_3.size + (t230.extract (x13_3 : Int).toNat ((wrap64 (x13_3 + 1)) : Int).toNat).size) = False := eq_false (Nat.not_lt.2 c57)
                 have H' := qM H
                 clear H
                 (try (have hw_ : wrap64 (x13_3 + 1) = (x13_3 + 1) := (by unfold wrap64; omega); have c55b0u := c55b0; rw [hw_] at c55b0u))
                 (try (have hw_ : wrap64 (x13_3 + 1) = (x13_3 + 1) := (by unfold wrap64; omega); have c55b1u := c55b1; rw [hw_] at c55b1u))
                 (try (have hw_ : wrap64 (x13_3 + 1) = (x13_3 + 1) := (by unfold wrap64; omega); have c55u := c55; rw [hw_] at c55u))
                 (try (have hw_ : wrap64 (x13_3 + 1) = (x13_3 + 1) := (by unfold wrap64; omega); have c56b0u := c56b0; rw [hw_] at c56b0u))
                 (try (have hw_ : wrap64 (x13_3 + 1) = (x13_3 + 1) := (by unfold wrap64; omega); have c56b1u := c56b1; rw [hw_] at c56b1u))
                 (try (have hw_ : wrap64 (x13_3 + 1) = (x13_3 + 1) := (by unfold wrap64; omega); have c56u := c56; rw [hw_] at c56u))
                 (try (have hw_ : wrap64 (x13_3 + 1) = (x13_3 + 1) := (by unfold wrap64; omega); have c57b0u := c57b0; rw [hw_] at c57b0u))
                 (try (have hw_ : wrap64 (x13_3 + 1) = (x13_3 + 1) := (by unfold wrap64; omega); have c57b1u := c57b1; rw [hw_] at c57b1u))
                 (try (have hw_ : wrap64 (x13_3 + 1) = (x13_3 + 1) := (by unfold wrap64; omega); have c57u := c57; rw [hw_] at c57u))
                 go_wp2
                 go_roundg k3
                 case measure => have := HJ3.out; have := HK2.out; have := HK3.out; omega
                 case rel => exact ⟨(x12_3 ++ (t230.extract (x13_3 : Int).toNat ((wrap64 (x13_3 + 1)) : Int).toNat)), (wrap64 (x13_3 + 1)), (by first | rfl | (simp; done) | (simp [*]; done)), (by first | rfl | (simp; done) | (simp [*]; done)), H', ⟨by have := HJ3.out; have := HK2.out; have := HK3.out; omega⟩, ⟨by repeat (first | (with_reducible first | exact HB.out | apply qJ | apply qK | apply qL) | exact HB.out)⟩⟩
                ·rw [if_neg c57] at H
                 exact absurd H (by simp)
               ·rw [if_neg c56] at H
                exact absurd H (by simp)
              ·rw [if_neg c55] at H
               exact absurd H (by simp)
             ·rw [if_neg c54] at H
              exact absurd H (by simp)
           ·rw [if_neg c31] at H
            have c31b0 : decide (x13_3 < (t230.size : Int)) = false := decide_eq_false c31
            clear c31
            by_cases c58 : t242 = true
            ·subst c58
             have H1 : (some (t241.toList == x12_3.toList)) = some r := by rw [if_pos rfl] at H; exact H
             clear H
             have H := H1
             clear H1
             obtain rfl := Option.some.inj H
             go_wp2
             go_ret
             exact ⟨by first | rfl | (simp [errW_none, errW_some] <;> rfl) | (simp [*, errW_none, errW_some] <;> rfl), by repeat (first | (with_reducible first | exact HB.out | apply qJ | apply qK | apply qL) | exact HB.out)⟩
            ·replace c58 := Bool.eq_false_iff.mpr c58
             subst c58
             have H1 : (some false) = some r := by rw [if_neg (show ¬ (false = true) by decide)] at H; exact H
             clear H
             have H := H1
             clear H1
             exact absurd H (by have h_ := HT_.out; subst h_; decide)
        ·rw [if_neg c22] at H
         exact absurd H (by simp)
       ·rw [if_neg c21] at H
        exact absurd H (by simp)

/-- The pure statement of copperplatelaw18_WideIn. -/
def copperplatelaw18_WideIn.Pure : Prop := ∀ (l0 : List (S31)) (a1 : Int), l0.length * 24 ≤ 140737488351232 → (∀ x ∈ l0, (Lit.int .i64 x.f0).wf = true ∧ x.f1.size ≤ 140737488351232) → (Lit.int .i64 a1).wf = true → ∃ k, copperplatelaw18_WideIn.f k l0 a1 = some true
def copperplatelaw18_WideIn.PureUp : Prop := ∀ (l0 : List (S31)) (a1 : Int), l0.length * 24 ≤ 140737488351232 → (∀ x ∈ l0, (Lit.int .i64 x.f0).wf = true ∧ x.f1.size ≤ 140737488351232) → (Lit.int .i64 a1).wf = true → (l0.map fun x => x.f1.size).sum ≤ 1048576 → ∃ k, copperplatelaw18_WideIn.f k l0 a1 = some true

end Go.Proofs.Ytipjfdamkpgecaa.PWide
