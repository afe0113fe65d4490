-- Written by a program of the session (drive.py, over the kit's print.py with contracts by hand). Not trusted: Lean checks it.
import Derived.Test.YtipjfdamkpgecaaPWidex0
import Derived.Test.YtipjfdamkpgecaaPWidex2
import Derived.Test.YtipjfdamkpgecaaPWidex10
import Derived.Test.YtipjfdamkpgecaaHWideWideA
namespace Go.Proofs.Ytipjfdamkpgecaa.PWide
open Go.RowKit Go.Proofs.YtipjfdamkpgecaaW.PrintWords Go.Proofs.YtipjfdamkpgecaaW.PrintLast Go.Proofs.YtipjfdamkpgecaaW.PrintMore
attribute [local go_sem] max2_int min2_int max_two min_two max_three min_three max_four min_four   -- for this text's walks alone
set_option linter.unusedVariables false
set_option linter.unusedSimpArgs false

/-! ### copperplatelaw18_WideTexts: function 6 -/
mutual
def copperplatelaw18_WideTexts.j0 : Nat → List (S31) → Int → Bool → Bool → Option (Bool)
 | 0, _, _, _, _ => none
 | k + 1, x0, x1, x5, x27 => if x27 = true then (some x5) else (copperplatelaw18_WideTexts.l0 k x0 x1 (⟨#[]⟩ : ByteArray) 0)
def copperplatelaw18_WideTexts.l0 : Nat → List (S31) → Int → ByteArray → Int → Option (Bool)
 | 0, _, _, _, _ => none
 | k + 1, x0, x1, x6, x7 => if x7 < (x0.length : Int) then (copperplatelaw18_WideTexts.l1 k x0 x1 x6 x7 0) else ((wide_Lay.f x0 x1).bind fun bt223 => (copperplatelaw18_WideTexts.l2 k x6 bt223.1 (⟨#[]⟩ : ByteArray) 0))
def copperplatelaw18_WideTexts.l1 : Nat → List (S31) → Int → ByteArray → Int → Int → Option (Bool)
 | 0, _, _, _, _, _ => none
 | k + 1, x0, x1, x6, x7, x8 => if 0 ≤ x7 then (if x7 < (x0.length : Int) then (if x8 < (((rd_T31 x0 x7).f1).size : Int) then (if 0 ≤ x8 then (if (bt ((rd_T31 x0 x7).f1) x8) = 32 then (some true) else (if (bt ((rd_T31 x0 x7).f1) x8) = 44 then (some true) else (if (bt ((rd_T31 x0 x7).f1) x8) = 10 then (some true) else (copperplatelaw18_WideTexts.l1 k x0 x1 x6 x7 (wrap64 (x8 + 1)))))) else (none)) else (if x6.size + ((rd_T31 x0 x7).f1).size ≤ 9223372036854775807 then (copperplatelaw18_WideTexts.l0 k x0 x1 (x6 ++ ((rd_T31 x0 x7).f1)) (wrap64 (x7 + 1))) else (none))) else (none)) else (none)
def copperplatelaw18_WideTexts.l2 : Nat → ByteArray → ByteArray → ByteArray → Int → Option (Bool)
 | 0, _, _, _, _ => none
 | k + 1, x6, x10, x12, x13 => if x13 < (x10.size : Int) then (if 0 ≤ x13 then (if (bt x10 x13) = 32 then (copperplatelaw18_WideTexts.l2 k x6 x10 x12 (wrap64 (x13 + 1))) else (if (bt x10 x13) = 44 then (copperplatelaw18_WideTexts.l2 k x6 x10 x12 (wrap64 (x13 + 1))) else (if (bt x10 x13) = 10 then (copperplatelaw18_WideTexts.l2 k x6 x10 x12 (wrap64 (x13 + 1))) else (if x13 ≤ (wrap64 (x13 + 1)) then (if (wrap64 (x13 + 1)) ≤ (x10.size : Int) then (if x12.size + (x10.extract (x13 : Int).toNat ((wrap64 (x13 + 1)) : Int).toNat).size ≤ 9223372036854775807 then (copperplatelaw18_WideTexts.l2 k x6 x10 (x12 ++ (x10.extract (x13 : Int).toNat ((wrap64 (x13 + 1)) : Int).toNat)) (wrap64 (x13 + 1))) else (none)) else (none)) else (none))))) else (none)) else (some (x12.toList == x6.toList))
end
def copperplatelaw18_WideTexts.f (k : Nat) (l0 : List (S31)) (a1 : Int) : Option (Bool) := (copperplatelaw18_awake.f).bind fun t218 => (if t218 = true then (if (l0.length : Int) > 300 then (copperplatelaw18_WideTexts.j0 k l0 a1 t218 true) else ((wide_Room.f l0 a1).bind fun t219 => (copperplatelaw18_WideTexts.j0 k l0 a1 t218 (!t219)))) else (copperplatelaw18_WideTexts.j0 k l0 a1 t218 true))
theorem copperplatelaw18_WideTexts.mono_l : ∀ k, (∀ y0 y1 y2 y3, LeO (copperplatelaw18_WideTexts.j0 k y0 y1 y2 y3) (copperplatelaw18_WideTexts.j0 (k + 1) y0 y1 y2 y3)) ∧ (∀ y0 y1 y2 y3, LeO (copperplatelaw18_WideTexts.l0 k y0 y1 y2 y3) (copperplatelaw18_WideTexts.l0 (k + 1) y0 y1 y2 y3)) ∧ (∀ y0 y1 y2 y3 y4, LeO (copperplatelaw18_WideTexts.l1 k y0 y1 y2 y3 y4) (copperplatelaw18_WideTexts.l1 (k + 1) y0 y1 y2 y3 y4)) ∧ (∀ y0 y1 y2 y3, LeO (copperplatelaw18_WideTexts.l2 k y0 y1 y2 y3) (copperplatelaw18_WideTexts.l2 (k + 1) y0 y1 y2 y3))
 | 0 => ⟨fun _ _ _ _ r h => by simp [copperplatelaw18_WideTexts.j0] at h, fun _ _ _ _ r h => by simp [copperplatelaw18_WideTexts.l0] at h, fun _ _ _ _ _ r h => by simp [copperplatelaw18_WideTexts.l1] at h, fun _ _ _ _ r h => by simp [copperplatelaw18_WideTexts.l2] at h⟩
 | k + 1 => by
  obtain ⟨ih0, ih1, ih2, ih3⟩ := copperplatelaw18_WideTexts.mono_l k
  refine ⟨?_, ?_, ?_, ?_⟩
  ·intro y0 y1 y2 y3
   unfold copperplatelaw18_WideTexts.j0
   repeat' first
   | (with_reducible exact ih0 _ _ _ _)
   | (with_reducible exact ih1 _ _ _ _)
   | (with_reducible exact ih2 _ _ _ _ _)
   | (with_reducible exact ih3 _ _ _ _)
   | (with_reducible exact LeO.refl _)
   | (with_reducible exact LeO.none _)
   | (with_reducible refine LeO.ite ?_ ?_)
   | (with_reducible refine LeO.bind ?_ (fun _ => ?_))
   | exact ih0 _ _ _ _
   | exact ih1 _ _ _ _
   | exact ih2 _ _ _ _ _
   | exact ih3 _ _ _ _
   | exact LeO.none _
   | refine LeO.ite ?_ ?_
   | refine LeO.bind ?_ (fun _ => ?_)
  ·intro y0 y1 y2 y3
   unfold copperplatelaw18_WideTexts.l0
   repeat' first
   | (with_reducible exact ih0 _ _ _ _)
   | (with_reducible exact ih1 _ _ _ _)
   | (with_reducible exact ih2 _ _ _ _ _)
   | (with_reducible exact ih3 _ _ _ _)
   | (with_reducible exact LeO.refl _)
   | (with_reducible exact LeO.none _)
   | (with_reducible refine LeO.ite ?_ ?_)
   | (with_reducible refine LeO.bind ?_ (fun _ => ?_))
   | exact ih0 _ _ _ _
   | exact ih1 _ _ _ _
   | exact ih2 _ _ _ _ _
   | exact ih3 _ _ _ _
   | exact LeO.none _
   | refine LeO.ite ?_ ?_
   | refine LeO.bind ?_ (fun _ => ?_)
  ·intro y0 y1 y2 y3 y4
   unfold copperplatelaw18_WideTexts.l1
   repeat' first
   | (with_reducible exact ih0 _ _ _ _)
   | (with_reducible exact ih1 _ _ _ _)
   | (with_reducible exact ih2 _ _ _ _ _)
   | (with_reducible exact ih3 _ _ _ _)
   | (with_reducible exact LeO.refl _)
   | (with_reducible exact LeO.none _)
   | (with_reducible refine LeO.ite ?_ ?_)
   | (with_reducible refine LeO.bind ?_ (fun _ => ?_))
   | exact ih0 _ _ _ _
   | exact ih1 _ _ _ _
   | exact ih2 _ _ _ _ _
   | exact ih3 _ _ _ _
   | exact LeO.none _
   | refine LeO.ite ?_ ?_
   | refine LeO.bind ?_ (fun _ => ?_)
  ·intro y0 y1 y2 y3
   unfold copperplatelaw18_WideTexts.l2
   repeat' first
   | (with_reducible exact ih0 _ _ _ _)
   | (with_reducible exact ih1 _ _ _ _)
   | (with_reducible exact ih2 _ _ _ _ _)
   | (with_reducible exact ih3 _ _ _ _)
   | (with_reducible exact LeO.refl _)
   | (with_reducible exact LeO.none _)
   | (with_reducible refine LeO.ite ?_ ?_)
   | (with_reducible refine LeO.bind ?_ (fun _ => ?_))
   | exact ih0 _ _ _ _
   | exact ih1 _ _ _ _
   | exact ih2 _ _ _ _ _
   | exact ih3 _ _ _ _
   | exact LeO.none _
   | refine LeO.ite ?_ ?_
   | refine LeO.bind ?_ (fun _ => ?_)
theorem copperplatelaw18_WideTexts.mono : ∀ a0 a1 k, LeO (copperplatelaw18_WideTexts.f k a0 a1) (copperplatelaw18_WideTexts.f (k + 1) a0 a1) := by
 intro a0 a1 k
 obtain ⟨ih0, ih1, ih2, ih3⟩ := copperplatelaw18_WideTexts.mono_l k
 unfold copperplatelaw18_WideTexts.f
 repeat' first
   | (with_reducible exact ih0 _ _ _ _)
   | (with_reducible exact ih1 _ _ _ _)
   | (with_reducible exact ih2 _ _ _ _ _)
   | (with_reducible exact ih3 _ _ _ _)
   | (with_reducible exact LeO.refl _)
   | (with_reducible exact LeO.none _)
   | (with_reducible refine LeO.ite ?_ ?_)
   | (with_reducible refine LeO.bind ?_ (fun _ => ?_))
   | exact ih0 _ _ _ _
   | exact ih1 _ _ _ _
   | exact ih2 _ _ _ _ _
   | exact ih3 _ _ _ _
   | exact LeO.none _
   | refine LeO.ite ?_ ?_
   | refine LeO.bind ?_ (fun _ => ?_)
set_option maxHeartbeats 8000000 in
set_option maxRecDepth 100000 in
theorem copperplatelaw18_WideTexts.calls (k : Nat) (A0 : Option Addr) (c0 : Nat) (l0 : List (S31)) (a1 : Int) (r : Bool) (w : World) (hr0 : Kd.C k31 w A0 l0.length l0) (hc0 : l0.length ≤ c0) (h : copperplatelaw18_WideTexts.f k l0 a1 = some r) (hT_ : r = true) :
  Calls Try.prog 6 #[.slice A0 l0.length c0, .int .i64 a1] w fun e w' => e = .returned (.bool r) ∧ Below w.heap.size w w' := by
 have HT_ := qM hT_
 clear hT_
 have HR0 := qM hr0
 have HC0 := qM hc0
 clear hr0 hc0
 have HB := qM (Below.refl w.heap.size w)
 have H : ((copperplatelaw18_awake.f).bind fun t218 => (if t218 = true then (if (l0.length : Int) > 300 then (copperplatelaw18_WideTexts.j0 k l0 a1 t218 true) else ((wide_Room.f l0 a1).bind fun t219 => (copperplatelaw18_WideTexts.j0 k l0 a1 t218 (!t219)))) else (copperplatelaw18_WideTexts.j0 k l0 a1 t218 true))) = some r := h
 clear h
 replace H := Option.bind_eq_some_iff.mp H
 obtain ⟨t218, A30, H⟩ := H
 replace H : (if t218 = true then (if (l0.length : Int) > 300 then (copperplatelaw18_WideTexts.j0 k l0 a1 t218 true) else ((wide_Room.f l0 a1).bind fun t219 => (copperplatelaw18_WideTexts.j0 k l0 a1 t218 (!t219)))) else (copperplatelaw18_WideTexts.j0 k l0 a1 t218 true)) = some r := H
 have A3 := qM A30
 clear A30
 have HC4 := qM H
 clear H
 go_enter Try.func6, Try.ntmps6
 go_upto_region 2 with (first | ((with_reducible refine gate_callee (f := 10) rfl ?_); refine goesL_ (some 14) rfl rfl Try.func10 (by kernel_rfl) rfl #[] rfl (by (try simp only [List.map_toArray, List.map_cons, List.map_nil]); first | done | rfl | (simp only [List.length_drop, List.length_take]; rfl)) ?_; (with_reducible refine (copperplatelaw18_awake.calls  t218 _ A3.out).mono ?_); (try clear A3); rintro e w5 ⟨rfl, hb⟩; refine ⟨_, rfl, ?_⟩; have n0_ := qM (below_step (by repeat (first | (with_reducible first | exact HB.out | apply qJ | apply qK | apply qL) | exact HB.out)) hb); clear HB; have HB := n0_; clear n0_; (try clear hb); (try clear hb2); (try clear hk); (try clear hi)))
 (try simp only [Act.put, qA, qB, qC])
 go_cut [27] (fun v27 wc => ∃ (kq : Nat) (x27_3 : Bool), v27 = .bool x27_3 ∧ Aside0 (copperplatelaw18_WideTexts.j0 kq l0 a1 t218 x27_3 = some r) ∧ Aside0 (kq ≤ k) ∧ Aside0 (Below w.heap.size w wc))
 case first =>
  have H := HC4.out
  clear HC4
  by_cases c6 : t218 = true
  ·subst c6
   have H1 : (if (l0.length : Int) > 300 then (copperplatelaw18_WideTexts.j0 k l0 a1 true true) else ((wide_Room.f l0 a1).bind fun t219 => (copperplatelaw18_WideTexts.j0 k l0 a1 true (!t219)))) = some r := by rw [if_pos rfl] at H; exact H
   clear H
   have H := H1
   clear H1
   by_cases c7 : (l0.length : Int) > 300
   ·rw [if_pos c7] at H
    have c7b0 : decide (300 < (l0.length : Int)) = true := decide_eq_true c7
    have c7b1 : decide (300 < l0.length) = true := decide_eq_true (by omega)
    clear c7
    (first | rw [c7b0] | (simp only [i64_w, i32_w]; rw [c7b0]) | skip)
    have H' := qM H
    clear H
    go_wp2
    go_meet
    case rel => exact ⟨_, (true), (by first | rfl | (simp; done) | (simp [*]; done)), H', ⟨by first | omega | exact Nat.le_refl _⟩, ⟨by repeat (first | (with_reducible first | exact HB.out | apply qJ | apply qK | apply qL) | exact HB.out)⟩⟩
   ·rw [if_neg c7] at H
    have c7b0 : decide (300 < (l0.length : Int)) = false := decide_eq_false c7
    have c7b1 : decide (300 < l0.length) = false := decide_eq_false (by omega)
    clear c7
    (first | rw [c7b0] | (simp only [i64_w, i32_w]; rw [c7b0]) | skip)
    replace H := Option.bind_eq_some_iff.mp H
    obtain ⟨t219, A80, H⟩ := H
    replace H : (copperplatelaw18_WideTexts.j0 k l0 a1 true (!t219)) = some r := H
    have A8 := qM A80
    clear A80
    have H' := qM H
    clear H
    go_wp2_with (first | (go_at_call 14; (with_reducible refine (wide_Room.calls _ _ l0 a1 t219 _ ?side1 ?side2 A8.out).mono ?_); (case side1 => repeat (first | exact (Kd.C_below HR0.out HB.out) | (with_reducible first | apply qO | apply qP | apply qQ))); (case side2 => exact HC0.out); (try clear A8); rintro e w9 ⟨rfl, hb⟩; have n0_ := qM (below_step (by repeat (first | (with_reducible first | exact HB.out | apply qJ | apply qK | apply qL) | exact HB.out)) hb); clear HB; have HB := n0_; clear n0_; (try clear hb); (try clear hb2); (try clear hk); (try clear hi)))
    go_meet
    case rel => exact ⟨_, (!t219), (by first | rfl | (simp; done) | (simp [*]; done)), H', ⟨by first | omega | exact Nat.le_refl _⟩, ⟨by repeat (first | (with_reducible first | exact HB.out | apply qJ | apply qK | apply qL) | exact HB.out)⟩⟩
  ·replace c6 := Bool.eq_false_iff.mpr c6
   subst c6
   have H1 : (copperplatelaw18_WideTexts.j0 k l0 a1 false true) = some r := by rw [if_neg (show ¬ (false = true) by decide)] at H; exact H
   clear H
   have H := H1
   clear H1
   have H' := qM H
   clear H
   go_wp2
   go_meet
   case rel => exact ⟨_, (true), (by first | rfl | (simp; done) | (simp [*]; done)), H', ⟨by first | omega | exact Nat.le_refl _⟩, ⟨by repeat (first | (with_reducible first | exact HB.out | apply qJ | apply qK | apply qL) | exact HB.out)⟩⟩
 case rest =>
  clear HC4
  try clear c1
  try clear p2
  try clear c6
  try clear c7
  try clear c7b0
  try clear c7b1
  obtain ⟨kq, x27_3, rfl, HA, HJ3, HB⟩ := hcut
  cases kq with
  | zero => exact absurd HA.out (by simp [copperplatelaw18_WideTexts.j0])
  | succ kj3 =>
   have H := HA.out
   clear HA
   simp only [copperplatelaw18_WideTexts.j0] at H
   by_cases c10 : x27_3 = true
   ·subst c10
    have H1 : (some t218) = some r := by rw [if_pos rfl] at H; exact H
    clear H
    have H := H1
    clear H1
    obtain rfl := Option.some.inj H
    go_wp2
    go_ret
    exact ⟨by first | rfl | (simp [errW_none, errW_some] <;> rfl) | (simp [*, errW_none, errW_some] <;> rfl), by repeat (first | (with_reducible first | exact HB.out | apply qJ | apply qK | apply qL) | exact HB.out)⟩
   ·replace c10 := Bool.eq_false_iff.mpr c10
    subst c10
    have H1 : (copperplatelaw18_WideTexts.l0 kj3 l0 a1 (⟨#[]⟩ : ByteArray) 0) = some r := by rw [if_neg (show ¬ (false = true) by decide)] at H; exact H
    clear H
    have H := H1
    clear H1
    have H' := qM H
    clear H
    go_wp2
    go_loopg [6, 7] kj3 (fun kq v6 v7 w' => ∃ (x6_2 : ByteArray) (x7_2 : Int), v6 = .string x6_2 ∧ v7 = .int .i64 x7_2 ∧ Aside0 (copperplatelaw18_WideTexts.l0 kq l0 a1 x6_2 x7_2 = some r) ∧ Aside0 (kq ≤ kj3) ∧ Aside0 (Below w.heap.size w w'))
    case atStart => exact ⟨((⟨#[]⟩ : ByteArray)), (0), (by first | rfl | (simp; done) | (simp [*]; done)), (by first | rfl | (simp; done) | (simp [*]; done)), H', ⟨Nat.le_refl _⟩, ⟨by repeat (first | (with_reducible first | exact HB.out | apply qJ | apply qK | apply qL) | exact HB.out)⟩⟩
    case round =>
     clear H'
     try clear c1
     try clear p2
     try clear c6
     try clear c7
     try clear c7b0
     try clear c7b1
     try clear c10
     try clear p2
     obtain ⟨x6_2, x7_2, rfl, rfl, HA, HK2, HB⟩ := hrel
     cases gk with
     | zero => exact absurd HA.out (by simp [copperplatelaw18_WideTexts.l0])
     | succ k2 =>
      have H := HA.out
      clear HA
      simp only [copperplatelaw18_WideTexts.l0] at H
      by_cases c11 : x7_2 < (l0.length : Int)
      ·rw [if_pos c11] at H
       have c11b0 : decide (x7_2 < (l0.length : Int)) = true := decide_eq_true c11
       clear c11
       have H' := qM H
       clear H
       go_wp2
       go_loopg [8] k2 (fun kq v8 w' => ∃ (x8_3 : Int), v8 = .int .i64 x8_3 ∧ Aside0 (copperplatelaw18_WideTexts.l1 kq l0 a1 x6_2 x7_2 x8_3 = some r) ∧ Aside0 (kq ≤ k2) ∧ Aside0 (Below w.heap.size w w'))
       case atStart => exact ⟨(0), (by first | rfl | (simp; done) | (simp [*]; done)), H', ⟨Nat.le_refl _⟩, ⟨by repeat (first | (with_reducible first | exact HB.out | apply qJ | apply qK | apply qL) | exact HB.out)⟩⟩
       case round =>
        clear H'
        try clear c1
        try clear p2
        try clear c6
        try clear c7
        try clear c7b0
        try clear c7b1
        try clear c10
        try clear c11
        try clear c11b0
        try clear p2
        obtain ⟨x8_3, rfl, HA, HK3, HB⟩ := hrel
        cases gk with
        | zero => exact absurd HA.out (by simp [copperplatelaw18_WideTexts.l1])
        | succ k3 =>
         have H := HA.out
         clear HA
         simp only [copperplatelaw18_WideTexts.l1] at H
         by_cases c12 : 0 ≤ x7_2
         ·rw [if_pos c12] at H
          have c12b0 : decide (0 ≤ x7_2) = true := decide_eq_true c12
          clear c12
          by_cases c13 : x7_2 < (l0.length : Int)
          ·rw [if_pos c13] at H
           have c13b0 : decide (x7_2 < (l0.length : Int)) = true := decide_eq_true c13
           clear c13
           by_cases c14 : x8_3 < (((rd_T31 l0 x7_2).f1).size : Int)
           ·rw [if_pos c14] at H
            have c14b0 : decide (x8_3 < (((rd_T31 l0 x7_2).f1).size : Int)) = true := decide_eq_true c14
            clear c14
            by_cases c15 : 0 ≤ x8_3
            ·rw [if_pos c15] at H
             have c15b0 : decide (0 ≤ x8_3) = true := decide_eq_true c15
             clear c15
             by_cases c17 : (bt ((rd_T31 l0 x7_2).f1) x8_3) = 32
             ·rw [if_pos c17] at H
              have c17b0 : ((bt ((rd_T31 l0 x7_2).f1) x8_3) == 32) = true := beq_iff_eq.mpr c17
              have c17b1 : ((bt ((rd_T31 l0 x7_2).f1) x8_3) != 32) = false := bne_eq_false_iff_eq.mpr c17
              clear c17
              obtain rfl := Option.some.inj H
              have p220 : 0 ≤ (x7_2 : Int) := qN (by assumption)
              have q220 : x7_2 < (l0.length : Int) := qN (by assumption)
              obtain ⟨ad220, e220, hx220_0, hx220_1⟩ := at_T31 HR0.out x7_2 p220 q220
              cases e220
              replace hx220_0 := (HB.out.cell (World.block_lt_of_cell? w _ hx220_0)).trans hx220_0
              replace hx220_1 := (HB.out.cell (World.block_lt_of_cell? w _ hx220_1)).trans hx220_1
              replace p220 := eq_true p220
              replace q220 := eq_true q220
              have p221 : 0 ≤ (x7_2 : Int) := qN (by assumption)
              have q221 : x7_2 < (l0.length : Int) := qN (by assumption)
              obtain ⟨ad221, e221, hx221_0, hx221_1⟩ := at_T31 HR0.out x7_2 p221 q221
              obtain rfl : ad220 = ad221 := (by injection e221)
              replace hx221_0 := (HB.out.cell (World.block_lt_of_cell? w _ hx221_0)).trans hx221_0
              replace hx221_1 := (HB.out.cell (World.block_lt_of_cell? w _ hx221_1)).trans hx221_1
              replace p221 := eq_true p221
              replace q221 := eq_true q221
              have p16 : 0 ≤ (x8_3 : Int) := qN (by assumption)
              have q16 : x8_3 < (((rd_T31 l0 x7_2).f1).size : Int) := qN (by assumption)
              have hx16 := bt_at ((rd_T31 l0 x7_2).f1) x8_3
              replace p16 := eq_true p16
              replace q16 := eq_true q16
              go_wp2
              go_ret
              exact ⟨by first | rfl | (simp [errW_none, errW_some] <;> rfl) | (simp [*, errW_none, errW_some] <;> rfl), by repeat (first | (with_reducible first | exact HB.out | apply qJ | apply qK | apply qL) | exact HB.out)⟩
             ·rw [if_neg c17] at H
              have c17b0 : ((bt ((rd_T31 l0 x7_2).f1) x8_3) == 32) = false := beq_eq_false_iff_ne.mpr c17
              have c17b1 : ((bt ((rd_T31 l0 x7_2).f1) x8_3) != 32) = true := bne_iff_ne.mpr c17
              by_cases c18 : (bt ((rd_T31 l0 x7_2).f1) x8_3) = 44
              ·rw [if_pos c18] at H
               have c18b0 : ((bt ((rd_T31 l0 x7_2).f1) x8_3) == 44) = true := beq_iff_eq.mpr c18
               have c18b1 : ((bt ((rd_T31 l0 x7_2).f1) x8_3) != 44) = false := bne_eq_false_iff_eq.mpr c18
               clear c18
               obtain rfl := Option.some.inj H
               have p220 : 0 ≤ (x7_2 : Int) := qN (by assumption)
               have q220 : x7_2 < (l0.length : Int) := qN (by assumption)
               obtain ⟨ad220, e220, hx220_0, hx220_1⟩ := at_T31 HR0.out x7_2 p220 q220
               cases e220
               replace hx220_0 := (HB.out.cell (World.block_lt_of_cell? w _ hx220_0)).trans hx220_0
               replace hx220_1 := (HB.out.cell (World.block_lt_of_cell? w _ hx220_1)).trans hx220_1
               replace p220 := eq_true p220
               replace q220 := eq_true q220
               have p221 : 0 ≤ (x7_2 : Int) := qN (by assumption)
               have q221 : x7_2 < (l0.length : Int) := qN (by assumption)
               obtain ⟨ad221, e221, hx221_0, hx221_1⟩ := at_T31 HR0.out x7_2 p221 q221
               obtain rfl : ad220 = ad221 := (by injection e221)
               replace hx221_0 := (HB.out.cell (World.block_lt_of_cell? w _ hx221_0)).trans hx221_0
               replace hx221_1 := (HB.out.cell (World.block_lt_of_cell? w _ hx221_1)).trans hx221_1
               replace p221 := eq_true p221
               replace q221 := eq_true q221
               have p16 : 0 ≤ (x8_3 : Int) := qN (by assumption)
               have q16 : x8_3 < (((rd_T31 l0 x7_2).f1).size : Int) := qN (by assumption)
               have hx16 := bt_at ((rd_T31 l0 x7_2).f1) x8_3
               replace p16 := eq_true p16
               replace q16 := eq_true q16
               go_wp2
               go_ret
               exact ⟨by first | rfl | (simp [errW_none, errW_some] <;> rfl) | (simp [*, errW_none, errW_some] <;> rfl), by repeat (first | (with_reducible first | exact HB.out | apply qJ | apply qK | apply qL) | exact HB.out)⟩
              ·rw [if_neg c18] at H
               have c18b0 : ((bt ((rd_T31 l0 x7_2).f1) x8_3) == 44) = false := beq_eq_false_iff_ne.mpr c18
               have c18b1 : ((bt ((rd_T31 l0 x7_2).f1) x8_3) != 44) = true := bne_iff_ne.mpr c18
               by_cases c19 : (bt ((rd_T31 l0 x7_2).f1) x8_3) = 10
               ·rw [if_pos c19] at H
                have c19b0 : ((bt ((rd_T31 l0 x7_2).f1) x8_3) == 10) = true := beq_iff_eq.mpr c19
                have c19b1 : ((bt ((rd_T31 l0 x7_2).f1) x8_3) != 10) = false := bne_eq_false_iff_eq.mpr c19
                clear c19
                obtain rfl := Option.some.inj H
                have p220 : 0 ≤ (x7_2 : Int) := qN (by assumption)
                have q220 : x7_2 < (l0.length : Int) := qN (by assumption)
                obtain ⟨ad220, e220, hx220_0, hx220_1⟩ := at_T31 HR0.out x7_2 p220 q220
                cases e220
                replace hx220_0 := (HB.out.cell (World.block_lt_of_cell? w _ hx220_0)).trans hx220_0
                replace hx220_1 := (HB.out.cell (World.block_lt_of_cell? w _ hx220_1)).trans hx220_1
                replace p220 := eq_true p220
                replace q220 := eq_true q220
                have p221 : 0 ≤ (x7_2 : Int) := qN (by assumption)
                have q221 : x7_2 < (l0.length : Int) := qN (by assumption)
                obtain ⟨ad221, e221, hx221_0, hx221_1⟩ := at_T31 HR0.out x7_2 p221 q221
                obtain rfl : ad220 = ad221 := (by injection e221)
                replace hx221_0 := (HB.out.cell (World.block_lt_of_cell? w _ hx221_0)).trans hx221_0
                replace hx221_1 := (HB.out.cell (World.block_lt_of_cell? w _ hx221_1)).trans hx221_1
                replace p221 := eq_true p221
                replace q221 := eq_true q221
                have p16 : 0 ≤ (x8_3 : Int) := qN (by assumption)
                have q16 : x8_3 < (((rd_T31 l0 x7_2).f1).size : Int) := qN (by assumption)
                have hx16 := bt_at ((rd_T31 l0 x7_2).f1) x8_3
                replace p16 := eq_true p16
                replace q16 := eq_true q16
                go_wp2
                go_ret
                exact ⟨by first | rfl | (simp [errW_none, errW_some] <;> rfl) | (simp [*, errW_none, errW_some] <;> rfl), by repeat (first | (with_reducible first | exact HB.out | apply qJ | apply qK | apply qL) | exact HB.out)⟩
               ·rw [if_neg c19] at H
                have c19b0 : ((bt ((rd_T31 l0 x7_2).f1) x8_3) == 10) = false := beq_eq_false_iff_ne.mpr c19
                have c19b1 : ((bt ((rd_T31 l0 x7_2).f1) x8_3) != 10) = true := bne_iff_ne.mpr c19
                have H' := qM H
                clear H
                have p220 : 0 ≤ (x7_2 : Int) := qN (by assumption)
                have q220 : x7_2 < (l0.length : Int) := qN (by assumption)
                obtain ⟨ad220, e220, hx220_0, hx220_1⟩ := at_T31 HR0.out x7_2 p220 q220
                cases e220
                replace hx220_0 := (HB.out.cell (World.block_lt_of_cell? w _ hx220_0)).trans hx220_0
                replace hx220_1 := (HB.out.cell (World.block_lt_of_cell? w _ hx220_1)).trans hx220_1
                replace p220 := eq_true p220
                replace q220 := eq_true q220
                have p221 : 0 ≤ (x7_2 : Int) := qN (by assumption)
                have q221 : x7_2 < (l0.length : Int) := qN (by assumption)
                obtain ⟨ad221, e221, hx221_0, hx221_1⟩ := at_T31 HR0.out x7_2 p221 q221
                obtain rfl : ad220 = ad221 := (by injection e221)
                replace hx221_0 := (HB.out.cell (World.block_lt_of_cell? w _ hx221_0)).trans hx221_0
                replace hx221_1 := (HB.out.cell (World.block_lt_of_cell? w _ hx221_1)).trans hx221_1
                replace p221 := eq_true p221
                replace q221 := eq_true q221
                have p16 : 0 ≤ (x8_3 : Int) := qN (by assumption)
                have q16 : x8_3 < (((rd_T31 l0 x7_2).f1).size : Int) := qN (by assumption)
                have hx16 := bt_at ((rd_T31 l0 x7_2).f1) x8_3
                replace p16 := eq_true p16
                replace q16 := eq_true q16
                go_wp2
                go_roundg k3
                case measure => have := HJ3.out; have := HK2.out; have := HK3.out; omega
                case rel => exact ⟨(wrap64 (x8_3 + 1)), (by first | rfl | (simp; done) | (simp [*]; done)), H', ⟨by have := HJ3.out; have := HK2.out; have := HK3.out; omega⟩, ⟨by repeat (first | (with_reducible first | exact HB.out | apply qJ | apply qK | apply qL) | exact HB.out)⟩⟩
            ·rw [if_neg c15] at H
             exact absurd H (by simp)
           ·rw [if_neg c14] at H
            have c14b0 : decide (x8_3 < (((rd_T31 l0 x7_2).f1).size : Int)) = false := decide_eq_false c14
            clear c14
            by_cases c20 : x6_2.size + ((rd_T31 l0 x7_2).f1).size ≤ 9223372036854775807
            ·rw [if_pos c20] at H
             have c20b0 := eq_true c20
             have c20b1 : decide (x6_2.size + ((rd_T31 l0 x7_2).f1).size ≤ 9223372036854775807) = true := decide_eq_true c20
             try have c20b2 : (9223372036854775807 < x6_2.size + ((rd_T31 l0 x7_2).f1).size) = False := eq_false (Nat.not_lt.2 c20)
             have H' := qM H
             clear H
             have p220 : 0 ≤ (x7_2 : Int) := qN (by assumption)
             have q220 : x7_2 < (l0.length : Int) := qN (by assumption)
             obtain ⟨ad220, e220, hx220_0, hx220_1⟩ := at_T31 HR0.out x7_2 p220 q220
             cases e220
             replace hx220_0 := (HB.out.cell (World.block_lt_of_cell? w _ hx220_0)).trans hx220_0
             replace hx220_1 := (HB.out.cell (World.block_lt_of_cell? w _ hx220_1)).trans hx220_1
             replace p220 := eq_true p220
             replace q220 := eq_true q220
             have p222 : 0 ≤ (x7_2 : Int) := qN (by assumption)
             have q222 : x7_2 < (l0.length : Int) := qN (by assumption)
             obtain ⟨ad222, e222, hx222_0, hx222_1⟩ := at_T31 HR0.out x7_2 p222 q222
             obtain rfl : ad220 = ad222 := (by injection e222)
             replace hx222_0 := (HB.out.cell (World.block_lt_of_cell? w _ hx222_0)).trans hx222_0
             replace hx222_1 := (HB.out.cell (World.block_lt_of_cell? w _ hx222_1)).trans hx222_1
             replace p222 := eq_true p222
             replace q222 := eq_true q222
             go_wp2
             go_roundg k3
             case measure => have := HJ3.out; have := HK2.out; have := HK3.out; omega
             case rel => exact ⟨(x6_2 ++ ((rd_T31 l0 x7_2).f1)), (wrap64 (x7_2 + 1)), (by first | rfl | (simp; done) | (simp [*]; done)), (by first | rfl | (simp; done) | (simp [*]; done)), H', ⟨by have := HJ3.out; have := HK2.out; have := HK3.out; omega⟩, ⟨by repeat (first | (with_reducible first | exact HB.out | apply qJ | apply qK | apply qL) | exact HB.out)⟩⟩
            ·rw [if_neg c20] at H
             exact absurd H (by simp)
          ·rw [if_neg c13] at H
           exact absurd H (by simp)
         ·rw [if_neg c12] at H
          exact absurd H (by simp)
      ·rw [if_neg c11] at H
       have c11b0 : decide (x7_2 < (l0.length : Int)) = false := decide_eq_false c11
       clear c11
       replace H := Option.bind_eq_some_iff.mp H
       obtain ⟨⟨t223, t224⟩, A210, H⟩ := H
       replace H : (copperplatelaw18_WideTexts.l2 k2 x6_2 t223 (⟨#[]⟩ : ByteArray) 0) = some r := H
       have A21 := qM A210
       clear A210
       have H' := qM H
       clear H
       go_wp2_with (first | ((with_reducible refine gate_callee (f := 11) rfl ?_); refine goesL_ (some 72) rfl rfl Try.func11 (by kernel_rfl) rfl #[.slice A0 l0.length c0, .int .i64 a1] rfl (by (try simp only [List.map_toArray, List.map_cons, List.map_nil]); first | done | rfl | (simp only [List.length_drop, List.length_take]; rfl)) ?_; (with_reducible refine (wide_Lay.calls _ _ l0 a1 t223 t224 _ ?side1 ?side2 A21.out).mono ?_); (case side1 => repeat (first | exact (Kd.C_below HR0.out HB.out) | (with_reducible first | apply qO | apply qP | apply qQ))); (case side2 => exact HC0.out); (try clear A21); rintro e w22 ⟨rfl, hb⟩; refine ⟨_, rfl, ?_⟩; have n0_ := qM (below_step (by repeat (first | (with_reducible first | exact HB.out | apply qJ | apply qK | apply qL) | exact HB.out)) hb); clear HB; have HB := n0_; clear n0_; (try clear hb); (try clear hb2); (try clear hk); (try clear hi)))
       go_loopg [12, 13] k2 (fun kq v12 v13 w' => ∃ (x12_3 : ByteArray) (x13_3 : Int), v12 = .string x12_3 ∧ v13 = .int .i64 x13_3 ∧ Aside0 (copperplatelaw18_WideTexts.l2 kq x6_2 t223 x12_3 x13_3 = some r) ∧ Aside0 (kq ≤ k2) ∧ Aside0 (Below w.heap.size w w'))
       case atStart => exact ⟨((⟨#[]⟩ : ByteArray)), (0), (by first | rfl | (simp; done) | (simp [*]; done)), (by first | rfl | (simp; done) | (simp [*]; done)), H', ⟨Nat.le_refl _⟩, ⟨by repeat (first | (with_reducible first | exact HB.out | apply qJ | apply qK | apply qL) | exact HB.out)⟩⟩
       case round =>
        clear H'
        try clear c1
        try clear p1
        try clear q1
        try clear hx1
        try clear c2
        try clear p2
        try clear q2
        try clear hx2
        try clear c6
        try clear p6
        try clear c7
        try clear c7b0
        try clear c7b1
        try clear c10
        try clear c11
        try clear c11b0
        try clear c12
        try clear c12b0
        try clear c13
        try clear c13b0
        try clear c14
        try clear c14b0
        try clear c15
        try clear c15b0
        try clear p16
        try clear q16
        try clear hx16
        try clear c17
        try clear c17b0
        try clear c17b1
        try clear c18
        try clear c18b0
        try clear c18b1
        try clear c19
        try clear c19b0
        try clear c19b1
        try clear c20
        try clear c20b0
        try clear c20b1
        try clear c20b2
        try clear p22
        try clear q22
        try clear hx22
        try clear hx220_0
        try clear hx220_1
        try clear hx221_0
        try clear hx221_1
        try clear hx222_0
        try clear hx222_1
        try clear p16
        try clear p2
        try clear p220
        try clear p221
        try clear p222
        try clear q16
        try clear q220
        try clear q221
        try clear q222
        obtain ⟨x12_3, x13_3, rfl, rfl, HA, HK3, HB⟩ := hrel
        cases gk with
        | zero => exact absurd HA.out (by simp [copperplatelaw18_WideTexts.l2])
        | succ k3 =>
         have H := HA.out
         clear HA
         simp only [copperplatelaw18_WideTexts.l2] at H
         by_cases c23 : x13_3 < (t223.size : Int)
         ·rw [if_pos c23] at H
          have c23b0 : decide (x13_3 < (t223.size : Int)) = true := decide_eq_true c23
          clear c23
          by_cases c24 : 0 ≤ x13_3
          ·rw [if_pos c24] at H
           have c24b0 : decide (0 ≤ x13_3) = true := decide_eq_true c24
           clear c24
           by_cases c26 : (bt t223 x13_3) = 32
           ·rw [if_pos c26] at H
            have c26b0 : ((bt t223 x13_3) == 32) = true := beq_iff_eq.mpr c26
            have c26b1 : ((bt t223 x13_3) != 32) = false := bne_eq_false_iff_eq.mpr c26
            clear c26
            have H' := qM H
            clear H
            have p25 : 0 ≤ (x13_3 : Int) := qN (by assumption)
            have q25 : x13_3 < (t223.size : Int) := qN (by assumption)
            have hx25 := bt_at t223 x13_3
            replace p25 := eq_true p25
            replace q25 := eq_true q25
            go_wp2
            go_roundg k3
            case measure => have := HJ3.out; have := HK2.out; have := HK3.out; omega
            case rel => exact ⟨(x12_3), (wrap64 (x13_3 + 1)), (by first | rfl | (simp; done) | (simp [*]; done)), (by first | rfl | (simp; done) | (simp [*]; done)), H', ⟨by have := HJ3.out; have := HK2.out; have := HK3.out; omega⟩, ⟨by repeat (first | (with_reducible first | exact HB.out | apply qJ | apply qK | apply qL) | exact HB.out)⟩⟩
           ·rw [if_neg c26] at H
            have c26b0 : ((bt t223 x13_3) == 32) = false := beq_eq_false_iff_ne.mpr c26
            have c26b1 : ((bt t223 x13_3) != 32) = true := bne_iff_ne.mpr c26
            by_cases c28 : (bt t223 x13_3) = 44
            ·rw [if_pos c28] at H
             have c28b0 : ((bt t223 x13_3) == 44) = true := beq_iff_eq.mpr c28
             have c28b1 : ((bt t223 x13_3) != 44) = false := bne_eq_false_iff_eq.mpr c28
             clear c28
             have H' := qM H
             clear H
             have p25 : 0 ≤ (x13_3 : Int) := qN (by assumption)
             have q25 : x13_3 < (t223.size : Int) := qN (by assumption)
             have hx25 := bt_at t223 x13_3
             replace p25 := eq_true p25
             replace q25 := eq_true q25
             have p27 : 0 ≤ (x13_3 : Int) := qN (by assumption)
             have q27 : x13_3 < (t223.size : Int) := qN (by assumption)
             have hx27 := bt_at t223 x13_3
             replace p27 := eq_true p27
             replace q27 := eq_true q27
             go_wp2
             go_roundg k3
             case measure => have := HJ3.out; have := HK2.out; have := HK3.out; omega
             case rel => exact ⟨(x12_3), (wrap64 (x13_3 + 1)), (by first | rfl | (simp; done) | (simp [*]; done)), (by first | rfl | (simp; done) | (simp [*]; done)), H', ⟨by have := HJ3.out; have := HK2.out; have := HK3.out; omega⟩, ⟨by repeat (first | (with_reducible first | exact HB.out | apply qJ | apply qK | apply qL) | exact HB.out)⟩⟩
            ·rw [if_neg c28] at H
             have c28b0 : ((bt t223 x13_3) == 44) = false := beq_eq_false_iff_ne.mpr c28
             have c28b1 : ((bt t223 x13_3) != 44) = true := bne_iff_ne.mpr c28
             by_cases c30 : (bt t223 x13_3) = 10
             ·rw [if_pos c30] at H
              have c30b0 : ((bt t223 x13_3) == 10) = true := beq_iff_eq.mpr c30
              have c30b1 : ((bt t223 x13_3) != 10) = false := bne_eq_false_iff_eq.mpr c30
              clear c30
              have H' := qM H
              clear H
              have p25 : 0 ≤ (x13_3 : Int) := qN (by assumption)
              have q25 : x13_3 < (t223.size : Int) := qN (by assumption)
              have hx25 := bt_at t223 x13_3
              replace p25 := eq_true p25
              replace q25 := eq_true q25
              have p27 : 0 ≤ (x13_3 : Int) := qN (by assumption)
              have q27 : x13_3 < (t223.size : Int) := qN (by assumption)
              have hx27 := bt_at t223 x13_3
              replace p27 := eq_true p27
              replace q27 := eq_true q27
              have p29 : 0 ≤ (x13_3 : Int) := qN (by assumption)
              have q29 : x13_3 < (t223.size : Int) := qN (by assumption)
              have hx29 := bt_at t223 x13_3
              replace p29 := eq_true p29
              replace q29 := eq_true q29
              go_wp2
              go_roundg k3
              case measure => have := HJ3.out; have := HK2.out; have := HK3.out; omega
              case rel => exact ⟨(x12_3), (wrap64 (x13_3 + 1)), (by first | rfl | (simp; done) | (simp [*]; done)), (by first | rfl | (simp; done) | (simp [*]; done)), H', ⟨by have := HJ3.out; have := HK2.out; have := HK3.out; omega⟩, ⟨by repeat (first | (with_reducible first | exact HB.out | apply qJ | apply qK | apply qL) | exact HB.out)⟩⟩
             ·rw [if_neg c30] at H
              have c30b0 : ((bt t223 x13_3) == 10) = false := beq_eq_false_iff_ne.mpr c30
              have c30b1 : ((bt t223 x13_3) != 10) = true := bne_iff_ne.mpr c30
              have c31b0 := eq_true (qN (by assumption) : 0 ≤ x13_3)
              by_cases c32 : x13_3 ≤ (wrap64 (x13_3 + 1))
              ·rw [if_pos c32] at H
               have c32b0 := eq_true c32
               have c32b1 : decide (x13_3 ≤ (wrap64 (x13_3 + 1))) = true := decide_eq_true c32
               by_cases c33 : (wrap64 (x13_3 + 1)) ≤ (t223.size : Int)
               ·rw [if_pos c33] at H
                have c33b0 := eq_true c33
                have c33b1 : decide ((wrap64 (x13_3 + 1)) ≤ (t223.size : Int)) = true := decide_eq_true c33
                by_cases c34 : x12_3.size + (t223.extract (x13_3 : Int).toNat ((wrap64 (x13_3 + 1)) : Int).toNat).size ≤ 9223372036854775807
                ·rw [if_pos c34] at H
                 have c34b0 := eq_true c34
                 have c34b1 : decide (x12_3.size + (t223.extract (x13_3 : Int).toNat ((wrap64 (x13_3 + 1)) : Int).toNat).size ≤ 9223372036854775807) = true := decide_eq_true c34
                 try have c34b2 : (9223372036854775807 < x12_3.size + (t223.extract (x13_3 : Int).toNat ((wrap64 (x13_3 + 1)) : Int).toNat).size) = False := eq_false (Nat.not_lt.2 c34)
                 have H' := qM H
                 clear H
                 have p25 : 0 ≤ (x13_3 : Int) := qN (by assumption)
                 have q25 : x13_3 < (t223.size : Int) := qN (by assumption)
                 have hx25 := bt_at t223 x13_3
                 replace p25 := eq_true p25
                 replace q25 := eq_true q25
                 have p27 : 0 ≤ (x13_3 : Int) := qN (by assumption)
                 have q27 : x13_3 < (t223.size : Int) := qN (by assumption)
                 have hx27 := bt_at t223 x13_3
                 replace p27 := eq_true p27
                 replace q27 := eq_true q27
                 have p29 : 0 ≤ (x13_3 : Int) := qN (by assumption)
                 have q29 : x13_3 < (t223.size : Int) := qN (by assumption)
                 have hx29 := bt_at t223 x13_3
                 replace p29 := eq_true p29
                 replace q29 := eq_true q29
                 (try (have hw_ : wrap64 (x13_3 + 1) = (x13_3 + 1) := (by unfold wrap64; omega); have c32b0u := c32b0; rw [hw_] at c32b0u))
                 (try (have hw_ : wrap64 (x13_3 + 1) = (x13_3 + 1) := (by unfold wrap64; omega); have c32b1u := c32b1; rw [hw_] at c32b1u))
                 (try (have hw_ : wrap64 (x13_3 + 1) = (x13_3 + 1) := (by unfold wrap64; omega); have c32u := c32; rw [hw_] at c32u))
                 (try (have hw_ : wrap64 (x13_3 + 1) = (x13_3 + 1) := (by unfold wrap64; omega); have c33b0u := c33b0; rw [hw_] at c33b0u))
                 (try (have hw_ : wrap64 (x13_3 + 1) = (x13_3 + 1) := (by unfold wrap64; omega); have c33b1u := c33b1; rw [hw_] at c33b1u))
                 (try (have hw_ : wrap64 (x13_3 + 1) = (x13_3 + 1) := (by unfold wrap64; omega); have c33u := c33; rw [hw_] at c33u))
                 (try (have hw_ : wrap64 (x13_3 + 1) = (x13_3 + 1) := (by unfold wrap64; omega); have c34b0u := c34b0; rw [hw_] at c34b0u))
                 (try (have hw_ : wrap64 (x13_3 + 1) = (x13_3 + 1) := (by unfold wrap64; omega); have c34b1u := c34b1; rw [hw_] at c34b1u))
                 (try (have hw_ : wrap64 (x13_3 + 1) = (x13_3 + 1) := (by unfold wrap64; omega); have c34u := c34; rw [hw_] at c34u))
                 go_wp2
                 go_roundg k3
                 case measure => have := HJ3.out; have := HK2.out; have := HK3.out; omega
                 case rel => exact ⟨(x12_3 ++ (t223.extract (x13_3 : Int).toNat ((wrap64 (x13_3 + 1)) : Int).toNat)), (wrap64 (x13_3 + 1)), (by first | rfl | (simp; done) | (simp [*]; done)), (by first | rfl | (simp; done) | (simp [*]; done)), H', ⟨by have := HJ3.out; have := HK2.out; have := HK3.out; omega⟩, ⟨by repeat (first | (with_reducible first | exact HB.out | apply qJ | apply qK | apply qL) | exact HB.out)⟩⟩
                ·rw [if_neg c34] at H
                 exact absurd H (by simp)
               ·rw [if_neg c33] at H
                exact absurd H (by simp)
              ·rw [if_neg c32] at H
               exact absurd H (by simp)
          ·rw [if_neg c24] at H
           exact absurd H (by simp)
         ·rw [if_neg c23] at H
          have c23b0 : decide (x13_3 < (t223.size : Int)) = false := decide_eq_false c23
          clear c23
          obtain rfl := Option.some.inj H
          go_wp2
          go_ret
          exact ⟨by first | rfl | (simp [errW_none, errW_some] <;> rfl) | (simp [*, errW_none, errW_some] <;> rfl), by repeat (first | (with_reducible first | exact HB.out | apply qJ | apply qK | apply qL) | exact HB.out)⟩

/-- The pure statement of copperplatelaw18_WideTexts. -/
def copperplatelaw18_WideTexts.Pure : Prop := ∀ (l0 : List (S31)) (a1 : Int), l0.length * 24 ≤ 140737488351232 → (∀ x ∈ l0, (Lit.int .i64 x.f0).wf = true ∧ x.f1.size ≤ 140737488351232) → (Lit.int .i64 a1).wf = true → ∃ k, copperplatelaw18_WideTexts.f k l0 a1 = some true
def copperplatelaw18_WideTexts.PureUp : Prop := ∀ (l0 : List (S31)) (a1 : Int), l0.length * 24 ≤ 140737488351232 → (∀ x ∈ l0, (Lit.int .i64 x.f0).wf = true ∧ x.f1.size ≤ 140737488351232) → (Lit.int .i64 a1).wf = true → (l0.map fun x => x.f1.size).sum ≤ 1048576 → ∃ k, copperplatelaw18_WideTexts.f k l0 a1 = some true

end Go.Proofs.Ytipjfdamkpgecaa.PWide
