-- Written by a program of the session (drive.py, over the kit's print.py with contracts by hand). Not trusted: Lean checks it.
import Derived.Test.YtipjfdamkpgecaaPWidex0
import Derived.Test.YtipjfdamkpgecaaPWidex2
import Derived.Test.YtipjfdamkpgecaaPWidex10
import Derived.Test.YtipjfdamkpgecaaHWideWideA
namespace Go.Proofs.Ytipjfdamkpgecaa.PWide
open Go.RowKit Go.Proofs.YtipjfdamkpgecaaW.PrintWords Go.Proofs.YtipjfdamkpgecaaW.PrintLast Go.Proofs.YtipjfdamkpgecaaW.PrintMore
attribute [local go_sem] max2_int min2_int max_two min_two max_three min_three max_four min_four   -- for this text's walks alone
set_option linter.unusedVariables false
set_option linter.unusedSimpArgs false

/-! ### copperplatelaw18_WideFirst: function 9 -/
def copperplatelaw18_WideFirst.j0 : Nat → List (S31) → List (S31) → Int → Bool → Bool → Option (Bool)
 | 0, _, _, _, _, _ => none
 | k + 1, x0, x1, x2, x7, x39 => if x39 = true then (some x7) else (if ([] : List (S31)).length + x0.length < 5864062014805 then ((some (([] : List (S31)) ++ x0 : List (S31))).bind fun y266 => ((some (([(⟨5, (⟨#[]⟩ : ByteArray)⟩ : S31)] : List (S31)) : List (S31))).bind fun y269 => (if y266.length + y269.length < 5864062014805 then ((wide_Lay.f (y266 ++ y269) x2).bind fun bt275 => ((wide_Lay.f x1 x2).bind fun bt277 => ((some (([] : List (S31)) ++ x0 : List (S31))).bind fun y279 => ((some (([(⟨5, (⟨#[]⟩ : ByteArray)⟩ : S31)] : List (S31)) : List (S31))).bind fun y282 => (if y279.length + y282.length < 5864062014805 then ((some (y279 ++ y282 : List (S31))).bind fun y285 => (if y285.length + x1.length < 5864062014805 then ((wide_Lay.f (y285 ++ x1) x2).bind fun bt291 => (if bt275.2 = true then (if bt277.2 = true then (if bt291.2 = true then (if bt275.1.size + bt277.1.size ≤ 9223372036854775807 then (some (bt291.1.toList == (bt275.1 ++ bt277.1).toList)) else (none)) else (some false)) else (some false)) else (some false))) else (none))) else (none)))))) else (none)))) else (none))
def copperplatelaw18_WideFirst.f (k : Nat) (l0 : List (S31)) (l1 : List (S31)) (a2 : Int) : Option (Bool) := (copperplatelaw18_awake.f).bind fun t262 => (if t262 = true then (if (l0.length : Int) > 150 then (copperplatelaw18_WideFirst.j0 k l0 l1 a2 t262 true) else (if (l1.length : Int) > 150 then (copperplatelaw18_WideFirst.j0 k l0 l1 a2 t262 true) else ((wide_Room.f l0 a2).bind fun t263 => (if t263 = true then ((wide_Room.f l1 a2).bind fun t264 => (copperplatelaw18_WideFirst.j0 k l0 l1 a2 t262 (!t264))) else (copperplatelaw18_WideFirst.j0 k l0 l1 a2 t262 true))))) else (copperplatelaw18_WideFirst.j0 k l0 l1 a2 t262 true))
theorem copperplatelaw18_WideFirst.mono_l : ∀ k, (∀ y0 y1 y2 y3 y4, LeO (copperplatelaw18_WideFirst.j0 k y0 y1 y2 y3 y4) (copperplatelaw18_WideFirst.j0 (k + 1) y0 y1 y2 y3 y4))
 | 0 => fun _ _ _ _ _ r h => by simp [copperplatelaw18_WideFirst.j0] at h
 | k + 1 => by
  have ih0 := copperplatelaw18_WideFirst.mono_l k
  ·intro y0 y1 y2 y3 y4
   unfold copperplatelaw18_WideFirst.j0
   repeat' first
   | (with_reducible exact ih0 _ _ _ _ _)
   | (with_reducible exact LeO.refl _)
   | (with_reducible exact LeO.none _)
   | (with_reducible refine LeO.ite ?_ ?_)
   | (with_reducible refine LeO.bind ?_ (fun _ => ?_))
   | exact ih0 _ _ _ _ _
   | exact LeO.none _
   | refine LeO.ite ?_ ?_
   | refine LeO.bind ?_ (fun _ => ?_)
theorem copperplatelaw18_WideFirst.mono : ∀ a0 a1 a2 k, LeO (copperplatelaw18_WideFirst.f k a0 a1 a2) (copperplatelaw18_WideFirst.f (k + 1) a0 a1 a2) := by
 intro a0 a1 a2 k
 have ih0 := copperplatelaw18_WideFirst.mono_l k
 unfold copperplatelaw18_WideFirst.f
 repeat' first
   | (with_reducible exact ih0 _ _ _ _ _)
   | (with_reducible exact LeO.refl _)
   | (with_reducible exact LeO.none _)
   | (with_reducible refine LeO.ite ?_ ?_)
   | (with_reducible refine LeO.bind ?_ (fun _ => ?_))
   | exact ih0 _ _ _ _ _
   | exact LeO.none _
   | refine LeO.ite ?_ ?_
   | refine LeO.bind ?_ (fun _ => ?_)
def copperplatelaw18_WideFirst.T5 : Bool × List (List Nat × List Nat) := (true, [([], []), ([0], [0]), ([], []), ([2], [2]), ([1, 3, 1], [1, 3]), ([], []), ([4, 5, 4], [4, 5]), ([6], [6]), ([7], [7]), ([7], [7]), ([8, 6, 0, 1, 2, 3, 4, 5, 6, 7, 8], [8]), ([9, 10, 0, 1, 2, 3, 4, 5, 6, 7, 8, 9, 10], [9])])
def copperplatelaw18_WideFirst.B5 : List Nat := [0, 1, 0, 4, 15, 0, 63, 127, 255, 255, 511, 2047]
theorem copperplatelaw18_WideFirst.tab5 : rtab .any (opsOf Try.f9 5) = copperplatelaw18_WideFirst.T5 := by kernel_rfl
theorem copperplatelaw18_WideFirst.bits5 : waitsOk copperplatelaw18_WideFirst.T5.2 copperplatelaw18_WideFirst.B5 = true := by kernel_rfl
def copperplatelaw18_WideFirst.T7 : Bool × List (List Nat × List Nat) := (true, [([], []), ([0], [0]), ([], []), ([2], [2]), ([1, 3, 1], [1, 3]), ([], []), ([4, 5, 4], [4, 5]), ([], []), ([6, 7, 6], [6, 7]), ([8], [8]), ([9], [9]), ([9], [9]), ([10, 8, 0, 1, 2, 3, 4, 5, 6, 7, 8, 9, 10], [10]), ([11, 12, 0, 1, 2, 3, 4, 5, 6, 7, 8, 9, 10, 11, 12], [11])])
def copperplatelaw18_WideFirst.B7 : List Nat := [0, 1, 0, 4, 15, 0, 63, 0, 255, 511, 1023, 1023, 2047, 8191]
theorem copperplatelaw18_WideFirst.tab7 : rtab .any (opsOf Try.f9 7) = copperplatelaw18_WideFirst.T7 := by kernel_rfl
theorem copperplatelaw18_WideFirst.bits7 : waitsOk copperplatelaw18_WideFirst.T7.2 copperplatelaw18_WideFirst.B7 = true := by kernel_rfl
set_option maxHeartbeats 8000000 in
set_option maxRecDepth 100000 in
theorem copperplatelaw18_WideFirst.calls (k : Nat) (A0 : Option Addr) (c0 : Nat) (l0 : List (S31)) (A1 : Option Addr) (c1 : Nat) (l1 : List (S31)) (a2 : Int) (r : Bool) (w : World) (hr0 : Kd.C k31 w A0 l0.length l0) (hc0 : l0.length ≤ c0) (hr1 : Kd.C k31 w A1 l1.length l1) (hc1 : l1.length ≤ c1) (h : copperplatelaw18_WideFirst.f k l0 l1 a2 = some r) (hT_ : r = true) :
  Calls Try.prog 9 #[.slice A0 l0.length c0, .slice A1 l1.length c1, .int .i64 a2] w fun e w' => e = .returned (.bool r) ∧ Below w.heap.size w w' := by
 have hu31 := Try.underlying31
 have HT_ := qM hT_
 clear hT_
 have HR0 := qM hr0
 have HC0 := qM hc0
 clear hr0 hc0
 have HR1 := qM hr1
 have HC1 := qM hc1
 clear hr1 hc1
 have HB := qM (Below.refl w.heap.size w)
 have H : ((copperplatelaw18_awake.f).bind fun t262 => (if t262 = true then (if (l0.length : Int) > 150 then (copperplatelaw18_WideFirst.j0 k l0 l1 a2 t262 true) else (if (l1.length : Int) > 150 then (copperplatelaw18_WideFirst.j0 k l0 l1 a2 t262 true) else ((wide_Room.f l0 a2).bind fun t263 => (if t263 = true then ((wide_Room.f l1 a2).bind fun t264 => (copperplatelaw18_WideFirst.j0 k l0 l1 a2 t262 (!t264))) else (copperplatelaw18_WideFirst.j0 k l0 l1 a2 t262 true))))) else (copperplatelaw18_WideFirst.j0 k l0 l1 a2 t262 true))) = some r := h
 clear h
 replace H := Option.bind_eq_some_iff.mp H
 obtain ⟨t262, A40, H⟩ := H
 replace H : (if t262 = true then (if (l0.length : Int) > 150 then (copperplatelaw18_WideFirst.j0 k l0 l1 a2 t262 true) else (if (l1.length : Int) > 150 then (copperplatelaw18_WideFirst.j0 k l0 l1 a2 t262 true) else ((wide_Room.f l0 a2).bind fun t263 => (if t263 = true then ((wide_Room.f l1 a2).bind fun t264 => (copperplatelaw18_WideFirst.j0 k l0 l1 a2 t262 (!t264))) else (copperplatelaw18_WideFirst.j0 k l0 l1 a2 t262 true))))) else (copperplatelaw18_WideFirst.j0 k l0 l1 a2 t262 true)) = some r := H
 have A4 := qM A40
 clear A40
 have HC5 := qM H
 clear H
 go_enter Try.func9, Try.ntmps9
 go_upto_region 2 with (first | ((with_reducible refine gate_callee (f := 10) rfl ?_); refine goesL_ (some 15) rfl rfl Try.func10 (by kernel_rfl) rfl #[] rfl (by (try simp only [List.map_toArray, List.map_cons, List.map_nil]); first | done | rfl | (simp only [List.length_drop, List.length_take]; rfl)) ?_; (with_reducible refine (copperplatelaw18_awake.calls  t262 _ A4.out).mono ?_); (try clear A4); rintro e w6 ⟨rfl, hb⟩; refine ⟨_, rfl, ?_⟩; have n0_ := qM (below_step (by repeat (first | (with_reducible first | exact HB.out | apply qJ | apply qK | apply qL) | exact HB.out)) hb); clear HB; have HB := n0_; clear n0_; (try clear hb); (try clear hb2); (try clear hk); (try clear hi)))
 (try simp only [Act.put, qA, qB, qC])
 go_cut [39] (fun v39 wc => ∃ (kq : Nat) (x39_4 : Bool), v39 = .bool x39_4 ∧ Aside0 (copperplatelaw18_WideFirst.j0 kq l0 l1 a2 t262 x39_4 = some r) ∧ Aside0 (kq ≤ k) ∧ Aside0 (Below w.heap.size w wc))
 case first =>
  have H := HC5.out
  clear HC5
  by_cases c7 : t262 = true
  ·subst c7
   have H1 : (if (l0.length : Int) > 150 then (copperplatelaw18_WideFirst.j0 k l0 l1 a2 true true) else (if (l1.length : Int) > 150 then (copperplatelaw18_WideFirst.j0 k l0 l1 a2 true true) else ((wide_Room.f l0 a2).bind fun t263 => (if t263 = true then ((wide_Room.f l1 a2).bind fun t264 => (copperplatelaw18_WideFirst.j0 k l0 l1 a2 true (!t264))) else (copperplatelaw18_WideFirst.j0 k l0 l1 a2 true true))))) = some r := by rw [if_pos rfl] at H; exact H
   clear H
   have H := H1
   clear H1
   by_cases c8 : (l0.length : Int) > 150
   ·rw [if_pos c8] at H
    have c8b0 : decide (150 < (l0.length : Int)) = true := decide_eq_true c8
    have c8b1 : decide (150 < l0.length) = true := decide_eq_true (by omega)
    clear c8
    (first | rw [c8b0] | (simp only [i64_w, i32_w]; rw [c8b0]) | skip)
    have H' := qM H
    clear H
    go_wp2
    go_meet
    case rel => exact ⟨_, (true), (by first | rfl | (simp; done) | (simp [*]; done)), H', ⟨by first | omega | exact Nat.le_refl _⟩, ⟨by repeat (first | (with_reducible first | exact HB.out | apply qJ | apply qK | apply qL) | exact HB.out)⟩⟩
   ·rw [if_neg c8] at H
    have c8b0 : decide (150 < (l0.length : Int)) = false := decide_eq_false c8
    have c8b1 : decide (150 < l0.length) = false := decide_eq_false (by omega)
    clear c8
    (first | rw [c8b0] | (simp only [i64_w, i32_w]; rw [c8b0]) | skip)
    by_cases c9 : (l1.length : Int) > 150
    ·rw [if_pos c9] at H
     have c9b0 : decide (150 < (l1.length : Int)) = true := decide_eq_true c9
     have c9b1 : decide (150 < l1.length) = true := decide_eq_true (by omega)
     clear c9
     have H' := qM H
     clear H
     go_wp2
     go_meet
     case rel => exact ⟨_, (true), (by first | rfl | (simp; done) | (simp [*]; done)), H', ⟨by first | omega | exact Nat.le_refl _⟩, ⟨by repeat (first | (with_reducible first | exact HB.out | apply qJ | apply qK | apply qL) | exact HB.out)⟩⟩
    ·rw [if_neg c9] at H
     have c9b0 : decide (150 < (l1.length : Int)) = false := decide_eq_false c9
     have c9b1 : decide (150 < l1.length) = false := decide_eq_false (by omega)
     clear c9
     replace H := Option.bind_eq_some_iff.mp H
     obtain ⟨t263, A100, H⟩ := H
     replace H : (if t263 = true then ((wide_Room.f l1 a2).bind fun t264 => (copperplatelaw18_WideFirst.j0 k l0 l1 a2 true (!t264))) else (copperplatelaw18_WideFirst.j0 k l0 l1 a2 true true)) = some r := H
     have A10 := qM A100
     clear A100
     by_cases c11 : t263 = true
     ·subst c11
      have H1 : ((wide_Room.f l1 a2).bind fun t264 => (copperplatelaw18_WideFirst.j0 k l0 l1 a2 true (!t264))) = some r := by rw [if_pos rfl] at H; exact H
      clear H
      have H := H1
      clear H1
      replace H := Option.bind_eq_some_iff.mp H
      obtain ⟨t264, A120, H⟩ := H
      replace H : (copperplatelaw18_WideFirst.j0 k l0 l1 a2 true (!t264)) = some r := H
      have A12 := qM A120
      clear A120
      have H' := qM H
      clear H
      go_wp2_with (first | (go_at_call 14; (with_reducible refine (wide_Room.calls _ _ l0 a2 true _ ?side1 ?side2 A10.out).mono ?_); (case side1 => repeat (first | exact (Kd.C_below HR0.out HB.out) | (with_reducible first | apply qO | apply qP | apply qQ))); (case side2 => exact HC0.out); (try clear A10); rintro e w13 ⟨rfl, hb⟩; have n0_ := qM (below_step (by repeat (first | (with_reducible first | exact HB.out | apply qJ | apply qK | apply qL) | exact HB.out)) hb); clear HB; have HB := n0_; clear n0_; (try clear hb); (try clear hb2); (try clear hk); (try clear hi)) | (go_at_call 14; (with_reducible refine (wide_Room.calls _ _ l1 a2 t264 _ ?side1 ?side2 A12.out).mono ?_); (case side1 => repeat (first | exact (Kd.C_below HR1.out HB.out) | (with_reducible first | apply qO | apply qP | apply qQ))); (case side2 => exact HC1.out); (try clear A12); rintro e w14 ⟨rfl, hb⟩; have n0_ := qM (below_step (by repeat (first | (with_reducible first | exact HB.out | apply qJ | apply qK | apply qL) | exact HB.out)) hb); clear HB; have HB := n0_; clear n0_; (try clear hb); (try clear hb2); (try clear hk); (try clear hi)))
      go_meet
      case rel => exact ⟨_, (!t264), (by first | rfl | (simp; done) | (simp [*]; done)), H', ⟨by first | omega | exact Nat.le_refl _⟩, ⟨by repeat (first | (with_reducible first | exact HB.out | apply qJ | apply qK | apply qL) | exact HB.out)⟩⟩
     ·replace c11 := Bool.eq_false_iff.mpr c11
      subst c11
      have H1 : (copperplatelaw18_WideFirst.j0 k l0 l1 a2 true true) = some r := by rw [if_neg (show ¬ (false = true) by decide)] at H; exact H
      clear H
      have H := H1
      clear H1
      have H' := qM H
      clear H
      go_wp2_with (first | (go_at_call 14; (with_reducible refine (wide_Room.calls _ _ l0 a2 false _ ?side1 ?side2 A10.out).mono ?_); (case side1 => repeat (first | exact (Kd.C_below HR0.out HB.out) | (with_reducible first | apply qO | apply qP | apply qQ))); (case side2 => exact HC0.out); (try clear A10); rintro e w15 ⟨rfl, hb⟩; have n0_ := qM (below_step (by repeat (first | (with_reducible first | exact HB.out | apply qJ | apply qK | apply qL) | exact HB.out)) hb); clear HB; have HB := n0_; clear n0_; (try clear hb); (try clear hb2); (try clear hk); (try clear hi)))
      go_meet
      case rel => exact ⟨_, (true), (by first | rfl | (simp; done) | (simp [*]; done)), H', ⟨by first | omega | exact Nat.le_refl _⟩, ⟨by repeat (first | (with_reducible first | exact HB.out | apply qJ | apply qK | apply qL) | exact HB.out)⟩⟩
  ·replace c7 := Bool.eq_false_iff.mpr c7
   subst c7
   have H1 : (copperplatelaw18_WideFirst.j0 k l0 l1 a2 false true) = some r := by rw [if_neg (show ¬ (false = true) by decide)] at H; exact H
   clear H
   have H := H1
   clear H1
   have H' := qM H
   clear H
   go_wp2
   go_meet
   case rel => exact ⟨_, (true), (by first | rfl | (simp; done) | (simp [*]; done)), H', ⟨by first | omega | exact Nat.le_refl _⟩, ⟨by repeat (first | (with_reducible first | exact HB.out | apply qJ | apply qK | apply qL) | exact HB.out)⟩⟩
 case rest =>
  clear HC5
  try clear c1
  try clear p2
  try clear c7
  try clear c8
  try clear c8b0
  try clear c8b1
  try clear c9
  try clear c9b0
  try clear c9b1
  try clear c10
  try clear c11
  obtain ⟨kq, x39_4, rfl, HA, HJ4, HB⟩ := hcut
  cases kq with
  | zero => exact absurd HA.out (by simp [copperplatelaw18_WideFirst.j0])
  | succ kj4 =>
   have H := HA.out
   clear HA
   simp only [copperplatelaw18_WideFirst.j0] at H
   by_cases c16 : x39_4 = true
   ·subst c16
    have H1 : (some t262) = some r := by rw [if_pos rfl] at H; exact H
    clear H
    have H := H1
    clear H1
    obtain rfl := Option.some.inj H
    go_wp2
    go_ret
    exact ⟨by first | rfl | (simp [errW_none, errW_some] <;> rfl) | (simp [*, errW_none, errW_some] <;> rfl), by repeat (first | (with_reducible first | exact HB.out | apply qJ | apply qK | apply qL) | exact HB.out)⟩
   ·replace c16 := Bool.eq_false_iff.mpr c16
    subst c16
    have H1 : (if ([] : List (S31)).length + l0.length < 5864062014805 then ((some (([] : List (S31)) ++ l0 : List (S31))).bind fun y266 => ((some (([(⟨5, (⟨#[]⟩ : ByteArray)⟩ : S31)] : List (S31)) : List (S31))).bind fun y269 => (if y266.length + y269.length < 5864062014805 then ((wide_Lay.f (y266 ++ y269) a2).bind fun bt275 => ((wide_Lay.f l1 a2).bind fun bt277 => ((some (([] : List (S31)) ++ l0 : List (S31))).bind fun y279 => ((some (([(⟨5, (⟨#[]⟩ : ByteArray)⟩ : S31)] : List (S31)) : List (S31))).bind fun y282 => (if y279.length + y282.length < 5864062014805 then ((some (y279 ++ y282 : List (S31))).bind fun y285 => (if y285.length + l1.length < 5864062014805 then ((wide_Lay.f (y285 ++ l1) a2).bind fun bt291 => (if bt275.2 = true then (if bt277.2 = true then (if bt291.2 = true then (if bt275.1.size + bt277.1.size ≤ 9223372036854775807 then (some (bt291.1.toList == (bt275.1 ++ bt277.1).toList)) else (none)) else (some false)) else (some false)) else (some false))) else (none))) else (none)))))) else (none)))) else (none)) = some r := by rw [if_neg (show ¬ (false = true) by decide)] at H; exact H
    clear H
    have H := H1
    clear H1
    by_cases c17 : ([] : List (S31)).length + l0.length < 5864062014805
    ·rw [if_pos c17] at H
     have LMc17 := qM c17
     clear c17
     obtain ⟨y266, hy266⟩ : ∃ y_ : List (S31), y_ = (([] : List (S31)) ++ l0) := ⟨_, rfl⟩
     replace H : ((some (([(⟨5, (⟨#[]⟩ : ByteArray)⟩ : S31)] : List (S31)) : List (S31))).bind fun y269 => (if y266.length + y269.length < 5864062014805 then ((wide_Lay.f (y266 ++ y269) a2).bind fun bt275 => ((wide_Lay.f l1 a2).bind fun bt277 => ((some (([] : List (S31)) ++ l0 : List (S31))).bind fun y279 => ((some (([(⟨5, (⟨#[]⟩ : ByteArray)⟩ : S31)] : List (S31)) : List (S31))).bind fun y282 => (if y279.length + y282.length < 5864062014805 then ((some (y279 ++ y282 : List (S31))).bind fun y285 => (if y285.length + l1.length < 5864062014805 then ((wide_Lay.f (y285 ++ l1) a2).bind fun bt291 => (if bt275.2 = true then (if bt277.2 = true then (if bt291.2 = true then (if bt275.1.size + bt277.1.size ≤ 9223372036854775807 then (some (bt291.1.toList == (bt275.1 ++ bt277.1).toList)) else (none)) else (some false)) else (some false)) else (some false))) else (none))) else (none)))))) else (none))) = some r := by first | (rw [hy266]; with_reducible exact H) | (have H2_ := (Option.bind_some _ _).symm.trans H; rw [hy266]; with_reducible exact H2_) | (have H2_ := (Option.bind_some _ _).symm.trans H; with_reducible exact H2_) | with_reducible exact H | (rw [hy266]; exact H) | exact H
     have Ny266 := qM hy266
     clear hy266
     obtain ⟨y269, hy269⟩ : ∃ y_ : List (S31), y_ = (([(⟨5, (⟨#[]⟩ : ByteArray)⟩ : S31)] : List (S31))) := ⟨_, rfl⟩
     replace H : (if y266.length + y269.length < 5864062014805 then ((wide_Lay.f (y266 ++ y269) a2).bind fun bt275 => ((wide_Lay.f l1 a2).bind fun bt277 => ((some (([] : List (S31)) ++ l0 : List (S31))).bind fun y279 => ((some (([(⟨5, (⟨#[]⟩ : ByteArray)⟩ : S31)] : List (S31)) : List (S31))).bind fun y282 => (if y279.length + y282.length < 5864062014805 then ((some (y279 ++ y282 : List (S31))).bind fun y285 => (if y285.length + l1.length < 5864062014805 then ((wide_Lay.f (y285 ++ l1) a2).bind fun bt291 => (if bt275.2 = true then (if bt277.2 = true then (if bt291.2 = true then (if bt275.1.size + bt277.1.size ≤ 9223372036854775807 then (some (bt291.1.toList == (bt275.1 ++ bt277.1).toList)) else (none)) else (some false)) else (some false)) else (some false))) else (none))) else (none)))))) else (none)) = some r := by first | (rw [hy269]; with_reducible exact H) | (have H2_ := (Option.bind_some _ _).symm.trans H; rw [hy269]; with_reducible exact H2_) | (have H2_ := (Option.bind_some _ _).symm.trans H; with_reducible exact H2_) | with_reducible exact H | (rw [hy269]; exact H) | exact H
     have Ny269 := qM hy269
     clear hy269
     by_cases c18 : y266.length + y269.length < 5864062014805
     ·rw [if_pos c18] at H
      have LMc18 := qM c18
      clear c18
      obtain ⟨y272, hy272⟩ : ∃ y_ : List (S31), y_ = (y266 ++ y269) := ⟨_, rfl⟩
      replace H : ((wide_Lay.f y272 a2).bind fun bt275 => ((wide_Lay.f l1 a2).bind fun bt277 => ((some (([] : List (S31)) ++ l0 : List (S31))).bind fun y279 => ((some (([(⟨5, (⟨#[]⟩ : ByteArray)⟩ : S31)] : List (S31)) : List (S31))).bind fun y282 => (if y279.length + y282.length < 5864062014805 then ((some (y279 ++ y282 : List (S31))).bind fun y285 => (if y285.length + l1.length < 5864062014805 then ((wide_Lay.f (y285 ++ l1) a2).bind fun bt291 => (if bt275.2 = true then (if bt277.2 = true then (if bt291.2 = true then (if bt275.1.size + bt277.1.size ≤ 9223372036854775807 then (some (bt291.1.toList == (bt275.1 ++ bt277.1).toList)) else (none)) else (some false)) else (some false)) else (some false))) else (none))) else (none)))))) = some r := by first | (rw [hy272]; with_reducible exact H) | (have H2_ := (Option.bind_some _ _).symm.trans H; rw [hy272]; with_reducible exact H2_) | (have H2_ := (Option.bind_some _ _).symm.trans H; with_reducible exact H2_) | with_reducible exact H | (rw [hy272]; exact H) | exact H
      have Ny272 := qM hy272
      clear hy272
      replace H := Option.bind_eq_some_iff.mp H
      obtain ⟨⟨t275, t276⟩, A190, H⟩ := H
      replace H : ((wide_Lay.f l1 a2).bind fun bt277 => ((some (([] : List (S31)) ++ l0 : List (S31))).bind fun y279 => ((some (([(⟨5, (⟨#[]⟩ : ByteArray)⟩ : S31)] : List (S31)) : List (S31))).bind fun y282 => (if y279.length + y282.length < 5864062014805 then ((some (y279 ++ y282 : List (S31))).bind fun y285 => (if y285.length + l1.length < 5864062014805 then ((wide_Lay.f (y285 ++ l1) a2).bind fun bt291 => (if t276 = true then (if bt277.2 = true then (if bt291.2 = true then (if t275.size + bt277.1.size ≤ 9223372036854775807 then (some (bt291.1.toList == (t275 ++ bt277.1).toList)) else (none)) else (some false)) else (some false)) else (some false))) else (none))) else (none))))) = some r := H
      have A19 := qM A190
      clear A190
      replace H := Option.bind_eq_some_iff.mp H
      obtain ⟨⟨t277, t278⟩, A200, H⟩ := H
      replace H : ((some (([] : List (S31)) ++ l0 : List (S31))).bind fun y279 => ((some (([(⟨5, (⟨#[]⟩ : ByteArray)⟩ : S31)] : List (S31)) : List (S31))).bind fun y282 => (if y279.length + y282.length < 5864062014805 then ((some (y279 ++ y282 : List (S31))).bind fun y285 => (if y285.length + l1.length < 5864062014805 then ((wide_Lay.f (y285 ++ l1) a2).bind fun bt291 => (if t276 = true then (if t278 = true then (if bt291.2 = true then (if t275.size + t277.size ≤ 9223372036854775807 then (some (bt291.1.toList == (t275 ++ t277).toList)) else (none)) else (some false)) else (some false)) else (some false))) else (none))) else (none)))) = some r := H
      have A20 := qM A200
      clear A200
      obtain ⟨y279, hy279⟩ : ∃ y_ : List (S31), y_ = (([] : List (S31)) ++ l0) := ⟨_, rfl⟩
      replace H : ((some (([(⟨5, (⟨#[]⟩ : ByteArray)⟩ : S31)] : List (S31)) : List (S31))).bind fun y282 => (if y279.length + y282.length < 5864062014805 then ((some (y279 ++ y282 : List (S31))).bind fun y285 => (if y285.length + l1.length < 5864062014805 then ((wide_Lay.f (y285 ++ l1) a2).bind fun bt291 => (if t276 = true then (if t278 = true then (if bt291.2 = true then (if t275.size + t277.size ≤ 9223372036854775807 then (some (bt291.1.toList == (t275 ++ t277).toList)) else (none)) else (some false)) else (some false)) else (some false))) else (none))) else (none))) = some r := by first | (rw [hy279]; with_reducible exact H) | (have H2_ := (Option.bind_some _ _).symm.trans H; rw [hy279]; with_reducible exact H2_) | (have H2_ := (Option.bind_some _ _).symm.trans H; with_reducible exact H2_) | with_reducible exact H | (rw [hy279]; exact H) | exact H
      have Ny279 := qM hy279
      clear hy279
      obtain ⟨y282, hy282⟩ : ∃ y_ : List (S31), y_ = (([(⟨5, (⟨#[]⟩ : ByteArray)⟩ : S31)] : List (S31))) := ⟨_, rfl⟩
      replace H : (if y279.length + y282.length < 5864062014805 then ((some (y279 ++ y282 : List (S31))).bind fun y285 => (if y285.length + l1.length < 5864062014805 then ((wide_Lay.f (y285 ++ l1) a2).bind fun bt291 => (if t276 = true then (if t278 = true then (if bt291.2 = true then (if t275.size + t277.size ≤ 9223372036854775807 then (some (bt291.1.toList == (t275 ++ t277).toList)) else (none)) else (some false)) else (some false)) else (some false))) else (none))) else (none)) = some r := by first | (rw [hy282]; with_reducible exact H) | (have H2_ := (Option.bind_some _ _).symm.trans H; rw [hy282]; with_reducible exact H2_) | (have H2_ := (Option.bind_some _ _).symm.trans H; with_reducible exact H2_) | with_reducible exact H | (rw [hy282]; exact H) | exact H
      have Ny282 := qM hy282
      clear hy282
      by_cases c21 : y279.length + y282.length < 5864062014805
      ·rw [if_pos c21] at H
       have LMc21 := qM c21
       clear c21
       obtain ⟨y285, hy285⟩ : ∃ y_ : List (S31), y_ = (y279 ++ y282) := ⟨_, rfl⟩
       replace H : (if y285.length + l1.length < 5864062014805 then ((wide_Lay.f (y285 ++ l1) a2).bind fun bt291 => (if t276 = true then (if t278 = true then (if bt291.2 = true then (if t275.size + t277.size ≤ 9223372036854775807 then (some (bt291.1.toList == (t275 ++ t277).toList)) else (none)) else (some false)) else (some false)) else (some false))) else (none)) = some r := by first | (rw [hy285]; with_reducible exact H) | (have H2_ := (Option.bind_some _ _).symm.trans H; rw [hy285]; with_reducible exact H2_) | (have H2_ := (Option.bind_some _ _).symm.trans H; with_reducible exact H2_) | with_reducible exact H | (rw [hy285]; exact H) | exact H
       have Ny285 := qM hy285
       clear hy285
       by_cases c22 : y285.length + l1.length < 5864062014805
       ·rw [if_pos c22] at H
        have LMc22 := qM c22
        clear c22
        obtain ⟨y288, hy288⟩ : ∃ y_ : List (S31), y_ = (y285 ++ l1) := ⟨_, rfl⟩
        replace H : ((wide_Lay.f y288 a2).bind fun bt291 => (if t276 = true then (if t278 = true then (if bt291.2 = true then (if t275.size + t277.size ≤ 9223372036854775807 then (some (bt291.1.toList == (t275 ++ t277).toList)) else (none)) else (some false)) else (some false)) else (some false))) = some r := by first | (rw [hy288]; with_reducible exact H) | (have H2_ := (Option.bind_some _ _).symm.trans H; rw [hy288]; with_reducible exact H2_) | (have H2_ := (Option.bind_some _ _).symm.trans H; with_reducible exact H2_) | with_reducible exact H | (rw [hy288]; exact H) | exact H
        have Ny288 := qM hy288
        clear hy288
        replace H := Option.bind_eq_some_iff.mp H
        obtain ⟨⟨t291, t292⟩, A230, H⟩ := H
        replace H : (if t276 = true then (if t278 = true then (if t292 = true then (if t275.size + t277.size ≤ 9223372036854775807 then (some (t291.toList == (t275 ++ t277).toList)) else (none)) else (some false)) else (some false)) else (some false)) = some r := H
        have A23 := qM A230
        clear A230
        by_cases c24 : t276 = true
        ·subst c24
         have H1 : (if t278 = true then (if t292 = true then (if t275.size + t277.size ≤ 9223372036854775807 then (some (t291.toList == (t275 ++ t277).toList)) else (none)) else (some false)) else (some false)) = some r := by rw [if_pos rfl] at H; exact H
         clear H
         have H := H1
         clear H1
         by_cases c25 : t278 = true
         ·subst c25
          have H1 : (if t292 = true then (if t275.size + t277.size ≤ 9223372036854775807 then (some (t291.toList == (t275 ++ t277).toList)) else (none)) else (some false)) = some r := by rw [if_pos rfl] at H; exact H
          clear H
          have H := H1
          clear H1
          by_cases c26 : t292 = true
          ·subst c26
           have H1 : (if t275.size + t277.size ≤ 9223372036854775807 then (some (t291.toList == (t275 ++ t277).toList)) else (none)) = some r := by rw [if_pos rfl] at H; exact H
           clear H
           have H := H1
           clear H1
           by_cases c27 : t275.size + t277.size ≤ 9223372036854775807
           ·rw [if_pos c27] at H
            have c27b0 := eq_true c27
            have c27b1 : decide (t275.size + t277.size ≤ 9223372036854775807) = true := decide_eq_true c27
            try have c27b2 : (9223372036854775807 < t275.size + t277.size) = False := eq_false (Nat.not_lt.2 c27)
            obtain rfl := Option.some.inj H
            try go_wp2_with (first | ((with_reducible refine gate_dst (N := 8) rfl ?_); (try (refine gate_guard (by rfl) ?_; dsimp only)); refine box_event ?hg (N := 8) ?hd (cs := #[.int .i64 0, .string (⟨#[]⟩ : ByteArray)]) (t := 31) ?hr ?_; (case hd => rfl); (case hg => rfl); (case hr => first | (go_simp; done) | (go_simp; rfl)); intro gb265 hg w28 hbox hb; have n0_ := qM (below_step (by repeat (first | (with_reducible first | exact HB.out | apply qJ | apply qK | apply qL) | exact HB.out)) hb); have n1_ := qM (hbox); have n2_ := qM ((by rw [hg]; exact (below_size (by repeat (first | (with_reducible first | exact HB.out | apply qJ | apply qK | apply qL) | exact HB.out))) : w.heap.size ≤ gb265)); have n3_ := qM ((by rw [hg]; exact (below_size (by repeat (first | (with_reducible first | exact HB.out | apply qJ | apply qK | apply qL) | exact HB.out))) : w.heap.size ≤ gb265)); clear HB; have HB := n0_; have BK265 := n1_; have GW265 := n2_; have GE265 := n3_; clear n0_ n1_ n2_ n3_; clear hb hbox hg; have hcz29_0 : w28.cell? ⟨gb265, 0, none⟩ = some (.int .i64 0) := (blk_cell BK265.out 0).trans rfl; have hcz29_1 : w28.cell? ⟨gb265, 1, none⟩ = some (.string (⟨#[]⟩ : ByteArray)) := (blk_cell BK265.out 1).trans rfl; have hfz29_0 := blk_frozen BK265.out 0; have hfz29_1 := blk_frozen BK265.out 1))
            have n0_ : Aside0 (((w28.setCell ⟨gb265, 0, none⟩ (.int .i64 5)).setCell ⟨gb265, 1, none⟩ (.string (⟨#[]⟩ : ByteArray))).heap[gb265]? = some (.cells #[.int .i64 5, .string (⟨#[]⟩ : ByteArray)] 31 (0, 0))) := ⟨by (with_reducible repeat (first | apply qD | apply qE | apply qF)); refine blk_put (cs := #[.int .i64 5, .string (⟨#[]⟩ : ByteArray)]) ?_ 1 _ rfl; (with_reducible repeat (first | apply qD | apply qE | apply qF)); refine blk_put (cs := #[.int .i64 0, .string (⟨#[]⟩ : ByteArray)]) ?_ 0 _ rfl; (with_reducible repeat (first | apply qD | apply qE | apply qF)); exact BK265.out⟩
            have n1_ : Aside0 (Below w.heap.size w ((w28.setCell ⟨gb265, 0, none⟩ (.int .i64 5)).setCell ⟨gb265, 1, none⟩ (.string (⟨#[]⟩ : ByteArray)))) := ⟨by repeat (first | (with_reducible first | exact HB.out | apply qJ | apply qK | apply qL | refine qR ?_ GE265.out) | exact HB.out)⟩
            (try clear BK265)
            (try clear HB)
            generalize ((w28.setCell ⟨gb265, 0, none⟩ (.int .i64 5)).setCell ⟨gb265, 1, none⟩ (.string (⟨#[]⟩ : ByteArray))) = w30 at n0_ n1_ ⊢
            have BK265 := n0_; have HB := n1_; clear n0_ n1_
            have n0_ := qM (qE BK265.out); have n1_ := qM (qL HB.out); clear BK265
            clear HB; have BK265 := n0_
            have HB := n1_; clear n0_ n1_
            refine start_ (n := 12) (S := fun w' => w'.cell? ⟨gb265, 0, none⟩ = some (.int .i64 5) ∧ w'.cell? ⟨gb265, 1, none⟩ = some (.string (⟨#[]⟩ : ByteArray))) (ds := []) #[tF,tF,tF,tF,tF,tF,tF,tF,tF,tF,tF,tF] (by kernel_rfl) rfl rfl ⟨(blk_cell BK265.out 0).trans rfl, (blk_cell BK265.out 1).trans rfl⟩ (fun hHeld => ?_); refine with_tabW copperplatelaw18_WideFirst.tab5 copperplatelaw18_WideFirst.bits5 (fun HT_ HW_ => ?_)
            generalize w30.drew = w31 at BK265 HB hHeld ⊢
            refine pure_ (i := 0) (N := some 43) (v := ?_) (a' := ?_) #[tT,tF,tF,tF,tF,tF,tF,tF,tF,tF,tF,tF] rfl rfl (any_of HT_.out (by kernel_rfl)) (fun _ _ _ h => h) (Or.inl ⟨by rfl, ?_⟩) ?_ ?_
            rotate_left; (intro w'; go_simp; with_reducible rfl); rotate_left; (simp only [Act.put, qA, qB, qC, i64_w, i32_w]; rfl)
            refine pure_ (i := 5) (N := some 48) (v := ?_) (a' := ?_) #[tT,tF,tF,tF,tF,tT,tF,tF,tF,tF,tF,tF] rfl rfl (any_of HT_.out (by kernel_rfl)) (fun _ _ _ h => h) (Or.inl ⟨by rfl, ?_⟩) ?_ ?_
            rotate_left; (intro w'; go_simp; with_reducible rfl); rotate_left; (simp only [Act.put, qA, qB, qC, i64_w, i32_w]; rfl)
            refine take_ (i := 2) (N := some 45) (v := ?_) (a' := ?_) #[tT,tF,tT,tF,tF,tT,tF,tF,tF,tF,tF,tF] rfl rfl (take_ofW HT_.out HW_.out (by kernel_rfl)) (fun _ _ _ h => h) (Or.inl ⟨by rfl, ?_⟩) hHeld ?_ ?_
            rotate_left
            ·rintro w' ⟨s0, s1⟩
             go_simp
             with_reducible rfl
            rotate_left; (simp only [Act.put, qA, qB, qC, i64_w, i32_w]; rfl)
            refine join_ (σ := Value × Value) 7 #[tT,tT,tT,tT,tF,tT,tF,tF,tF,tF,tF,tF] (fun s_ => [(44, s_.1), (46, s_.2)]) (fun s_ w' => (w'.cell? ⟨gb265, 0, none⟩ = some (.int .i64 5) ∧ w'.cell? ⟨gb265, 1, none⟩ = some (.string (⟨#[]⟩ : ByteArray))) ∧ (Kd.R k31 31 w' w.heap.size (fun k_ => some k_ ≠ (s_.2 : Value).ownBlock ∧ k_ ≠ gb265) s_.1 y266) ∧ (Kd.R k31 31 w' w.heap.size (fun k_ => some k_ ≠ (s_.1 : Value).ownBlock ∧ k_ ≠ gb265) s_.2 y269) ∧ (w'.heap[gb265]? = some (.cells #[.int .i64 5, .string (⟨#[]⟩ : ByteArray)] 31 (0, 0))) ∧ (Below w.heap.size w w')) ?_ ?_
            rotate_left
            ·intro hCont
             refine two_ (i := 1) (j := 3) (Ni := some 44) (Nj := some 46) #[tT,tT,tT,tF,tF,tT,tF,tF,tF,tF,tF,tF] #[tT,tF,tT,tT,tF,tT,tF,tF,tF,tF,tF,tF] rfl rfl rfl rfl (two_of HT_.out (by kernel_rfl)) (by decide) (by decide) (fun K hK => ?_) (fun K hK => ?_)
             ·skip
              refine Kd.R_append_rows_step k31 (w0 := w) w.heap.size rfl (.const (.slice none 0 0)) (.tmp 43) 22 31 (.agg #[(.int .i64 0), (.string ⟨#[]⟩)]) 24 rfl Try.underlying22 info31 rfl (by decide) (by omega) (.slice none 0 0) ([] : List (S31)) l0 _ _ _ (fun k_ => k_ ≠ gb265) (fun _ => False) rfl rfl ?aO ?aR (fun _ _ h => h) (fun _ h => h.elim) ?aF ?aB ?aS ?aL ?_
              (case aR => repeat (first | exact (Kd.C_below HR0.out HB.out) | (with_reducible first | apply qO | apply qP | apply qQ)))
              (case aB => exact (by repeat (first | (with_reducible first | exact HB.out | apply qJ | apply qK | apply qL | refine qR ?_ GE265.out) | exact HB.out)))
              (case aF => exact (fun k_ hk => Kd.freshB (g := gb265) (o := .cells #[.int .i64 5, .string (⟨#[]⟩ : ByteArray)] 31 (0, 0)) (by (with_reducible repeat (first | apply qD | apply qE | apply qF)); exact BK265.out) k_ hk))
              (case aO => exact ((Kd.R_nil _ _ _ _ (fun k_ => k_ ≠ gb265))))
              (case aS => exact (below_size (by repeat (first | (with_reducible first | exact HB.out | apply qJ | apply qK | apply qL | refine qR ?_ GE265.out) | exact HB.out))))
              (case aL => have := LMc17.out; omega)
              intro v267 w32 ho hb hg hat
              rw [← Ny266.out] at ho
              have n0_ := qM (blk_grown (g := gb265) (o := .cells #[.int .i64 5, .string (⟨#[]⟩ : ByteArray)] 31 (0, 0)) (by (with_reducible repeat (first | apply qD | apply qE | apply qF)); exact BK265.out) hg (by simp [Value.ownBlock])); have n1_ := qM (hb)
              have n2_ := qM (ho); clear BK265
              clear HB; have BK265 := n0_
              have HB := n1_; have HO268 := n2_
              clear n0_ n1_ n2_; clear ho hb hg hat
              refine hK.out _ _ ⟨(blk_cell BK265.out 0).trans rfl, (blk_cell BK265.out 1).trans rfl⟩ (fun hHeld => ?_)
              clear hK K
              refine norm_ (a' := ?_) ?_ ?_
              rotate_left
              ·show Act.put _ (some 44) _ = _
               simp only [Act.put, qA, qB, qC, i64_w, i32_w]
               rfl
              refine one_ (i := 3) (N := some 46) #[tT,tT,tT,tT,tF,tT,tF,tF,tF,tF,tF,tF] rfl rfl (one_of HT_.out (by kernel_rfl)) (by decide) (fun K hK => ?_)
              refine Kd.R_lit_step k31 _ 31 ?hg (N := 46) ?hd (xs := ([(⟨5, (⟨#[]⟩ : ByteArray)⟩ : S31)] : List (S31))) (inner := [.int .i64 5, .string (⟨#[]⟩ : ByteArray)]) (ok := fun _ => True) (okp := fun _ => True) ?hr ?hp (fun _ hk => hk) trivial (Below.refl _ _) (Nat.le_refl _) (by simp) ?_; (case hd => rfl); (case hg => rfl); (case hr => first | (go_simp; done) | (go_simp; rfl)); (case hp => exact (Reps.c2 (show Kd.M k31 _ _ _ (⟨5, (⟨#[]⟩ : ByteArray)⟩ : S31) [.int .i64 5, .string (⟨#[]⟩ : ByteArray)] from (k31_mkM _ _ _ (⟨5, (⟨#[]⟩ : ByteArray)⟩ : S31) )) (Reps.none _ _)))
              intro v270 w33 ho34 hb hg_ hnew_
              clear hg_ hnew_
              (first | rw [← Ny269.out] at ho34 | (simp only [Int.reduceToNat] at ho34; rw [← Ny269.out] at ho34))
              have n0_ := qM (Kd.R_elder' (by (with_reducible repeat (first | apply qG | apply qH | apply qI)); exact HO268.out) (Kd.R_base ho34) hb); have n1_ := qM (Kd.R_lower (Kd.R_newB (Kd.R_new' ho34 (Kd.R_lt (by (with_reducible repeat (first | apply qG | apply qH | apply qI)); exact HO268.out))) (g := gb265) (o := .cells #[.int .i64 5, .string (⟨#[]⟩ : ByteArray)] 31 (0, 0)) (by (with_reducible repeat (first | apply qD | apply qE | apply qF)); exact BK265.out)) (below_size (by repeat (first | (with_reducible first | exact HB.out | apply qJ | apply qK | apply qL | refine qR ?_ GE265.out) | exact HB.out))))
              have n2_ := qM (blk_below (g := gb265) (o := .cells #[.int .i64 5, .string (⟨#[]⟩ : ByteArray)] 31 (0, 0)) (by (with_reducible repeat (first | apply qD | apply qE | apply qF)); exact BK265.out) hb); have n3_ := qM (below_step (by repeat (first | (with_reducible first | exact HB.out | apply qJ | apply qK | apply qL | refine qR ?_ GE265.out) | exact HB.out)) hb); clear HO268
              clear BK265; clear HB
              have HO268 := n0_; have HO271 := n1_
              have BK265 := n2_; have HB := n3_
              clear n0_ n1_ n2_ n3_; clear hb ho34
              refine hK.out _ _ ⟨(blk_cell BK265.out 0).trans rfl, (blk_cell BK265.out 1).trans rfl⟩ (fun hHeld => ?_)
              clear hK K
              refine norm_ (a' := ?_) ?_ ?_
              rotate_left
              ·show Act.put _ (some 46) _ = _
               simp only [Act.put, qA, qB, qC, i64_w, i32_w]
               rfl
              exact norm_ (by simp only [putAll, Act.put, qA, qB, qC]) (hCont (v267, v270) _ ⟨hHeld, (by (with_reducible repeat (first | apply qG | apply qH | apply qI)); exact Kd.R_mono HO268.out (fun _ hk => ⟨hk.2, hk.1⟩)), (by (with_reducible repeat (first | apply qG | apply qH | apply qI)); exact Kd.R_mono HO271.out (fun _ hk => ⟨hk.1.2, hk.2⟩)), (by (with_reducible repeat (first | apply qD | apply qE | apply qF)); exact BK265.out), (by repeat (first | (with_reducible first | exact HB.out | apply qJ | apply qK | apply qL | refine qR ?_ GE265.out) | exact HB.out))⟩)
             ·skip
              refine Kd.R_lit_step k31 _ 31 ?hg (N := 46) ?hd (xs := ([(⟨5, (⟨#[]⟩ : ByteArray)⟩ : S31)] : List (S31))) (inner := [.int .i64 5, .string (⟨#[]⟩ : ByteArray)]) (ok := fun _ => True) (okp := fun _ => True) ?hr ?hp (fun _ hk => hk) trivial (Below.refl _ _) (Nat.le_refl _) (by simp) ?_; (case hd => rfl); (case hg => rfl); (case hr => first | (go_simp; done) | (go_simp; rfl)); (case hp => exact (Reps.c2 (show Kd.M k31 _ _ _ (⟨5, (⟨#[]⟩ : ByteArray)⟩ : S31) [.int .i64 5, .string (⟨#[]⟩ : ByteArray)] from (k31_mkM _ _ _ (⟨5, (⟨#[]⟩ : ByteArray)⟩ : S31) )) (Reps.none _ _)))
              intro v270 w32 ho33 hb hg_ hnew_
              clear hg_ hnew_
              (first | rw [← Ny269.out] at ho33 | (simp only [Int.reduceToNat] at ho33; rw [← Ny269.out] at ho33))
              have n0_ := qM (Kd.R_lower (Kd.R_newB ho33 (g := gb265) (o := .cells #[.int .i64 5, .string (⟨#[]⟩ : ByteArray)] 31 (0, 0)) (by (with_reducible repeat (first | apply qD | apply qE | apply qF)); exact BK265.out)) (below_size (by repeat (first | (with_reducible first | exact HB.out | apply qJ | apply qK | apply qL | refine qR ?_ GE265.out) | exact HB.out)))); have n1_ := qM (blk_below (g := gb265) (o := .cells #[.int .i64 5, .string (⟨#[]⟩ : ByteArray)] 31 (0, 0)) (by (with_reducible repeat (first | apply qD | apply qE | apply qF)); exact BK265.out) hb)
              have n2_ := qM (below_step (by repeat (first | (with_reducible first | exact HB.out | apply qJ | apply qK | apply qL | refine qR ?_ GE265.out) | exact HB.out)) hb); clear BK265
              clear HB; have HO271 := n0_
              have BK265 := n1_; have HB := n2_
              clear n0_ n1_ n2_; clear hb ho33
              refine hK.out _ _ ⟨(blk_cell BK265.out 0).trans rfl, (blk_cell BK265.out 1).trans rfl⟩ (fun hHeld => ?_)
              clear hK K
              refine norm_ (a' := ?_) ?_ ?_
              rotate_left
              ·show Act.put _ (some 46) _ = _
               simp only [Act.put, qA, qB, qC, i64_w, i32_w]
               rfl
              refine one_ (i := 1) (N := some 44) #[tT,tT,tT,tT,tF,tT,tF,tF,tF,tF,tF,tF] rfl rfl (one_of HT_.out (by kernel_rfl)) (by decide) (fun K hK => ?_)
              refine Kd.R_append_rows_step k31 (w0 := w) w.heap.size rfl (.const (.slice none 0 0)) (.tmp 43) 22 31 (.agg #[(.int .i64 0), (.string ⟨#[]⟩)]) 24 rfl Try.underlying22 info31 rfl (by decide) (by omega) (.slice none 0 0) ([] : List (S31)) l0 _ _ _ (fun k_ => some k_ ≠ (v270 : Value).ownBlock ∧ k_ ≠ gb265) (fun _ => False) rfl rfl ?aO ?aR (fun _ _ h => h) (fun _ h => h.elim) ?aF ?aB ?aS ?aL ?_
              (case aR => repeat (first | exact (Kd.C_below HR0.out HB.out) | (with_reducible first | apply qO | apply qP | apply qQ)))
              (case aB => exact (by repeat (first | (with_reducible first | exact HB.out | apply qJ | apply qK | apply qL | refine qR ?_ GE265.out) | exact HB.out)))
              (case aF => exact (fun k_ hk => ⟨Kd.fresh' (Kd.R_lt (by (with_reducible repeat (first | apply qG | apply qH | apply qI)); exact HO271.out)) k_ hk, Kd.freshB (g := gb265) (o := .cells #[.int .i64 5, .string (⟨#[]⟩ : ByteArray)] 31 (0, 0)) (by (with_reducible repeat (first | apply qD | apply qE | apply qF)); exact BK265.out) k_ hk⟩))
              (case aO => exact ((Kd.R_nil _ _ _ _ (fun k_ => some k_ ≠ (v270 : Value).ownBlock ∧ k_ ≠ gb265))))
              (case aS => exact (below_size (by repeat (first | (with_reducible first | exact HB.out | apply qJ | apply qK | apply qL | refine qR ?_ GE265.out) | exact HB.out))))
              (case aL => have := LMc17.out; omega)
              intro v267 w34 ho hb hg hat
              rw [← Ny266.out] at ho
              have n0_ := qM (blk_grown (g := gb265) (o := .cells #[.int .i64 5, .string (⟨#[]⟩ : ByteArray)] 31 (0, 0)) (by (with_reducible repeat (first | apply qD | apply qE | apply qF)); exact BK265.out) hg (by simp [Value.ownBlock])); have n1_ := qM (Kd.R_after (Kd.R_apart_nil (by (with_reducible repeat (first | apply qG | apply qH | apply qI)); exact HO271.out)) hg hat)
              have n2_ := qM (hb); have n3_ := qM (ho); clear BK265
              clear HO271; clear HB
              have BK265 := n0_; have HO271 := n1_
              have HB := n2_; have HO268 := n3_
              clear n0_ n1_ n2_ n3_; clear ho hb hg hat
              refine hK.out _ _ ⟨(blk_cell BK265.out 0).trans rfl, (blk_cell BK265.out 1).trans rfl⟩ (fun hHeld => ?_)
              clear hK K
              refine norm_ (a' := ?_) ?_ ?_
              rotate_left
              ·show Act.put _ (some 44) _ = _
               simp only [Act.put, qA, qB, qC, i64_w, i32_w]
               rfl
              exact norm_ (by simp only [putAll, Act.put, qA, qB, qC]) (hCont (v267, v270) _ ⟨hHeld, (by (with_reducible repeat (first | apply qG | apply qH | apply qI)); exact HO268.out), (by (with_reducible repeat (first | apply qG | apply qH | apply qI)); exact Kd.R_mono HO271.out (fun _ hk => ⟨hk.2, hk.1.2⟩)), (by (with_reducible repeat (first | apply qD | apply qE | apply qF)); exact BK265.out), (by repeat (first | (with_reducible first | exact HB.out | apply qJ | apply qK | apply qL | refine qR ?_ GE265.out) | exact HB.out))⟩)
            rintro ⟨v267, v270⟩ w35 ⟨hS_, h0_, h1_, h2_, h3_⟩
            have n0_ : Aside0 (Kd.R k31 31 w35 w.heap.size (fun k_ => some k_ ≠ (v270 : Value).ownBlock ∧ k_ ≠ gb265) v267 y266) := ⟨h0_⟩
            have n1_ : Aside0 (Kd.R k31 31 w35 w.heap.size (fun k_ => some k_ ≠ (v267 : Value).ownBlock ∧ k_ ≠ gb265) v270 y269) := ⟨h1_⟩
            have n2_ : Aside0 (w35.heap[gb265]? = some (.cells #[.int .i64 5, .string (⟨#[]⟩ : ByteArray)] 31 (0, 0))) := ⟨h2_⟩
            have n3_ : Aside0 (Below w.heap.size w w35) := ⟨h3_⟩
            clear BK265; clear HB
            clear h0_ h1_ h2_ h3_; have HO268 := n0_
            have HO271 := n1_; have BK265 := n2_
            have HB := n3_; clear n0_ n1_ n2_ n3_
            have hHeld : w35.cell? ⟨gb265, 0, none⟩ = some (.int .i64 5) ∧ w35.cell? ⟨gb265, 1, none⟩ = some (.string (⟨#[]⟩ : ByteArray)) := hS_
            obtain ⟨Ao37, co37, eo37⟩ := Kd.R_slice HO271.out
            (first | subst eo37 | (injection eo37 with f1_ f2_ f3_; have f4_ := f1_.symm; have f5_ := f3_.symm; clear f1_ f2_ f3_; subst f4_; subst f5_))
            refine norm_ (a' := ?_) ?_ ?_
            rotate_left; (simp only [putAll, Act.put, qA, qB, qC]; rfl)
            refine one_ (i := 4) (N := some 47) #[tT,tT,tT,tT,tT,tT,tF,tF,tF,tF,tF,tF] rfl rfl (one_of HT_.out (by kernel_rfl)) (by decide) (fun K hK => ?_)
            refine Kd.R_append_rows_step k31 (w0 := w) w.heap.size (by rfl) (.tmp 44) (.tmp 46) 22 31 (.agg #[(.int .i64 0), (.string ⟨#[]⟩)]) 24 rfl Try.underlying22 info31 rfl (by decide) (by omega) v267 y266 y269 _ _ _ (fun k_ => some k_ ≠ (.slice Ao37 y269.length co37 : Value).ownBlock ∧ k_ ≠ gb265) (fun _ => False) rfl rfl ?aO ?aR (fun _ _ h => h) (fun _ h => h.elim) ?aF ?aB ?aS ?aL ?_
            (case aR => repeat (first | exact (Kd.R_reads' HO271.out).2.2 | (with_reducible first | apply qO | apply qP | apply qQ)))
            (case aB => exact (by repeat (first | (with_reducible first | exact HB.out | apply qJ | apply qK | apply qL | refine qR ?_ GE265.out) | exact HB.out)))
            (case aF => exact (fun k_ hk => ⟨Kd.fresh' (Kd.R_lt (by (with_reducible repeat (first | apply qG | apply qH | apply qI)); exact HO271.out)) k_ hk, Kd.freshB (g := gb265) (o := .cells #[.int .i64 5, .string (⟨#[]⟩ : ByteArray)] 31 (0, 0)) (by (with_reducible repeat (first | apply qD | apply qE | apply qF)); exact BK265.out) k_ hk⟩))
            (case aO => exact (by (with_reducible repeat (first | apply qG | apply qH | apply qI)); exact HO268.out))
            (case aS => exact (below_size (by repeat (first | (with_reducible first | exact HB.out | apply qJ | apply qK | apply qL | refine qR ?_ GE265.out) | exact HB.out))))
            (case aL => have := LMc18.out; omega)
            intro v273 w36 ho hb hg hat
            rw [← Ny272.out] at ho
            have n0_ := qM (blk_grown (g := gb265) (o := .cells #[.int .i64 5, .string (⟨#[]⟩ : ByteArray)] 31 (0, 0)) (by (with_reducible repeat (first | apply qD | apply qE | apply qF)); exact BK265.out) hg (Kd.R_away HO268.out (fun _ hk => hk.2))); have n1_ := qM (Kd.R_after (ok := (fun k_ => k_ ≠ gb265)) (by (with_reducible repeat (first | apply qG | apply qH | apply qI)); exact Kd.R_mono HO271.out (fun _ hk => ⟨hk.2, hk.1⟩)) hg hat)
            have n2_ := qM (hb); have n3_ := qM (ho); clear BK265
            clear HO271; clear HB
            clear HO268; have BK265 := n0_
            have HO271 := n1_; have HB := n2_
            have HO274 := n3_; clear n0_ n1_ n2_ n3_; clear ho hb hg hat
            obtain ⟨Ao38, co38, eo38⟩ := Kd.R_slice HO274.out
            (first | subst eo38 | (injection eo38 with f1_ f2_ f3_; have f4_ := f1_.symm; have f5_ := f3_.symm; clear f1_ f2_ f3_; subst f4_; subst f5_))
            refine hK.out _ _ ⟨(blk_cell BK265.out 0).trans rfl, (blk_cell BK265.out 1).trans rfl⟩ (fun hHeld => ?_)
            clear hK K
            refine norm_ (a' := ?_) ?_ ?_
            rotate_left
            ·show Act.put _ (some 47) _ = _
             simp only [Act.put, qA, qB, qC, i64_w, i32_w]
             rfl
            refine one_ (i := 6) (N := some 49) #[tT,tT,tT,tT,tT,tT,tT,tF,tF,tF,tF,tF] rfl rfl (one_of HT_.out (by kernel_rfl)) (by decide) (fun K hK => ?_)
            refine goes_ Try.func11 (by kernel_rfl) rfl #[.slice Ao38 y272.length co38, .int .i64 a2] (by rfl) rfl rfl (by (try simp only [List.map_toArray, List.map_cons, List.map_nil]); first | done | rfl | (simp only [List.length_drop, List.length_take]; rfl)) ?_
            with_reducible refine (wide_Lay.calls _ _ y272 a2 t275 true _ ?side1 ?side2 A19.out).mono ?_
            (case side1 => repeat (first | exact (Kd.R_reads' HO274.out).2.2 | (with_reducible first | apply qO | apply qP | apply qQ)))
            (case side2 => exact (Kd.R_reads' HO274.out).2.1)
            rintro e w39 ⟨rfl, hb⟩
            refine ⟨_, rfl, ?_⟩
            have n0_ := qM (Kd.R_below (by (with_reducible repeat (first | apply qG | apply qH | apply qI)); exact HO271.out) hb); have n1_ := qM (Kd.R_below (by (with_reducible repeat (first | apply qG | apply qH | apply qI)); exact HO274.out) hb)
            have n2_ := qM (blk_below (g := gb265) (o := .cells #[.int .i64 5, .string (⟨#[]⟩ : ByteArray)] 31 (0, 0)) (by (with_reducible repeat (first | apply qD | apply qE | apply qF)); exact BK265.out) hb); have n3_ := qM (below_step (by repeat (first | (with_reducible first | exact HB.out | apply qJ | apply qK | apply qL | refine qR ?_ GE265.out) | exact HB.out)) hb); clear HO271
            clear HO274; clear BK265
            clear HB; have HO271 := n0_
            have HO274 := n1_; have BK265 := n2_
            have HB := n3_; clear n0_ n1_ n2_ n3_
            (try clear hb)
            (try clear hb2)
            (try clear hk)
            (try clear hi)
            refine hK.out _ _ ⟨(blk_cell BK265.out 0).trans rfl, (blk_cell BK265.out 1).trans rfl⟩ (fun hHeld => ?_)
            clear hK K
            refine norm_ (a' := ?_) ?_ ?_
            rotate_left
            ·show Act.put _ (some 49) _ = _
             simp only [Act.put, qA, qB, qC, i64_w, i32_w]
             rfl
            refine pure_ (i := 7) (N := some 42) (v := ?_) (a' := ?_) #[tT,tT,tT,tT,tT,tT,tT,tT,tF,tF,tF,tF] rfl rfl (any_of HT_.out (by kernel_rfl)) (fun _ _ _ h => h) (Or.inl ⟨by rfl, ?_⟩) ?_ ?_
            rotate_left; (intro w'; go_simp; with_reducible rfl); rotate_left; (simp only [Act.put, qA, qB, qC, i64_w, i32_w]; rfl)
            refine pure_ (i := 8) (N := some 50) (v := ?_) (a' := ?_) #[tT,tT,tT,tT,tT,tT,tT,tT,tT,tF,tF,tF] rfl rfl (any_of HT_.out (by kernel_rfl)) (fun _ _ _ h => h) (Or.inl ⟨by rfl, ?_⟩) ?_ ?_
            rotate_left; (intro w'; go_simp; with_reducible rfl); rotate_left; (simp only [Act.put, qA, qB, qC, i64_w, i32_w]; rfl)
            refine pure_ (i := 9) (N := some 51) (v := ?_) (a' := ?_) #[tT,tT,tT,tT,tT,tT,tT,tT,tT,tT,tF,tF] rfl rfl (any_of HT_.out (by kernel_rfl)) (fun _ _ _ h => h) (Or.inl ⟨by rfl, ?_⟩) ?_ ?_
            rotate_left; (intro w'; go_simp; with_reducible rfl); rotate_left; (simp only [Act.put, qA, qB, qC, i64_w, i32_w]; rfl)
            refine pure_ (i := 10) (N := some 9) (v := ?_) (a' := ?_) #[tT,tT,tT,tT,tT,tT,tT,tT,tT,tT,tT,tF] rfl rfl (any_of HT_.out (by kernel_rfl)) (fun _ _ _ h => h) (Or.inl ⟨by rfl, ?_⟩) ?_ ?_
            rotate_left; (intro w'; go_simp; with_reducible rfl); rotate_left; (simp only [Act.put, qA, qB, qC, i64_w, i32_w]; rfl)
            refine pure_ (i := 11) (N := some 10) (v := ?_) (a' := ?_) #[tT,tT,tT,tT,tT,tT,tT,tT,tT,tT,tT,tT] rfl rfl (any_of HT_.out (by kernel_rfl)) (fun _ _ _ h => h) (Or.inl ⟨by rfl, ?_⟩) ?_ ?_
            rotate_left; (intro w'; go_simp; with_reducible rfl); rotate_left; (simp only [Act.put, qA, qB, qC, i64_w, i32_w]; rfl)
            refine done_ (done_of HT_.out (by kernel_rfl)) ?_
            try go_wp2_with (first | ((with_reducible refine gate_callee (f := 11) rfl ?_); refine goesL_ (some 55) rfl rfl Try.func11 (by kernel_rfl) rfl #[.slice A1 l1.length c1, .int .i64 a2] rfl (by (try simp only [List.map_toArray, List.map_cons, List.map_nil]); first | done | rfl | (simp only [List.length_drop, List.length_take]; rfl)) ?_; (with_reducible refine (wide_Lay.calls _ _ l1 a2 t277 true _ ?side1 ?side2 A20.out).mono ?_); (case side1 => repeat (first | exact (Kd.C_below HR1.out HB.out) | (with_reducible first | apply qO | apply qP | apply qQ))); (case side2 => exact HC1.out); (try clear A20); rintro e w40 ⟨rfl, hb⟩; refine ⟨_, rfl, ?_⟩; have n0_ := qM (Kd.R_below (by (with_reducible repeat (first | apply qG | apply qH | apply qI)); exact HO271.out) hb); have n1_ := qM (Kd.R_below (by (with_reducible repeat (first | apply qG | apply qH | apply qI)); exact HO274.out) hb); have n2_ := qM (blk_below (g := gb265) (o := .cells #[.int .i64 5, .string (⟨#[]⟩ : ByteArray)] 31 (0, 0)) (by (with_reducible repeat (first | apply qD | apply qE | apply qF)); exact BK265.out) hb); have n3_ := qM (below_step (by repeat (first | (with_reducible first | exact HB.out | apply qJ | apply qK | apply qL | refine qR ?_ GE265.out) | exact HB.out)) hb); clear HO271; clear HO274; clear BK265; clear HB; have HO271 := n0_; have HO274 := n1_; have BK265 := n2_; have HB := n3_; clear n0_ n1_ n2_ n3_; (try clear hb); (try clear hb2); (try clear hk); (try clear hi)))
            have n0_ := qM (qI HO271.out); have n1_ := qM (qI HO274.out)
            have n2_ := qM (qE BK265.out); have n3_ := qM (qL HB.out); clear HO271
            clear HO274; clear BK265
            clear HB; have HO271 := n0_
            have HO274 := n1_; have BK265 := n2_
            have HB := n3_; clear n0_ n1_ n2_ n3_
            refine start_ (n := 14) (S := fun w' => w'.cell? ⟨gb265, 0, none⟩ = some (.int .i64 5) ∧ w'.cell? ⟨gb265, 1, none⟩ = some (.string (⟨#[]⟩ : ByteArray))) (ds := []) #[tF,tF,tF,tF,tF,tF,tF,tF,tF,tF,tF,tF,tF,tF] (by kernel_rfl) rfl rfl ⟨(blk_cell BK265.out 0).trans rfl, (blk_cell BK265.out 1).trans rfl⟩ (fun hHeld => ?_); refine with_tabW copperplatelaw18_WideFirst.tab7 copperplatelaw18_WideFirst.bits7 (fun HT_ HW_ => ?_)
            generalize w40.drew = w41 at HO271 HO274 BK265 HB hHeld ⊢
            refine pure_ (i := 0) (N := some 59) (v := ?_) (a' := ?_) #[tT,tF,tF,tF,tF,tF,tF,tF,tF,tF,tF,tF,tF,tF] rfl rfl (any_of HT_.out (by kernel_rfl)) (fun _ _ _ h => h) (Or.inl ⟨by rfl, ?_⟩) ?_ ?_
            rotate_left; (intro w'; go_simp; with_reducible rfl); rotate_left; (simp only [Act.put, qA, qB, qC, i64_w, i32_w]; rfl)
            refine pure_ (i := 5) (N := some 64) (v := ?_) (a' := ?_) #[tT,tF,tF,tF,tF,tT,tF,tF,tF,tF,tF,tF,tF,tF] rfl rfl (any_of HT_.out (by kernel_rfl)) (fun _ _ _ h => h) (Or.inl ⟨by rfl, ?_⟩) ?_ ?_
            rotate_left; (intro w'; go_simp; with_reducible rfl); rotate_left; (simp only [Act.put, qA, qB, qC, i64_w, i32_w]; rfl)
            refine pure_ (i := 7) (N := some 66) (v := ?_) (a' := ?_) #[tT,tF,tF,tF,tF,tT,tF,tT,tF,tF,tF,tF,tF,tF] rfl rfl (any_of HT_.out (by kernel_rfl)) (fun _ _ _ h => h) (Or.inl ⟨by rfl, ?_⟩) ?_ ?_
            rotate_left; (intro w'; go_simp; with_reducible rfl); rotate_left; (simp only [Act.put, qA, qB, qC, i64_w, i32_w]; rfl)
            refine take_ (i := 2) (N := some 61) (v := ?_) (a' := ?_) #[tT,tF,tT,tF,tF,tT,tF,tT,tF,tF,tF,tF,tF,tF] rfl rfl (take_ofW HT_.out HW_.out (by kernel_rfl)) (fun _ _ _ h => h) (Or.inl ⟨by rfl, ?_⟩) hHeld ?_ ?_
            rotate_left
            ·rintro w' ⟨s0, s1⟩
             go_simp
             with_reducible rfl
            rotate_left; (simp only [Act.put, qA, qB, qC, i64_w, i32_w]; rfl)
            refine join_ (σ := Value × Value) 8 #[tT,tT,tT,tT,tF,tT,tF,tT,tF,tF,tF,tF,tF,tF] (fun s_ => [(60, s_.1), (62, s_.2)]) (fun s_ w' => (w'.cell? ⟨gb265, 0, none⟩ = some (.int .i64 5) ∧ w'.cell? ⟨gb265, 1, none⟩ = some (.string (⟨#[]⟩ : ByteArray))) ∧ (Kd.R k31 31 w' w.heap.size (fun k_ => some k_ ≠ (.slice Ao38 y272.length co38 : Value).ownBlock ∧ some k_ ≠ (s_.1 : Value).ownBlock ∧ some k_ ≠ (s_.2 : Value).ownBlock ∧ k_ ≠ gb265) (.slice Ao37 y269.length co37) y269) ∧ (Kd.R k31 31 w' w.heap.size (fun k_ => some k_ ≠ (.slice Ao37 y269.length co37 : Value).ownBlock ∧ some k_ ≠ (s_.1 : Value).ownBlock ∧ some k_ ≠ (s_.2 : Value).ownBlock ∧ k_ ≠ gb265) (.slice Ao38 y272.length co38) y272) ∧ (Kd.R k31 31 w' w.heap.size (fun k_ => some k_ ≠ (.slice Ao37 y269.length co37 : Value).ownBlock ∧ some k_ ≠ (.slice Ao38 y272.length co38 : Value).ownBlock ∧ some k_ ≠ (s_.2 : Value).ownBlock ∧ k_ ≠ gb265) s_.1 y279) ∧ (Kd.R k31 31 w' w.heap.size (fun k_ => some k_ ≠ (.slice Ao37 y269.length co37 : Value).ownBlock ∧ some k_ ≠ (.slice Ao38 y272.length co38 : Value).ownBlock ∧ some k_ ≠ (s_.1 : Value).ownBlock ∧ k_ ≠ gb265) s_.2 y282) ∧ (w'.heap[gb265]? = some (.cells #[.int .i64 5, .string (⟨#[]⟩ : ByteArray)] 31 (0, 0))) ∧ (Below w.heap.size w w')) ?_ ?_
            rotate_left
            ·intro hCont
             refine two_ (i := 1) (j := 3) (Ni := some 60) (Nj := some 62) #[tT,tT,tT,tF,tF,tT,tF,tT,tF,tF,tF,tF,tF,tF] #[tT,tF,tT,tT,tF,tT,tF,tT,tF,tF,tF,tF,tF,tF] rfl rfl rfl rfl (two_of HT_.out (by kernel_rfl)) (by decide) (by decide) (fun K hK => ?_) (fun K hK => ?_)
             ·skip
              refine Kd.R_append_rows_step k31 (w0 := w) w.heap.size rfl (.const (.slice none 0 0)) (.tmp 59) 22 31 (.agg #[(.int .i64 0), (.string ⟨#[]⟩)]) 24 rfl Try.underlying22 info31 rfl (by decide) (by omega) (.slice none 0 0) ([] : List (S31)) l0 _ _ _ (fun k_ => some k_ ≠ (.slice Ao37 y269.length co37 : Value).ownBlock ∧ some k_ ≠ (.slice Ao38 y272.length co38 : Value).ownBlock ∧ k_ ≠ gb265) (fun _ => False) rfl rfl ?aO ?aR (fun _ _ h => h) (fun _ h => h.elim) ?aF ?aB ?aS ?aL ?_
              (case aR => repeat (first | exact (Kd.C_below HR0.out HB.out) | (with_reducible first | apply qO | apply qP | apply qQ)))
              (case aB => exact (by repeat (first | (with_reducible first | exact HB.out | apply qJ | apply qK | apply qL | refine qR ?_ GE265.out) | exact HB.out)))
              (case aF => exact (fun k_ hk => ⟨Kd.fresh' (Kd.R_lt (by (with_reducible repeat (first | apply qG | apply qH | apply qI)); exact HO271.out)) k_ hk, Kd.fresh' (Kd.R_lt (by (with_reducible repeat (first | apply qG | apply qH | apply qI)); exact HO274.out)) k_ hk, Kd.freshB (g := gb265) (o := .cells #[.int .i64 5, .string (⟨#[]⟩ : ByteArray)] 31 (0, 0)) (by (with_reducible repeat (first | apply qD | apply qE | apply qF)); exact BK265.out) k_ hk⟩))
              (case aO => exact ((Kd.R_nil _ _ _ _ (fun k_ => some k_ ≠ (.slice Ao37 y269.length co37 : Value).ownBlock ∧ some k_ ≠ (.slice Ao38 y272.length co38 : Value).ownBlock ∧ k_ ≠ gb265))))
              (case aS => exact (below_size (by repeat (first | (with_reducible first | exact HB.out | apply qJ | apply qK | apply qL | refine qR ?_ GE265.out) | exact HB.out))))
              (case aL => have := LMc17.out; omega)
              intro v280 w42 ho hb hg hat
              rw [← Ny279.out] at ho
              have n0_ := qM (blk_grown (g := gb265) (o := .cells #[.int .i64 5, .string (⟨#[]⟩ : ByteArray)] 31 (0, 0)) (by (with_reducible repeat (first | apply qD | apply qE | apply qF)); exact BK265.out) hg (by simp [Value.ownBlock])); have n1_ := qM (Kd.R_after (Kd.R_apart_nil (by (with_reducible repeat (first | apply qG | apply qH | apply qI)); exact HO271.out)) hg hat)
              have n2_ := qM (Kd.R_after (Kd.R_apart_nil (by (with_reducible repeat (first | apply qG | apply qH | apply qI)); exact HO274.out)) hg hat); have n3_ := qM (hb)
              have n4_ := qM (ho); clear BK265
              clear HO271; clear HO274
              clear HB; have BK265 := n0_
              have HO271 := n1_; have HO274 := n2_
              have HB := n3_; have HO281 := n4_
              clear n0_ n1_ n2_ n3_ n4_; clear ho hb hg hat
              refine hK.out _ _ ⟨(blk_cell BK265.out 0).trans rfl, (blk_cell BK265.out 1).trans rfl⟩ (fun hHeld => ?_)
              clear hK K
              refine norm_ (a' := ?_) ?_ ?_
              rotate_left
              ·show Act.put _ (some 60) _ = _
               simp only [Act.put, qA, qB, qC, i64_w, i32_w]
               rfl
              refine one_ (i := 3) (N := some 62) #[tT,tT,tT,tT,tF,tT,tF,tT,tF,tF,tF,tF,tF,tF] rfl rfl (one_of HT_.out (by kernel_rfl)) (by decide) (fun K hK => ?_)
              refine Kd.R_lit_step k31 _ 31 ?hg (N := 62) ?hd (xs := ([(⟨5, (⟨#[]⟩ : ByteArray)⟩ : S31)] : List (S31))) (inner := [.int .i64 5, .string (⟨#[]⟩ : ByteArray)]) (ok := fun _ => True) (okp := fun _ => True) ?hr ?hp (fun _ hk => hk) trivial (Below.refl _ _) (Nat.le_refl _) (by simp) ?_; (case hd => rfl); (case hg => rfl); (case hr => first | (go_simp; done) | (go_simp; rfl)); (case hp => exact (Reps.c2 (show Kd.M k31 _ _ _ (⟨5, (⟨#[]⟩ : ByteArray)⟩ : S31) [.int .i64 5, .string (⟨#[]⟩ : ByteArray)] from (k31_mkM _ _ _ (⟨5, (⟨#[]⟩ : ByteArray)⟩ : S31) )) (Reps.none _ _)))
              intro v283 w43 ho44 hb hg_ hnew_
              clear hg_ hnew_
              (first | rw [← Ny282.out] at ho44 | (simp only [Int.reduceToNat] at ho44; rw [← Ny282.out] at ho44))
              have n0_ := qM (Kd.R_elder' (by (with_reducible repeat (first | apply qG | apply qH | apply qI)); exact HO271.out) (Kd.R_base ho44) hb); have n1_ := qM (Kd.R_elder' (by (with_reducible repeat (first | apply qG | apply qH | apply qI)); exact HO274.out) (Kd.R_base ho44) hb)
              have n2_ := qM (Kd.R_elder' (by (with_reducible repeat (first | apply qG | apply qH | apply qI)); exact HO281.out) (Kd.R_base ho44) hb); have n3_ := qM (Kd.R_lower (Kd.R_newB (Kd.R_new' (Kd.R_new' (Kd.R_new' ho44 (Kd.R_lt (by (with_reducible repeat (first | apply qG | apply qH | apply qI)); exact HO271.out))) (Kd.R_lt (by (with_reducible repeat (first | apply qG | apply qH | apply qI)); exact HO274.out))) (Kd.R_lt (by (with_reducible repeat (first | apply qG | apply qH | apply qI)); exact HO281.out))) (g := gb265) (o := .cells #[.int .i64 5, .string (⟨#[]⟩ : ByteArray)] 31 (0, 0)) (by (with_reducible repeat (first | apply qD | apply qE | apply qF)); exact BK265.out)) (below_size (by repeat (first | (with_reducible first | exact HB.out | apply qJ | apply qK | apply qL | refine qR ?_ GE265.out) | exact HB.out))))
              have n4_ := qM (blk_below (g := gb265) (o := .cells #[.int .i64 5, .string (⟨#[]⟩ : ByteArray)] 31 (0, 0)) (by (with_reducible repeat (first | apply qD | apply qE | apply qF)); exact BK265.out) hb); have n5_ := qM (below_step (by repeat (first | (with_reducible first | exact HB.out | apply qJ | apply qK | apply qL | refine qR ?_ GE265.out) | exact HB.out)) hb); clear HO271
              clear HO274; clear HO281
              clear BK265; clear HB
              have HO271 := n0_; have HO274 := n1_
              have HO281 := n2_; have HO284 := n3_
              have BK265 := n4_; have HB := n5_
              clear n0_ n1_ n2_ n3_ n4_ n5_; clear hb ho44
              refine hK.out _ _ ⟨(blk_cell BK265.out 0).trans rfl, (blk_cell BK265.out 1).trans rfl⟩ (fun hHeld => ?_)
              clear hK K
              refine norm_ (a' := ?_) ?_ ?_
              rotate_left
              ·show Act.put _ (some 62) _ = _
               simp only [Act.put, qA, qB, qC, i64_w, i32_w]
               rfl
              exact norm_ (by simp only [putAll, Act.put, qA, qB, qC]) (hCont (v280, v283) _ ⟨hHeld, (by (with_reducible repeat (first | apply qG | apply qH | apply qI)); exact Kd.R_mono HO271.out (fun _ hk => ⟨hk.1.1.2, ⟨hk.1.2, ⟨hk.2, hk.1.1.1⟩⟩⟩)), (by (with_reducible repeat (first | apply qG | apply qH | apply qI)); exact Kd.R_mono HO274.out (fun _ hk => ⟨hk.1.1.1, ⟨hk.1.2, ⟨hk.2, hk.1.1.2⟩⟩⟩)), (by (with_reducible repeat (first | apply qG | apply qH | apply qI)); exact Kd.R_mono HO281.out (fun _ hk => ⟨hk.1.1, ⟨hk.1.2.1, ⟨hk.2, hk.1.2.2⟩⟩⟩)), (by (with_reducible repeat (first | apply qG | apply qH | apply qI)); exact Kd.R_mono HO284.out (fun _ hk => ⟨hk.1.1.1.2, ⟨hk.1.1.2, ⟨hk.1.2, hk.2⟩⟩⟩)), (by (with_reducible repeat (first | apply qD | apply qE | apply qF)); exact BK265.out), (by repeat (first | (with_reducible first | exact HB.out | apply qJ | apply qK | apply qL | refine qR ?_ GE265.out) | exact HB.out))⟩)
             ·skip
              refine Kd.R_lit_step k31 _ 31 ?hg (N := 62) ?hd (xs := ([(⟨5, (⟨#[]⟩ : ByteArray)⟩ : S31)] : List (S31))) (inner := [.int .i64 5, .string (⟨#[]⟩ : ByteArray)]) (ok := fun _ => True) (okp := fun _ => True) ?hr ?hp (fun _ hk => hk) trivial (Below.refl _ _) (Nat.le_refl _) (by simp) ?_; (case hd => rfl); (case hg => rfl); (case hr => first | (go_simp; done) | (go_simp; rfl)); (case hp => exact (Reps.c2 (show Kd.M k31 _ _ _ (⟨5, (⟨#[]⟩ : ByteArray)⟩ : S31) [.int .i64 5, .string (⟨#[]⟩ : ByteArray)] from (k31_mkM _ _ _ (⟨5, (⟨#[]⟩ : ByteArray)⟩ : S31) )) (Reps.none _ _)))
              intro v283 w42 ho43 hb hg_ hnew_
              clear hg_ hnew_
              (first | rw [← Ny282.out] at ho43 | (simp only [Int.reduceToNat] at ho43; rw [← Ny282.out] at ho43))
              have n0_ := qM (Kd.R_elder' (by (with_reducible repeat (first | apply qG | apply qH | apply qI)); exact HO271.out) (Kd.R_base ho43) hb); have n1_ := qM (Kd.R_elder' (by (with_reducible repeat (first | apply qG | apply qH | apply qI)); exact HO274.out) (Kd.R_base ho43) hb)
              have n2_ := qM (Kd.R_lower (Kd.R_newB (Kd.R_new' (Kd.R_new' ho43 (Kd.R_lt (by (with_reducible repeat (first | apply qG | apply qH | apply qI)); exact HO271.out))) (Kd.R_lt (by (with_reducible repeat (first | apply qG | apply qH | apply qI)); exact HO274.out))) (g := gb265) (o := .cells #[.int .i64 5, .string (⟨#[]⟩ : ByteArray)] 31 (0, 0)) (by (with_reducible repeat (first | apply qD | apply qE | apply qF)); exact BK265.out)) (below_size (by repeat (first | (with_reducible first | exact HB.out | apply qJ | apply qK | apply qL | refine qR ?_ GE265.out) | exact HB.out)))); have n3_ := qM (blk_below (g := gb265) (o := .cells #[.int .i64 5, .string (⟨#[]⟩ : ByteArray)] 31 (0, 0)) (by (with_reducible repeat (first | apply qD | apply qE | apply qF)); exact BK265.out) hb)
              have n4_ := qM (below_step (by repeat (first | (with_reducible first | exact HB.out | apply qJ | apply qK | apply qL | refine qR ?_ GE265.out) | exact HB.out)) hb); clear HO271
              clear HO274; clear BK265
              clear HB; have HO271 := n0_
              have HO274 := n1_; have HO284 := n2_
              have BK265 := n3_; have HB := n4_
              clear n0_ n1_ n2_ n3_ n4_; clear hb ho43
              refine hK.out _ _ ⟨(blk_cell BK265.out 0).trans rfl, (blk_cell BK265.out 1).trans rfl⟩ (fun hHeld => ?_)
              clear hK K
              refine norm_ (a' := ?_) ?_ ?_
              rotate_left
              ·show Act.put _ (some 62) _ = _
               simp only [Act.put, qA, qB, qC, i64_w, i32_w]
               rfl
              refine one_ (i := 1) (N := some 60) #[tT,tT,tT,tT,tF,tT,tF,tT,tF,tF,tF,tF,tF,tF] rfl rfl (one_of HT_.out (by kernel_rfl)) (by decide) (fun K hK => ?_)
              refine Kd.R_append_rows_step k31 (w0 := w) w.heap.size rfl (.const (.slice none 0 0)) (.tmp 59) 22 31 (.agg #[(.int .i64 0), (.string ⟨#[]⟩)]) 24 rfl Try.underlying22 info31 rfl (by decide) (by omega) (.slice none 0 0) ([] : List (S31)) l0 _ _ _ (fun k_ => some k_ ≠ (.slice Ao37 y269.length co37 : Value).ownBlock ∧ some k_ ≠ (.slice Ao38 y272.length co38 : Value).ownBlock ∧ some k_ ≠ (v283 : Value).ownBlock ∧ k_ ≠ gb265) (fun _ => False) rfl rfl ?aO ?aR (fun _ _ h => h) (fun _ h => h.elim) ?aF ?aB ?aS ?aL ?_
              (case aR => repeat (first | exact (Kd.C_below HR0.out HB.out) | (with_reducible first | apply qO | apply qP | apply qQ)))
              (case aB => exact (by repeat (first | (with_reducible first | exact HB.out | apply qJ | apply qK | apply qL | refine qR ?_ GE265.out) | exact HB.out)))
              (case aF => exact (fun k_ hk => ⟨Kd.fresh' (Kd.R_lt (by (with_reducible repeat (first | apply qG | apply qH | apply qI)); exact HO271.out)) k_ hk, Kd.fresh' (Kd.R_lt (by (with_reducible repeat (first | apply qG | apply qH | apply qI)); exact HO274.out)) k_ hk, Kd.fresh' (Kd.R_lt (by (with_reducible repeat (first | apply qG | apply qH | apply qI)); exact HO284.out)) k_ hk, Kd.freshB (g := gb265) (o := .cells #[.int .i64 5, .string (⟨#[]⟩ : ByteArray)] 31 (0, 0)) (by (with_reducible repeat (first | apply qD | apply qE | apply qF)); exact BK265.out) k_ hk⟩))
              (case aO => exact ((Kd.R_nil _ _ _ _ (fun k_ => some k_ ≠ (.slice Ao37 y269.length co37 : Value).ownBlock ∧ some k_ ≠ (.slice Ao38 y272.length co38 : Value).ownBlock ∧ some k_ ≠ (v283 : Value).ownBlock ∧ k_ ≠ gb265))))
              (case aS => exact (below_size (by repeat (first | (with_reducible first | exact HB.out | apply qJ | apply qK | apply qL | refine qR ?_ GE265.out) | exact HB.out))))
              (case aL => have := LMc17.out; omega)
              intro v280 w44 ho hb hg hat
              rw [← Ny279.out] at ho
              have n0_ := qM (blk_grown (g := gb265) (o := .cells #[.int .i64 5, .string (⟨#[]⟩ : ByteArray)] 31 (0, 0)) (by (with_reducible repeat (first | apply qD | apply qE | apply qF)); exact BK265.out) hg (by simp [Value.ownBlock])); have n1_ := qM (Kd.R_after (Kd.R_apart_nil (by (with_reducible repeat (first | apply qG | apply qH | apply qI)); exact HO271.out)) hg hat)
              have n2_ := qM (Kd.R_after (Kd.R_apart_nil (by (with_reducible repeat (first | apply qG | apply qH | apply qI)); exact HO274.out)) hg hat); have n3_ := qM (Kd.R_after (Kd.R_apart_nil (by (with_reducible repeat (first | apply qG | apply qH | apply qI)); exact HO284.out)) hg hat)
              have n4_ := qM (hb); have n5_ := qM (ho); clear BK265
              clear HO271; clear HO274
              clear HO284; clear HB
              have BK265 := n0_; have HO271 := n1_
              have HO274 := n2_; have HO284 := n3_
              have HB := n4_; have HO281 := n5_
              clear n0_ n1_ n2_ n3_ n4_ n5_; clear ho hb hg hat
              refine hK.out _ _ ⟨(blk_cell BK265.out 0).trans rfl, (blk_cell BK265.out 1).trans rfl⟩ (fun hHeld => ?_)
              clear hK K
              refine norm_ (a' := ?_) ?_ ?_
              rotate_left
              ·show Act.put _ (some 60) _ = _
               simp only [Act.put, qA, qB, qC, i64_w, i32_w]
               rfl
              exact norm_ (by simp only [putAll, Act.put, qA, qB, qC]) (hCont (v280, v283) _ ⟨hHeld, (by (with_reducible repeat (first | apply qG | apply qH | apply qI)); exact Kd.R_mono HO271.out (fun _ hk => ⟨hk.1.1.2, ⟨hk.2, ⟨hk.1.2, hk.1.1.1⟩⟩⟩)), (by (with_reducible repeat (first | apply qG | apply qH | apply qI)); exact Kd.R_mono HO274.out (fun _ hk => ⟨hk.1.1.1, ⟨hk.2, ⟨hk.1.2, hk.1.1.2⟩⟩⟩)), (by (with_reducible repeat (first | apply qG | apply qH | apply qI)); exact HO281.out), (by (with_reducible repeat (first | apply qG | apply qH | apply qI)); exact Kd.R_mono HO284.out (fun _ hk => ⟨hk.1.1.1.2, ⟨hk.1.1.2, ⟨hk.2, hk.1.2⟩⟩⟩)), (by (with_reducible repeat (first | apply qD | apply qE | apply qF)); exact BK265.out), (by repeat (first | (with_reducible first | exact HB.out | apply qJ | apply qK | apply qL | refine qR ?_ GE265.out) | exact HB.out))⟩)
            rintro ⟨v280, v283⟩ w45 ⟨hS_, h0_, h1_, h2_, h3_, h4_, h5_⟩
            have n0_ : Aside0 (Kd.R k31 31 w45 w.heap.size (fun k_ => some k_ ≠ (.slice Ao38 y272.length co38 : Value).ownBlock ∧ some k_ ≠ (v280 : Value).ownBlock ∧ some k_ ≠ (v283 : Value).ownBlock ∧ k_ ≠ gb265) (.slice Ao37 y269.length co37) y269) := ⟨h0_⟩
            have n1_ : Aside0 (Kd.R k31 31 w45 w.heap.size (fun k_ => some k_ ≠ (.slice Ao37 y269.length co37 : Value).ownBlock ∧ some k_ ≠ (v280 : Value).ownBlock ∧ some k_ ≠ (v283 : Value).ownBlock ∧ k_ ≠ gb265) (.slice Ao38 y272.length co38) y272) := ⟨h1_⟩
            have n2_ : Aside0 (Kd.R k31 31 w45 w.heap.size (fun k_ => some k_ ≠ (.slice Ao37 y269.length co37 : Value).ownBlock ∧ some k_ ≠ (.slice Ao38 y272.length co38 : Value).ownBlock ∧ some k_ ≠ (v283 : Value).ownBlock ∧ k_ ≠ gb265) v280 y279) := ⟨h2_⟩
            have n3_ : Aside0 (Kd.R k31 31 w45 w.heap.size (fun k_ => some k_ ≠ (.slice Ao37 y269.length co37 : Value).ownBlock ∧ some k_ ≠ (.slice Ao38 y272.length co38 : Value).ownBlock ∧ some k_ ≠ (v280 : Value).ownBlock ∧ k_ ≠ gb265) v283 y282) := ⟨h3_⟩
            have n4_ : Aside0 (w45.heap[gb265]? = some (.cells #[.int .i64 5, .string (⟨#[]⟩ : ByteArray)] 31 (0, 0))) := ⟨h4_⟩
            have n5_ : Aside0 (Below w.heap.size w w45) := ⟨h5_⟩
            clear HO271; clear HO274
            clear BK265; clear HB
            clear h0_ h1_ h2_ h3_ h4_ h5_; have HO271 := n0_
            have HO274 := n1_; have HO281 := n2_
            have HO284 := n3_; have BK265 := n4_
            have HB := n5_; clear n0_ n1_ n2_ n3_ n4_ n5_
            have hHeld : w45.cell? ⟨gb265, 0, none⟩ = some (.int .i64 5) ∧ w45.cell? ⟨gb265, 1, none⟩ = some (.string (⟨#[]⟩ : ByteArray)) := hS_
            obtain ⟨Ao47, co47, eo47⟩ := Kd.R_slice HO284.out
            (first | subst eo47 | (injection eo47 with f1_ f2_ f3_; have f4_ := f1_.symm; have f5_ := f3_.symm; clear f1_ f2_ f3_; subst f4_; subst f5_))
            refine norm_ (a' := ?_) ?_ ?_
            rotate_left; (simp only [putAll, Act.put, qA, qB, qC]; rfl)
            refine one_ (i := 4) (N := some 63) #[tT,tT,tT,tT,tT,tT,tF,tT,tF,tF,tF,tF,tF,tF] rfl rfl (one_of HT_.out (by kernel_rfl)) (by decide) (fun K hK => ?_)
            refine Kd.R_append_rows_step k31 (w0 := w) w.heap.size (by rfl) (.tmp 60) (.tmp 62) 22 31 (.agg #[(.int .i64 0), (.string ⟨#[]⟩)]) 24 rfl Try.underlying22 info31 rfl (by decide) (by omega) v280 y279 y282 _ _ _ (fun k_ => some k_ ≠ (.slice Ao37 y269.length co37 : Value).ownBlock ∧ some k_ ≠ (.slice Ao38 y272.length co38 : Value).ownBlock ∧ some k_ ≠ (.slice Ao47 y282.length co47 : Value).ownBlock ∧ k_ ≠ gb265) (fun _ => False) rfl rfl ?aO ?aR (fun _ _ h => h) (fun _ h => h.elim) ?aF ?aB ?aS ?aL ?_
            (case aR => repeat (first | exact (Kd.R_reads' HO284.out).2.2 | (with_reducible first | apply qO | apply qP | apply qQ)))
            (case aB => exact (by repeat (first | (with_reducible first | exact HB.out | apply qJ | apply qK | apply qL | refine qR ?_ GE265.out) | exact HB.out)))
            (case aF => exact (fun k_ hk => ⟨Kd.fresh' (Kd.R_lt (by (with_reducible repeat (first | apply qG | apply qH | apply qI)); exact HO271.out)) k_ hk, Kd.fresh' (Kd.R_lt (by (with_reducible repeat (first | apply qG | apply qH | apply qI)); exact HO274.out)) k_ hk, Kd.fresh' (Kd.R_lt (by (with_reducible repeat (first | apply qG | apply qH | apply qI)); exact HO284.out)) k_ hk, Kd.freshB (g := gb265) (o := .cells #[.int .i64 5, .string (⟨#[]⟩ : ByteArray)] 31 (0, 0)) (by (with_reducible repeat (first | apply qD | apply qE | apply qF)); exact BK265.out) k_ hk⟩))
            (case aO => exact (by (with_reducible repeat (first | apply qG | apply qH | apply qI)); exact HO281.out))
            (case aS => exact (below_size (by repeat (first | (with_reducible first | exact HB.out | apply qJ | apply qK | apply qL | refine qR ?_ GE265.out) | exact HB.out))))
            (case aL => have := LMc21.out; omega)
            intro v286 w46 ho hb hg hat
            rw [← Ny285.out] at ho
            have n0_ := qM (blk_grown (g := gb265) (o := .cells #[.int .i64 5, .string (⟨#[]⟩ : ByteArray)] 31 (0, 0)) (by (with_reducible repeat (first | apply qD | apply qE | apply qF)); exact BK265.out) hg (Kd.R_away HO281.out (fun _ hk => hk.2.2.2))); have n1_ := qM (Kd.R_after (ok := (fun k_ => some k_ ≠ (.slice Ao38 y272.length co38 : Value).ownBlock ∧ some k_ ≠ (.slice Ao47 y282.length co47 : Value).ownBlock ∧ k_ ≠ gb265)) (by (with_reducible repeat (first | apply qG | apply qH | apply qI)); exact Kd.R_mono HO271.out (fun _ hk => ⟨⟨hk.1, ⟨hk.2.2.1, hk.2.2.2⟩⟩, hk.2.1⟩)) hg hat)
            have n2_ := qM (Kd.R_after (ok := (fun k_ => some k_ ≠ (.slice Ao37 y269.length co37 : Value).ownBlock ∧ some k_ ≠ (.slice Ao47 y282.length co47 : Value).ownBlock ∧ k_ ≠ gb265)) (by (with_reducible repeat (first | apply qG | apply qH | apply qI)); exact Kd.R_mono HO274.out (fun _ hk => ⟨⟨hk.1, ⟨hk.2.2.1, hk.2.2.2⟩⟩, hk.2.1⟩)) hg hat); have n3_ := qM (Kd.R_after (ok := (fun k_ => some k_ ≠ (.slice Ao37 y269.length co37 : Value).ownBlock ∧ some k_ ≠ (.slice Ao38 y272.length co38 : Value).ownBlock ∧ k_ ≠ gb265)) (by (with_reducible repeat (first | apply qG | apply qH | apply qI)); exact Kd.R_mono HO284.out (fun _ hk => ⟨⟨hk.1, ⟨hk.2.1, hk.2.2.2⟩⟩, hk.2.2.1⟩)) hg hat)
            have n4_ := qM (hb); have n5_ := qM (ho); clear BK265
            clear HO271; clear HO274
            clear HO284; clear HB
            clear HO281; have BK265 := n0_
            have HO271 := n1_; have HO274 := n2_
            have HO284 := n3_; have HB := n4_
            have HO287 := n5_; clear n0_ n1_ n2_ n3_ n4_ n5_; clear ho hb hg hat
            refine hK.out _ _ ⟨(blk_cell BK265.out 0).trans rfl, (blk_cell BK265.out 1).trans rfl⟩ (fun hHeld => ?_)
            clear hK K
            refine norm_ (a' := ?_) ?_ ?_
            rotate_left
            ·show Act.put _ (some 63) _ = _
             simp only [Act.put, qA, qB, qC, i64_w, i32_w]
             rfl
            refine one_ (i := 6) (N := some 65) #[tT,tT,tT,tT,tT,tT,tT,tT,tF,tF,tF,tF,tF,tF] rfl rfl (one_of HT_.out (by kernel_rfl)) (by decide) (fun K hK => ?_)
            refine Kd.R_append_rows_step k31 (w0 := w) w.heap.size (by rfl) (.tmp 63) (.tmp 64) 22 31 (.agg #[(.int .i64 0), (.string ⟨#[]⟩)]) 24 rfl Try.underlying22 info31 rfl (by decide) (by omega) v286 y285 l1 _ _ _ (fun k_ => some k_ ≠ (.slice Ao37 y269.length co37 : Value).ownBlock ∧ some k_ ≠ (.slice Ao38 y272.length co38 : Value).ownBlock ∧ some k_ ≠ (.slice Ao47 y282.length co47 : Value).ownBlock ∧ k_ ≠ gb265) (fun _ => False) rfl rfl ?aO ?aR (fun _ _ h => h) (fun _ h => h.elim) ?aF ?aB ?aS ?aL ?_
            (case aR => repeat (first | exact (Kd.C_below HR1.out HB.out) | (with_reducible first | apply qO | apply qP | apply qQ)))
            (case aB => exact (by repeat (first | (with_reducible first | exact HB.out | apply qJ | apply qK | apply qL | refine qR ?_ GE265.out) | exact HB.out)))
            (case aF => exact (fun k_ hk => ⟨Kd.fresh' (Kd.R_lt (by (with_reducible repeat (first | apply qG | apply qH | apply qI)); exact HO271.out)) k_ hk, Kd.fresh' (Kd.R_lt (by (with_reducible repeat (first | apply qG | apply qH | apply qI)); exact HO274.out)) k_ hk, Kd.fresh' (Kd.R_lt (by (with_reducible repeat (first | apply qG | apply qH | apply qI)); exact HO284.out)) k_ hk, Kd.freshB (g := gb265) (o := .cells #[.int .i64 5, .string (⟨#[]⟩ : ByteArray)] 31 (0, 0)) (by (with_reducible repeat (first | apply qD | apply qE | apply qF)); exact BK265.out) k_ hk⟩))
            (case aO => exact (by (with_reducible repeat (first | apply qG | apply qH | apply qI)); exact HO287.out))
            (case aS => exact (below_size (by repeat (first | (with_reducible first | exact HB.out | apply qJ | apply qK | apply qL | refine qR ?_ GE265.out) | exact HB.out))))
            (case aL => have := LMc22.out; omega)
            intro v289 w48 ho hb hg hat
            rw [← Ny288.out] at ho
            have n0_ := qM (blk_grown (g := gb265) (o := .cells #[.int .i64 5, .string (⟨#[]⟩ : ByteArray)] 31 (0, 0)) (by (with_reducible repeat (first | apply qD | apply qE | apply qF)); exact BK265.out) hg (Kd.R_away HO287.out (fun _ hk => hk.2.2.2))); have n1_ := qM (Kd.R_after (ok := (fun k_ => some k_ ≠ (.slice Ao38 y272.length co38 : Value).ownBlock ∧ some k_ ≠ (.slice Ao47 y282.length co47 : Value).ownBlock ∧ k_ ≠ gb265)) (by (with_reducible repeat (first | apply qG | apply qH | apply qI)); exact HO271.out) hg hat)
            have n2_ := qM (Kd.R_after (ok := (fun k_ => some k_ ≠ (.slice Ao37 y269.length co37 : Value).ownBlock ∧ some k_ ≠ (.slice Ao47 y282.length co47 : Value).ownBlock ∧ k_ ≠ gb265)) (by (with_reducible repeat (first | apply qG | apply qH | apply qI)); exact HO274.out) hg hat); have n3_ := qM (Kd.R_after (ok := (fun k_ => some k_ ≠ (.slice Ao37 y269.length co37 : Value).ownBlock ∧ some k_ ≠ (.slice Ao38 y272.length co38 : Value).ownBlock ∧ k_ ≠ gb265)) (by (with_reducible repeat (first | apply qG | apply qH | apply qI)); exact HO284.out) hg hat)
            have n4_ := qM (hb); have n5_ := qM (ho); clear BK265
            clear HO271; clear HO274
            clear HO284; clear HB
            clear HO287; have BK265 := n0_
            have HO271 := n1_; have HO274 := n2_
            have HO284 := n3_; have HB := n4_
            have HO290 := n5_; clear n0_ n1_ n2_ n3_ n4_ n5_; clear ho hb hg hat
            obtain ⟨Ao49, co49, eo49⟩ := Kd.R_slice HO290.out
            (first | subst eo49 | (injection eo49 with f1_ f2_ f3_; have f4_ := f1_.symm; have f5_ := f3_.symm; clear f1_ f2_ f3_; subst f4_; subst f5_))
            refine hK.out _ _ ⟨(blk_cell BK265.out 0).trans rfl, (blk_cell BK265.out 1).trans rfl⟩ (fun hHeld => ?_)
            clear hK K
            refine norm_ (a' := ?_) ?_ ?_
            rotate_left
            ·show Act.put _ (some 65) _ = _
             simp only [Act.put, qA, qB, qC, i64_w, i32_w]
             rfl
            refine one_ (i := 8) (N := some 67) #[tT,tT,tT,tT,tT,tT,tT,tT,tT,tF,tF,tF,tF,tF] rfl rfl (one_of HT_.out (by kernel_rfl)) (by decide) (fun K hK => ?_)
            refine goes_ Try.func11 (by kernel_rfl) rfl #[.slice Ao49 y288.length co49, .int .i64 a2] (by rfl) rfl rfl (by (try simp only [List.map_toArray, List.map_cons, List.map_nil]); first | done | rfl | (simp only [List.length_drop, List.length_take]; rfl)) ?_
            with_reducible refine (wide_Lay.calls _ _ y288 a2 t291 true _ ?side1 ?side2 A23.out).mono ?_
            (case side1 => repeat (first | exact (Kd.R_reads' HO290.out).2.2 | (with_reducible first | apply qO | apply qP | apply qQ)))
            (case side2 => exact (Kd.R_reads' HO290.out).2.1)
            rintro e w50 ⟨rfl, hb⟩
            refine ⟨_, rfl, ?_⟩
            have n0_ := qM (Kd.R_below (by (with_reducible repeat (first | apply qG | apply qH | apply qI)); exact HO271.out) hb); have n1_ := qM (Kd.R_below (by (with_reducible repeat (first | apply qG | apply qH | apply qI)); exact HO274.out) hb)
            have n2_ := qM (Kd.R_below (by (with_reducible repeat (first | apply qG | apply qH | apply qI)); exact HO284.out) hb); have n3_ := qM (Kd.R_below (by (with_reducible repeat (first | apply qG | apply qH | apply qI)); exact HO290.out) hb)
            have n4_ := qM (blk_below (g := gb265) (o := .cells #[.int .i64 5, .string (⟨#[]⟩ : ByteArray)] 31 (0, 0)) (by (with_reducible repeat (first | apply qD | apply qE | apply qF)); exact BK265.out) hb); have n5_ := qM (below_step (by repeat (first | (with_reducible first | exact HB.out | apply qJ | apply qK | apply qL | refine qR ?_ GE265.out) | exact HB.out)) hb); clear HO271
            clear HO274; clear HO284
            clear HO290; clear BK265
            clear HB; have HO271 := n0_
            have HO274 := n1_; have HO284 := n2_
            have HO290 := n3_; have BK265 := n4_
            have HB := n5_; clear n0_ n1_ n2_ n3_ n4_ n5_
            (try clear hb)
            (try clear hb2)
            (try clear hk)
            (try clear hi)
            refine hK.out _ _ ⟨(blk_cell BK265.out 0).trans rfl, (blk_cell BK265.out 1).trans rfl⟩ (fun hHeld => ?_)
            clear hK K
            refine norm_ (a' := ?_) ?_ ?_
            rotate_left
            ·show Act.put _ (some 67) _ = _
             simp only [Act.put, qA, qB, qC, i64_w, i32_w]
             rfl
            refine pure_ (i := 9) (N := some 58) (v := ?_) (a' := ?_) #[tT,tT,tT,tT,tT,tT,tT,tT,tT,tT,tF,tF,tF,tF] rfl rfl (any_of HT_.out (by kernel_rfl)) (fun _ _ _ h => h) (Or.inl ⟨by rfl, ?_⟩) ?_ ?_
            rotate_left; (intro w'; go_simp; with_reducible rfl); rotate_left; (simp only [Act.put, qA, qB, qC, i64_w, i32_w]; rfl)
            refine pure_ (i := 10) (N := some 68) (v := ?_) (a' := ?_) #[tT,tT,tT,tT,tT,tT,tT,tT,tT,tT,tT,tF,tF,tF] rfl rfl (any_of HT_.out (by kernel_rfl)) (fun _ _ _ h => h) (Or.inl ⟨by rfl, ?_⟩) ?_ ?_
            rotate_left; (intro w'; go_simp; with_reducible rfl); rotate_left; (simp only [Act.put, qA, qB, qC, i64_w, i32_w]; rfl)
            refine pure_ (i := 11) (N := some 69) (v := ?_) (a' := ?_) #[tT,tT,tT,tT,tT,tT,tT,tT,tT,tT,tT,tT,tF,tF] rfl rfl (any_of HT_.out (by kernel_rfl)) (fun _ _ _ h => h) (Or.inl ⟨by rfl, ?_⟩) ?_ ?_
            rotate_left; (intro w'; go_simp; with_reducible rfl); rotate_left; (simp only [Act.put, qA, qB, qC, i64_w, i32_w]; rfl)
            refine pure_ (i := 12) (N := some 13) (v := ?_) (a' := ?_) #[tT,tT,tT,tT,tT,tT,tT,tT,tT,tT,tT,tT,tT,tF] rfl rfl (any_of HT_.out (by kernel_rfl)) (fun _ _ _ h => h) (Or.inl ⟨by rfl, ?_⟩) ?_ ?_
            rotate_left; (intro w'; go_simp; with_reducible rfl); rotate_left; (simp only [Act.put, qA, qB, qC, i64_w, i32_w]; rfl)
            refine pure_ (i := 13) (N := some 14) (v := ?_) (a' := ?_) #[tT,tT,tT,tT,tT,tT,tT,tT,tT,tT,tT,tT,tT,tT] rfl rfl (any_of HT_.out (by kernel_rfl)) (fun _ _ _ h => h) (Or.inl ⟨by rfl, ?_⟩) ?_ ?_
            rotate_left; (intro w'; go_simp; with_reducible rfl); rotate_left; (simp only [Act.put, qA, qB, qC, i64_w, i32_w]; rfl)
            refine done_ (done_of HT_.out (by kernel_rfl)) ?_
            try go_wp2
            go_ret
            exact ⟨by first | rfl | (simp [errW_none, errW_some] <;> rfl) | (simp [*, errW_none, errW_some] <;> rfl), by repeat (first | (with_reducible first | exact HB.out | apply qJ | apply qK | apply qL | refine qR ?_ GE265.out) | exact HB.out)⟩
           ·rw [if_neg c27] at H
            exact absurd H (by simp)
          ·replace c26 := Bool.eq_false_iff.mpr c26
           subst c26
           have H1 : (some false) = some r := by rw [if_neg (show ¬ (false = true) by decide)] at H; exact H
           clear H
           have H := H1
           clear H1
           exact absurd H (by have h_ := HT_.out; subst h_; decide)
         ·replace c25 := Bool.eq_false_iff.mpr c25
          subst c25
          have H1 : (some false) = some r := by rw [if_neg (show ¬ (false = true) by decide)] at H; exact H
          clear H
          have H := H1
          clear H1
          exact absurd H (by have h_ := HT_.out; subst h_; decide)
        ·replace c24 := Bool.eq_false_iff.mpr c24
         subst c24
         have H1 : (some false) = some r := by rw [if_neg (show ¬ (false = true) by decide)] at H; exact H
         clear H
         have H := H1
         clear H1
         exact absurd H (by have h_ := HT_.out; subst h_; decide)
       ·rw [if_neg c22] at H
        exact absurd H (by simp)
      ·rw [if_neg c21] at H
       exact absurd H (by simp)
     ·rw [if_neg c18] at H
      exact absurd H (by simp)
    ·rw [if_neg c17] at H
     exact absurd H (by simp)

/-- The pure statement of copperplatelaw18_WideFirst. -/
def copperplatelaw18_WideFirst.Pure : Prop := ∀ (l0 : List (S31)) (l1 : List (S31)) (a2 : Int), l0.length * 24 ≤ 140737488351232 → (∀ x ∈ l0, (Lit.int .i64 x.f0).wf = true ∧ x.f1.size ≤ 140737488351232) → l1.length * 24 ≤ 140737488351232 → (∀ x ∈ l1, (Lit.int .i64 x.f0).wf = true ∧ x.f1.size ≤ 140737488351232) → (Lit.int .i64 a2).wf = true → ∃ k, copperplatelaw18_WideFirst.f k l0 l1 a2 = some true
def copperplatelaw18_WideFirst.PureUp : Prop := ∀ (l0 : List (S31)) (l1 : List (S31)) (a2 : Int), l0.length * 24 ≤ 140737488351232 → (∀ x ∈ l0, (Lit.int .i64 x.f0).wf = true ∧ x.f1.size ≤ 140737488351232) → l1.length * 24 ≤ 140737488351232 → (∀ x ∈ l1, (Lit.int .i64 x.f0).wf = true ∧ x.f1.size ≤ 140737488351232) → (Lit.int .i64 a2).wf = true → (l0.map fun x => x.f1.size).sum + (l1.map fun x => x.f1.size).sum ≤ 1048576 → ∃ k, copperplatelaw18_WideFirst.f k l0 l1 a2 = some true

end Go.Proofs.Ytipjfdamkpgecaa.PWide
