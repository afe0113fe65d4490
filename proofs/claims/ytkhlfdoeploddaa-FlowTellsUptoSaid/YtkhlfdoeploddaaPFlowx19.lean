-- Written by a program of the session (drive.py, over the kit's print.py with contracts by hand). Not trusted: Lean checks it.
import Derived.Test.YtkhlfdoeploddaaPFlowx0
import Derived.Test.YtkhlfdoeploddaaPFlowx15
import Derived.Test.YtkhlfdoeploddaaPFlowx17
import Derived.Test.YtkhlfdoeploddaaPFlowx18
namespace Go.Proofs.Ytkhlfdoeploddaa.PFlow
open Go.RowKit Go.Proofs.YtkhlfdoeploddaaW.PrintWords Go.Proofs.YtkhlfdoeploddaaW.PrintLast Go.Proofs.YtkhlfdoeploddaaW.PrintMore
attribute [local go_sem] max2_int min2_int max_two min_two max_three min_three max_four min_four   -- for this text's walks alone
set_option linter.unusedVariables false
set_option linter.unusedSimpArgs false

/-! ### copperplateref19_decision: function 30 -/
mutual
def copperplateref19_decision.j0 : Nat → List (S34) → Int → Int → Int → Int → Int → Int → Option (Bool × Bool)
 | 0, _, _, _, _, _, _, _ => none
 | k + 1, x0, x1, x2, x3, x4, x12, x13 => copperplateref19_decision.l0 k x0 x2 x3 x4 x12 x13 0 x1
def copperplateref19_decision.l0 : Nat → List (S34) → Int → Int → Int → Int → Int → Int → Int → Option (Bool × Bool)
 | 0, _, _, _, _, _, _, _, _ => none
 | k + 1, x0, x2, x3, x4, x12, x13, x14, x15 => if x15 < x13 then (if 0 ≤ x15 then (if x15 < (x0.length : Int) then ((copperplateref17_Flat.f k ((rd_T34 x0 x15).f0) ((rd_T34 x0 x15).f1)).bind fun bt177 => (if bt177.2 = true then ((copperplateref17_Cols.f k bt177.1).bind fun t179 => (copperplateref19_decision.l0 k x0 x2 x3 x4 x12 x13 (wrap64 (x14 + t179)) (wrap64 (x15 + 1)))) else (some (true, false)))) else (none)) else (none)) else (if x12 ≥ 0 then (if 0 ≤ x2 then (if x2 ≤ (x0.length : Int) then ((copperplateref17_Behind.f k (x0.take (x2 : Int).toNat) x12).bind fun t184 => (copperplateref19_decision.j2 k x0 x2 x3 x4 x12 (wrap64 (x14 + t184)))) else (none)) else (none)) else (copperplateref19_decision.j2 k x0 x2 x3 x4 x12 x14))
def copperplateref19_decision.j2 : Nat → List (S34) → Int → Int → Int → Int → Int → Option (Bool × Bool)
 | 0, _, _, _, _, _, _ => none
 | k + 1, x0, x2, x3, x4, x12, x14 => if (wrap64 (x3 + x14)) > x4 then (some (true, false)) else (copperplateref19_decision.l1 k x0 x2 x12 x12)
def copperplateref19_decision.l1 : Nat → List (S34) → Int → Int → Int → Option (Bool × Bool)
 | 0, _, _, _, _ => none
 | k + 1, x0, x2, x12, x18 => if x18 < x2 then (copperplateref19_decision.j4 k x0 x2 x12 x18 (decide (x12 ≥ 0))) else (copperplateref19_decision.j4 k x0 x2 x12 x18 false)
def copperplateref19_decision.j4 : Nat → List (S34) → Int → Int → Int → Bool → Option (Bool × Bool)
 | 0, _, _, _, _, _ => none
 | k + 1, x0, x2, x12, x18, x70 => if x70 = true then (if 0 ≤ x18 then (if x18 < (x0.length : Int) then ((copperplateref17_Breaks.f ((rd_T34 x0 x18).f0) ((rd_T34 x0 x18).f1)).bind fun t186 => (if t186 = true then (some (true, true)) else (copperplateref19_decision.l1 k x0 x2 x12 (wrap64 (x18 + 1))))) else (none)) else (none)) else (some (false, false))
end
def copperplateref19_decision.f (k : Nat) (l0 : List (S34)) (a1 : Int) (a2 : Int) (a3 : Int) (a4 : Int) : Option (Bool × Bool) := if 0 ≤ a2 then (if a2 ≤ (l0.length : Int) then ((copperplateref17_Match.f k (l0.take (a2 : Int).toNat) a1).bind fun t175 => (if t175 < 0 then (copperplateref19_decision.j0 k l0 a1 a2 a3 a4 t175 a2) else (copperplateref19_decision.j0 k l0 a1 a2 a3 a4 t175 t175))) else (none)) else (none)
theorem copperplateref19_decision.mono_l : ∀ k, (∀ y0 y1 y2 y3 y4 y5 y6, LeO (copperplateref19_decision.j0 k y0 y1 y2 y3 y4 y5 y6) (copperplateref19_decision.j0 (k + 1) y0 y1 y2 y3 y4 y5 y6)) ∧ (∀ y0 y1 y2 y3 y4 y5 y6 y7, LeO (copperplateref19_decision.l0 k y0 y1 y2 y3 y4 y5 y6 y7) (copperplateref19_decision.l0 (k + 1) y0 y1 y2 y3 y4 y5 y6 y7)) ∧ (∀ y0 y1 y2 y3 y4 y5, LeO (copperplateref19_decision.j2 k y0 y1 y2 y3 y4 y5) (copperplateref19_decision.j2 (k + 1) y0 y1 y2 y3 y4 y5)) ∧ (∀ y0 y1 y2 y3, LeO (copperplateref19_decision.l1 k y0 y1 y2 y3) (copperplateref19_decision.l1 (k + 1) y0 y1 y2 y3)) ∧ (∀ y0 y1 y2 y3 y4, LeO (copperplateref19_decision.j4 k y0 y1 y2 y3 y4) (copperplateref19_decision.j4 (k + 1) y0 y1 y2 y3 y4))
 | 0 => ⟨fun _ _ _ _ _ _ _ r h => by simp [copperplateref19_decision.j0] at h, fun _ _ _ _ _ _ _ _ r h => by simp [copperplateref19_decision.l0] at h, fun _ _ _ _ _ _ r h => by simp [copperplateref19_decision.j2] at h, fun _ _ _ _ r h => by simp [copperplateref19_decision.l1] at h, fun _ _ _ _ _ r h => by simp [copperplateref19_decision.j4] at h⟩
 | k + 1 => by
  obtain ⟨ih0, ih1, ih2, ih3, ih4⟩ := copperplateref19_decision.mono_l k
  refine ⟨?_, ?_, ?_, ?_, ?_⟩
  ·intro y0 y1 y2 y3 y4 y5 y6
   unfold copperplateref19_decision.j0
   repeat' first
   | (with_reducible exact ih0 _ _ _ _ _ _ _)
   | (with_reducible exact ih1 _ _ _ _ _ _ _ _)
   | (with_reducible exact ih2 _ _ _ _ _ _)
   | (with_reducible exact ih3 _ _ _ _)
   | (with_reducible exact ih4 _ _ _ _ _)
   | (with_reducible exact copperplateref17_Behind.mono _ _ _)
   | (with_reducible exact copperplateref17_Cols.mono _ _)
   | (with_reducible exact copperplateref17_Flat.mono _ _ _)
   | (with_reducible exact copperplateref17_Match.mono _ _ _)
   | (with_reducible exact LeO.refl _)
   | (with_reducible exact LeO.none _)
   | (with_reducible refine LeO.ite ?_ ?_)
   | (with_reducible refine LeO.bind ?_ (fun _ => ?_))
   | exact ih0 _ _ _ _ _ _ _
   | exact ih1 _ _ _ _ _ _ _ _
   | exact ih2 _ _ _ _ _ _
   | exact ih3 _ _ _ _
   | exact ih4 _ _ _ _ _
   | exact copperplateref17_Behind.mono _ _ _
   | exact copperplateref17_Cols.mono _ _
   | exact copperplateref17_Flat.mono _ _ _
   | exact copperplateref17_Match.mono _ _ _
   | exact LeO.none _
   | refine LeO.ite ?_ ?_
   | refine LeO.bind ?_ (fun _ => ?_)
  ·intro y0 y1 y2 y3 y4 y5 y6 y7
   unfold copperplateref19_decision.l0
   repeat' first
   | (with_reducible exact ih0 _ _ _ _ _ _ _)
   | (with_reducible exact ih1 _ _ _ _ _ _ _ _)
   | (with_reducible exact ih2 _ _ _ _ _ _)
   | (with_reducible exact ih3 _ _ _ _)
   | (with_reducible exact ih4 _ _ _ _ _)
   | (with_reducible exact copperplateref17_Behind.mono _ _ _)
   | (with_reducible exact copperplateref17_Cols.mono _ _)
   | (with_reducible exact copperplateref17_Flat.mono _ _ _)
   | (with_reducible exact copperplateref17_Match.mono _ _ _)
   | (with_reducible exact LeO.refl _)
   | (with_reducible exact LeO.none _)
   | (with_reducible refine LeO.ite ?_ ?_)
   | (with_reducible refine LeO.bind ?_ (fun _ => ?_))
   | exact ih0 _ _ _ _ _ _ _
   | exact ih1 _ _ _ _ _ _ _ _
   | exact ih2 _ _ _ _ _ _
   | exact ih3 _ _ _ _
   | exact ih4 _ _ _ _ _
   | exact copperplateref17_Behind.mono _ _ _
   | exact copperplateref17_Cols.mono _ _
   | exact copperplateref17_Flat.mono _ _ _
   | exact copperplateref17_Match.mono _ _ _
   | exact LeO.none _
   | refine LeO.ite ?_ ?_
   | refine LeO.bind ?_ (fun _ => ?_)
  ·intro y0 y1 y2 y3 y4 y5
   unfold copperplateref19_decision.j2
   repeat' first
   | (with_reducible exact ih0 _ _ _ _ _ _ _)
   | (with_reducible exact ih1 _ _ _ _ _ _ _ _)
   | (with_reducible exact ih2 _ _ _ _ _ _)
   | (with_reducible exact ih3 _ _ _ _)
   | (with_reducible exact ih4 _ _ _ _ _)
   | (with_reducible exact copperplateref17_Behind.mono _ _ _)
   | (with_reducible exact copperplateref17_Cols.mono _ _)
   | (with_reducible exact copperplateref17_Flat.mono _ _ _)
   | (with_reducible exact copperplateref17_Match.mono _ _ _)
   | (with_reducible exact LeO.refl _)
   | (with_reducible exact LeO.none _)
   | (with_reducible refine LeO.ite ?_ ?_)
   | (with_reducible refine LeO.bind ?_ (fun _ => ?_))
   | exact ih0 _ _ _ _ _ _ _
   | exact ih1 _ _ _ _ _ _ _ _
   | exact ih2 _ _ _ _ _ _
   | exact ih3 _ _ _ _
   | exact ih4 _ _ _ _ _
   | exact copperplateref17_Behind.mono _ _ _
   | exact copperplateref17_Cols.mono _ _
   | exact copperplateref17_Flat.mono _ _ _
   | exact copperplateref17_Match.mono _ _ _
   | exact LeO.none _
   | refine LeO.ite ?_ ?_
   | refine LeO.bind ?_ (fun _ => ?_)
  ·intro y0 y1 y2 y3
   unfold copperplateref19_decision.l1
   repeat' first
   | (with_reducible exact ih0 _ _ _ _ _ _ _)
   | (with_reducible exact ih1 _ _ _ _ _ _ _ _)
   | (with_reducible exact ih2 _ _ _ _ _ _)
   | (with_reducible exact ih3 _ _ _ _)
   | (with_reducible exact ih4 _ _ _ _ _)
   | (with_reducible exact copperplateref17_Behind.mono _ _ _)
   | (with_reducible exact copperplateref17_Cols.mono _ _)
   | (with_reducible exact copperplateref17_Flat.mono _ _ _)
   | (with_reducible exact copperplateref17_Match.mono _ _ _)
   | (with_reducible exact LeO.refl _)
   | (with_reducible exact LeO.none _)
   | (with_reducible refine LeO.ite ?_ ?_)
   | (with_reducible refine LeO.bind ?_ (fun _ => ?_))
   | exact ih0 _ _ _ _ _ _ _
   | exact ih1 _ _ _ _ _ _ _ _
   | exact ih2 _ _ _ _ _ _
   | exact ih3 _ _ _ _
   | exact ih4 _ _ _ _ _
   | exact copperplateref17_Behind.mono _ _ _
   | exact copperplateref17_Cols.mono _ _
   | exact copperplateref17_Flat.mono _ _ _
   | exact copperplateref17_Match.mono _ _ _
   | exact LeO.none _
   | refine LeO.ite ?_ ?_
   | refine LeO.bind ?_ (fun _ => ?_)
  ·intro y0 y1 y2 y3 y4
   unfold copperplateref19_decision.j4
   repeat' first
   | (with_reducible exact ih0 _ _ _ _ _ _ _)
   | (with_reducible exact ih1 _ _ _ _ _ _ _ _)
   | (with_reducible exact ih2 _ _ _ _ _ _)
   | (with_reducible exact ih3 _ _ _ _)
   | (with_reducible exact ih4 _ _ _ _ _)
   | (with_reducible exact copperplateref17_Behind.mono _ _ _)
   | (with_reducible exact copperplateref17_Cols.mono _ _)
   | (with_reducible exact copperplateref17_Flat.mono _ _ _)
   | (with_reducible exact copperplateref17_Match.mono _ _ _)
   | (with_reducible exact LeO.refl _)
   | (with_reducible exact LeO.none _)
   | (with_reducible refine LeO.ite ?_ ?_)
   | (with_reducible refine LeO.bind ?_ (fun _ => ?_))
   | exact ih0 _ _ _ _ _ _ _
   | exact ih1 _ _ _ _ _ _ _ _
   | exact ih2 _ _ _ _ _ _
   | exact ih3 _ _ _ _
   | exact ih4 _ _ _ _ _
   | exact copperplateref17_Behind.mono _ _ _
   | exact copperplateref17_Cols.mono _ _
   | exact copperplateref17_Flat.mono _ _ _
   | exact copperplateref17_Match.mono _ _ _
   | exact LeO.none _
   | refine LeO.ite ?_ ?_
   | refine LeO.bind ?_ (fun _ => ?_)
theorem copperplateref19_decision.mono : ∀ a0 a1 a2 a3 a4 k, LeO (copperplateref19_decision.f k a0 a1 a2 a3 a4) (copperplateref19_decision.f (k + 1) a0 a1 a2 a3 a4) := by
 intro a0 a1 a2 a3 a4 k
 obtain ⟨ih0, ih1, ih2, ih3, ih4⟩ := copperplateref19_decision.mono_l k
 unfold copperplateref19_decision.f
 repeat' first
   | (with_reducible exact ih0 _ _ _ _ _ _ _)
   | (with_reducible exact ih1 _ _ _ _ _ _ _ _)
   | (with_reducible exact ih2 _ _ _ _ _ _)
   | (with_reducible exact ih3 _ _ _ _)
   | (with_reducible exact ih4 _ _ _ _ _)
   | (with_reducible exact copperplateref17_Behind.mono _ _ _)
   | (with_reducible exact copperplateref17_Cols.mono _ _)
   | (with_reducible exact copperplateref17_Flat.mono _ _ _)
   | (with_reducible exact copperplateref17_Match.mono _ _ _)
   | (with_reducible exact LeO.refl _)
   | (with_reducible exact LeO.none _)
   | (with_reducible refine LeO.ite ?_ ?_)
   | (with_reducible refine LeO.bind ?_ (fun _ => ?_))
   | exact ih0 _ _ _ _ _ _ _
   | exact ih1 _ _ _ _ _ _ _ _
   | exact ih2 _ _ _ _ _ _
   | exact ih3 _ _ _ _
   | exact ih4 _ _ _ _ _
   | exact copperplateref17_Behind.mono _ _ _
   | exact copperplateref17_Cols.mono _ _
   | exact copperplateref17_Flat.mono _ _ _
   | exact copperplateref17_Match.mono _ _ _
   | exact LeO.none _
   | refine LeO.ite ?_ ?_
   | refine LeO.bind ?_ (fun _ => ?_)
set_option maxHeartbeats 8000000 in
set_option maxRecDepth 100000 in
theorem copperplateref19_decision.calls (k : Nat) (A0 : Option Addr) (c0 : Nat) (l0 : List (S34)) (a1 : Int) (a2 : Int) (a3 : Int) (a4 : Int) (r1 : Bool) (r2 : Bool) (w : World) (hr0 : Kd.C k34 w A0 l0.length l0) (hc0 : l0.length ≤ c0) (h : copperplateref19_decision.f k l0 a1 a2 a3 a4 = some (r1, r2)) :
  Calls Try.prog 30 #[.slice A0 l0.length c0, .int .i64 a1, .int .i64 a2, .int .i64 a3, .int .i64 a4] w fun e w' => e = .returned (.tuple #[.bool r1, .bool r2]) ∧ Below w.heap.size w w' := by
 have hu34 := Try.underlying34
 have HR0 := qM hr0
 have HC0 := qM hc0
 clear hr0 hc0
 have HB := qM (Below.refl w.heap.size w)
 have H : (if 0 ≤ a2 then (if a2 ≤ (l0.length : Int) then ((copperplateref17_Match.f k (l0.take (a2 : Int).toNat) a1).bind fun t175 => (if t175 < 0 then (copperplateref19_decision.j0 k l0 a1 a2 a3 a4 t175 a2) else (copperplateref19_decision.j0 k l0 a1 a2 a3 a4 t175 t175))) else (none)) else (none)) = some (r1, r2) := h
 clear h
 by_cases c6 : 0 ≤ a2
 ·rw [if_pos c6] at H
  have c6b0 := eq_true c6
  have c6b1 : decide (0 ≤ a2) = true := decide_eq_true c6
  clear c6
  by_cases c7 : a2 ≤ (l0.length : Int)
  ·rw [if_pos c7] at H
   have c7b0 := eq_true c7
   have c7b1 : decide (a2 ≤ (l0.length : Int)) = true := decide_eq_true c7
   clear c7
   obtain ⟨y171, hy171⟩ : ∃ y_ : List (S34), y_ = (l0.take (a2 : Int).toNat) := ⟨_, rfl⟩
   replace H : ((copperplateref17_Match.f k y171 a1).bind fun t175 => (if t175 < 0 then (copperplateref19_decision.j0 k l0 a1 a2 a3 a4 t175 a2) else (copperplateref19_decision.j0 k l0 a1 a2 a3 a4 t175 t175))) = some (r1, r2) := by first | (rw [hy171]; with_reducible exact H) | (have H2_ := (Option.bind_some _ _).symm.trans H; rw [hy171]; with_reducible exact H2_) | (have H2_ := (Option.bind_some _ _).symm.trans H; with_reducible exact H2_) | with_reducible exact H | (rw [hy171]; exact H) | exact H
   have Ny171 := qM hy171
   clear hy171
   replace H := Option.bind_eq_some_iff.mp H
   obtain ⟨t175, A80, H⟩ := H
   replace H : (if t175 < 0 then (copperplateref19_decision.j0 k l0 a1 a2 a3 a4 t175 a2) else (copperplateref19_decision.j0 k l0 a1 a2 a3 a4 t175 t175)) = some (r1, r2) := H
   have A8 := qM A80
   clear A80
   have HC9 := qM H
   clear H
   have q10 : (a2 : Int) ≤ ((l0.length : Int) : Int) := qN (by assumption)
   obtain ⟨i010, hi010, _, hsz10, _⟩ := info_parts info34
   have hroom10 : l0.length ≤ c0 := HC0.out
   have hC10 : Kd.C k34 _ A0 l0.length l0 := HR0.out
   have hcut10 := cut_to (P := Try.prog) 22 34 .i64 Try.underlying22 hi010 A0 l0.length c0 a2 (qN (by assumption)) q10 hroom10
   have hr10 := Kd.C_take (m := (a2 : Int).toNat) hC10 (by omega)
   have hy10 : y171.length = (a2 : Int).toNat := (by rw [Ny171.out, List.length_take]; omega)
   rw [← Ny171.out] at hr10
   rw [← hy10] at hcut10
   have HR174 := qM hr10
   have HC174 := qM (show y171.length ≤ c0 from by omega)
   clear hr10 hC10 hroom10 hi010 hsz10
   have KY10 := qM hy10
   clear hy10
   replace q10 := eq_true q10
   go_enter Try.func30, Try.ntmps30
   go_upto_if 27 with (first | ((with_reducible refine gate_callee (f := 45) rfl ?_); refine goesL_ (some 24) rfl rfl Try.func45 (by kernel_rfl) rfl #[.slice A0 y171.length c0, .int .i64 a1] rfl (by (try simp only [List.map_toArray, List.map_cons, List.map_nil]); first | done | rfl | (simp only [List.length_drop, List.length_take]; rfl)) ?_; (with_reducible refine (copperplateref17_Match.calls k _ _ y171 a1 t175 _ ?side1 ?side2 A8.out).mono ?_); (case side1 => repeat (first | exact HR174.out | (with_reducible first | apply qO | apply qP | apply qQ))); (case side2 => exact HC174.out); (try clear A8); rintro e w' ⟨rfl, ⟨nd, rfl⟩⟩; refine ⟨_, rfl, ?_⟩))
   (try simp only [Act.put, qA, qB, qC])
   go_cut [13] (fun v13 wc => ∃ (kq : Nat) (x13_8 : Int), v13 = .int .i64 x13_8 ∧ Aside0 (copperplateref19_decision.j0 kq l0 a1 a2 a3 a4 t175 x13_8 = some (r1, r2)) ∧ Aside0 (kq ≤ k) ∧ Aside0 (Below w.heap.size w wc))
   case first =>
    have H := HC9.out
    clear HC9
    by_cases c11 : t175 < 0
    ·rw [if_pos c11] at H
     have c11b0 : decide (t175 < 0) = true := decide_eq_true c11
     clear c11
     (first | rw [c11b0] | (simp only [i64_w, i32_w]; rw [c11b0]) | skip)
     have H' := qM H
     clear H
     go_wp2
     go_meet
     case rel => exact ⟨_, (a2), (by first | rfl | (simp; done) | (simp [*]; done)), H', ⟨by first | omega | exact Nat.le_refl _⟩, ⟨by repeat (first | (with_reducible first | exact HB.out | apply qJ | apply qK | apply qL) | exact HB.out)⟩⟩
    ·rw [if_neg c11] at H
     have c11b0 : decide (t175 < 0) = false := decide_eq_false c11
     clear c11
     (first | rw [c11b0] | (simp only [i64_w, i32_w]; rw [c11b0]) | skip)
     have H' := qM H
     clear H
     go_wp2
     go_meet
     case rel => exact ⟨_, (t175), (by first | rfl | (simp; done) | (simp [*]; done)), H', ⟨by first | omega | exact Nat.le_refl _⟩, ⟨by repeat (first | (with_reducible first | exact HB.out | apply qJ | apply qK | apply qL) | exact HB.out)⟩⟩
   case rest =>
    clear HC9
    try clear c1
    try clear q1
    try clear p2
    try clear c3
    try clear c4
    try clear c6
    try clear c6b0
    try clear c6b1
    try clear c7
    try clear c7b0
    try clear c7b1
    try clear q10
    try clear c11
    try clear c11b0
    try clear q10
    obtain ⟨kq, x13_8, rfl, HA, HJ8, HB⟩ := hcut
    cases kq with
    | zero => exact absurd HA.out (by simp [copperplateref19_decision.j0])
    | succ kj8 =>
     have H := HA.out
     clear HA
     simp only [copperplateref19_decision.j0] at H
     have H' := qM H
     clear H
     go_wp2
     go_loopg [14, 15] kj8 (fun kq v14 v15 w' => ∃ (x14_2 : Int) (x15_2 : Int), v14 = .int .i64 x14_2 ∧ v15 = .int .i64 x15_2 ∧ Aside0 (copperplateref19_decision.l0 kq l0 a2 a3 a4 t175 x13_8 x14_2 x15_2 = some (r1, r2)) ∧ Aside0 (kq ≤ kj8) ∧ Aside0 (Below w.heap.size w w'))
     case atStart => exact ⟨(0), (a1), (by first | rfl | (simp; done) | (simp [*]; done)), (by first | rfl | (simp; done) | (simp [*]; done)), H', ⟨Nat.le_refl _⟩, ⟨by repeat (first | (with_reducible first | exact HB.out | apply qJ | apply qK | apply qL) | exact HB.out)⟩⟩
     case round =>
      clear H'
      try clear c1
      try clear q1
      try clear p2
      try clear c3
      try clear c4
      try clear c6
      try clear c6b0
      try clear c6b1
      try clear c7
      try clear c7b0
      try clear c7b1
      try clear q10
      try clear c11
      try clear c11b0
      try clear p2
      try clear q1
      try clear q10
      obtain ⟨x14_2, x15_2, rfl, rfl, HA, HK2, HB⟩ := hrel
      cases gk with
      | zero => exact absurd HA.out (by simp [copperplateref19_decision.l0])
      | succ k2 =>
       have H := HA.out
       clear HA
       simp only [copperplateref19_decision.l0] at H
       by_cases c12 : x15_2 < x13_8
       ·rw [if_pos c12] at H
        have c12b0 : decide (x15_2 < x13_8) = true := decide_eq_true c12
        clear c12
        by_cases c13 : 0 ≤ x15_2
        ·rw [if_pos c13] at H
         have c13b0 : decide (0 ≤ x15_2) = true := decide_eq_true c13
         clear c13
         by_cases c14 : x15_2 < (l0.length : Int)
         ·rw [if_pos c14] at H
          have c14b0 : decide (x15_2 < (l0.length : Int)) = true := decide_eq_true c14
          clear c14
          replace H := Option.bind_eq_some_iff.mp H
          obtain ⟨⟨t177, t178⟩, A150, H⟩ := H
          replace H : (if t178 = true then ((copperplateref17_Cols.f k2 t177).bind fun t179 => (copperplateref19_decision.l0 k2 l0 a2 a3 a4 t175 x13_8 (wrap64 (x14_2 + t179)) (wrap64 (x15_2 + 1)))) else (some (true, false))) = some (r1, r2) := H
          have A15 := qM A150
          clear A150
          by_cases c16 : t178 = true
          ·subst c16
           have H1 : ((copperplateref17_Cols.f k2 t177).bind fun t179 => (copperplateref19_decision.l0 k2 l0 a2 a3 a4 t175 x13_8 (wrap64 (x14_2 + t179)) (wrap64 (x15_2 + 1)))) = some (r1, r2) := by rw [if_pos rfl] at H; exact H
           clear H
           have H := H1
           clear H1
           replace H := Option.bind_eq_some_iff.mp H
           obtain ⟨t179, A170, H⟩ := H
           replace H : (copperplateref19_decision.l0 k2 l0 a2 a3 a4 t175 x13_8 (wrap64 (x14_2 + t179)) (wrap64 (x15_2 + 1))) = some (r1, r2) := H
           have A17 := qM A170
           clear A170
           have H' := qM H
           clear H
           have p176 : 0 ≤ (x15_2 : Int) := qN (by assumption)
           have q176 : x15_2 < (l0.length : Int) := qN (by assumption)
           obtain ⟨ad176, e176, hx176_0, hx176_1⟩ := at_T34 HR0.out x15_2 p176 q176
           cases e176
           replace hx176_0 := (HB.out.cell (World.block_lt_of_cell? w _ hx176_0)).trans hx176_0
           replace hx176_1 := (HB.out.cell (World.block_lt_of_cell? w _ hx176_1)).trans hx176_1
           replace p176 := eq_true p176
           replace q176 := eq_true q176
           go_wp2_with (first | ((with_reducible refine gate_callee (f := 46) rfl ?_); refine goesL_ (some 40) rfl rfl Try.func46 (by kernel_rfl) rfl #[.agg #[.int .i64 ((rd_T34 l0 x15_2).f0), .string ((rd_T34 l0 x15_2).f1)]] rfl (by (try simp only [List.map_toArray, List.map_cons, List.map_nil]); first | done | rfl | (simp only [List.length_drop, List.length_take]; rfl)) ?_; (with_reducible refine (copperplateref17_Flat.calls k2 ((rd_T34 l0 x15_2).f0) ((rd_T34 l0 x15_2).f1) t177 true _ A15.out).mono ?_); (try clear A15); rintro e w18 ⟨rfl, hb⟩; refine ⟨_, rfl, ?_⟩; have n0_ := qM (below_step (by repeat (first | (with_reducible first | exact HB.out | apply qJ | apply qK | apply qL) | exact HB.out)) hb); clear HB; have HB := n0_; clear n0_; (try clear hb); (try clear hb2); (try clear hk); (try clear hi)) | ((with_reducible refine gate_callee (f := 47) rfl ?_); refine goesL_ (some 47) rfl rfl Try.func47 (by kernel_rfl) rfl #[.string t177] rfl (by (try simp only [List.map_toArray, List.map_cons, List.map_nil]); first | done | rfl | (simp only [List.length_drop, List.length_take]; rfl)) ?_; (with_reducible refine (copperplateref17_Cols.calls k2 t177 t179 _ A17.out).mono ?_); (try clear A17); rintro e w19 ⟨rfl, hb⟩; refine ⟨_, rfl, ?_⟩; have n0_ := qM (below_step (by repeat (first | (with_reducible first | exact HB.out | apply qJ | apply qK | apply qL) | exact HB.out)) hb); clear HB; have HB := n0_; clear n0_; (try clear hb); (try clear hb2); (try clear hk); (try clear hi)))
           go_roundg k2
           case measure => have := HJ8.out; have := HK2.out; omega
           case rel => exact ⟨(wrap64 (x14_2 + t179)), (wrap64 (x15_2 + 1)), (by first | rfl | (simp; done) | (simp [*]; done)), (by first | rfl | (simp; done) | (simp [*]; done)), H', ⟨by have := HJ8.out; have := HK2.out; omega⟩, ⟨by repeat (first | (with_reducible first | exact HB.out | apply qJ | apply qK | apply qL) | exact HB.out)⟩⟩
          ·replace c16 := Bool.eq_false_iff.mpr c16
           subst c16
           have H1 : (some (true, false)) = some (r1, r2) := by rw [if_neg (show ¬ (false = true) by decide)] at H; exact H
           clear H
           have H := H1
           clear H1
           simp only [Option.some.injEq, Prod.mk.injEq] at H
           obtain ⟨rfl, rfl⟩ := H
           have p176 : 0 ≤ (x15_2 : Int) := qN (by assumption)
           have q176 : x15_2 < (l0.length : Int) := qN (by assumption)
           obtain ⟨ad176, e176, hx176_0, hx176_1⟩ := at_T34 HR0.out x15_2 p176 q176
           cases e176
           replace hx176_0 := (HB.out.cell (World.block_lt_of_cell? w _ hx176_0)).trans hx176_0
           replace hx176_1 := (HB.out.cell (World.block_lt_of_cell? w _ hx176_1)).trans hx176_1
           replace p176 := eq_true p176
           replace q176 := eq_true q176
           go_wp2_with (first | ((with_reducible refine gate_callee (f := 46) rfl ?_); refine goesL_ (some 40) rfl rfl Try.func46 (by kernel_rfl) rfl #[.agg #[.int .i64 ((rd_T34 l0 x15_2).f0), .string ((rd_T34 l0 x15_2).f1)]] rfl (by (try simp only [List.map_toArray, List.map_cons, List.map_nil]); first | done | rfl | (simp only [List.length_drop, List.length_take]; rfl)) ?_; (with_reducible refine (copperplateref17_Flat.calls k2 ((rd_T34 l0 x15_2).f0) ((rd_T34 l0 x15_2).f1) t177 false _ A15.out).mono ?_); (try clear A15); rintro e w20 ⟨rfl, hb⟩; refine ⟨_, rfl, ?_⟩; have n0_ := qM (below_step (by repeat (first | (with_reducible first | exact HB.out | apply qJ | apply qK | apply qL) | exact HB.out)) hb); clear HB; have HB := n0_; clear n0_; (try clear hb); (try clear hb2); (try clear hk); (try clear hi)))
           go_ret2
           exact ⟨by first | rfl | (simp [errW_none, errW_some] <;> rfl) | (simp [*, errW_none, errW_some] <;> rfl), by repeat (first | (with_reducible first | exact HB.out | apply qJ | apply qK | apply qL) | exact HB.out)⟩
         ·rw [if_neg c14] at H
          exact absurd H (by simp)
        ·rw [if_neg c13] at H
         exact absurd H (by simp)
       ·rw [if_neg c12] at H
        have c12b0 : decide (x15_2 < x13_8) = false := decide_eq_false c12
        clear c12
        have HC21 := qM H
        clear H
        go_upto_if 50 with (fail)
        go_cut [14] (fun v14 wc => ∃ (kq : Nat) (x14_20 : Int), v14 = .int .i64 x14_20 ∧ Aside0 (copperplateref19_decision.j2 kq l0 a2 a3 a4 t175 x14_20 = some (r1, r2)) ∧ Aside0 (kq ≤ k2) ∧ Aside0 (Below w.heap.size w wc))
        case first =>
         have H := HC21.out
         clear HC21
         by_cases c22 : t175 ≥ 0
         ·rw [if_pos c22] at H
          have c22b0 : decide (0 ≤ t175) = true := decide_eq_true c22
          clear c22
          (first | rw [c22b0] | (simp only [i64_w, i32_w]; rw [c22b0]) | skip)
          by_cases c23 : 0 ≤ a2
          ·rw [if_pos c23] at H
           have c23b0 := eq_true c23
           have c23b1 : decide (0 ≤ a2) = true := decide_eq_true c23
           clear c23
           by_cases c24 : a2 ≤ (l0.length : Int)
           ·rw [if_pos c24] at H
            have c24b0 := eq_true c24
            have c24b1 : decide (a2 ≤ (l0.length : Int)) = true := decide_eq_true c24
            clear c24
            obtain ⟨y180, hy180⟩ : ∃ y_ : List (S34), y_ = (l0.take (a2 : Int).toNat) := ⟨_, rfl⟩
            replace H : ((copperplateref17_Behind.f k2 y180 t175).bind fun t184 => (copperplateref19_decision.j2 k2 l0 a2 a3 a4 t175 (wrap64 (x14_2 + t184)))) = some (r1, r2) := by first | (rw [hy180]; with_reducible exact H) | (have H2_ := (Option.bind_some _ _).symm.trans H; rw [hy180]; with_reducible exact H2_) | (have H2_ := (Option.bind_some _ _).symm.trans H; with_reducible exact H2_) | with_reducible exact H | (rw [hy180]; exact H) | exact H
            have Ny180 := qM hy180
            clear hy180
            replace H := Option.bind_eq_some_iff.mp H
            obtain ⟨t184, A250, H⟩ := H
            replace H : (copperplateref19_decision.j2 k2 l0 a2 a3 a4 t175 (wrap64 (x14_2 + t184))) = some (r1, r2) := H
            have A25 := qM A250
            clear A250
            have H' := qM H
            clear H
            have q26 : (a2 : Int) ≤ ((l0.length : Int) : Int) := qN (by assumption)
            obtain ⟨i026, hi026, _, hsz26, _⟩ := info_parts info34
            have hroom26 : l0.length ≤ c0 := HC0.out
            have hC26 : Kd.C k34 _ A0 l0.length l0 := HR0.out
            (try clear hcut10); (try clear hcut10); have hcut26 := cut_to (P := Try.prog) 22 34 .i64 Try.underlying22 hi026 A0 l0.length c0 a2 (qN (by assumption)) q26 hroom26
            have hr26 := Kd.C_take (m := (a2 : Int).toNat) hC26 (by omega)
            have hy26 : y180.length = (a2 : Int).toNat := (by rw [Ny180.out, List.length_take]; omega)
            rw [← Ny180.out] at hr26
            rw [← hy26] at hcut26
            have HR183 := qM hr26
            have HC183 := qM (show y180.length ≤ c0 from by omega)
            clear hr26 hC26 hroom26 hi026 hsz26
            have KY26 := qM hy26
            clear hy26
            replace q26 := eq_true q26
            go_wp2_with (first | ((with_reducible refine gate_callee (f := 48) rfl ?_); refine goesL_ (some 56) rfl rfl Try.func48 (by kernel_rfl) rfl #[.slice A0 y180.length c0, .int .i64 t175] rfl (by (try simp only [List.map_toArray, List.map_cons, List.map_nil]); first | done | rfl | (simp only [List.length_drop, List.length_take]; rfl)) ?_; (with_reducible refine (copperplateref17_Behind.calls k2 _ _ y180 t175 t184 _ ?side1 ?side2 A25.out).mono ?_); (case side1 => repeat (first | exact (Kd.C_below HR183.out HB.out) | (with_reducible first | apply qO | apply qP | apply qQ))); (case side2 => exact HC183.out); (try clear A25); rintro e w27 ⟨rfl, hb⟩; refine ⟨_, rfl, ?_⟩; have n0_ := qM (below_step (by repeat (first | (with_reducible first | exact HB.out | apply qJ | apply qK | apply qL) | exact HB.out)) hb); clear HB; have HB := n0_; clear n0_; (try clear hb); (try clear hb2); (try clear hk); (try clear hi)))
            go_meet
            case rel => exact ⟨_, (wrap64 (x14_2 + t184)), (by first | rfl | (simp; done) | (simp [*]; done)), H', ⟨by have := HJ8.out; have := HK2.out; first | omega | exact Nat.le_refl _⟩, ⟨by repeat (first | (with_reducible first | exact HB.out | apply qJ | apply qK | apply qL) | exact HB.out)⟩⟩
           ·rw [if_neg c24] at H
            exact absurd H (by simp)
          ·rw [if_neg c23] at H
           exact absurd H (by simp)
         ·rw [if_neg c22] at H
          have c22b0 : decide (0 ≤ t175) = false := decide_eq_false c22
          clear c22
          (first | rw [c22b0] | (simp only [i64_w, i32_w]; rw [c22b0]) | skip)
          have H' := qM H
          clear H
          go_wp2
          go_meet
          case rel => exact ⟨_, (x14_2), (by first | rfl | (simp; done) | (simp [*]; done)), H', ⟨by have := HJ8.out; have := HK2.out; first | omega | exact Nat.le_refl _⟩, ⟨by repeat (first | (with_reducible first | exact HB.out | apply qJ | apply qK | apply qL) | exact HB.out)⟩⟩
        case rest =>
         clear HC21
         try clear c1
         try clear p1
         try clear q1
         try clear hx1
         try clear c2
         try clear p2
         try clear q2
         try clear c3
         try clear c4
         try clear c6
         try clear c6b0
         try clear c6b1
         try clear p6
         try clear c7
         try clear c7b0
         try clear c7b1
         try clear q10
         try clear c11
         try clear c11b0
         try clear c12
         try clear c12b0
         try clear c13
         try clear c13b0
         try clear c14
         try clear c14b0
         try clear c16
         try clear p17
         try clear q17
         try clear hx17
         try clear c22
         try clear c22b0
         try clear c23
         try clear c23b0
         try clear c23b1
         try clear c24
         try clear c24b0
         try clear c24b1
         try clear q26
         try clear hx176_0
         try clear hx176_1
         try clear p176
         try clear p2
         try clear q1
         try clear q10
         try clear q176
         try clear q26
         obtain ⟨kq, x14_20, rfl, HA, HJ20, HB⟩ := hcut
         cases kq with
         | zero => exact absurd HA.out (by simp [copperplateref19_decision.j2])
         | succ kj20 =>
          have H := HA.out
          clear HA
          simp only [copperplateref19_decision.j2] at H
          by_cases c28 : (wrap64 (a3 + x14_20)) > a4
          ·rw [if_pos c28] at H
           have c28b0 : decide (a4 < (wrap64 (a3 + x14_20))) = true := decide_eq_true c28
           clear c28
           simp only [Option.some.injEq, Prod.mk.injEq] at H
           obtain ⟨rfl, rfl⟩ := H
           (try (have hw_ : wrap64 (a3 + x14_20) = (a3 + x14_20) := (by unfold wrap64; omega); have c28b0u := c28b0; rw [hw_] at c28b0u))
           go_wp2
           go_ret2
           exact ⟨by first | rfl | (simp [errW_none, errW_some] <;> rfl) | (simp [*, errW_none, errW_some] <;> rfl), by repeat (first | (with_reducible first | exact HB.out | apply qJ | apply qK | apply qL) | exact HB.out)⟩
          ·rw [if_neg c28] at H
           have c28b0 : decide (a4 < (wrap64 (a3 + x14_20))) = false := decide_eq_false c28
           clear c28
           have H' := qM H
           clear H
           (try (have hw_ : wrap64 (a3 + x14_20) = (a3 + x14_20) := (by unfold wrap64; omega); have c28b0u := c28b0; rw [hw_] at c28b0u))
           go_wp2
           go_loopg [18] kj20 (fun kq v18 w' => ∃ (x18_4 : Int), v18 = .int .i64 x18_4 ∧ Aside0 (copperplateref19_decision.l1 kq l0 a2 t175 x18_4 = some (r1, r2)) ∧ Aside0 (kq ≤ kj20) ∧ Aside0 (Below w.heap.size w w'))
           case atStart => exact ⟨(t175), (by first | rfl | (simp; done) | (simp [*]; done)), H', ⟨Nat.le_refl _⟩, ⟨by repeat (first | (with_reducible first | exact HB.out | apply qJ | apply qK | apply qL) | exact HB.out)⟩⟩
           case round =>
            clear H'
            try clear c1
            try clear p1
            try clear q1
            try clear hx1
            try clear c2
            try clear p2
            try clear q2
            try clear c3
            try clear c4
            try clear c6
            try clear c6b0
            try clear c6b1
            try clear p6
            try clear c7
            try clear c7b0
            try clear c7b1
            try clear q10
            try clear c11
            try clear c11b0
            try clear c12
            try clear c12b0
            try clear c13
            try clear c13b0
            try clear c14
            try clear c14b0
            try clear c16
            try clear p17
            try clear q17
            try clear hx17
            try clear c22
            try clear c22b0
            try clear c23
            try clear c23b0
            try clear c23b1
            try clear c24
            try clear c24b0
            try clear c24b1
            try clear q26
            try clear c28
            try clear c28b0
            try clear hx176_0
            try clear hx176_1
            try clear p1
            try clear p17
            try clear p176
            try clear p2
            try clear p6
            try clear q1
            try clear q10
            try clear q17
            try clear q176
            try clear q2
            try clear q26
            obtain ⟨x18_4, rfl, HA, HK4, HB⟩ := hrel
            cases gk with
            | zero => exact absurd HA.out (by simp [copperplateref19_decision.l1])
            | succ k4 =>
             have H := HA.out
             clear HA
             simp only [copperplateref19_decision.l1] at H
             have HC29 := qM H
             clear H
             go_upto_region 18 with (fail)
             go_cut [70] (fun v70 wc => ∃ (kq : Nat) (x70_28 : Bool), v70 = .bool x70_28 ∧ Aside0 (copperplateref19_decision.j4 kq l0 a2 t175 x18_4 x70_28 = some (r1, r2)) ∧ Aside0 (kq ≤ k4) ∧ Aside0 (Below w.heap.size w wc))
             case first =>
              have H := HC29.out
              clear HC29
              by_cases c30 : x18_4 < a2
              ·rw [if_pos c30] at H
               have c30b0 : decide (x18_4 < a2) = true := decide_eq_true c30
               clear c30
               (first | rw [c30b0] | (simp only [i64_w, i32_w]; rw [c30b0]) | skip)
               have H' := qM H
               clear H
               (try (have hw_ : wrap64 (a3 + x14_20) = (a3 + x14_20) := (by unfold wrap64; omega); have c28b0u := c28b0; rw [hw_] at c28b0u))
               go_wp2
               go_meet
               case rel => exact ⟨_, (decide (t175 ≥ 0)), (by first | rfl | (simp; done) | (simp [*]; done)), H', ⟨by have := HJ8.out; have := HK2.out; have := HJ20.out; have := HK4.out; first | omega | exact Nat.le_refl _⟩, ⟨by repeat (first | (with_reducible first | exact HB.out | apply qJ | apply qK | apply qL) | exact HB.out)⟩⟩
              ·rw [if_neg c30] at H
               have c30b0 : decide (x18_4 < a2) = false := decide_eq_false c30
               clear c30
               (first | rw [c30b0] | (simp only [i64_w, i32_w]; rw [c30b0]) | skip)
               have H' := qM H
               clear H
               (try (have hw_ : wrap64 (a3 + x14_20) = (a3 + x14_20) := (by unfold wrap64; omega); have c28b0u := c28b0; rw [hw_] at c28b0u))
               go_wp2
               go_meet
               case rel => exact ⟨_, (false), (by first | rfl | (simp; done) | (simp [*]; done)), H', ⟨by have := HJ8.out; have := HK2.out; have := HJ20.out; have := HK4.out; first | omega | exact Nat.le_refl _⟩, ⟨by repeat (first | (with_reducible first | exact HB.out | apply qJ | apply qK | apply qL) | exact HB.out)⟩⟩
             case rest =>
              clear HC29
              try clear c1
              try clear p1
              try clear q1
              try clear hx1
              try clear c2
              try clear p2
              try clear q2
              try clear c3
              try clear c4
              try clear c6
              try clear c6b0
              try clear c6b1
              try clear p6
              try clear c7
              try clear c7b0
              try clear c7b1
              try clear q10
              try clear c11
              try clear c11b0
              try clear c12
              try clear c12b0
              try clear c13
              try clear c13b0
              try clear c14
              try clear c14b0
              try clear c16
              try clear p17
              try clear q17
              try clear hx17
              try clear c22
              try clear c22b0
              try clear c23
              try clear c23b0
              try clear c23b1
              try clear c24
              try clear c24b0
              try clear c24b1
              try clear q26
              try clear c28
              try clear c28b0
              try clear c30
              try clear c30b0
              try clear hx176_0
              try clear hx176_1
              try clear p1
              try clear p17
              try clear p176
              try clear p2
              try clear p6
              try clear q1
              try clear q10
              try clear q17
              try clear q176
              try clear q2
              try clear q26
              obtain ⟨kq, x70_28, rfl, HA, HJ28, HB⟩ := hcut
              cases kq with
              | zero => exact absurd HA.out (by simp [copperplateref19_decision.j4])
              | succ kj28 =>
               have H := HA.out
               clear HA
               simp only [copperplateref19_decision.j4] at H
               by_cases c31 : x70_28 = true
               ·subst c31
                have H1 : (if 0 ≤ x18_4 then (if x18_4 < (l0.length : Int) then ((copperplateref17_Breaks.f ((rd_T34 l0 x18_4).f0) ((rd_T34 l0 x18_4).f1)).bind fun t186 => (if t186 = true then (some (true, true)) else (copperplateref19_decision.l1 kj28 l0 a2 t175 (wrap64 (x18_4 + 1))))) else (none)) else (none)) = some (r1, r2) := by rw [if_pos rfl] at H; exact H
                clear H
                have H := H1
                clear H1
                by_cases c32 : 0 ≤ x18_4
                ·rw [if_pos c32] at H
                 have c32b0 : decide (0 ≤ x18_4) = true := decide_eq_true c32
                 clear c32
                 by_cases c33 : x18_4 < (l0.length : Int)
                 ·rw [if_pos c33] at H
                  have c33b0 : decide (x18_4 < (l0.length : Int)) = true := decide_eq_true c33
                  clear c33
                  replace H := Option.bind_eq_some_iff.mp H
                  obtain ⟨t186, A340, H⟩ := H
                  replace H : (if t186 = true then (some (true, true)) else (copperplateref19_decision.l1 kj28 l0 a2 t175 (wrap64 (x18_4 + 1)))) = some (r1, r2) := H
                  have A34 := qM A340
                  clear A340
                  by_cases c35 : t186 = true
                  ·subst c35
                   have H1 : (some (true, true)) = some (r1, r2) := by rw [if_pos rfl] at H; exact H
                   clear H
                   have H := H1
                   clear H1
                   simp only [Option.some.injEq, Prod.mk.injEq] at H
                   obtain ⟨rfl, rfl⟩ := H
                   have p185 : 0 ≤ (x18_4 : Int) := qN (by assumption)
                   have q185 : x18_4 < (l0.length : Int) := qN (by assumption)
                   obtain ⟨ad185, e185, hx185_0, hx185_1⟩ := at_T34 HR0.out x18_4 p185 q185
                   cases e185
                   replace hx185_0 := (HB.out.cell (World.block_lt_of_cell? w _ hx185_0)).trans hx185_0
                   replace hx185_1 := (HB.out.cell (World.block_lt_of_cell? w _ hx185_1)).trans hx185_1
                   replace p185 := eq_true p185
                   replace q185 := eq_true q185
                   (try (have hw_ : wrap64 (a3 + x14_20) = (a3 + x14_20) := (by unfold wrap64; omega); have c28b0u := c28b0; rw [hw_] at c28b0u))
                   go_wp2_with (first | ((with_reducible refine gate_callee (f := 49) rfl ?_); refine goesL_ (some 77) rfl rfl Try.func49 (by kernel_rfl) rfl #[.agg #[.int .i64 ((rd_T34 l0 x18_4).f0), .string ((rd_T34 l0 x18_4).f1)]] rfl (by (try simp only [List.map_toArray, List.map_cons, List.map_nil]); first | done | rfl | (simp only [List.length_drop, List.length_take]; rfl)) ?_; (with_reducible refine (copperplateref17_Breaks.calls ((rd_T34 l0 x18_4).f0) ((rd_T34 l0 x18_4).f1) true _ A34.out).mono ?_); (try clear A34); rintro e w36 ⟨rfl, hb⟩; refine ⟨_, rfl, ?_⟩; have n0_ := qM (below_step (by repeat (first | (with_reducible first | exact HB.out | apply qJ | apply qK | apply qL) | exact HB.out)) hb); clear HB; have HB := n0_; clear n0_; (try clear hb); (try clear hb2); (try clear hk); (try clear hi)))
                   go_ret2
                   exact ⟨by first | rfl | (simp [errW_none, errW_some] <;> rfl) | (simp [*, errW_none, errW_some] <;> rfl), by repeat (first | (with_reducible first | exact HB.out | apply qJ | apply qK | apply qL) | exact HB.out)⟩
                  ·replace c35 := Bool.eq_false_iff.mpr c35
                   subst c35
                   have H1 : (copperplateref19_decision.l1 kj28 l0 a2 t175 (wrap64 (x18_4 + 1))) = some (r1, r2) := by rw [if_neg (show ¬ (false = true) by decide)] at H; exact H
                   clear H
                   have H := H1
                   clear H1
                   have H' := qM H
                   clear H
                   have p185 : 0 ≤ (x18_4 : Int) := qN (by assumption)
                   have q185 : x18_4 < (l0.length : Int) := qN (by assumption)
                   obtain ⟨ad185, e185, hx185_0, hx185_1⟩ := at_T34 HR0.out x18_4 p185 q185
                   cases e185
                   replace hx185_0 := (HB.out.cell (World.block_lt_of_cell? w _ hx185_0)).trans hx185_0
                   replace hx185_1 := (HB.out.cell (World.block_lt_of_cell? w _ hx185_1)).trans hx185_1
                   replace p185 := eq_true p185
                   replace q185 := eq_true q185
                   (try (have hw_ : wrap64 (a3 + x14_20) = (a3 + x14_20) := (by unfold wrap64; omega); have c28b0u := c28b0; rw [hw_] at c28b0u))
                   go_wp2_with (first | ((with_reducible refine gate_callee (f := 49) rfl ?_); refine goesL_ (some 77) rfl rfl Try.func49 (by kernel_rfl) rfl #[.agg #[.int .i64 ((rd_T34 l0 x18_4).f0), .string ((rd_T34 l0 x18_4).f1)]] rfl (by (try simp only [List.map_toArray, List.map_cons, List.map_nil]); first | done | rfl | (simp only [List.length_drop, List.length_take]; rfl)) ?_; (with_reducible refine (copperplateref17_Breaks.calls ((rd_T34 l0 x18_4).f0) ((rd_T34 l0 x18_4).f1) false _ A34.out).mono ?_); (try clear A34); rintro e w37 ⟨rfl, hb⟩; refine ⟨_, rfl, ?_⟩; have n0_ := qM (below_step (by repeat (first | (with_reducible first | exact HB.out | apply qJ | apply qK | apply qL) | exact HB.out)) hb); clear HB; have HB := n0_; clear n0_; (try clear hb); (try clear hb2); (try clear hk); (try clear hi)))
                   go_roundg kj28
                   case measure => have := HJ8.out; have := HK2.out; have := HJ20.out; have := HK4.out; have := HJ28.out; omega
                   case rel => exact ⟨(wrap64 (x18_4 + 1)), (by first | rfl | (simp; done) | (simp [*]; done)), H', ⟨by have := HJ8.out; have := HK2.out; have := HJ20.out; have := HK4.out; have := HJ28.out; omega⟩, ⟨by repeat (first | (with_reducible first | exact HB.out | apply qJ | apply qK | apply qL) | exact HB.out)⟩⟩
                 ·rw [if_neg c33] at H
                  exact absurd H (by simp)
                ·rw [if_neg c32] at H
                 exact absurd H (by simp)
               ·replace c31 := Bool.eq_false_iff.mpr c31
                subst c31
                have H1 : (some (false, false)) = some (r1, r2) := by rw [if_neg (show ¬ (false = true) by decide)] at H; exact H
                clear H
                have H := H1
                clear H1
                simp only [Option.some.injEq, Prod.mk.injEq] at H
                obtain ⟨rfl, rfl⟩ := H
                (try (have hw_ : wrap64 (a3 + x14_20) = (a3 + x14_20) := (by unfold wrap64; omega); have c28b0u := c28b0; rw [hw_] at c28b0u))
                go_wp2
                go_ret2
                exact ⟨by first | rfl | (simp [errW_none, errW_some] <;> rfl) | (simp [*, errW_none, errW_some] <;> rfl), by repeat (first | (with_reducible first | exact HB.out | apply qJ | apply qK | apply qL) | exact HB.out)⟩
  ·rw [if_neg c7] at H
   exact absurd H (by simp)
 ·rw [if_neg c6] at H
  exact absurd H (by simp)

/-! ### copperplateref18_Line: function 50 -/
def copperplateref18_Line.f (a0_0 : ByteArray) (a0_1 : Int) (a0_2 : Int) (a0_3 : Int) (a0_4 : Int) : Option (ByteArray × Int × Int × Int × Int) := if a0_0.size + 1 ≤ 9223372036854775807 then (some (a0_0 ++ (⟨#[10]⟩ : ByteArray), a0_1, a0_1, a0_1, a0_4)) else (none)
set_option maxHeartbeats 8000000 in
set_option maxRecDepth 100000 in
theorem copperplateref18_Line.calls (a0_0 : ByteArray) (a0_1 : Int) (a0_2 : Int) (a0_3 : Int) (a0_4 : Int) (r1 : ByteArray) (r2 : Int) (r3 : Int) (r4 : Int) (r5 : Int) (w : World) (h : copperplateref18_Line.f a0_0 a0_1 a0_2 a0_3 a0_4 = some (r1, r2, r3, r4, r5)) :
    Calls Try.prog 50 #[.agg #[.string a0_0, .int .i64 a0_1, .int .i64 a0_2, .int .i64 a0_3, .int .i64 a0_4]] w fun e w' => e = .returned (.agg #[.string r1, .int .i64 r2, .int .i64 r3, .int .i64 r4, .int .i64 r5]) ∧ Below w.heap.size w w' := by
  have hu56 := Try.underlying56
  have HB := Aside0.mk (Below.refl w.heap.size w)
  have H : (if a0_0.size + 1 ≤ 9223372036854775807 then (some (a0_0 ++ (⟨#[10]⟩ : ByteArray), a0_1, a0_1, a0_1, a0_4)) else (none)) = some (r1, r2, r3, r4, r5) := h
  clear h
  by_cases c2 : a0_0.size + 1 ≤ 9223372036854775807
  · rw [if_pos c2] at H
    have c2b0 := eq_true c2
    have c2b1 : decide (a0_0.size + 1 ≤ 9223372036854775807) = true := decide_eq_true c2
    try have c2b2 : (9223372036854775807 < a0_0.size + 1) = False := eq_false (Nat.not_lt.2 c2)
    simp only [Option.some.injEq, Prod.mk.injEq] at H
    obtain ⟨rfl, rfl, rfl, rfl, rfl⟩ := H
    go_enter Try.func50, Try.ntmps50
    go_wp2_with (first | ((with_reducible refine gate_dst (N := 1) rfl ?_); refine box_event ?hg (N := 1) ?hd (cs := #[.string a0_0, .int .i64 a0_1, .int .i64 a0_2, .int .i64 a0_3, .int .i64 a0_4]) (t := 56) ?hr ?_; (case hd => rfl); (case hg => rfl); (case hr => first | (go_simp; done) | (go_simp; rfl)); intro gb187 hg w3 hbox hb; have n0_ := Aside0.mk (below_step (by repeat (first | (with_reducible first | exact HB.out | apply below_alloc | apply pw_below_drewN | apply below_drew1) | exact HB.out)) hb); have n1_ := Aside0.mk (hbox); have n2_ := Aside0.mk ((by rw [hg]; exact (below_size (by repeat (first | (with_reducible first | exact HB.out | apply below_alloc | apply pw_below_drewN | apply below_drew1) | exact HB.out))) : w.heap.size ≤ gb187)); have n3_ := Aside0.mk ((by rw [hg]; exact (below_size (by repeat (first | (with_reducible first | exact HB.out | apply below_alloc | apply pw_below_drewN | apply below_drew1) | exact HB.out))) : w.heap.size ≤ gb187)); clear HB; have HB := n0_; have BK187 := n1_; have GW187 := n2_; have GE187 := n3_; clear n0_ n1_ n2_ n3_; clear hb hbox hg) | ((with_reducible refine gate_dst (N := 2) rfl ?_); refine box_event ?hg (N := 2) ?hd (cs := #[.string (⟨#[]⟩ : ByteArray), .int .i64 0, .int .i64 0, .int .i64 0, .int .i64 0]) (t := 56) ?hr ?_; (case hd => rfl); (case hg => rfl); (case hr => first | (go_simp; done) | (go_simp; rfl)); intro gb188 hg w4 hbox hb; have n0_ := Aside0.mk (blk_below (g := gb187) (o := .cells #[.string a0_0, .int .i64 a0_1, .int .i64 a0_2, .int .i64 a0_3, .int .i64 a0_4] 56 (0, 0)) (by (with_reducible repeat (first | refine blk_drewN ?_ _ | refine blk_drew ?_ | refine blk_alloc ?_ _)); exact BK187.out) hb); have n1_ := Aside0.mk (below_step (by repeat (first | (with_reducible first | exact HB.out | apply below_alloc | apply pw_below_drewN | apply below_drew1 | refine below_set ?_ GE187.out) | exact HB.out)) hb); have n2_ := Aside0.mk (hbox); have n3_ := Aside0.mk ((by rw [hg]; exact (below_size (by repeat (first | (with_reducible first | exact HB.out | apply below_alloc | apply pw_below_drewN | apply below_drew1 | refine below_set ?_ GE187.out) | exact HB.out))) : w.heap.size ≤ gb188)); have n4_ := Aside0.mk ((by rw [hg]; exact (below_size (by repeat (first | (with_reducible first | exact HB.out | apply below_alloc | apply pw_below_drewN | apply below_drew1 | refine below_set ?_ GE187.out) | exact HB.out))) : w.heap.size ≤ gb188)); have n5_ := Aside0.mk ((by rw [hg]; exact Nat.ne_of_lt (blk_lt (g := gb187) (o := .cells #[.string a0_0, .int .i64 a0_1, .int .i64 a0_2, .int .i64 a0_3, .int .i64 a0_4] 56 (0, 0)) (by (with_reducible repeat (first | refine blk_drewN ?_ _ | refine blk_drew ?_ | refine blk_alloc ?_ _)); exact BK187.out)) : gb187 ≠ gb188)); have n6_ := Aside0.mk ((by rw [hg]; exact Nat.ne_of_gt (blk_lt (g := gb187) (o := .cells #[.string a0_0, .int .i64 a0_1, .int .i64 a0_2, .int .i64 a0_3, .int .i64 a0_4] 56 (0, 0)) (by (with_reducible repeat (first | refine blk_drewN ?_ _ | refine blk_drew ?_ | refine blk_alloc ?_ _)); exact BK187.out)) : gb188 ≠ gb187)); clear BK187; clear HB; have BK187 := n0_; have HB := n1_; have BK188 := n2_; have GW188 := n3_; have GE188 := n4_; have NB187_188 := n5_; have NB188_187 := n6_; clear n0_ n1_ n2_ n3_ n4_ n5_ n6_; clear hb hbox hg; have hnb5 := NB187_188.out; have hnc5 := NB188_187.out; have hcz6_0 : w4.cell? ⟨gb187, 0, none⟩ = some (.string a0_0) := (blk_cell BK187.out 0).trans rfl; have hcz6_1 : w4.cell? ⟨gb187, 1, none⟩ = some (.int .i64 a0_1) := (blk_cell BK187.out 1).trans rfl; have hcz6_2 : w4.cell? ⟨gb187, 2, none⟩ = some (.int .i64 a0_2) := (blk_cell BK187.out 2).trans rfl; have hcz6_3 : w4.cell? ⟨gb187, 3, none⟩ = some (.int .i64 a0_3) := (blk_cell BK187.out 3).trans rfl; have hcz6_4 : w4.cell? ⟨gb187, 4, none⟩ = some (.int .i64 a0_4) := (blk_cell BK187.out 4).trans rfl; have hfz6_0 := blk_frozen BK187.out 0; have hfz6_1 := blk_frozen BK187.out 1; have hfz6_2 := blk_frozen BK187.out 2; have hfz6_3 := blk_frozen BK187.out 3; have hfz6_4 := blk_frozen BK187.out 4; have hcz7_0 : w4.cell? ⟨gb188, 0, none⟩ = some (.string (⟨#[]⟩ : ByteArray)) := (blk_cell BK188.out 0).trans rfl; have hcz7_1 : w4.cell? ⟨gb188, 1, none⟩ = some (.int .i64 0) := (blk_cell BK188.out 1).trans rfl; have hcz7_2 : w4.cell? ⟨gb188, 2, none⟩ = some (.int .i64 0) := (blk_cell BK188.out 2).trans rfl; have hcz7_3 : w4.cell? ⟨gb188, 3, none⟩ = some (.int .i64 0) := (blk_cell BK188.out 3).trans rfl; have hcz7_4 : w4.cell? ⟨gb188, 4, none⟩ = some (.int .i64 0) := (blk_cell BK188.out 4).trans rfl; have hfz7_0 := blk_frozen BK188.out 0; have hfz7_1 := blk_frozen BK188.out 1; have hfz7_2 := blk_frozen BK188.out 2; have hfz7_3 := blk_frozen BK188.out 3; have hfz7_4 := blk_frozen BK188.out 4))
    refine bodyPost_ret (results_cell_row rfl _ _ gb188 56 #[.string (a0_0 ++ (⟨#[10]⟩ : ByteArray)), .int .i64 a0_1, .int .i64 a0_1, .int .i64 a0_1, .int .i64 a0_4] (0, 0) _ rfl (by (with_reducible repeat (first | refine blk_drewN ?_ _ | refine blk_drew ?_ | refine blk_alloc ?_ _)); refine blk_put (cs := #[.string (a0_0 ++ (⟨#[10]⟩ : ByteArray)), .int .i64 a0_1, .int .i64 a0_1, .int .i64 a0_1, .int .i64 0]) ?_ 4 _ rfl; (with_reducible repeat (first | refine blk_drewN ?_ _ | refine blk_drew ?_ | refine blk_alloc ?_ _)); refine blk_put (cs := #[.string (a0_0 ++ (⟨#[10]⟩ : ByteArray)), .int .i64 a0_1, .int .i64 a0_1, .int .i64 0, .int .i64 0]) ?_ 3 _ rfl; (with_reducible repeat (first | refine blk_drewN ?_ _ | refine blk_drew ?_ | refine blk_alloc ?_ _)); refine blk_put (cs := #[.string (a0_0 ++ (⟨#[10]⟩ : ByteArray)), .int .i64 a0_1, .int .i64 0, .int .i64 0, .int .i64 0]) ?_ 2 _ rfl; (with_reducible repeat (first | refine blk_drewN ?_ _ | refine blk_drew ?_ | refine blk_alloc ?_ _)); refine blk_put (cs := #[.string (a0_0 ++ (⟨#[10]⟩ : ByteArray)), .int .i64 0, .int .i64 0, .int .i64 0, .int .i64 0]) ?_ 1 _ rfl; (with_reducible repeat (first | refine blk_drewN ?_ _ | refine blk_drew ?_ | refine blk_alloc ?_ _)); refine blk_put (cs := #[.string (⟨#[]⟩ : ByteArray), .int .i64 0, .int .i64 0, .int .i64 0, .int .i64 0]) ?_ 0 _ rfl; (with_reducible repeat (first | refine blk_drewN ?_ _ | refine blk_drew ?_ | refine blk_alloc ?_ _)); refine blk_far ?_ NB188_187.out _; (with_reducible repeat (first | refine blk_drewN ?_ _ | refine blk_drew ?_ | refine blk_alloc ?_ _)); refine blk_far ?_ NB188_187.out _; (with_reducible repeat (first | refine blk_drewN ?_ _ | refine blk_drew ?_ | refine blk_alloc ?_ _)); refine blk_far ?_ NB188_187.out _; (with_reducible repeat (first | refine blk_drewN ?_ _ | refine blk_drew ?_ | refine blk_alloc ?_ _)); exact BK188.out) Try.underlying56 rfl (by kernel_rfl)) rfl ?_
    exact ⟨by first | rfl | (simp [errW_none, errW_some] <;> rfl) | (simp [*, errW_none, errW_some] <;> rfl), by repeat (first | (with_reducible first | exact HB.out | apply below_alloc | apply pw_below_drewN | apply below_drew1 | refine below_set ?_ GE187.out | refine below_set ?_ GE188.out) | exact HB.out)⟩
  · rw [if_neg c2] at H
    exact absurd H (by simp)

/-! ### copperplateref18_blanks: function 61 -/
def copperplateref18_blanks.l0 : Nat → Int → ByteArray → Int → Option (ByteArray)
  | 0, _, _, _ => none
  | k + 1, x0, x3, x4 => if x4 < x0 then (if x3.size + 1 ≤ 9223372036854775807 then (copperplateref18_blanks.l0 k x0 (x3 ++ (⟨#[32]⟩ : ByteArray)) (wrap64 (x4 + 1))) else (none)) else (some x3)
def copperplateref18_blanks.f (k : Nat) (a0 : Int) : Option (ByteArray) := copperplateref18_blanks.l0 k a0 (⟨#[]⟩ : ByteArray) 0
theorem copperplateref18_blanks.mono_l : ∀ k, (∀ y0 y1 y2, LeO (copperplateref18_blanks.l0 k y0 y1 y2) (copperplateref18_blanks.l0 (k + 1) y0 y1 y2))
  | 0 => fun _ _ _ r h => by simp [copperplateref18_blanks.l0] at h
  | k + 1 => by
    have ih0 := copperplateref18_blanks.mono_l k
    · intro y0 y1 y2
      unfold copperplateref18_blanks.l0
      repeat' first
      | (with_reducible exact ih0 _ _ _)
      | (with_reducible exact LeO.refl _)
      | (with_reducible exact LeO.none _)
      | (with_reducible refine LeO.ite ?_ ?_)
      | (with_reducible refine LeO.bind ?_ (fun _ => ?_))
      | exact ih0 _ _ _
      | exact LeO.none _
      | refine LeO.ite ?_ ?_
      | refine LeO.bind ?_ (fun _ => ?_)
theorem copperplateref18_blanks.mono : ∀ a0 k, LeO (copperplateref18_blanks.f k a0) (copperplateref18_blanks.f (k + 1) a0) := by
  intro a0 k
  have ih0 := copperplateref18_blanks.mono_l k
  unfold copperplateref18_blanks.f
  repeat' first
      | (with_reducible exact ih0 _ _ _)
      | (with_reducible exact LeO.refl _)
      | (with_reducible exact LeO.none _)
      | (with_reducible refine LeO.ite ?_ ?_)
      | (with_reducible refine LeO.bind ?_ (fun _ => ?_))
      | exact ih0 _ _ _
      | exact LeO.none _
      | refine LeO.ite ?_ ?_
      | refine LeO.bind ?_ (fun _ => ?_)
set_option maxHeartbeats 8000000 in
set_option maxRecDepth 100000 in
theorem copperplateref18_blanks.calls (k : Nat) (a0 : Int) (r : ByteArray) (w : World) (h : copperplateref18_blanks.f k a0 = some r) :
    Calls Try.prog 61 #[.int .i64 a0] w fun e w' => e = .returned (.string r) ∧ Drawn0 w w' := by
  have H : (copperplateref18_blanks.l0 k a0 (⟨#[]⟩ : ByteArray) 0) = some r := h
  clear h
  have H' := Aside0.mk H
  clear H
  go_enter Try.func61, Try.ntmps61
  go_wp2
  go_loopg [3, 4] k (fun kq v3 v4 w' => ∃ (x3_1 : ByteArray) (x4_1 : Int), v3 = .string x3_1 ∧ v4 = .int .i64 x4_1 ∧ Aside0 (copperplateref18_blanks.l0 kq a0 x3_1 x4_1 = some r) ∧ Aside0 (kq ≤ k) ∧ Drawn0 w w')
  case atStart => exact ⟨((⟨#[]⟩ : ByteArray)), (0), (by first | rfl | (simp; done) | (simp [*]; done)), (by first | rfl | (simp; done) | (simp [*]; done)), H', ⟨Nat.le_refl _⟩, by repeat (first | exact Drawn0.refl _ | apply Drawn0.step)⟩
  case round =>
    clear H'
    obtain ⟨x3_1, x4_1, rfl, rfl, HA, HK1, ⟨m1, rfl⟩⟩ := hrel
    cases gk with
    | zero => exact absurd HA.out (by simp [copperplateref18_blanks.l0])
    | succ k1 =>
      have H := HA.out
      clear HA
      simp only [copperplateref18_blanks.l0] at H
      by_cases c2 : x4_1 < a0
      · rw [if_pos c2] at H
        have c2b0 : decide (x4_1 < a0) = true := decide_eq_true c2
        clear c2
        by_cases c3 : x3_1.size + 1 ≤ 9223372036854775807
        · rw [if_pos c3] at H
          have c3b0 := eq_true c3
          have c3b1 : decide (x3_1.size + 1 ≤ 9223372036854775807) = true := decide_eq_true c3
          try have c3b2 : (9223372036854775807 < x3_1.size + 1) = False := eq_false (Nat.not_lt.2 c3)
          have H' := Aside0.mk H
          clear H
          go_wp2
          go_roundg k1
          case measure => have := HK1.out; omega
          case rel => exact ⟨(x3_1 ++ (⟨#[32]⟩ : ByteArray)), (wrap64 (x4_1 + 1)), (by first | rfl | (simp; done) | (simp [*]; done)), (by first | rfl | (simp; done) | (simp [*]; done)), H', ⟨by have := HK1.out; omega⟩, by repeat (first | exact Drawn0.refl _ | apply Drawn0.step)⟩
        · rw [if_neg c3] at H
          exact absurd H (by simp)
      · rw [if_neg c2] at H
        have c2b0 : decide (x4_1 < a0) = false := decide_eq_false c2
        clear c2
        obtain rfl := Option.some.inj H
        go_wp2
        go_ret
        exact ⟨by first | rfl | (simp; done) | (simp [*]; done), by repeat (first | exact Drawn0.refl _ | apply Drawn0.step)⟩

end Go.Proofs.Ytkhlfdoeploddaa.PFlow
