-- Written by a program of the session (drive.py, over the kit's print.py with contracts by hand). Not trusted: Lean checks it.
import Derived.Test.YtkhlfdoeploddaaPFlowx0
import Derived.Test.YtkhlfdoeploddaaPFlowx9
import Derived.Test.YtkhlfdoeploddaaPFlowx12
import Derived.Test.YtkhlfdoeploddaaPFlowx14
import Derived.Test.YtkhlfdoeploddaaPFlowx19
import Derived.Test.YtkhlfdoeploddaaHFlowFlowA
import Derived.Test.YtkhlfdoeploddaaHFlowFlowF
import Derived.Test.YtkhlfdoeploddaaHFlowRef18P
namespace Go.Proofs.Ytkhlfdoeploddaa.PFlow
open Go.RowKit Go.Proofs.YtkhlfdoeploddaaW.PrintWords Go.Proofs.YtkhlfdoeploddaaW.PrintLast Go.Proofs.YtkhlfdoeploddaaW.PrintMore
attribute [local go_sem] max2_int min2_int max_two min_two max_three min_three max_four min_four   -- for this text's walks alone
set_option linter.unusedVariables false
set_option linter.unusedSimpArgs false

/-! ### copperplateref19_Flow: function 15 -/
mutual
def copperplateref19_Flow.j0 : Nat → List (S34) → Int → Int → Bool → Option (ByteArray × Int × Bool)
 | 0, _, _, _, _ => none
 | k + 1, x0, x1, x2, x29 => if x29 = true then (some ((⟨#[]⟩ : ByteArray), 0, false)) else (copperplateref19_Flow.l0 k x0 x1 x2 0 (⟨#[]⟩ : ByteArray) 0 0 0 (-1))
def copperplateref19_Flow.l0 : Nat → List (S34) → Int → Int → Int → ByteArray → Int → Int → Int → Int → Option (ByteArray × Int × Bool)
 | 0, _, _, _, _, _, _, _, _, _ => none
 | k + 1, x0, x1, x2, x11, x195000, x195001, x195002, x195003, x195004 => if x11 < x2 then (if 0 ≤ x11 then (if x11 < (x0.length : Int) then (if ((rd_T34 x0 x11).f0) = 6 then (copperplateref19_Flow.j2 k x0 x1 x2 x11 false (decide (x195004 < 0)) x195000 x195001 x195002 x195003 x195004) else (copperplateref19_Flow.j2 k x0 x1 x2 x11 false false x195000 x195001 x195002 x195003 x195004)) else (none)) else (none)) else (some (x195000, 0, true))
def copperplateref19_Flow.j2 : Nat → List (S34) → Int → Int → Int → Bool → Bool → ByteArray → Int → Int → Int → Int → Option (ByteArray × Int × Bool)
 | 0, _, _, _, _, _, _, _, _, _, _, _ => none
 | k + 1, x0, x1, x2, x11, x12, x46, x195000, x195001, x195002, x195003, x195004 => if x46 = true then ((copperplateref19_decision.f k x0 x11 x2 x195002 x1).bind fun bt196 => (if bt196.1 = true then ((copperplateref18_Print.f x195000 x195001 x195002 x195003 x195004 x0 x11 bt196.2).bind fun bt198 => (copperplateref19_Flow.l0 k x0 x1 x2 (wrap64 (x11 + 1)) bt198.1 bt198.2.1 bt198.2.2.1 bt198.2.2.2.1 bt198.2.2.2.2)) else (some (x195000, wrap64 (x2 - x11), true)))) else ((copperplateref18_Print.f x195000 x195001 x195002 x195003 x195004 x0 x11 x12).bind fun bt203 => (copperplateref19_Flow.l0 k x0 x1 x2 (wrap64 (x11 + 1)) bt203.1 bt203.2.1 bt203.2.2.1 bt203.2.2.2.1 bt203.2.2.2.2))
end
def copperplateref19_Flow.f (k : Nat) (l0 : List (S34)) (a1 : Int) (a2 : Int) : Option (ByteArray × Int × Bool) := (copperplateref18_Room.f k l0 a1).bind fun t193 => (if t193 = true then (if a2 < 0 then (copperplateref19_Flow.j0 k l0 a1 a2 true) else (copperplateref19_Flow.j0 k l0 a1 a2 (decide (a2 > (l0.length : Int))))) else (copperplateref19_Flow.j0 k l0 a1 a2 true))
theorem copperplateref19_Flow.mono_l : ∀ k, (∀ y0 y1 y2 y3, LeO (copperplateref19_Flow.j0 k y0 y1 y2 y3) (copperplateref19_Flow.j0 (k + 1) y0 y1 y2 y3)) ∧ (∀ y0 y1 y2 y3 y4 y5 y6 y7 y8, LeO (copperplateref19_Flow.l0 k y0 y1 y2 y3 y4 y5 y6 y7 y8) (copperplateref19_Flow.l0 (k + 1) y0 y1 y2 y3 y4 y5 y6 y7 y8)) ∧ (∀ y0 y1 y2 y3 y4 y5 y6 y7 y8 y9 y10, LeO (copperplateref19_Flow.j2 k y0 y1 y2 y3 y4 y5 y6 y7 y8 y9 y10) (copperplateref19_Flow.j2 (k + 1) y0 y1 y2 y3 y4 y5 y6 y7 y8 y9 y10))
 | 0 => ⟨fun _ _ _ _ r h => by simp [copperplateref19_Flow.j0] at h, fun _ _ _ _ _ _ _ _ _ r h => by simp [copperplateref19_Flow.l0] at h, fun _ _ _ _ _ _ _ _ _ _ _ r h => by simp [copperplateref19_Flow.j2] at h⟩
 | k + 1 => by
  obtain ⟨ih0, ih1, ih2⟩ := copperplateref19_Flow.mono_l k
  refine ⟨?_, ?_, ?_⟩
  ·intro y0 y1 y2 y3
   unfold copperplateref19_Flow.j0
   repeat' first
   | (with_reducible exact ih0 _ _ _ _)
   | (with_reducible exact ih1 _ _ _ _ _ _ _ _ _)
   | (with_reducible exact ih2 _ _ _ _ _ _ _ _ _ _ _)
   | (with_reducible exact copperplateref18_Room.mono _ _ _)
   | (with_reducible exact copperplateref19_decision.mono _ _ _ _ _ _)
   | (with_reducible exact LeO.refl _)
   | (with_reducible exact LeO.none _)
   | (with_reducible refine LeO.ite ?_ ?_)
   | (with_reducible refine LeO.bind ?_ (fun _ => ?_))
   | exact ih0 _ _ _ _
   | exact ih1 _ _ _ _ _ _ _ _ _
   | exact ih2 _ _ _ _ _ _ _ _ _ _ _
   | exact copperplateref18_Room.mono _ _ _
   | exact copperplateref19_decision.mono _ _ _ _ _ _
   | exact LeO.none _
   | refine LeO.ite ?_ ?_
   | refine LeO.bind ?_ (fun _ => ?_)
  ·intro y0 y1 y2 y3 y4 y5 y6 y7 y8
   unfold copperplateref19_Flow.l0
   repeat' first
   | (with_reducible exact ih0 _ _ _ _)
   | (with_reducible exact ih1 _ _ _ _ _ _ _ _ _)
   | (with_reducible exact ih2 _ _ _ _ _ _ _ _ _ _ _)
   | (with_reducible exact copperplateref18_Room.mono _ _ _)
   | (with_reducible exact copperplateref19_decision.mono _ _ _ _ _ _)
   | (with_reducible exact LeO.refl _)
   | (with_reducible exact LeO.none _)
   | (with_reducible refine LeO.ite ?_ ?_)
   | (with_reducible refine LeO.bind ?_ (fun _ => ?_))
   | exact ih0 _ _ _ _
   | exact ih1 _ _ _ _ _ _ _ _ _
   | exact ih2 _ _ _ _ _ _ _ _ _ _ _
   | exact copperplateref18_Room.mono _ _ _
   | exact copperplateref19_decision.mono _ _ _ _ _ _
   | exact LeO.none _
   | refine LeO.ite ?_ ?_
   | refine LeO.bind ?_ (fun _ => ?_)
  ·intro y0 y1 y2 y3 y4 y5 y6 y7 y8 y9 y10
   unfold copperplateref19_Flow.j2
   repeat' first
   | (with_reducible exact ih0 _ _ _ _)
   | (with_reducible exact ih1 _ _ _ _ _ _ _ _ _)
   | (with_reducible exact ih2 _ _ _ _ _ _ _ _ _ _ _)
   | (with_reducible exact copperplateref18_Room.mono _ _ _)
   | (with_reducible exact copperplateref19_decision.mono _ _ _ _ _ _)
   | (with_reducible exact LeO.refl _)
   | (with_reducible exact LeO.none _)
   | (with_reducible refine LeO.ite ?_ ?_)
   | (with_reducible refine LeO.bind ?_ (fun _ => ?_))
   | exact ih0 _ _ _ _
   | exact ih1 _ _ _ _ _ _ _ _ _
   | exact ih2 _ _ _ _ _ _ _ _ _ _ _
   | exact copperplateref18_Room.mono _ _ _
   | exact copperplateref19_decision.mono _ _ _ _ _ _
   | exact LeO.none _
   | refine LeO.ite ?_ ?_
   | refine LeO.bind ?_ (fun _ => ?_)
theorem copperplateref19_Flow.mono : ∀ a0 a1 a2 k, LeO (copperplateref19_Flow.f k a0 a1 a2) (copperplateref19_Flow.f (k + 1) a0 a1 a2) := by
 intro a0 a1 a2 k
 obtain ⟨ih0, ih1, ih2⟩ := copperplateref19_Flow.mono_l k
 unfold copperplateref19_Flow.f
 repeat' first
   | (with_reducible exact ih0 _ _ _ _)
   | (with_reducible exact ih1 _ _ _ _ _ _ _ _ _)
   | (with_reducible exact ih2 _ _ _ _ _ _ _ _ _ _ _)
   | (with_reducible exact copperplateref18_Room.mono _ _ _)
   | (with_reducible exact copperplateref19_decision.mono _ _ _ _ _ _)
   | (with_reducible exact LeO.refl _)
   | (with_reducible exact LeO.none _)
   | (with_reducible refine LeO.ite ?_ ?_)
   | (with_reducible refine LeO.bind ?_ (fun _ => ?_))
   | exact ih0 _ _ _ _
   | exact ih1 _ _ _ _ _ _ _ _ _
   | exact ih2 _ _ _ _ _ _ _ _ _ _ _
   | exact copperplateref18_Room.mono _ _ _
   | exact copperplateref19_decision.mono _ _ _ _ _ _
   | exact LeO.none _
   | refine LeO.ite ?_ ?_
   | refine LeO.bind ?_ (fun _ => ?_)
set_option maxHeartbeats 8000000 in
set_option maxRecDepth 100000 in
theorem copperplateref19_Flow.calls (k : Nat) (A0 : Option Addr) (c0 : Nat) (l0 : List (S34)) (a1 : Int) (a2 : Int) (r1 : ByteArray) (r2 : Int) (r3 : Bool) (w : World) (hr0 : Kd.C k34 w A0 l0.length l0) (hc0 : l0.length ≤ c0) (h : copperplateref19_Flow.f k l0 a1 a2 = some (r1, r2, r3)) :
  Calls Try.prog 15 #[.slice A0 l0.length c0, .int .i64 a1, .int .i64 a2] w fun e w' => e = .returned (.tuple #[.string r1, .int .i64 r2, .bool r3]) ∧ Below w.heap.size w w' := by
 have hu56 := Try.underlying56
 have HR0 := qM hr0
 have HC0 := qM hc0
 clear hr0 hc0
 have HB := qM (Below.refl w.heap.size w)
 have H : ((copperplateref18_Room.f k l0 a1).bind fun t193 => (if t193 = true then (if a2 < 0 then (copperplateref19_Flow.j0 k l0 a1 a2 true) else (copperplateref19_Flow.j0 k l0 a1 a2 (decide (a2 > (l0.length : Int))))) else (copperplateref19_Flow.j0 k l0 a1 a2 true))) = some (r1, r2, r3) := h
 clear h
 replace H := Option.bind_eq_some_iff.mp H
 obtain ⟨t193, A40, H⟩ := H
 replace H : (if t193 = true then (if a2 < 0 then (copperplateref19_Flow.j0 k l0 a1 a2 true) else (copperplateref19_Flow.j0 k l0 a1 a2 (decide (a2 > (l0.length : Int))))) else (copperplateref19_Flow.j0 k l0 a1 a2 true)) = some (r1, r2, r3) := H
 have A4 := qM A40
 clear A40
 have HC5 := qM H
 clear H
 go_enter Try.func15, Try.ntmps15
 go_upto_region 2 with (first | ((with_reducible refine gate_callee (f := 29) rfl ?_); refine goesL_ (some 17) rfl rfl Try.func29 (by kernel_rfl) rfl #[.slice A0 l0.length c0, .int .i64 a1] rfl (by (try simp only [List.map_toArray, List.map_cons, List.map_nil]); first | done | rfl | (simp only [List.length_drop, List.length_take]; rfl)) ?_; (with_reducible refine (copperplateref18_Room.calls k _ _ l0 a1 t193 _ ?side1 ?side2 A4.out).mono ?_); (case side1 => repeat (first | exact HR0.out | (with_reducible first | apply qO | apply qP | apply qQ))); (case side2 => exact HC0.out); (try clear A4); rintro e w' ⟨rfl, ⟨nd, rfl⟩⟩; refine ⟨_, rfl, ?_⟩))
 (try simp only [Act.put, qA, qB, qC])
 go_cut [29] (fun v29 wc => ∃ (kq : Nat) (x29_4 : Bool), v29 = .bool x29_4 ∧ Aside0 (copperplateref19_Flow.j0 kq l0 a1 a2 x29_4 = some (r1, r2, r3)) ∧ Aside0 (kq ≤ k) ∧ Aside0 (Below w.heap.size w wc))
 case first =>
  have H := HC5.out
  clear HC5
  by_cases c6 : t193 = true
  ·subst c6
   have H1 : (if a2 < 0 then (copperplateref19_Flow.j0 k l0 a1 a2 true) else (copperplateref19_Flow.j0 k l0 a1 a2 (decide (a2 > (l0.length : Int))))) = some (r1, r2, r3) := by rw [if_pos rfl] at H; exact H
   clear H
   have H := H1
   clear H1
   by_cases c7 : a2 < 0
   ·rw [if_pos c7] at H
    have c7b0 : decide (a2 < 0) = true := decide_eq_true c7
    clear c7
    (first | rw [c7b0] | (simp only [i64_w, i32_w]; rw [c7b0]) | skip)
    have H' := qM H
    clear H
    go_wp2
    go_meet
    case rel => exact ⟨_, (true), (by first | rfl | (simp; done) | (simp [*]; done)), H', ⟨by first | omega | exact Nat.le_refl _⟩, ⟨by repeat (first | (with_reducible first | exact HB.out | apply qJ | apply qK | apply qL) | exact HB.out)⟩⟩
   ·rw [if_neg c7] at H
    have c7b0 : decide (a2 < 0) = false := decide_eq_false c7
    clear c7
    (first | rw [c7b0] | (simp only [i64_w, i32_w]; rw [c7b0]) | skip)
    have H' := qM H
    clear H
    go_wp2
    go_meet
    case rel => exact ⟨_, (decide (a2 > (l0.length : Int))), (by first | rfl | (simp; done) | (simp [*]; done)), H', ⟨by first | omega | exact Nat.le_refl _⟩, ⟨by repeat (first | (with_reducible first | exact HB.out | apply qJ | apply qK | apply qL) | exact HB.out)⟩⟩
  ·replace c6 := Bool.eq_false_iff.mpr c6
   subst c6
   have H1 : (copperplateref19_Flow.j0 k l0 a1 a2 true) = some (r1, r2, r3) := by rw [if_neg (show ¬ (false = true) by decide)] at H; exact H
   clear H
   have H := H1
   clear H1
   have H' := qM H
   clear H
   go_wp2
   go_meet
   case rel => exact ⟨_, (true), (by first | rfl | (simp; done) | (simp [*]; done)), H', ⟨by first | omega | exact Nat.le_refl _⟩, ⟨by repeat (first | (with_reducible first | exact HB.out | apply qJ | apply qK | apply qL) | exact HB.out)⟩⟩
 case rest =>
  clear HC5
  try clear c1
  try clear c2
  try clear p2
  try clear c6
  try clear c7
  try clear c7b0
  obtain ⟨kq, x29_4, rfl, HA, HJ4, HB⟩ := hcut
  cases kq with
  | zero => exact absurd HA.out (by simp [copperplateref19_Flow.j0])
  | succ kj4 =>
   have H := HA.out
   clear HA
   simp only [copperplateref19_Flow.j0] at H
   by_cases c8 : x29_4 = true
   ·subst c8
    have H1 : (some ((⟨#[]⟩ : ByteArray), 0, false)) = some (r1, r2, r3) := by rw [if_pos rfl] at H; exact H
    clear H
    have H := H1
    clear H1
    simp only [Option.some.injEq, Prod.mk.injEq] at H
    obtain ⟨rfl, rfl, rfl⟩ := H
    go_wp2
    go_ret3
    exact ⟨by first | rfl | (simp [errW_none, errW_some] <;> rfl) | (simp [*, errW_none, errW_some] <;> rfl), by repeat (first | (with_reducible first | exact HB.out | apply qJ | apply qK | apply qL) | exact HB.out)⟩
   ·replace c8 := Bool.eq_false_iff.mpr c8
    subst c8
    have H1 : (copperplateref19_Flow.l0 kj4 l0 a1 a2 0 (⟨#[]⟩ : ByteArray) 0 0 0 (-1)) = some (r1, r2, r3) := by rw [if_neg (show ¬ (false = true) by decide)] at H; exact H
    clear H
    have H := H1
    clear H1
    have H' := qM H
    clear H
    go_wp2_with (first | ((with_reducible refine gate_dst (N := 10) rfl ?_); refine box_event ?hg (N := 10) ?hd (cs := #[.string (⟨#[]⟩ : ByteArray), .int .i64 0, .int .i64 0, .int .i64 0, .int .i64 0]) (t := 56) ?hr ?_; (case hd => rfl); (case hg => rfl); (case hr => first | (go_simp; done) | (go_simp; rfl)); intro gb194 hg w9 hbox hb; have n0_ := qM (below_step (by repeat (first | (with_reducible first | exact HB.out | apply qJ | apply qK | apply qL) | exact HB.out)) hb); have n1_ := qM (hbox); have n2_ := qM ((by rw [hg]; exact (below_size (by repeat (first | (with_reducible first | exact HB.out | apply qJ | apply qK | apply qL) | exact HB.out))) : w.heap.size ≤ gb194)); have n3_ := qM ((by rw [hg]; exact (below_size (by repeat (first | (with_reducible first | exact HB.out | apply qJ | apply qK | apply qL) | exact HB.out))) : w.heap.size ≤ gb194)); clear HB; have HB := n0_; have BK194 := n1_; have GW194 := n2_; have GE194 := n3_; clear n0_ n1_ n2_ n3_; clear hb hbox hg; have hcz10_0 : w9.cell? ⟨gb194, 0, none⟩ = some (.string (⟨#[]⟩ : ByteArray)) := (blk_cell BK194.out 0).trans rfl; have hcz10_1 : w9.cell? ⟨gb194, 1, none⟩ = some (.int .i64 0) := (blk_cell BK194.out 1).trans rfl; have hcz10_2 : w9.cell? ⟨gb194, 2, none⟩ = some (.int .i64 0) := (blk_cell BK194.out 2).trans rfl; have hcz10_3 : w9.cell? ⟨gb194, 3, none⟩ = some (.int .i64 0) := (blk_cell BK194.out 3).trans rfl; have hcz10_4 : w9.cell? ⟨gb194, 4, none⟩ = some (.int .i64 0) := (blk_cell BK194.out 4).trans rfl; have hfz10_0 := blk_frozen BK194.out 0; have hfz10_1 := blk_frozen BK194.out 1; have hfz10_2 := blk_frozen BK194.out 2; have hfz10_3 := blk_frozen BK194.out 3; have hfz10_4 := blk_frozen BK194.out 4))
    go_loopg [11] kj4 (fun kq v11 w' => ∃ (x11_2 : Int) (x195000_2 : ByteArray) (x195001_2 : Int) (x195002_2 : Int) (x195003_2 : Int) (x195004_2 : Int), v11 = .int .i64 x11_2 ∧ Aside0 (copperplateref19_Flow.l0 kq l0 a1 a2 x11_2 x195000_2 x195001_2 x195002_2 x195003_2 x195004_2 = some (r1, r2, r3)) ∧ Aside0 (kq ≤ kj4) ∧ Aside0 (w'.heap[gb194]? = some (.cells #[.string x195000_2, .int .i64 x195001_2, .int .i64 x195002_2, .int .i64 x195003_2, .int .i64 x195004_2] 56 (0, 0))) ∧ Aside0 (Below w.heap.size w w'))
    case atStart => exact ⟨(0), ((⟨#[]⟩ : ByteArray)), (0), (0), (0), ((-1)), (by first | rfl | (simp; done) | (simp [*]; done)), H', ⟨Nat.le_refl _⟩, ⟨by (with_reducible repeat (first | apply qD | apply qE | apply qF)); refine blk_put (cs := #[.string (⟨#[]⟩ : ByteArray), .int .i64 0, .int .i64 0, .int .i64 0, .int .i64 0]) ?_ 4 _ rfl; (with_reducible repeat (first | apply qD | apply qE | apply qF)); refine blk_put (cs := #[.string (⟨#[]⟩ : ByteArray), .int .i64 0, .int .i64 0, .int .i64 0, .int .i64 0]) ?_ 3 _ rfl; (with_reducible repeat (first | apply qD | apply qE | apply qF)); refine blk_put (cs := #[.string (⟨#[]⟩ : ByteArray), .int .i64 0, .int .i64 0, .int .i64 0, .int .i64 0]) ?_ 2 _ rfl; (with_reducible repeat (first | apply qD | apply qE | apply qF)); refine blk_put (cs := #[.string (⟨#[]⟩ : ByteArray), .int .i64 0, .int .i64 0, .int .i64 0, .int .i64 0]) ?_ 1 _ rfl; (with_reducible repeat (first | apply qD | apply qE | apply qF)); refine blk_put (cs := #[.string (⟨#[]⟩ : ByteArray), .int .i64 0, .int .i64 0, .int .i64 0, .int .i64 0]) ?_ 0 _ rfl; (with_reducible repeat (first | apply qD | apply qE | apply qF)); exact BK194.out⟩, ⟨by repeat (first | (with_reducible first | exact HB.out | apply qJ | apply qK | apply qL | refine qR ?_ GE194.out) | exact HB.out)⟩⟩
    case round =>
     clear H'
     try clear c1
     try clear c2
     try clear p2
     try clear c6
     try clear c7
     try clear c7b0
     try clear c8
     try clear hcz10_0
     try clear hcz10_1
     try clear hcz10_2
     try clear hcz10_3
     try clear hcz10_4
     try clear hfz10_0
     try clear hfz10_1
     try clear hfz10_2
     try clear hfz10_3
     try clear hfz10_4
     try clear p2
     obtain ⟨x11_2, x195000_2, x195001_2, x195002_2, x195003_2, x195004_2, rfl, HA, HK2, BK194, HB⟩ := hrel
     cases gk with
     | zero => exact absurd HA.out (by simp [copperplateref19_Flow.l0])
     | succ k2 =>
      have H := HA.out
      clear HA
      simp only [copperplateref19_Flow.l0] at H
      by_cases c11 : x11_2 < a2
      ·rw [if_pos c11] at H
       have c11b0 : decide (x11_2 < a2) = true := decide_eq_true c11
       clear c11
       have HC12 := qM H
       clear H
       go_upto_region 9 with (fail)
       go_cut [46] (fun v46 wc => ∃ (kq : Nat) (x46_11 : Bool), v46 = .bool x46_11 ∧ Aside0 (copperplateref19_Flow.j2 kq l0 a1 a2 x11_2 false x46_11 x195000_2 x195001_2 x195002_2 x195003_2 x195004_2 = some (r1, r2, r3)) ∧ Aside0 (kq ≤ k2) ∧ Aside0 (wc.heap[gb194]? = some (.cells #[.string x195000_2, .int .i64 x195001_2, .int .i64 x195002_2, .int .i64 x195003_2, .int .i64 x195004_2] 56 (0, 0))) ∧ Aside0 (Below w.heap.size w wc))
       case first =>
        have H := HC12.out
        clear HC12
        by_cases c13 : 0 ≤ x11_2
        ·rw [if_pos c13] at H
         have c13b0 : decide (0 ≤ x11_2) = true := decide_eq_true c13
         clear c13
         (first | rw [c13b0] | (simp only [i64_w, i32_w]; rw [c13b0]) | skip)
         by_cases c14 : x11_2 < (l0.length : Int)
         ·rw [if_pos c14] at H
          have c14b0 : decide (x11_2 < (l0.length : Int)) = true := decide_eq_true c14
          clear c14
          by_cases c15 : ((rd_T34 l0 x11_2).f0) = 6
          ·rw [if_pos c15] at H
           have c15b0 : (((rd_T34 l0 x11_2).f0) == 6) = true := beq_iff_eq.mpr c15
           have c15b1 : (((rd_T34 l0 x11_2).f0) != 6) = false := bne_eq_false_iff_eq.mpr c15
           clear c15
           have H' := qM H
           clear H
           have p195 : 0 ≤ (x11_2 : Int) := qN (by assumption)
           have q195 : x11_2 < (l0.length : Int) := qN (by assumption)
           obtain ⟨ad195, e195, hx195_0, hx195_1⟩ := at_T34 HR0.out x11_2 p195 q195
           cases e195
           replace hx195_0 := (HB.out.cell (World.block_lt_of_cell? w _ hx195_0)).trans hx195_0
           replace hx195_1 := (HB.out.cell (World.block_lt_of_cell? w _ hx195_1)).trans hx195_1
           replace p195 := eq_true p195
           replace q195 := eq_true q195
           have hcz16_0 : wr.cell? ⟨gb194, 0, none⟩ = some (.string x195000_2) := (blk_cell BK194.out 0).trans rfl
           have hcz16_1 : wr.cell? ⟨gb194, 1, none⟩ = some (.int .i64 x195001_2) := (blk_cell BK194.out 1).trans rfl
           have hcz16_2 : wr.cell? ⟨gb194, 2, none⟩ = some (.int .i64 x195002_2) := (blk_cell BK194.out 2).trans rfl
           have hcz16_3 : wr.cell? ⟨gb194, 3, none⟩ = some (.int .i64 x195003_2) := (blk_cell BK194.out 3).trans rfl
           have hcz16_4 : wr.cell? ⟨gb194, 4, none⟩ = some (.int .i64 x195004_2) := (blk_cell BK194.out 4).trans rfl
           have hfz16_0 := blk_frozen BK194.out 0
           have hfz16_1 := blk_frozen BK194.out 1
           have hfz16_2 := blk_frozen BK194.out 2
           have hfz16_3 := blk_frozen BK194.out 3
           have hfz16_4 := blk_frozen BK194.out 4
           go_wp2
           go_meet
           case rel => exact ⟨_, (decide (x195004_2 < 0)), (by first | rfl | (simp; done) | (simp [*]; done)), H', ⟨by have := HJ4.out; have := HK2.out; first | omega | exact Nat.le_refl _⟩, ⟨by (with_reducible repeat (first | apply qD | apply qE | apply qF)); exact BK194.out⟩, ⟨by repeat (first | (with_reducible first | exact HB.out | apply qJ | apply qK | apply qL | refine qR ?_ GE194.out) | exact HB.out)⟩⟩
          ·rw [if_neg c15] at H
           have c15b0 : (((rd_T34 l0 x11_2).f0) == 6) = false := beq_eq_false_iff_ne.mpr c15
           have c15b1 : (((rd_T34 l0 x11_2).f0) != 6) = true := bne_iff_ne.mpr c15
           have H' := qM H
           clear H
           have p195 : 0 ≤ (x11_2 : Int) := qN (by assumption)
           have q195 : x11_2 < (l0.length : Int) := qN (by assumption)
           obtain ⟨ad195, e195, hx195_0, hx195_1⟩ := at_T34 HR0.out x11_2 p195 q195
           cases e195
           replace hx195_0 := (HB.out.cell (World.block_lt_of_cell? w _ hx195_0)).trans hx195_0
           replace hx195_1 := (HB.out.cell (World.block_lt_of_cell? w _ hx195_1)).trans hx195_1
           replace p195 := eq_true p195
           replace q195 := eq_true q195
           go_wp2
           go_meet
           case rel => exact ⟨_, (false), (by first | rfl | (simp; done) | (simp [*]; done)), H', ⟨by have := HJ4.out; have := HK2.out; first | omega | exact Nat.le_refl _⟩, ⟨by (with_reducible repeat (first | apply qD | apply qE | apply qF)); exact BK194.out⟩, ⟨by repeat (first | (with_reducible first | exact HB.out | apply qJ | apply qK | apply qL | refine qR ?_ GE194.out) | exact HB.out)⟩⟩
         ·rw [if_neg c14] at H
          exact absurd H (by simp)
        ·rw [if_neg c13] at H
         exact absurd H (by simp)
       case rest =>
        clear HC12
        try clear c1
        try clear p1
        try clear q1
        try clear hx1
        try clear c2
        try clear p2
        try clear c6
        try clear c7
        try clear c7b0
        try clear c8
        try clear c11
        try clear c11b0
        try clear c13
        try clear c13b0
        try clear c14
        try clear c14b0
        try clear c15
        try clear c15b0
        try clear c15b1
        try clear hcz10_0
        try clear hcz10_1
        try clear hcz10_2
        try clear hcz10_3
        try clear hcz10_4
        try clear hcz16_0
        try clear hcz16_1
        try clear hcz16_2
        try clear hcz16_3
        try clear hcz16_4
        try clear hfz10_0
        try clear hfz10_1
        try clear hfz10_2
        try clear hfz10_3
        try clear hfz10_4
        try clear hfz16_0
        try clear hfz16_1
        try clear hfz16_2
        try clear hfz16_3
        try clear hfz16_4
        try clear hx195_0
        try clear hx195_1
        try clear p195
        try clear p2
        try clear q195
        obtain ⟨kq, x46_11, rfl, HA, HJ11, BK194, HB⟩ := hcut
        cases kq with
        | zero => exact absurd HA.out (by simp [copperplateref19_Flow.j2])
        | succ kj11 =>
         have H := HA.out
         clear HA
         simp only [copperplateref19_Flow.j2] at H
         by_cases c17 : x46_11 = true
         ·subst c17
          have H1 : ((copperplateref19_decision.f kj11 l0 x11_2 a2 x195002_2 a1).bind fun bt196 => (if bt196.1 = true then ((copperplateref18_Print.f x195000_2 x195001_2 x195002_2 x195003_2 x195004_2 l0 x11_2 bt196.2).bind fun bt198 => (copperplateref19_Flow.l0 kj11 l0 a1 a2 (wrap64 (x11_2 + 1)) bt198.1 bt198.2.1 bt198.2.2.1 bt198.2.2.2.1 bt198.2.2.2.2)) else (some (x195000_2, wrap64 (a2 - x11_2), true)))) = some (r1, r2, r3) := by rw [if_pos rfl] at H; exact H
          clear H
          have H := H1
          clear H1
          replace H := Option.bind_eq_some_iff.mp H
          obtain ⟨⟨t196, t197⟩, A180, H⟩ := H
          replace H : (if t196 = true then ((copperplateref18_Print.f x195000_2 x195001_2 x195002_2 x195003_2 x195004_2 l0 x11_2 t197).bind fun bt198 => (copperplateref19_Flow.l0 kj11 l0 a1 a2 (wrap64 (x11_2 + 1)) bt198.1 bt198.2.1 bt198.2.2.1 bt198.2.2.2.1 bt198.2.2.2.2)) else (some (x195000_2, wrap64 (a2 - x11_2), true))) = some (r1, r2, r3) := H
          have A18 := qM A180
          clear A180
          by_cases c19 : t196 = true
          ·subst c19
           have H1 : ((copperplateref18_Print.f x195000_2 x195001_2 x195002_2 x195003_2 x195004_2 l0 x11_2 t197).bind fun bt198 => (copperplateref19_Flow.l0 kj11 l0 a1 a2 (wrap64 (x11_2 + 1)) bt198.1 bt198.2.1 bt198.2.2.1 bt198.2.2.2.1 bt198.2.2.2.2)) = some (r1, r2, r3) := by rw [if_pos rfl] at H; exact H
           clear H
           have H := H1
           clear H1
           replace H := Option.bind_eq_some_iff.mp H
           obtain ⟨⟨t198, t199, t200, t201, t202⟩, A200, H⟩ := H
           replace H : (copperplateref19_Flow.l0 kj11 l0 a1 a2 (wrap64 (x11_2 + 1)) t198 t199 t200 t201 t202) = some (r1, r2, r3) := H
           have A20 := qM A200
           clear A200
           have H' := qM H
           clear H
           have hcz21_0 : wc.cell? ⟨gb194, 0, none⟩ = some (.string x195000_2) := (blk_cell BK194.out 0).trans rfl
           have hcz21_1 : wc.cell? ⟨gb194, 1, none⟩ = some (.int .i64 x195001_2) := (blk_cell BK194.out 1).trans rfl
           have hcz21_2 : wc.cell? ⟨gb194, 2, none⟩ = some (.int .i64 x195002_2) := (blk_cell BK194.out 2).trans rfl
           have hcz21_3 : wc.cell? ⟨gb194, 3, none⟩ = some (.int .i64 x195003_2) := (blk_cell BK194.out 3).trans rfl
           have hcz21_4 : wc.cell? ⟨gb194, 4, none⟩ = some (.int .i64 x195004_2) := (blk_cell BK194.out 4).trans rfl
           have hfz21_0 := blk_frozen BK194.out 0
           have hfz21_1 := blk_frozen BK194.out 1
           have hfz21_2 := blk_frozen BK194.out 2
           have hfz21_3 := blk_frozen BK194.out 3
           have hfz21_4 := blk_frozen BK194.out 4
           go_wp2_with (first | ((with_reducible refine gate_callee (f := 30) rfl ?_); refine goesL_ (some 54) rfl rfl Try.func30 (by kernel_rfl) rfl #[.slice A0 l0.length c0, .int .i64 x11_2, .int .i64 a2, .int .i64 x195002_2, .int .i64 a1] rfl (by (try simp only [List.map_toArray, List.map_cons, List.map_nil]); first | done | rfl | (simp only [List.length_drop, List.length_take]; rfl)) ?_; (with_reducible refine (copperplateref19_decision.calls kj11 _ _ l0 x11_2 a2 x195002_2 a1 true t197 _ ?side1 ?side2 A18.out).mono ?_); (case side1 => repeat (first | exact (Kd.C_below HR0.out HB.out) | (with_reducible first | apply qO | apply qP | apply qQ))); (case side2 => exact HC0.out); (try clear A18); rintro e w22 ⟨rfl, hb⟩; refine ⟨_, rfl, ?_⟩; have n0_ := qM (blk_below (g := gb194) (o := .cells #[.string x195000_2, .int .i64 x195001_2, .int .i64 x195002_2, .int .i64 x195003_2, .int .i64 x195004_2] 56 (0, 0)) (by (with_reducible repeat (first | apply qD | apply qE | apply qF)); exact BK194.out) hb); have n1_ := qM (below_step (by repeat (first | (with_reducible first | exact HB.out | apply qJ | apply qK | apply qL | refine qR ?_ GE194.out) | exact HB.out)) hb); clear BK194; clear HB; have BK194 := n0_; have HB := n1_; clear n0_ n1_; (try clear hb); (try clear hb2); (try clear hk); (try clear hi); have hcz23_0 : w22.cell? ⟨gb194, 0, none⟩ = some (.string x195000_2) := (blk_cell BK194.out 0).trans rfl; have hcz23_1 : w22.cell? ⟨gb194, 1, none⟩ = some (.int .i64 x195001_2) := (blk_cell BK194.out 1).trans rfl; have hcz23_2 : w22.cell? ⟨gb194, 2, none⟩ = some (.int .i64 x195002_2) := (blk_cell BK194.out 2).trans rfl; have hcz23_3 : w22.cell? ⟨gb194, 3, none⟩ = some (.int .i64 x195003_2) := (blk_cell BK194.out 3).trans rfl; have hcz23_4 : w22.cell? ⟨gb194, 4, none⟩ = some (.int .i64 x195004_2) := (blk_cell BK194.out 4).trans rfl; have hfz23_0 := blk_frozen BK194.out 0; have hfz23_1 := blk_frozen BK194.out 1; have hfz23_2 := blk_frozen BK194.out 2; have hfz23_3 := blk_frozen BK194.out 3; have hfz23_4 := blk_frozen BK194.out 4) | ((with_reducible refine gate_callee (f := 31) rfl ?_); refine goesL_ (some 69) rfl rfl Try.func31 (by kernel_rfl) rfl #[.agg #[.string x195000_2, .int .i64 x195001_2, .int .i64 x195002_2, .int .i64 x195003_2, .int .i64 x195004_2], .slice A0 l0.length c0, .int .i64 x11_2, .bool t197] rfl (by (try simp only [List.map_toArray, List.map_cons, List.map_nil]); first | done | rfl | (simp only [List.length_drop, List.length_take]; rfl)) ?_; (with_reducible refine (copperplateref18_Print.calls x195000_2 x195001_2 x195002_2 x195003_2 x195004_2 _ _ l0 x11_2 t197 t198 t199 t200 t201 t202 _ ?side1 ?side2 A20.out).mono ?_); (case side1 => repeat (first | exact (Kd.C_below HR0.out HB.out) | (with_reducible first | apply qO | apply qP | apply qQ))); (case side2 => exact HC0.out); (try clear A20); rintro e w24 ⟨rfl, hb⟩; refine ⟨_, rfl, ?_⟩; have n0_ := qM (blk_below (g := gb194) (o := .cells #[.string x195000_2, .int .i64 x195001_2, .int .i64 x195002_2, .int .i64 x195003_2, .int .i64 x195004_2] 56 (0, 0)) (by (with_reducible repeat (first | apply qD | apply qE | apply qF)); exact BK194.out) hb); have n1_ := qM (below_step (by repeat (first | (with_reducible first | exact HB.out | apply qJ | apply qK | apply qL | refine qR ?_ GE194.out) | exact HB.out)) hb); clear BK194; clear HB; have BK194 := n0_; have HB := n1_; clear n0_ n1_; (try clear hb); (try clear hb2); (try clear hk); (try clear hi); have hcz25_0 : w24.cell? ⟨gb194, 0, none⟩ = some (.string x195000_2) := (blk_cell BK194.out 0).trans rfl; have hcz25_1 : w24.cell? ⟨gb194, 1, none⟩ = some (.int .i64 x195001_2) := (blk_cell BK194.out 1).trans rfl; have hcz25_2 : w24.cell? ⟨gb194, 2, none⟩ = some (.int .i64 x195002_2) := (blk_cell BK194.out 2).trans rfl; have hcz25_3 : w24.cell? ⟨gb194, 3, none⟩ = some (.int .i64 x195003_2) := (blk_cell BK194.out 3).trans rfl; have hcz25_4 : w24.cell? ⟨gb194, 4, none⟩ = some (.int .i64 x195004_2) := (blk_cell BK194.out 4).trans rfl; have hfz25_0 := blk_frozen BK194.out 0; have hfz25_1 := blk_frozen BK194.out 1; have hfz25_2 := blk_frozen BK194.out 2; have hfz25_3 := blk_frozen BK194.out 3; have hfz25_4 := blk_frozen BK194.out 4))
           go_roundg kj11
           case measure => have := HJ4.out; have := HK2.out; have := HJ11.out; omega
           case rel => exact ⟨(wrap64 (x11_2 + 1)), (t198), (t199), (t200), (t201), (t202), (by first | rfl | (simp; done) | (simp [*]; done)), H', ⟨by have := HJ4.out; have := HK2.out; have := HJ11.out; omega⟩, ⟨by (with_reducible repeat (first | apply qD | apply qE | apply qF)); refine blk_put (cs := #[.string t198, .int .i64 t199, .int .i64 t200, .int .i64 t201, .int .i64 x195004_2]) ?_ 4 _ rfl; (with_reducible repeat (first | apply qD | apply qE | apply qF)); refine blk_put (cs := #[.string t198, .int .i64 t199, .int .i64 t200, .int .i64 x195003_2, .int .i64 x195004_2]) ?_ 3 _ rfl; (with_reducible repeat (first | apply qD | apply qE | apply qF)); refine blk_put (cs := #[.string t198, .int .i64 t199, .int .i64 x195002_2, .int .i64 x195003_2, .int .i64 x195004_2]) ?_ 2 _ rfl; (with_reducible repeat (first | apply qD | apply qE | apply qF)); refine blk_put (cs := #[.string t198, .int .i64 x195001_2, .int .i64 x195002_2, .int .i64 x195003_2, .int .i64 x195004_2]) ?_ 1 _ rfl; (with_reducible repeat (first | apply qD | apply qE | apply qF)); refine blk_put (cs := #[.string x195000_2, .int .i64 x195001_2, .int .i64 x195002_2, .int .i64 x195003_2, .int .i64 x195004_2]) ?_ 0 _ rfl; (with_reducible repeat (first | apply qD | apply qE | apply qF)); exact BK194.out⟩, ⟨by repeat (first | (with_reducible first | exact HB.out | apply qJ | apply qK | apply qL | refine qR ?_ GE194.out) | exact HB.out)⟩⟩
          ·replace c19 := Bool.eq_false_iff.mpr c19
           subst c19
           have H1 : (some (x195000_2, wrap64 (a2 - x11_2), true)) = some (r1, r2, r3) := by rw [if_neg (show ¬ (false = true) by decide)] at H; exact H
           clear H
           have H := H1
           clear H1
           simp only [Option.some.injEq, Prod.mk.injEq] at H
           obtain ⟨rfl, rfl, rfl⟩ := H
           have hcz26_0 : wc.cell? ⟨gb194, 0, none⟩ = some (.string x195000_2) := (blk_cell BK194.out 0).trans rfl
           have hcz26_1 : wc.cell? ⟨gb194, 1, none⟩ = some (.int .i64 x195001_2) := (blk_cell BK194.out 1).trans rfl
           have hcz26_2 : wc.cell? ⟨gb194, 2, none⟩ = some (.int .i64 x195002_2) := (blk_cell BK194.out 2).trans rfl
           have hcz26_3 : wc.cell? ⟨gb194, 3, none⟩ = some (.int .i64 x195003_2) := (blk_cell BK194.out 3).trans rfl
           have hcz26_4 : wc.cell? ⟨gb194, 4, none⟩ = some (.int .i64 x195004_2) := (blk_cell BK194.out 4).trans rfl
           have hfz26_0 := blk_frozen BK194.out 0
           have hfz26_1 := blk_frozen BK194.out 1
           have hfz26_2 := blk_frozen BK194.out 2
           have hfz26_3 := blk_frozen BK194.out 3
           have hfz26_4 := blk_frozen BK194.out 4
           go_wp2_with (first | ((with_reducible refine gate_callee (f := 30) rfl ?_); refine goesL_ (some 54) rfl rfl Try.func30 (by kernel_rfl) rfl #[.slice A0 l0.length c0, .int .i64 x11_2, .int .i64 a2, .int .i64 x195002_2, .int .i64 a1] rfl (by (try simp only [List.map_toArray, List.map_cons, List.map_nil]); first | done | rfl | (simp only [List.length_drop, List.length_take]; rfl)) ?_; (with_reducible refine (copperplateref19_decision.calls kj11 _ _ l0 x11_2 a2 x195002_2 a1 false t197 _ ?side1 ?side2 A18.out).mono ?_); (case side1 => repeat (first | exact (Kd.C_below HR0.out HB.out) | (with_reducible first | apply qO | apply qP | apply qQ))); (case side2 => exact HC0.out); (try clear A18); rintro e w27 ⟨rfl, hb⟩; refine ⟨_, rfl, ?_⟩; have n0_ := qM (blk_below (g := gb194) (o := .cells #[.string x195000_2, .int .i64 x195001_2, .int .i64 x195002_2, .int .i64 x195003_2, .int .i64 x195004_2] 56 (0, 0)) (by (with_reducible repeat (first | apply qD | apply qE | apply qF)); exact BK194.out) hb); have n1_ := qM (below_step (by repeat (first | (with_reducible first | exact HB.out | apply qJ | apply qK | apply qL | refine qR ?_ GE194.out) | exact HB.out)) hb); clear BK194; clear HB; have BK194 := n0_; have HB := n1_; clear n0_ n1_; (try clear hb); (try clear hb2); (try clear hk); (try clear hi); have hcz28_0 : w27.cell? ⟨gb194, 0, none⟩ = some (.string x195000_2) := (blk_cell BK194.out 0).trans rfl; have hcz28_1 : w27.cell? ⟨gb194, 1, none⟩ = some (.int .i64 x195001_2) := (blk_cell BK194.out 1).trans rfl; have hcz28_2 : w27.cell? ⟨gb194, 2, none⟩ = some (.int .i64 x195002_2) := (blk_cell BK194.out 2).trans rfl; have hcz28_3 : w27.cell? ⟨gb194, 3, none⟩ = some (.int .i64 x195003_2) := (blk_cell BK194.out 3).trans rfl; have hcz28_4 : w27.cell? ⟨gb194, 4, none⟩ = some (.int .i64 x195004_2) := (blk_cell BK194.out 4).trans rfl; have hfz28_0 := blk_frozen BK194.out 0; have hfz28_1 := blk_frozen BK194.out 1; have hfz28_2 := blk_frozen BK194.out 2; have hfz28_3 := blk_frozen BK194.out 3; have hfz28_4 := blk_frozen BK194.out 4))
           go_ret3
           exact ⟨by first | rfl | (simp [errW_none, errW_some] <;> rfl) | (simp [*, errW_none, errW_some] <;> rfl), by repeat (first | (with_reducible first | exact HB.out | apply qJ | apply qK | apply qL | refine qR ?_ GE194.out) | exact HB.out)⟩
         ·replace c17 := Bool.eq_false_iff.mpr c17
          subst c17
          have H1 : ((copperplateref18_Print.f x195000_2 x195001_2 x195002_2 x195003_2 x195004_2 l0 x11_2 false).bind fun bt203 => (copperplateref19_Flow.l0 kj11 l0 a1 a2 (wrap64 (x11_2 + 1)) bt203.1 bt203.2.1 bt203.2.2.1 bt203.2.2.2.1 bt203.2.2.2.2)) = some (r1, r2, r3) := by rw [if_neg (show ¬ (false = true) by decide)] at H; exact H
          clear H
          have H := H1
          clear H1
          replace H := Option.bind_eq_some_iff.mp H
          obtain ⟨⟨t203, t204, t205, t206, t207⟩, A290, H⟩ := H
          replace H : (copperplateref19_Flow.l0 kj11 l0 a1 a2 (wrap64 (x11_2 + 1)) t203 t204 t205 t206 t207) = some (r1, r2, r3) := H
          have A29 := qM A290
          clear A290
          have H' := qM H
          clear H
          have hcz30_0 : wc.cell? ⟨gb194, 0, none⟩ = some (.string x195000_2) := (blk_cell BK194.out 0).trans rfl
          have hcz30_1 : wc.cell? ⟨gb194, 1, none⟩ = some (.int .i64 x195001_2) := (blk_cell BK194.out 1).trans rfl
          have hcz30_2 : wc.cell? ⟨gb194, 2, none⟩ = some (.int .i64 x195002_2) := (blk_cell BK194.out 2).trans rfl
          have hcz30_3 : wc.cell? ⟨gb194, 3, none⟩ = some (.int .i64 x195003_2) := (blk_cell BK194.out 3).trans rfl
          have hcz30_4 : wc.cell? ⟨gb194, 4, none⟩ = some (.int .i64 x195004_2) := (blk_cell BK194.out 4).trans rfl
          have hfz30_0 := blk_frozen BK194.out 0
          have hfz30_1 := blk_frozen BK194.out 1
          have hfz30_2 := blk_frozen BK194.out 2
          have hfz30_3 := blk_frozen BK194.out 3
          have hfz30_4 := blk_frozen BK194.out 4
          go_wp2_with (first | ((with_reducible refine gate_callee (f := 31) rfl ?_); refine goesL_ (some 69) rfl rfl Try.func31 (by kernel_rfl) rfl #[.agg #[.string x195000_2, .int .i64 x195001_2, .int .i64 x195002_2, .int .i64 x195003_2, .int .i64 x195004_2], .slice A0 l0.length c0, .int .i64 x11_2, .bool false] rfl (by (try simp only [List.map_toArray, List.map_cons, List.map_nil]); first | done | rfl | (simp only [List.length_drop, List.length_take]; rfl)) ?_; (with_reducible refine (copperplateref18_Print.calls x195000_2 x195001_2 x195002_2 x195003_2 x195004_2 _ _ l0 x11_2 false t203 t204 t205 t206 t207 _ ?side1 ?side2 A29.out).mono ?_); (case side1 => repeat (first | exact (Kd.C_below HR0.out HB.out) | (with_reducible first | apply qO | apply qP | apply qQ))); (case side2 => exact HC0.out); (try clear A29); rintro e w31 ⟨rfl, hb⟩; refine ⟨_, rfl, ?_⟩; have n0_ := qM (blk_below (g := gb194) (o := .cells #[.string x195000_2, .int .i64 x195001_2, .int .i64 x195002_2, .int .i64 x195003_2, .int .i64 x195004_2] 56 (0, 0)) (by (with_reducible repeat (first | apply qD | apply qE | apply qF)); exact BK194.out) hb); have n1_ := qM (below_step (by repeat (first | (with_reducible first | exact HB.out | apply qJ | apply qK | apply qL | refine qR ?_ GE194.out) | exact HB.out)) hb); clear BK194; clear HB; have BK194 := n0_; have HB := n1_; clear n0_ n1_; (try clear hb); (try clear hb2); (try clear hk); (try clear hi); have hcz32_0 : w31.cell? ⟨gb194, 0, none⟩ = some (.string x195000_2) := (blk_cell BK194.out 0).trans rfl; have hcz32_1 : w31.cell? ⟨gb194, 1, none⟩ = some (.int .i64 x195001_2) := (blk_cell BK194.out 1).trans rfl; have hcz32_2 : w31.cell? ⟨gb194, 2, none⟩ = some (.int .i64 x195002_2) := (blk_cell BK194.out 2).trans rfl; have hcz32_3 : w31.cell? ⟨gb194, 3, none⟩ = some (.int .i64 x195003_2) := (blk_cell BK194.out 3).trans rfl; have hcz32_4 : w31.cell? ⟨gb194, 4, none⟩ = some (.int .i64 x195004_2) := (blk_cell BK194.out 4).trans rfl; have hfz32_0 := blk_frozen BK194.out 0; have hfz32_1 := blk_frozen BK194.out 1; have hfz32_2 := blk_frozen BK194.out 2; have hfz32_3 := blk_frozen BK194.out 3; have hfz32_4 := blk_frozen BK194.out 4))
          go_roundg kj11
          case measure => have := HJ4.out; have := HK2.out; have := HJ11.out; omega
          case rel => exact ⟨(wrap64 (x11_2 + 1)), (t203), (t204), (t205), (t206), (t207), (by first | rfl | (simp; done) | (simp [*]; done)), H', ⟨by have := HJ4.out; have := HK2.out; have := HJ11.out; omega⟩, ⟨by (with_reducible repeat (first | apply qD | apply qE | apply qF)); refine blk_put (cs := #[.string t203, .int .i64 t204, .int .i64 t205, .int .i64 t206, .int .i64 x195004_2]) ?_ 4 _ rfl; (with_reducible repeat (first | apply qD | apply qE | apply qF)); refine blk_put (cs := #[.string t203, .int .i64 t204, .int .i64 t205, .int .i64 x195003_2, .int .i64 x195004_2]) ?_ 3 _ rfl; (with_reducible repeat (first | apply qD | apply qE | apply qF)); refine blk_put (cs := #[.string t203, .int .i64 t204, .int .i64 x195002_2, .int .i64 x195003_2, .int .i64 x195004_2]) ?_ 2 _ rfl; (with_reducible repeat (first | apply qD | apply qE | apply qF)); refine blk_put (cs := #[.string t203, .int .i64 x195001_2, .int .i64 x195002_2, .int .i64 x195003_2, .int .i64 x195004_2]) ?_ 1 _ rfl; (with_reducible repeat (first | apply qD | apply qE | apply qF)); refine blk_put (cs := #[.string x195000_2, .int .i64 x195001_2, .int .i64 x195002_2, .int .i64 x195003_2, .int .i64 x195004_2]) ?_ 0 _ rfl; (with_reducible repeat (first | apply qD | apply qE | apply qF)); exact BK194.out⟩, ⟨by repeat (first | (with_reducible first | exact HB.out | apply qJ | apply qK | apply qL | refine qR ?_ GE194.out) | exact HB.out)⟩⟩
      ·rw [if_neg c11] at H
       have c11b0 : decide (x11_2 < a2) = false := decide_eq_false c11
       clear c11
       simp only [Option.some.injEq, Prod.mk.injEq] at H
       obtain ⟨rfl, rfl, rfl⟩ := H
       have hcz33_0 : wr.cell? ⟨gb194, 0, none⟩ = some (.string x195000_2) := (blk_cell BK194.out 0).trans rfl
       have hcz33_1 : wr.cell? ⟨gb194, 1, none⟩ = some (.int .i64 x195001_2) := (blk_cell BK194.out 1).trans rfl
       have hcz33_2 : wr.cell? ⟨gb194, 2, none⟩ = some (.int .i64 x195002_2) := (blk_cell BK194.out 2).trans rfl
       have hcz33_3 : wr.cell? ⟨gb194, 3, none⟩ = some (.int .i64 x195003_2) := (blk_cell BK194.out 3).trans rfl
       have hcz33_4 : wr.cell? ⟨gb194, 4, none⟩ = some (.int .i64 x195004_2) := (blk_cell BK194.out 4).trans rfl
       have hfz33_0 := blk_frozen BK194.out 0
       have hfz33_1 := blk_frozen BK194.out 1
       have hfz33_2 := blk_frozen BK194.out 2
       have hfz33_3 := blk_frozen BK194.out 3
       have hfz33_4 := blk_frozen BK194.out 4
       go_wp2
       go_ret3
       exact ⟨by first | rfl | (simp [errW_none, errW_some] <;> rfl) | (simp [*, errW_none, errW_some] <;> rfl), by repeat (first | (with_reducible first | exact HB.out | apply qJ | apply qK | apply qL | refine qR ?_ GE194.out) | exact HB.out)⟩

/-! ### copperplateref19_All: function 16 -/
def copperplateref19_All.f (k : Nat) (l0 : List (S34)) (a1 : Int) : Option (ByteArray × Bool) := if ([] : List (S34)).length + l0.length < 5864062014805 then ((some (([] : List (S34)) ++ l0 : List (S34))).bind fun y208 => (if y208.length < 5864062014805 then ((some (y208 ++ [(⟨5, (⟨#[]⟩ : ByteArray)⟩ : S34)] : List (S34))).bind fun y211 => ((copperplateref19_Flow.f k y211 a1 (y211.length : Int)).bind fun bt214 => (if bt214.2.2 = true then (if 0 ≤ (wrap64 ((bt214.1.size : Int) - 1)) then (if (wrap64 ((bt214.1.size : Int) - 1)) ≤ (bt214.1.size : Int) then (some (bt214.1.extract 0 ((wrap64 ((bt214.1.size : Int) - 1)) : Int).toNat, true)) else (none)) else (none)) else (some ((⟨#[]⟩ : ByteArray), false))))) else (none))) else (none)
theorem copperplateref19_All.mono : ∀ a0 a1 k, LeO (copperplateref19_All.f k a0 a1) (copperplateref19_All.f (k + 1) a0 a1) := by
  intro a0 a1 k
  unfold copperplateref19_All.f
  repeat' first
      | (with_reducible exact copperplateref19_Flow.mono _ _ _ _)
      | (with_reducible exact LeO.refl _)
      | (with_reducible exact LeO.none _)
      | (with_reducible refine LeO.ite ?_ ?_)
      | (with_reducible refine LeO.bind ?_ (fun _ => ?_))
      | exact copperplateref19_Flow.mono _ _ _ _
      | exact LeO.none _
      | refine LeO.ite ?_ ?_
      | refine LeO.bind ?_ (fun _ => ?_)
set_option maxHeartbeats 8000000 in
set_option maxRecDepth 100000 in
theorem copperplateref19_All.calls (k : Nat) (A0 : Option Addr) (c0 : Nat) (l0 : List (S34)) (a1 : Int) (r1 : ByteArray) (r2 : Bool) (w : World) (hr0 : Kd.C k34 w A0 l0.length l0) (hc0 : l0.length ≤ c0) (h : copperplateref19_All.f k l0 a1 = some (r1, r2)) :
    Calls Try.prog 16 #[.slice A0 l0.length c0, .int .i64 a1] w fun e w' => e = .returned (.tuple #[.string r1, .bool r2]) ∧ Below w.heap.size w w' := by
  have hu34 := Try.underlying34
  have HR0 := Aside0.mk hr0
  have HC0 := Aside0.mk hc0
  clear hr0 hc0
  have HB := Aside0.mk (Below.refl w.heap.size w)
  have H : (if ([] : List (S34)).length + l0.length < 5864062014805 then ((some (([] : List (S34)) ++ l0 : List (S34))).bind fun y208 => (if y208.length < 5864062014805 then ((some (y208 ++ [(⟨5, (⟨#[]⟩ : ByteArray)⟩ : S34)] : List (S34))).bind fun y211 => ((copperplateref19_Flow.f k y211 a1 (y211.length : Int)).bind fun bt214 => (if bt214.2.2 = true then (if 0 ≤ (wrap64 ((bt214.1.size : Int) - 1)) then (if (wrap64 ((bt214.1.size : Int) - 1)) ≤ (bt214.1.size : Int) then (some (bt214.1.extract 0 ((wrap64 ((bt214.1.size : Int) - 1)) : Int).toNat, true)) else (none)) else (none)) else (some ((⟨#[]⟩ : ByteArray), false))))) else (none))) else (none)) = some (r1, r2) := h
  clear h
  by_cases c3 : ([] : List (S34)).length + l0.length < 5864062014805
  · rw [if_pos c3] at H
    have LMc3 := Aside0.mk c3
    clear c3
    obtain ⟨y208, hy208⟩ : ∃ y_ : List (S34), y_ = (([] : List (S34)) ++ l0) := ⟨_, rfl⟩
    replace H : (if y208.length < 5864062014805 then ((some (y208 ++ [(⟨5, (⟨#[]⟩ : ByteArray)⟩ : S34)] : List (S34))).bind fun y211 => ((copperplateref19_Flow.f k y211 a1 (y211.length : Int)).bind fun bt214 => (if bt214.2.2 = true then (if 0 ≤ (wrap64 ((bt214.1.size : Int) - 1)) then (if (wrap64 ((bt214.1.size : Int) - 1)) ≤ (bt214.1.size : Int) then (some (bt214.1.extract 0 ((wrap64 ((bt214.1.size : Int) - 1)) : Int).toNat, true)) else (none)) else (none)) else (some ((⟨#[]⟩ : ByteArray), false))))) else (none)) = some (r1, r2) := by first | (rw [hy208]; with_reducible exact H) | (have H2_ := (Option.bind_some _ _).symm.trans H; rw [hy208]; with_reducible exact H2_) | (have H2_ := (Option.bind_some _ _).symm.trans H; with_reducible exact H2_) | with_reducible exact H | (rw [hy208]; exact H) | exact H
    have Ny208 := Aside0.mk hy208
    clear hy208
    by_cases c4 : y208.length < 5864062014805
    · rw [if_pos c4] at H
      have LMc4 := Aside0.mk c4
      clear c4
      obtain ⟨y211, hy211⟩ : ∃ y_ : List (S34), y_ = (y208 ++ [(⟨5, (⟨#[]⟩ : ByteArray)⟩ : S34)]) := ⟨_, rfl⟩
      replace H : ((copperplateref19_Flow.f k y211 a1 (y211.length : Int)).bind fun bt214 => (if bt214.2.2 = true then (if 0 ≤ (wrap64 ((bt214.1.size : Int) - 1)) then (if (wrap64 ((bt214.1.size : Int) - 1)) ≤ (bt214.1.size : Int) then (some (bt214.1.extract 0 ((wrap64 ((bt214.1.size : Int) - 1)) : Int).toNat, true)) else (none)) else (none)) else (some ((⟨#[]⟩ : ByteArray), false)))) = some (r1, r2) := by first | (rw [hy211]; with_reducible exact H) | (have H2_ := (Option.bind_some _ _).symm.trans H; rw [hy211]; with_reducible exact H2_) | (have H2_ := (Option.bind_some _ _).symm.trans H; with_reducible exact H2_) | with_reducible exact H | (rw [hy211]; exact H) | exact H
      have Ny211 := Aside0.mk hy211
      clear hy211
      replace H := Option.bind_eq_some_iff.mp H
      obtain ⟨⟨t214, t215, t216⟩, A50, H⟩ := H
      replace H : (if t216 = true then (if 0 ≤ (wrap64 ((t214.size : Int) - 1)) then (if (wrap64 ((t214.size : Int) - 1)) ≤ (t214.size : Int) then (some (t214.extract 0 ((wrap64 ((t214.size : Int) - 1)) : Int).toNat, true)) else (none)) else (none)) else (some ((⟨#[]⟩ : ByteArray), false))) = some (r1, r2) := H
      have A5 := Aside0.mk A50
      clear A50
      by_cases c6 : t216 = true
      · subst c6
        have H1 : (if 0 ≤ (wrap64 ((t214.size : Int) - 1)) then (if (wrap64 ((t214.size : Int) - 1)) ≤ (t214.size : Int) then (some (t214.extract 0 ((wrap64 ((t214.size : Int) - 1)) : Int).toNat, true)) else (none)) else (none)) = some (r1, r2) := by rw [if_pos rfl] at H; exact H
        clear H
        have H := H1
        clear H1
        obtain ⟨ji7, hji7⟩ : ∃ j_ : Int, (wrap64 ((t214.size : Int) - 1)) = j_ := ⟨_, rfl⟩
        replace H : (if 0 ≤ (ji7) then (if (ji7) ≤ (t214.size : Int) then (some (t214.extract 0 ((ji7) : Int).toNat, true)) else (none)) else (none)) = some (r1, r2) := by first | (rw [hji7] at H; exact H) | (simp only [hji7] at H ⊢; exact H)
        (try rw [hji7] at A5)
        have hji7w : (IntKind.i64.wrap ((t214.size : Int) - 1)) = ji7 := (i64_w _).trans hji7
        by_cases c8 : 0 ≤ (ji7)
        · rw [if_pos c8] at H
          have c8b0 := eq_true c8
          have c8b1 : decide (0 ≤ (ji7)) = true := decide_eq_true c8
          clear c8
          by_cases c9 : (ji7) ≤ (t214.size : Int)
          · rw [if_pos c9] at H
            have c9b0 := eq_true c9
            have c9b1 : decide ((ji7) ≤ (t214.size : Int)) = true := decide_eq_true c9
            clear c9
            simp only [Option.some.injEq, Prod.mk.injEq] at H
            obtain ⟨rfl, rfl⟩ := H
            go_enter Try.func16, Try.ntmps16
            go_wp2_with (first | ((with_reducible refine gate_builtin (b := .append) (xs := #[.const (.slice none 0 0), .tmp 10]) rfl ?_); at_builtin; refine Kd.R_append_rows k34 (w0 := w) w.heap.size rfl (.const (.slice none 0 0)) (.tmp 10) 22 34 (.agg #[(.int .i64 0), (.string ⟨#[]⟩)]) 24 rfl Try.underlying22 info34 rfl (by decide) (by omega) (.slice none 0 0) ([] : List (S34)) l0 _ _ _ (fun _ => True) (fun _ => False) rfl rfl ?aO ?aR (fun _ _ h => h) (fun _ h => h.elim) ?aF ?aB ?aS ?aL ?_; (case aR => repeat (first | exact HR0.out | (with_reducible refine Kd.C_alloc ?_ _) | (with_reducible refine Kd.C_drewN ?_ _) | (with_reducible refine Kd.C_drew ?_))); (case aB => exact (by repeat (first | (with_reducible first | exact HB.out | apply below_alloc | apply pw_below_drewN | apply below_drew1) | exact HB.out))); (case aF => exact (fun _ _ => trivial)); (case aO => exact ((Kd.R_nil _ _ _ _ (fun _ => True)))); (case aS => exact (below_size (by repeat (first | (with_reducible first | exact HB.out | apply below_alloc | apply pw_below_drewN | apply below_drew1) | exact HB.out)))); (case aL => have := LMc3.out; omega); intro v209 w10 ho hb hg hat; rw [← Ny208.out] at ho; have n0_ := Aside0.mk (hb); have n1_ := Aside0.mk (ho); clear HB; have HB := n0_; have HO210 := n1_; clear n0_ n1_; clear ho hb hg hat) | ((with_reducible refine gate_builtin (b := .append) (xs := #[.tmp 11, .tmp 13]) rfl ?_); at_builtin; refine Kd.R_append k34 (w0 := w) w.heap.size rfl (.tmp 11) (.tmp 13) 22 34 (.agg #[(.int .i64 0), (.string ⟨#[]⟩)]) 24 rfl Try.underlying22 info34 rfl (by decide) (by omega) v209 y208 (⟨5, (⟨#[]⟩ : ByteArray)⟩ : S34) [.int .i64 5, .string (⟨#[]⟩ : ByteArray)] (fun _ => True) (fun _ => False) rfl rfl ?aP (fun _ hk => hk.elim) ?aF ?aO ?aB ?aS ?aL ?_; (case aP => exact k34_mkM _ _ _ (⟨5, (⟨#[]⟩ : ByteArray)⟩ : S34)); (case aB => exact (by repeat (first | (with_reducible first | exact HB.out | apply below_alloc | apply pw_below_drewN | apply below_drew1) | exact HB.out))); (case aF => exact (fun _ _ => trivial)); (case aO => exact (by (with_reducible repeat (first | apply Kd.R_alloc | apply Kd.R_drewN | apply Kd.R_drew)); exact HO210.out)); (case aS => exact (below_size (by repeat (first | (with_reducible first | exact HB.out | apply below_alloc | apply pw_below_drewN | apply below_drew1) | exact HB.out)))); (case aL => have := LMc4.out; omega); intro v212 w11 ho hb hg hat; rw [← Ny211.out] at ho; have n0_ := Aside0.mk (hb); have n1_ := Aside0.mk (ho); clear HB; clear HO210; have HB := n0_; have HO213 := n1_; clear n0_ n1_; clear ho hb hg hat; obtain ⟨Ao12, co12, eo12⟩ := Kd.R_slice HO213.out; subst eo12) | ((with_reducible refine gate_callee (f := 15) rfl ?_); refine goesL_ (some 20) rfl rfl Try.func15 (by kernel_rfl) rfl #[.slice Ao12 y211.length co12, .int .i64 a1, .int .i64 (y211.length : Int)] rfl (by (try simp only [List.map_toArray, List.map_cons, List.map_nil]); first | done | rfl | (simp only [List.length_drop, List.length_take]; rfl)) ?_; (with_reducible refine (copperplateref19_Flow.calls k _ _ y211 a1 (y211.length : Int) t214 t215 true _ ?side1 ?side2 A5.out).mono ?_); (case side1 => repeat (first | exact (Kd.R_reads' HO213.out).2.2 | (with_reducible refine Kd.C_alloc ?_ _) | (with_reducible refine Kd.C_drewN ?_ _) | (with_reducible refine Kd.C_drew ?_))); (case side2 => exact (Kd.R_reads' HO213.out).2.1); (try clear A5); rintro e w13 ⟨rfl, hb⟩; refine ⟨_, rfl, ?_⟩; have n0_ := Aside0.mk (Kd.R_below (by (with_reducible repeat (first | apply Kd.R_alloc | apply Kd.R_drewN | apply Kd.R_drew)); exact HO213.out) hb); have n1_ := Aside0.mk (below_step (by repeat (first | (with_reducible first | exact HB.out | apply below_alloc | apply pw_below_drewN | apply below_drew1) | exact HB.out)) hb); clear HO213; clear HB; have HO213 := n0_; have HB := n1_; clear n0_ n1_; (try clear hb); (try clear hb2); (try clear hk); (try clear hi)))
            go_ret2
            exact ⟨by first | rfl | (simp [errW_none, errW_some] <;> rfl) | (simp only [← hji7]; first | rfl | (simp [errW_none, errW_some] <;> rfl)) | (simp [*, errW_none, errW_some] <;> rfl), by repeat (first | (with_reducible first | exact HB.out | apply below_alloc | apply pw_below_drewN | apply below_drew1) | exact HB.out)⟩
          · rw [if_neg c9] at H
            exact absurd H (by simp)
        · rw [if_neg c8] at H
          exact absurd H (by simp)
      · replace c6 := Bool.eq_false_iff.mpr c6
        subst c6
        have H1 : (some ((⟨#[]⟩ : ByteArray), false)) = some (r1, r2) := by rw [if_neg (show ¬ (false = true) by decide)] at H; exact H
        clear H
        have H := H1
        clear H1
        simp only [Option.some.injEq, Prod.mk.injEq] at H
        obtain ⟨rfl, rfl⟩ := H
        go_enter Try.func16, Try.ntmps16
        go_wp2_with (first | ((with_reducible refine gate_builtin (b := .append) (xs := #[.const (.slice none 0 0), .tmp 10]) rfl ?_); at_builtin; refine Kd.R_append_rows k34 (w0 := w) w.heap.size rfl (.const (.slice none 0 0)) (.tmp 10) 22 34 (.agg #[(.int .i64 0), (.string ⟨#[]⟩)]) 24 rfl Try.underlying22 info34 rfl (by decide) (by omega) (.slice none 0 0) ([] : List (S34)) l0 _ _ _ (fun _ => True) (fun _ => False) rfl rfl ?aO ?aR (fun _ _ h => h) (fun _ h => h.elim) ?aF ?aB ?aS ?aL ?_; (case aR => repeat (first | exact HR0.out | (with_reducible refine Kd.C_alloc ?_ _) | (with_reducible refine Kd.C_drewN ?_ _) | (with_reducible refine Kd.C_drew ?_))); (case aB => exact (by repeat (first | (with_reducible first | exact HB.out | apply below_alloc | apply pw_below_drewN | apply below_drew1) | exact HB.out))); (case aF => exact (fun _ _ => trivial)); (case aO => exact ((Kd.R_nil _ _ _ _ (fun _ => True)))); (case aS => exact (below_size (by repeat (first | (with_reducible first | exact HB.out | apply below_alloc | apply pw_below_drewN | apply below_drew1) | exact HB.out)))); (case aL => have := LMc3.out; omega); intro v209 w14 ho hb hg hat; rw [← Ny208.out] at ho; have n0_ := Aside0.mk (hb); have n1_ := Aside0.mk (ho); clear HB; have HB := n0_; have HO210 := n1_; clear n0_ n1_; clear ho hb hg hat) | ((with_reducible refine gate_builtin (b := .append) (xs := #[.tmp 11, .tmp 13]) rfl ?_); at_builtin; refine Kd.R_append k34 (w0 := w) w.heap.size rfl (.tmp 11) (.tmp 13) 22 34 (.agg #[(.int .i64 0), (.string ⟨#[]⟩)]) 24 rfl Try.underlying22 info34 rfl (by decide) (by omega) v209 y208 (⟨5, (⟨#[]⟩ : ByteArray)⟩ : S34) [.int .i64 5, .string (⟨#[]⟩ : ByteArray)] (fun _ => True) (fun _ => False) rfl rfl ?aP (fun _ hk => hk.elim) ?aF ?aO ?aB ?aS ?aL ?_; (case aP => exact k34_mkM _ _ _ (⟨5, (⟨#[]⟩ : ByteArray)⟩ : S34)); (case aB => exact (by repeat (first | (with_reducible first | exact HB.out | apply below_alloc | apply pw_below_drewN | apply below_drew1) | exact HB.out))); (case aF => exact (fun _ _ => trivial)); (case aO => exact (by (with_reducible repeat (first | apply Kd.R_alloc | apply Kd.R_drewN | apply Kd.R_drew)); exact HO210.out)); (case aS => exact (below_size (by repeat (first | (with_reducible first | exact HB.out | apply below_alloc | apply pw_below_drewN | apply below_drew1) | exact HB.out)))); (case aL => have := LMc4.out; omega); intro v212 w15 ho hb hg hat; rw [← Ny211.out] at ho; have n0_ := Aside0.mk (hb); have n1_ := Aside0.mk (ho); clear HB; clear HO210; have HB := n0_; have HO213 := n1_; clear n0_ n1_; clear ho hb hg hat; obtain ⟨Ao16, co16, eo16⟩ := Kd.R_slice HO213.out; subst eo16) | ((with_reducible refine gate_callee (f := 15) rfl ?_); refine goesL_ (some 20) rfl rfl Try.func15 (by kernel_rfl) rfl #[.slice Ao16 y211.length co16, .int .i64 a1, .int .i64 (y211.length : Int)] rfl (by (try simp only [List.map_toArray, List.map_cons, List.map_nil]); first | done | rfl | (simp only [List.length_drop, List.length_take]; rfl)) ?_; (with_reducible refine (copperplateref19_Flow.calls k _ _ y211 a1 (y211.length : Int) t214 t215 false _ ?side1 ?side2 A5.out).mono ?_); (case side1 => repeat (first | exact (Kd.R_reads' HO213.out).2.2 | (with_reducible refine Kd.C_alloc ?_ _) | (with_reducible refine Kd.C_drewN ?_ _) | (with_reducible refine Kd.C_drew ?_))); (case side2 => exact (Kd.R_reads' HO213.out).2.1); (try clear A5); rintro e w17 ⟨rfl, hb⟩; refine ⟨_, rfl, ?_⟩; have n0_ := Aside0.mk (Kd.R_below (by (with_reducible repeat (first | apply Kd.R_alloc | apply Kd.R_drewN | apply Kd.R_drew)); exact HO213.out) hb); have n1_ := Aside0.mk (below_step (by repeat (first | (with_reducible first | exact HB.out | apply below_alloc | apply pw_below_drewN | apply below_drew1) | exact HB.out)) hb); clear HO213; clear HB; have HO213 := n0_; have HB := n1_; clear n0_ n1_; (try clear hb); (try clear hb2); (try clear hk); (try clear hi)))
        go_ret2
        exact ⟨by first | rfl | (simp [errW_none, errW_some] <;> rfl) | (simp [*, errW_none, errW_some] <;> rfl), by repeat (first | (with_reducible first | exact HB.out | apply below_alloc | apply pw_below_drewN | apply below_drew1) | exact HB.out)⟩
    · rw [if_neg c4] at H
      exact absurd H (by simp)
  · rw [if_neg c3] at H
    exact absurd H (by simp)

/-! ### copperplateref19_Held: function 17 -/
def copperplateref19_Held.l0 : Nat → List (S34) → Int → Int → Int → Int → Option (Int)
  | 0, _, _, _, _, _ => none
  | k + 1, x0, x1, x2, x10, x11 => if x11 ≤ x2 then ((copperplateref19_Flow.f k x0 x1 x11).bind fun bt220 => (if bt220.2.1 > x10 then (copperplateref19_Held.l0 k x0 x1 x2 bt220.2.1 (wrap64 (x11 + 1))) else (copperplateref19_Held.l0 k x0 x1 x2 x10 (wrap64 (x11 + 1))))) else (some x10)
def copperplateref19_Held.f (k : Nat) (l0 : List (S34)) (a1 : Int) (a2 : Int) : Option (Int) := (copperplateref19_Flow.f k l0 a1 a2).bind fun bt217 => (if bt217.2.2 = true then (copperplateref19_Held.l0 k l0 a1 a2 0 0) else (some (-1)))
theorem copperplateref19_Held.mono_l : ∀ k, (∀ y0 y1 y2 y3 y4, LeO (copperplateref19_Held.l0 k y0 y1 y2 y3 y4) (copperplateref19_Held.l0 (k + 1) y0 y1 y2 y3 y4))
  | 0 => fun _ _ _ _ _ r h => by simp [copperplateref19_Held.l0] at h
  | k + 1 => by
    have ih0 := copperplateref19_Held.mono_l k
    · intro y0 y1 y2 y3 y4
      unfold copperplateref19_Held.l0
      repeat' first
      | (with_reducible exact ih0 _ _ _ _ _)
      | (with_reducible exact copperplateref19_Flow.mono _ _ _ _)
      | (with_reducible exact LeO.refl _)
      | (with_reducible exact LeO.none _)
      | (with_reducible refine LeO.ite ?_ ?_)
      | (with_reducible refine LeO.bind ?_ (fun _ => ?_))
      | exact ih0 _ _ _ _ _
      | exact copperplateref19_Flow.mono _ _ _ _
      | exact LeO.none _
      | refine LeO.ite ?_ ?_
      | refine LeO.bind ?_ (fun _ => ?_)
theorem copperplateref19_Held.mono : ∀ a0 a1 a2 k, LeO (copperplateref19_Held.f k a0 a1 a2) (copperplateref19_Held.f (k + 1) a0 a1 a2) := by
  intro a0 a1 a2 k
  have ih0 := copperplateref19_Held.mono_l k
  unfold copperplateref19_Held.f
  repeat' first
      | (with_reducible exact ih0 _ _ _ _ _)
      | (with_reducible exact copperplateref19_Flow.mono _ _ _ _)
      | (with_reducible exact LeO.refl _)
      | (with_reducible exact LeO.none _)
      | (with_reducible refine LeO.ite ?_ ?_)
      | (with_reducible refine LeO.bind ?_ (fun _ => ?_))
      | exact ih0 _ _ _ _ _
      | exact copperplateref19_Flow.mono _ _ _ _
      | exact LeO.none _
      | refine LeO.ite ?_ ?_
      | refine LeO.bind ?_ (fun _ => ?_)
set_option maxHeartbeats 8000000 in
set_option maxRecDepth 100000 in
theorem copperplateref19_Held.calls (k : Nat) (A0 : Option Addr) (c0 : Nat) (l0 : List (S34)) (a1 : Int) (a2 : Int) (r : Int) (w : World) (hr0 : Kd.C k34 w A0 l0.length l0) (hc0 : l0.length ≤ c0) (h : copperplateref19_Held.f k l0 a1 a2 = some r) :
    Calls Try.prog 17 #[.slice A0 l0.length c0, .int .i64 a1, .int .i64 a2] w fun e w' => e = .returned (.int .i64 r) ∧ Below w.heap.size w w' := by
  have HR0 := Aside0.mk hr0
  have HC0 := Aside0.mk hc0
  clear hr0 hc0
  have HB := Aside0.mk (Below.refl w.heap.size w)
  have H : ((copperplateref19_Flow.f k l0 a1 a2).bind fun bt217 => (if bt217.2.2 = true then (copperplateref19_Held.l0 k l0 a1 a2 0 0) else (some (-1)))) = some r := h
  clear h
  replace H := Option.bind_eq_some_iff.mp H
  obtain ⟨⟨t217, t218, t219⟩, A40, H⟩ := H
  replace H : (if t219 = true then (copperplateref19_Held.l0 k l0 a1 a2 0 0) else (some (-1))) = some r := H
  have A4 := Aside0.mk A40
  clear A40
  by_cases c5 : t219 = true
  · subst c5
    have H1 : (copperplateref19_Held.l0 k l0 a1 a2 0 0) = some r := by rw [if_pos rfl] at H; exact H
    clear H
    have H := H1
    clear H1
    have H' := Aside0.mk H
    clear H
    go_enter Try.func17, Try.ntmps17
    go_wp2_with (first | ((with_reducible refine gate_callee (f := 15) rfl ?_); refine goesL_ (some 19) rfl rfl Try.func15 (by kernel_rfl) rfl #[.slice A0 l0.length c0, .int .i64 a1, .int .i64 a2] rfl (by (try simp only [List.map_toArray, List.map_cons, List.map_nil]); first | done | rfl | (simp only [List.length_drop, List.length_take]; rfl)) ?_; (with_reducible refine (copperplateref19_Flow.calls k _ _ l0 a1 a2 t217 t218 true _ ?side1 ?side2 A4.out).mono ?_); (case side1 => repeat (first | exact HR0.out | (with_reducible refine Kd.C_alloc ?_ _) | (with_reducible refine Kd.C_drewN ?_ _) | (with_reducible refine Kd.C_drew ?_))); (case side2 => exact HC0.out); (try clear A4); rintro e w6 ⟨rfl, hb⟩; refine ⟨_, rfl, ?_⟩; have n0_ := Aside0.mk (below_step (by repeat (first | (with_reducible first | exact HB.out | apply below_alloc | apply pw_below_drewN | apply below_drew1) | exact HB.out)) hb); clear HB; have HB := n0_; clear n0_; (try clear hb); (try clear hb2); (try clear hk); (try clear hi)))
    go_loopg [10, 11] k (fun kq v10 v11 w' => ∃ (x10_1 : Int) (x11_1 : Int), v10 = .int .i64 x10_1 ∧ v11 = .int .i64 x11_1 ∧ Aside0 (copperplateref19_Held.l0 kq l0 a1 a2 x10_1 x11_1 = some r) ∧ Aside0 (kq ≤ k) ∧ Aside0 (Below w.heap.size w w'))
    case atStart => exact ⟨(0), (0), (by first | rfl | (simp; done) | (simp [*]; done)), (by first | rfl | (simp; done) | (simp [*]; done)), H', ⟨Nat.le_refl _⟩, ⟨by repeat (first | (with_reducible first | exact HB.out | apply below_alloc | apply pw_below_drewN | apply below_drew1) | exact HB.out)⟩⟩
    case round =>
      clear H'
      try clear c1
      try clear p2
      try clear c5
      obtain ⟨x10_1, x11_1, rfl, rfl, HA, HK1, HB⟩ := hrel
      cases gk with
      | zero => exact absurd HA.out (by simp [copperplateref19_Held.l0])
      | succ k1 =>
        have H := HA.out
        clear HA
        simp only [copperplateref19_Held.l0] at H
        by_cases c7 : x11_1 ≤ a2
        · rw [if_pos c7] at H
          have c7b0 : decide (x11_1 ≤ a2) = true := decide_eq_true c7
          clear c7
          replace H := Option.bind_eq_some_iff.mp H
          obtain ⟨⟨t220, t221, t222⟩, A80, H⟩ := H
          replace H : (if t221 > x10_1 then (copperplateref19_Held.l0 k1 l0 a1 a2 t221 (wrap64 (x11_1 + 1))) else (copperplateref19_Held.l0 k1 l0 a1 a2 x10_1 (wrap64 (x11_1 + 1)))) = some r := H
          have A8 := Aside0.mk A80
          clear A80
          by_cases c9 : t221 > x10_1
          · rw [if_pos c9] at H
            have c9b0 : decide (x10_1 < t221) = true := decide_eq_true c9
            clear c9
            have H' := Aside0.mk H
            clear H
            go_wp2_with (first | ((with_reducible refine gate_callee (f := 15) rfl ?_); refine goesL_ (some 34) rfl rfl Try.func15 (by kernel_rfl) rfl #[.slice A0 l0.length c0, .int .i64 a1, .int .i64 x11_1] rfl (by (try simp only [List.map_toArray, List.map_cons, List.map_nil]); first | done | rfl | (simp only [List.length_drop, List.length_take]; rfl)) ?_; (with_reducible refine (copperplateref19_Flow.calls k1 _ _ l0 a1 x11_1 t220 t221 t222 _ ?side1 ?side2 A8.out).mono ?_); (case side1 => repeat (first | exact (Kd.C_below HR0.out HB.out) | (with_reducible refine Kd.C_alloc ?_ _) | (with_reducible refine Kd.C_drewN ?_ _) | (with_reducible refine Kd.C_drew ?_))); (case side2 => exact HC0.out); (try clear A8); rintro e w10 ⟨rfl, hb⟩; refine ⟨_, rfl, ?_⟩; have n0_ := Aside0.mk (below_step (by repeat (first | (with_reducible first | exact HB.out | apply below_alloc | apply pw_below_drewN | apply below_drew1) | exact HB.out)) hb); clear HB; have HB := n0_; clear n0_; (try clear hb); (try clear hb2); (try clear hk); (try clear hi)))
            go_roundg k1
            case measure => have := HK1.out; omega
            case rel => exact ⟨(t221), (wrap64 (x11_1 + 1)), (by first | rfl | (simp; done) | (simp [*]; done)), (by first | rfl | (simp; done) | (simp [*]; done)), H', ⟨by have := HK1.out; omega⟩, ⟨by repeat (first | (with_reducible first | exact HB.out | apply below_alloc | apply pw_below_drewN | apply below_drew1) | exact HB.out)⟩⟩
          · rw [if_neg c9] at H
            have c9b0 : decide (x10_1 < t221) = false := decide_eq_false c9
            clear c9
            have H' := Aside0.mk H
            clear H
            go_wp2_with (first | ((with_reducible refine gate_callee (f := 15) rfl ?_); refine goesL_ (some 34) rfl rfl Try.func15 (by kernel_rfl) rfl #[.slice A0 l0.length c0, .int .i64 a1, .int .i64 x11_1] rfl (by (try simp only [List.map_toArray, List.map_cons, List.map_nil]); first | done | rfl | (simp only [List.length_drop, List.length_take]; rfl)) ?_; (with_reducible refine (copperplateref19_Flow.calls k1 _ _ l0 a1 x11_1 t220 t221 t222 _ ?side1 ?side2 A8.out).mono ?_); (case side1 => repeat (first | exact (Kd.C_below HR0.out HB.out) | (with_reducible refine Kd.C_alloc ?_ _) | (with_reducible refine Kd.C_drewN ?_ _) | (with_reducible refine Kd.C_drew ?_))); (case side2 => exact HC0.out); (try clear A8); rintro e w11 ⟨rfl, hb⟩; refine ⟨_, rfl, ?_⟩; have n0_ := Aside0.mk (below_step (by repeat (first | (with_reducible first | exact HB.out | apply below_alloc | apply pw_below_drewN | apply below_drew1) | exact HB.out)) hb); clear HB; have HB := n0_; clear n0_; (try clear hb); (try clear hb2); (try clear hk); (try clear hi)))
            go_roundg k1
            case measure => have := HK1.out; omega
            case rel => exact ⟨(x10_1), (wrap64 (x11_1 + 1)), (by first | rfl | (simp; done) | (simp [*]; done)), (by first | rfl | (simp; done) | (simp [*]; done)), H', ⟨by have := HK1.out; omega⟩, ⟨by repeat (first | (with_reducible first | exact HB.out | apply below_alloc | apply pw_below_drewN | apply below_drew1) | exact HB.out)⟩⟩
        · rw [if_neg c7] at H
          have c7b0 : decide (x11_1 ≤ a2) = false := decide_eq_false c7
          clear c7
          obtain rfl := Option.some.inj H
          go_wp2
          go_ret
          exact ⟨by first | rfl | (simp [errW_none, errW_some] <;> rfl) | (simp [*, errW_none, errW_some] <;> rfl), by repeat (first | (with_reducible first | exact HB.out | apply below_alloc | apply pw_below_drewN | apply below_drew1) | exact HB.out)⟩
  · replace c5 := Bool.eq_false_iff.mpr c5
    subst c5
    have H1 : (some (-1)) = some r := by rw [if_neg (show ¬ (false = true) by decide)] at H; exact H
    clear H
    have H := H1
    clear H1
    obtain rfl := Option.some.inj H
    go_enter Try.func17, Try.ntmps17
    go_wp2_with (first | ((with_reducible refine gate_callee (f := 15) rfl ?_); refine goesL_ (some 19) rfl rfl Try.func15 (by kernel_rfl) rfl #[.slice A0 l0.length c0, .int .i64 a1, .int .i64 a2] rfl (by (try simp only [List.map_toArray, List.map_cons, List.map_nil]); first | done | rfl | (simp only [List.length_drop, List.length_take]; rfl)) ?_; (with_reducible refine (copperplateref19_Flow.calls k _ _ l0 a1 a2 t217 t218 false _ ?side1 ?side2 A4.out).mono ?_); (case side1 => repeat (first | exact HR0.out | (with_reducible refine Kd.C_alloc ?_ _) | (with_reducible refine Kd.C_drewN ?_ _) | (with_reducible refine Kd.C_drew ?_))); (case side2 => exact HC0.out); (try clear A4); rintro e w12 ⟨rfl, hb⟩; refine ⟨_, rfl, ?_⟩; have n0_ := Aside0.mk (below_step (by repeat (first | (with_reducible first | exact HB.out | apply below_alloc | apply pw_below_drewN | apply below_drew1) | exact HB.out)) hb); clear HB; have HB := n0_; clear n0_; (try clear hb); (try clear hb2); (try clear hk); (try clear hi)))
    go_ret
    exact ⟨by first | rfl | (simp [errW_none, errW_some] <;> rfl) | (simp [*, errW_none, errW_some] <;> rfl), by repeat (first | (with_reducible first | exact HB.out | apply below_alloc | apply pw_below_drewN | apply below_drew1) | exact HB.out)⟩

/-! ### copperplatelaw19_FlowTells: function 5 -/
def copperplatelaw19_FlowTells.j0 : Nat → List (S34) → Int → Int → Bool → Bool → Option (Bool)
  | 0, _, _, _, _, _ => none
  | k + 1, x0, x1, x2, x7, x25 => if x25 = true then (some x7) else ((flow_Flow.f x0 x1 x2).bind fun bt224 => ((copperplateref19_Flow.f k x0 x1 x2).bind fun bt227 => ((flow_All.f x0 x1).bind fun bt230 => ((copperplateref19_All.f k x0 x1).bind fun bt232 => (if bt224.1.toList = bt227.1.toList then (if bt224.2.1 = bt227.2.1 then (if (bt224.2.2 == bt227.2.2) = true then (if bt230.1.toList = bt232.1.toList then (if (bt230.2 == bt232.2) = true then ((flow_Held.f k x0 x1 x2).bind fun t234 => ((copperplateref19_Held.f k x0 x1 x2).bind fun t235 => (some (t234 == t235)))) else (some false)) else (some false)) else (some false)) else (some false)) else (some false))))))
def copperplatelaw19_FlowTells.f (k : Nat) (l0 : List (S34)) (a1 : Int) (a2 : Int) : Option (Bool) := (copperplatelaw19_awake.f).bind fun t223 => (if t223 = true then (copperplatelaw19_FlowTells.j0 k l0 a1 a2 t223 (decide ((l0.length : Int) > 60))) else (copperplatelaw19_FlowTells.j0 k l0 a1 a2 t223 true))
theorem copperplatelaw19_FlowTells.mono_l : ∀ k, (∀ y0 y1 y2 y3 y4, LeO (copperplatelaw19_FlowTells.j0 k y0 y1 y2 y3 y4) (copperplatelaw19_FlowTells.j0 (k + 1) y0 y1 y2 y3 y4))
  | 0 => fun _ _ _ _ _ r h => by simp [copperplatelaw19_FlowTells.j0] at h
  | k + 1 => by
    have ih0 := copperplatelaw19_FlowTells.mono_l k
    · intro y0 y1 y2 y3 y4
      unfold copperplatelaw19_FlowTells.j0
      repeat' first
      | (with_reducible exact ih0 _ _ _ _ _)
      | (with_reducible exact copperplateref19_All.mono _ _ _)
      | (with_reducible exact copperplateref19_Flow.mono _ _ _ _)
      | (with_reducible exact copperplateref19_Held.mono _ _ _ _)
      | (with_reducible exact flow_Held.mono _ _ _ _)
      | (with_reducible exact LeO.refl _)
      | (with_reducible exact LeO.none _)
      | (with_reducible refine LeO.ite ?_ ?_)
      | (with_reducible refine LeO.bind ?_ (fun _ => ?_))
      | exact ih0 _ _ _ _ _
      | exact copperplateref19_All.mono _ _ _
      | exact copperplateref19_Flow.mono _ _ _ _
      | exact copperplateref19_Held.mono _ _ _ _
      | exact flow_Held.mono _ _ _ _
      | exact LeO.none _
      | refine LeO.ite ?_ ?_
      | refine LeO.bind ?_ (fun _ => ?_)
theorem copperplatelaw19_FlowTells.mono : ∀ a0 a1 a2 k, LeO (copperplatelaw19_FlowTells.f k a0 a1 a2) (copperplatelaw19_FlowTells.f (k + 1) a0 a1 a2) := by
  intro a0 a1 a2 k
  have ih0 := copperplatelaw19_FlowTells.mono_l k
  unfold copperplatelaw19_FlowTells.f
  repeat' first
      | (with_reducible exact ih0 _ _ _ _ _)
      | (with_reducible exact copperplateref19_All.mono _ _ _)
      | (with_reducible exact copperplateref19_Flow.mono _ _ _ _)
      | (with_reducible exact copperplateref19_Held.mono _ _ _ _)
      | (with_reducible exact flow_Held.mono _ _ _ _)
      | (with_reducible exact LeO.refl _)
      | (with_reducible exact LeO.none _)
      | (with_reducible refine LeO.ite ?_ ?_)
      | (with_reducible refine LeO.bind ?_ (fun _ => ?_))
      | exact ih0 _ _ _ _ _
      | exact copperplateref19_All.mono _ _ _
      | exact copperplateref19_Flow.mono _ _ _ _
      | exact copperplateref19_Held.mono _ _ _ _
      | exact flow_Held.mono _ _ _ _
      | exact LeO.none _
      | refine LeO.ite ?_ ?_
      | refine LeO.bind ?_ (fun _ => ?_)
set_option maxHeartbeats 8000000 in
set_option maxRecDepth 100000 in
theorem copperplatelaw19_FlowTells.calls (k : Nat) (A0 : Option Addr) (c0 : Nat) (l0 : List (S34)) (a1 : Int) (a2 : Int) (r : Bool) (w : World) (hr0 : Kd.C k34 w A0 l0.length l0) (hc0 : l0.length ≤ c0) (h : copperplatelaw19_FlowTells.f k l0 a1 a2 = some r) (hT_ : r = true) :
    Calls Try.prog 5 #[.slice A0 l0.length c0, .int .i64 a1, .int .i64 a2] w fun e w' => e = .returned (.bool r) ∧ Below w.heap.size w w' := by
  have HT_ := Aside0.mk hT_
  clear hT_
  have HR0 := Aside0.mk hr0
  have HC0 := Aside0.mk hc0
  clear hr0 hc0
  have HB := Aside0.mk (Below.refl w.heap.size w)
  have H : ((copperplatelaw19_awake.f).bind fun t223 => (if t223 = true then (copperplatelaw19_FlowTells.j0 k l0 a1 a2 t223 (decide ((l0.length : Int) > 60))) else (copperplatelaw19_FlowTells.j0 k l0 a1 a2 t223 true))) = some r := h
  clear h
  replace H := Option.bind_eq_some_iff.mp H
  obtain ⟨t223, A40, H⟩ := H
  replace H : (if t223 = true then (copperplatelaw19_FlowTells.j0 k l0 a1 a2 t223 (decide ((l0.length : Int) > 60))) else (copperplatelaw19_FlowTells.j0 k l0 a1 a2 t223 true)) = some r := H
  have A4 := Aside0.mk A40
  clear A40
  have HC5 := Aside0.mk H
  clear H
  go_enter Try.func5, Try.ntmps5
  go_upto_region 2 with (first | ((with_reducible refine gate_callee (f := 9) rfl ?_); refine goesL_ (some 18) rfl rfl Try.func9 (by kernel_rfl) rfl #[] rfl (by (try simp only [List.map_toArray, List.map_cons, List.map_nil]); first | done | rfl | (simp only [List.length_drop, List.length_take]; rfl)) ?_; (with_reducible refine (copperplatelaw19_awake.calls  t223 _ A4.out).mono ?_); (try clear A4); rintro e w6 ⟨rfl, hb⟩; refine ⟨_, rfl, ?_⟩; have n0_ := Aside0.mk (below_step (by repeat (first | (with_reducible first | exact HB.out | apply below_alloc | apply pw_below_drewN | apply below_drew1) | exact HB.out)) hb); clear HB; have HB := n0_; clear n0_; (try clear hb); (try clear hb2); (try clear hk); (try clear hi)))
  (try simp only [Act.put, List.setIfInBounds_toArray, List.set_cons_zero, List.set_cons_succ])
  go_cut [25] (fun v25 wc => ∃ (kq : Nat) (x25_4 : Bool), v25 = .bool x25_4 ∧ Aside0 (copperplatelaw19_FlowTells.j0 kq l0 a1 a2 t223 x25_4 = some r) ∧ Aside0 (kq ≤ k) ∧ Aside0 (Below w.heap.size w wc))
  case first =>
    have H := HC5.out
    clear HC5
    by_cases c7 : t223 = true
    · subst c7
      have H1 : (copperplatelaw19_FlowTells.j0 k l0 a1 a2 true (decide ((l0.length : Int) > 60))) = some r := by rw [if_pos rfl] at H; exact H
      clear H
      have H := H1
      clear H1
      have H' := Aside0.mk H
      clear H
      go_wp2
      go_meet
      case rel => exact ⟨_, (decide ((l0.length : Int) > 60)), (by first | rfl | (simp; done) | (simp [*]; done)), H', ⟨by first | omega | exact Nat.le_refl _⟩, ⟨by repeat (first | (with_reducible first | exact HB.out | apply below_alloc | apply pw_below_drewN | apply below_drew1) | exact HB.out)⟩⟩
    · replace c7 := Bool.eq_false_iff.mpr c7
      subst c7
      have H1 : (copperplatelaw19_FlowTells.j0 k l0 a1 a2 false true) = some r := by rw [if_neg (show ¬ (false = true) by decide)] at H; exact H
      clear H
      have H := H1
      clear H1
      have H' := Aside0.mk H
      clear H
      go_wp2
      go_meet
      case rel => exact ⟨_, (true), (by first | rfl | (simp; done) | (simp [*]; done)), H', ⟨by first | omega | exact Nat.le_refl _⟩, ⟨by repeat (first | (with_reducible first | exact HB.out | apply below_alloc | apply pw_below_drewN | apply below_drew1) | exact HB.out)⟩⟩
  case rest =>
    clear HC5
    try clear p2
    try clear c5
    try clear c7
    obtain ⟨kq, x25_4, rfl, HA, HJ4, HB⟩ := hcut
    cases kq with
    | zero => exact absurd HA.out (by simp [copperplatelaw19_FlowTells.j0])
    | succ kj4 =>
      have H := HA.out
      clear HA
      simp only [copperplatelaw19_FlowTells.j0] at H
      by_cases c8 : x25_4 = true
      · subst c8
        have H1 : (some t223) = some r := by rw [if_pos rfl] at H; exact H
        clear H
        have H := H1
        clear H1
        obtain rfl := Option.some.inj H
        go_wp2
        go_ret
        exact ⟨by first | rfl | (simp [errW_none, errW_some] <;> rfl) | (simp [*, errW_none, errW_some] <;> rfl), by repeat (first | (with_reducible first | exact HB.out | apply below_alloc | apply pw_below_drewN | apply below_drew1) | exact HB.out)⟩
      · replace c8 := Bool.eq_false_iff.mpr c8
        subst c8
        have H1 : ((flow_Flow.f l0 a1 a2).bind fun bt224 => ((copperplateref19_Flow.f kj4 l0 a1 a2).bind fun bt227 => ((flow_All.f l0 a1).bind fun bt230 => ((copperplateref19_All.f kj4 l0 a1).bind fun bt232 => (if bt224.1.toList = bt227.1.toList then (if bt224.2.1 = bt227.2.1 then (if (bt224.2.2 == bt227.2.2) = true then (if bt230.1.toList = bt232.1.toList then (if (bt230.2 == bt232.2) = true then ((flow_Held.f kj4 l0 a1 a2).bind fun t234 => ((copperplateref19_Held.f kj4 l0 a1 a2).bind fun t235 => (some (t234 == t235)))) else (some false)) else (some false)) else (some false)) else (some false)) else (some false)))))) = some r := by rw [if_neg (show ¬ (false = true) by decide)] at H; exact H
        clear H
        have H := H1
        clear H1
        replace H := Option.bind_eq_some_iff.mp H
        obtain ⟨⟨t224, t225, t226⟩, A90, H⟩ := H
        replace H : ((copperplateref19_Flow.f kj4 l0 a1 a2).bind fun bt227 => ((flow_All.f l0 a1).bind fun bt230 => ((copperplateref19_All.f kj4 l0 a1).bind fun bt232 => (if t224.toList = bt227.1.toList then (if t225 = bt227.2.1 then (if (t226 == bt227.2.2) = true then (if bt230.1.toList = bt232.1.toList then (if (bt230.2 == bt232.2) = true then ((flow_Held.f kj4 l0 a1 a2).bind fun t234 => ((copperplateref19_Held.f kj4 l0 a1 a2).bind fun t235 => (some (t234 == t235)))) else (some false)) else (some false)) else (some false)) else (some false)) else (some false))))) = some r := H
        have A9 := Aside0.mk A90
        clear A90
        replace H := Option.bind_eq_some_iff.mp H
        obtain ⟨⟨t227, t228, t229⟩, A100, H⟩ := H
        replace H : ((flow_All.f l0 a1).bind fun bt230 => ((copperplateref19_All.f kj4 l0 a1).bind fun bt232 => (if t224.toList = t227.toList then (if t225 = t228 then (if (t226 == t229) = true then (if bt230.1.toList = bt232.1.toList then (if (bt230.2 == bt232.2) = true then ((flow_Held.f kj4 l0 a1 a2).bind fun t234 => ((copperplateref19_Held.f kj4 l0 a1 a2).bind fun t235 => (some (t234 == t235)))) else (some false)) else (some false)) else (some false)) else (some false)) else (some false)))) = some r := H
        have A10 := Aside0.mk A100
        clear A100
        replace H := Option.bind_eq_some_iff.mp H
        obtain ⟨⟨t230, t231⟩, A110, H⟩ := H
        replace H : ((copperplateref19_All.f kj4 l0 a1).bind fun bt232 => (if t224.toList = t227.toList then (if t225 = t228 then (if (t226 == t229) = true then (if t230.toList = bt232.1.toList then (if (t231 == bt232.2) = true then ((flow_Held.f kj4 l0 a1 a2).bind fun t234 => ((copperplateref19_Held.f kj4 l0 a1 a2).bind fun t235 => (some (t234 == t235)))) else (some false)) else (some false)) else (some false)) else (some false)) else (some false))) = some r := H
        have A11 := Aside0.mk A110
        clear A110
        replace H := Option.bind_eq_some_iff.mp H
        obtain ⟨⟨t232, t233⟩, A120, H⟩ := H
        replace H : (if t224.toList = t227.toList then (if t225 = t228 then (if (t226 == t229) = true then (if t230.toList = t232.toList then (if (t231 == t233) = true then ((flow_Held.f kj4 l0 a1 a2).bind fun t234 => ((copperplateref19_Held.f kj4 l0 a1 a2).bind fun t235 => (some (t234 == t235)))) else (some false)) else (some false)) else (some false)) else (some false)) else (some false)) = some r := H
        have A12 := Aside0.mk A120
        clear A120
        by_cases c13 : t224.toList = t227.toList
        · rw [if_pos c13] at H
          have c13b0 : (t224.toList == t227.toList) = true := beq_iff_eq.mpr c13
          have c13b1 : (t224.toList != t227.toList) = false := bne_eq_false_iff_eq.mpr c13
          clear c13
          by_cases c14 : t225 = t228
          · rw [if_pos c14] at H
            have c14b0 : (t225 == t228) = true := beq_iff_eq.mpr c14
            have c14b1 : (t225 != t228) = false := bne_eq_false_iff_eq.mpr c14
            clear c14
            by_cases c15 : (t226 == t229) = true
            · rw [if_pos c15] at H
              have c15b0 : (t226 == t229) = true := c15
              (try (have c15b1 : decide (t226 = t229) = true := by simpa using c15))
              (try (have c15b2 : (t226 == t229) = true := by simpa using c15))
              clear c15
              by_cases c16 : t230.toList = t232.toList
              · rw [if_pos c16] at H
                have c16b0 : (t230.toList == t232.toList) = true := beq_iff_eq.mpr c16
                have c16b1 : (t230.toList != t232.toList) = false := bne_eq_false_iff_eq.mpr c16
                clear c16
                by_cases c17 : (t231 == t233) = true
                · rw [if_pos c17] at H
                  have c17b0 : (t231 == t233) = true := c17
                  (try (have c17b1 : decide (t231 = t233) = true := by simpa using c17))
                  (try (have c17b2 : (t231 == t233) = true := by simpa using c17))
                  clear c17
                  replace H := Option.bind_eq_some_iff.mp H
                  obtain ⟨t234, A180, H⟩ := H
                  replace H : ((copperplateref19_Held.f kj4 l0 a1 a2).bind fun t235 => (some (t234 == t235))) = some r := H
                  have A18 := Aside0.mk A180
                  clear A180
                  replace H := Option.bind_eq_some_iff.mp H
                  obtain ⟨t235, A190, H⟩ := H
                  replace H : (some (t234 == t235)) = some r := H
                  have A19 := Aside0.mk A190
                  clear A190
                  obtain rfl := Option.some.inj H
                  go_wp2_with (first | ((with_reducible refine gate_callee (f := 11) rfl ?_); refine goesL_ (some 31) rfl rfl Try.func11 (by kernel_rfl) rfl #[.slice A0 l0.length c0, .int .i64 a1, .int .i64 a2] rfl (by (try simp only [List.map_toArray, List.map_cons, List.map_nil]); first | done | rfl | (simp only [List.length_drop, List.length_take]; rfl)) ?_; (with_reducible refine (flow_Flow.calls _ _ l0 a1 a2 t224 t225 t226 _ ?side1 ?side2 A9.out).mono ?_); (case side1 => repeat (first | exact (Kd.C_below HR0.out HB.out) | (with_reducible refine Kd.C_alloc ?_ _) | (with_reducible refine Kd.C_drewN ?_ _) | (with_reducible refine Kd.C_drew ?_))); (case side2 => exact HC0.out); (try clear A9); rintro e w20 ⟨rfl, hb⟩; refine ⟨_, rfl, ?_⟩; have n0_ := Aside0.mk (below_step (by repeat (first | (with_reducible first | exact HB.out | apply below_alloc | apply pw_below_drewN | apply below_drew1) | exact HB.out)) hb); clear HB; have HB := n0_; clear n0_; (try clear hb); (try clear hb2); (try clear hk); (try clear hi)) | ((with_reducible refine gate_callee (f := 15) rfl ?_); refine goesL_ (some 39) rfl rfl Try.func15 (by kernel_rfl) rfl #[.slice A0 l0.length c0, .int .i64 a1, .int .i64 a2] rfl (by (try simp only [List.map_toArray, List.map_cons, List.map_nil]); first | done | rfl | (simp only [List.length_drop, List.length_take]; rfl)) ?_; (with_reducible refine (copperplateref19_Flow.calls kj4 _ _ l0 a1 a2 t227 t228 t229 _ ?side1 ?side2 A10.out).mono ?_); (case side1 => repeat (first | exact (Kd.C_below HR0.out HB.out) | (with_reducible refine Kd.C_alloc ?_ _) | (with_reducible refine Kd.C_drewN ?_ _) | (with_reducible refine Kd.C_drew ?_))); (case side2 => exact HC0.out); (try clear A10); rintro e w21 ⟨rfl, hb⟩; refine ⟨_, rfl, ?_⟩; have n0_ := Aside0.mk (below_step (by repeat (first | (with_reducible first | exact HB.out | apply below_alloc | apply pw_below_drewN | apply below_drew1) | exact HB.out)) hb); clear HB; have HB := n0_; clear n0_; (try clear hb); (try clear hb2); (try clear hk); (try clear hi)) | ((with_reducible refine gate_callee (f := 14) rfl ?_); refine goesL_ (some 46) rfl rfl Try.func14 (by kernel_rfl) rfl #[.slice A0 l0.length c0, .int .i64 a1] rfl (by (try simp only [List.map_toArray, List.map_cons, List.map_nil]); first | done | rfl | (simp only [List.length_drop, List.length_take]; rfl)) ?_; (with_reducible refine (flow_All.calls _ _ l0 a1 t230 t231 _ ?side1 ?side2 A11.out).mono ?_); (case side1 => repeat (first | exact (Kd.C_below HR0.out HB.out) | (with_reducible refine Kd.C_alloc ?_ _) | (with_reducible refine Kd.C_drewN ?_ _) | (with_reducible refine Kd.C_drew ?_))); (case side2 => exact HC0.out); (try clear A11); rintro e w22 ⟨rfl, hb⟩; refine ⟨_, rfl, ?_⟩; have n0_ := Aside0.mk (below_step (by repeat (first | (with_reducible first | exact HB.out | apply below_alloc | apply pw_below_drewN | apply below_drew1) | exact HB.out)) hb); clear HB; have HB := n0_; clear n0_; (try clear hb); (try clear hb2); (try clear hk); (try clear hi)) | ((with_reducible refine gate_callee (f := 16) rfl ?_); refine goesL_ (some 52) rfl rfl Try.func16 (by kernel_rfl) rfl #[.slice A0 l0.length c0, .int .i64 a1] rfl (by (try simp only [List.map_toArray, List.map_cons, List.map_nil]); first | done | rfl | (simp only [List.length_drop, List.length_take]; rfl)) ?_; (with_reducible refine (copperplateref19_All.calls kj4 _ _ l0 a1 t232 t233 _ ?side1 ?side2 A12.out).mono ?_); (case side1 => repeat (first | exact (Kd.C_below HR0.out HB.out) | (with_reducible refine Kd.C_alloc ?_ _) | (with_reducible refine Kd.C_drewN ?_ _) | (with_reducible refine Kd.C_drew ?_))); (case side2 => exact HC0.out); (try clear A12); rintro e w23 ⟨rfl, hb⟩; refine ⟨_, rfl, ?_⟩; have n0_ := Aside0.mk (below_step (by repeat (first | (with_reducible first | exact HB.out | apply below_alloc | apply pw_below_drewN | apply below_drew1) | exact HB.out)) hb); clear HB; have HB := n0_; clear n0_; (try clear hb); (try clear hb2); (try clear hk); (try clear hi)) | (go_at_call 12; (with_reducible refine (flow_Held.calls kj4 _ _ l0 a1 a2 t234 _ ?side1 ?side2 A18.out).mono ?_); (case side1 => repeat (first | exact (Kd.C_below HR0.out HB.out) | (with_reducible refine Kd.C_alloc ?_ _) | (with_reducible refine Kd.C_drewN ?_ _) | (with_reducible refine Kd.C_drew ?_))); (case side2 => exact HC0.out); (try clear A18); rintro e w24 ⟨rfl, hb⟩; have n0_ := Aside0.mk (below_step (by repeat (first | (with_reducible first | exact HB.out | apply below_alloc | apply pw_below_drewN | apply below_drew1) | exact HB.out)) hb); clear HB; have HB := n0_; clear n0_; (try clear hb); (try clear hb2); (try clear hk); (try clear hi)) | (go_at_call 17; (with_reducible refine (copperplateref19_Held.calls kj4 _ _ l0 a1 a2 t235 _ ?side1 ?side2 A19.out).mono ?_); (case side1 => repeat (first | exact (Kd.C_below HR0.out HB.out) | (with_reducible refine Kd.C_alloc ?_ _) | (with_reducible refine Kd.C_drewN ?_ _) | (with_reducible refine Kd.C_drew ?_))); (case side2 => exact HC0.out); (try clear A19); rintro e w25 ⟨rfl, hb⟩; have n0_ := Aside0.mk (below_step (by repeat (first | (with_reducible first | exact HB.out | apply below_alloc | apply pw_below_drewN | apply below_drew1) | exact HB.out)) hb); clear HB; have HB := n0_; clear n0_; (try clear hb); (try clear hb2); (try clear hk); (try clear hi)))
                  go_ret
                  exact ⟨by first | rfl | (simp [errW_none, errW_some] <;> rfl) | (simp [*, errW_none, errW_some] <;> rfl), by repeat (first | (with_reducible first | exact HB.out | apply below_alloc | apply pw_below_drewN | apply below_drew1) | exact HB.out)⟩
                · rw [if_neg c17] at H
                  have c17b0 : (t231 == t233) = false := by simpa using c17
                  (try (have c17b1 : decide (t231 = t233) = false := by simpa using c17))
                  (try (have c17b2 : (t231 == t233) = false := by simpa using c17))
                  (try (have c17b3 : ¬ (t231 = t233) := by simpa using c17))
                  clear c17
                  exact absurd H (by have h_ := HT_.out; subst h_; decide)
              · rw [if_neg c16] at H
                have c16b0 : (t230.toList == t232.toList) = false := beq_eq_false_iff_ne.mpr c16
                have c16b1 : (t230.toList != t232.toList) = true := bne_iff_ne.mpr c16
                exact absurd H (by have h_ := HT_.out; subst h_; decide)
            · rw [if_neg c15] at H
              have c15b0 : (t226 == t229) = false := by simpa using c15
              (try (have c15b1 : decide (t226 = t229) = false := by simpa using c15))
              (try (have c15b2 : (t226 == t229) = false := by simpa using c15))
              (try (have c15b3 : ¬ (t226 = t229) := by simpa using c15))
              clear c15
              exact absurd H (by have h_ := HT_.out; subst h_; decide)
          · rw [if_neg c14] at H
            have c14b0 : (t225 == t228) = false := beq_eq_false_iff_ne.mpr c14
            have c14b1 : (t225 != t228) = true := bne_iff_ne.mpr c14
            exact absurd H (by have h_ := HT_.out; subst h_; decide)
        · rw [if_neg c13] at H
          have c13b0 : (t224.toList == t227.toList) = false := beq_eq_false_iff_ne.mpr c13
          have c13b1 : (t224.toList != t227.toList) = true := bne_iff_ne.mpr c13
          exact absurd H (by have h_ := HT_.out; subst h_; decide)

/-- The pure statement of copperplatelaw19_FlowTells. -/
def copperplatelaw19_FlowTells.Pure : Prop := ∀ (l0 : List (S34)) (a1 : Int) (a2 : Int), l0.length * 24 ≤ 140737488351232 → (∀ x ∈ l0, (Lit.int .i64 x.f0).wf = true ∧ x.f1.size ≤ 140737488351232) → (Lit.int .i64 a1).wf = true → (Lit.int .i64 a2).wf = true → ∃ k, copperplatelaw19_FlowTells.f k l0 a1 a2 = some true
def copperplatelaw19_FlowTells.PureUp : Prop := ∀ (l0 : List (S34)) (a1 : Int) (a2 : Int), l0.length * 24 ≤ 140737488351232 → (∀ x ∈ l0, (Lit.int .i64 x.f0).wf = true ∧ x.f1.size ≤ 140737488351232) → (Lit.int .i64 a1).wf = true → (Lit.int .i64 a2).wf = true → (l0.map fun x => x.f1.size).sum ≤ 1048576 → ∃ k, copperplatelaw19_FlowTells.f k l0 a1 a2 = some true

end Go.Proofs.Ytkhlfdoeploddaa.PFlow
