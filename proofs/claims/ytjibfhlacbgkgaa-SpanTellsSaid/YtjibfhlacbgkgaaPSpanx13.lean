-- Written by a program of the session (drive.py, over the kit's print.py with contracts by hand). Not trusted: Lean checks it.
import Derived.Test.YtjibfhlacbgkgaaPSpanx0
import Derived.Test.YtjibfhlacbgkgaaPSpanx4
import Derived.Test.YtjibfhlacbgkgaaPSpanx10
import Derived.Test.YtjibfhlacbgkgaaPSpanx11
import Derived.Test.YtjibfhlacbgkgaaPSpanx12
import Derived.Test.YtjibfhlacbgkgaaHSpanFlat
import Derived.Test.YtjibfhlacbgkgaaHSpanMatchM
import Derived.Test.YtjibfhlacbgkgaaHSpanNeed
import Derived.Test.YtjibfhlacbgkgaaHSpanSpanA
namespace Go.Proofs.Ytjibfhlacbgkgaa.PSpan
open Go.RowKit Go.Proofs.YtjibfhlacbgkgaaW.PrintWords Go.Proofs.YtjibfhlacbgkgaaW.PrintLast Go.Proofs.YtjibfhlacbgkgaaW.PrintMore
attribute [local go_sem] max2_int min2_int max_two min_two max_three min_three max_four min_four   -- for this text's walks alone
set_option linter.unusedVariables false
set_option linter.unusedSimpArgs false

/-! ### copperplatelaw17_SpanTells: function 3 -/
def copperplatelaw17_SpanTells.j0 : Nat → ByteArray → List (S23) → Int → Bool → Bool → Int → ByteArray → Option (Bool)
  | 0, _, _, _, _, _, _, _ => none
  | k + 1, x0, x2, x3, x9, x27, x189000, x189001 => if x27 = true then (some x9) else ((span_Flat.f x189000 x189001).bind fun bt190 => ((copperplateref17_Flat.f k x189000 x189001).bind fun bt192 => ((copperplateref17_Breaks.f x189000 x189001).bind fun t194 => ((span_Cols.f k x0).bind fun t195 => ((copperplateref17_Cols.f k x0).bind fun t196 => (if t195 = t196 then (if bt190.1.toList = bt192.1.toList then (if (bt190.2 == bt192.2) = true then ((span_Breaks.f x189000 x189001).bind fun t197 => (if (t197 == t194) = true then ((span_Match.f x2 x3).bind fun t198 => ((copperplateref17_Match.f k x2 x3).bind fun t199 => (if t198 = t199 then ((span_Need.f x2 x3).bind fun t200 => ((copperplateref17_Need.f k x2 x3).bind fun t201 => (some (t200 == t201)))) else (some false)))) else (some false))) else (some false)) else (some false)) else (some false)))))))
def copperplatelaw17_SpanTells.f (k : Nat) (a0 : ByteArray) (a1_0 : Int) (a1_1 : ByteArray) (l2 : List (S23)) (a3 : Int) : Option (Bool) := (copperplatelaw17_awake.f).bind fun t189 => (if t189 = true then (if (a0.size : Int) > 600 then (copperplatelaw17_SpanTells.j0 k a0 l2 a3 t189 true a1_0 a1_1) else (copperplatelaw17_SpanTells.j0 k a0 l2 a3 t189 (decide ((l2.length : Int) > 300)) a1_0 a1_1)) else (copperplatelaw17_SpanTells.j0 k a0 l2 a3 t189 true a1_0 a1_1))
theorem copperplatelaw17_SpanTells.mono_l : ∀ k, (∀ y0 y1 y2 y3 y4 y5 y6, LeO (copperplatelaw17_SpanTells.j0 k y0 y1 y2 y3 y4 y5 y6) (copperplatelaw17_SpanTells.j0 (k + 1) y0 y1 y2 y3 y4 y5 y6))
  | 0 => fun _ _ _ _ _ _ _ r h => by simp [copperplatelaw17_SpanTells.j0] at h
  | k + 1 => by
    have ih0 := copperplatelaw17_SpanTells.mono_l k
    · intro y0 y1 y2 y3 y4 y5 y6
      unfold copperplatelaw17_SpanTells.j0
      repeat' first
      | (with_reducible exact ih0 _ _ _ _ _ _ _)
      | (with_reducible exact copperplateref17_Cols.mono _ _)
      | (with_reducible exact copperplateref17_Flat.mono _ _ _)
      | (with_reducible exact copperplateref17_Match.mono _ _ _)
      | (with_reducible exact copperplateref17_Need.mono _ _ _)
      | (with_reducible exact span_Cols.mono _ _)
      | (with_reducible exact LeO.refl _)
      | (with_reducible exact LeO.none _)
      | (with_reducible refine LeO.ite ?_ ?_)
      | (with_reducible refine LeO.bind ?_ (fun _ => ?_))
      | exact ih0 _ _ _ _ _ _ _
      | exact copperplateref17_Cols.mono _ _
      | exact copperplateref17_Flat.mono _ _ _
      | exact copperplateref17_Match.mono _ _ _
      | exact copperplateref17_Need.mono _ _ _
      | exact span_Cols.mono _ _
      | exact LeO.none _
      | refine LeO.ite ?_ ?_
      | refine LeO.bind ?_ (fun _ => ?_)
theorem copperplatelaw17_SpanTells.mono : ∀ a0 a1 a2 a3 a4 k, LeO (copperplatelaw17_SpanTells.f k a0 a1 a2 a3 a4) (copperplatelaw17_SpanTells.f (k + 1) a0 a1 a2 a3 a4) := by
  intro a0 a1 a2 a3 a4 k
  have ih0 := copperplatelaw17_SpanTells.mono_l k
  unfold copperplatelaw17_SpanTells.f
  repeat' first
      | (with_reducible exact ih0 _ _ _ _ _ _ _)
      | (with_reducible exact copperplateref17_Cols.mono _ _)
      | (with_reducible exact copperplateref17_Flat.mono _ _ _)
      | (with_reducible exact copperplateref17_Match.mono _ _ _)
      | (with_reducible exact copperplateref17_Need.mono _ _ _)
      | (with_reducible exact span_Cols.mono _ _)
      | (with_reducible exact LeO.refl _)
      | (with_reducible exact LeO.none _)
      | (with_reducible refine LeO.ite ?_ ?_)
      | (with_reducible refine LeO.bind ?_ (fun _ => ?_))
      | exact ih0 _ _ _ _ _ _ _
      | exact copperplateref17_Cols.mono _ _
      | exact copperplateref17_Flat.mono _ _ _
      | exact copperplateref17_Match.mono _ _ _
      | exact copperplateref17_Need.mono _ _ _
      | exact span_Cols.mono _ _
      | exact LeO.none _
      | refine LeO.ite ?_ ?_
      | refine LeO.bind ?_ (fun _ => ?_)
set_option maxHeartbeats 8000000 in
set_option maxRecDepth 100000 in
theorem copperplatelaw17_SpanTells.calls (k : Nat) (a0 : ByteArray) (a1_0 : Int) (a1_1 : ByteArray) (A2 : Option Addr) (c2 : Nat) (l2 : List (S23)) (a3 : Int) (r : Bool) (w : World) (hr2 : Kd.C k23 w A2 l2.length l2) (hc2 : l2.length ≤ c2) (h : copperplatelaw17_SpanTells.f k a0 a1_0 a1_1 l2 a3 = some r) (hT_ : r = true) :
    Calls Try.prog 3 #[.string a0, .agg #[.int .i64 a1_0, .string a1_1], .slice A2 l2.length c2, .int .i64 a3] w fun e w' => e = .returned (.bool r) ∧ Below w.heap.size w w' := by
  have hu23 := Try.underlying23
  have HT_ := Aside0.mk hT_
  clear hT_
  have HR2 := Aside0.mk hr2
  have HC2 := Aside0.mk hc2
  clear hr2 hc2
  have HB := Aside0.mk (Below.refl w.heap.size w)
  have H : ((copperplatelaw17_awake.f).bind fun t189 => (if t189 = true then (if (a0.size : Int) > 600 then (copperplatelaw17_SpanTells.j0 k a0 l2 a3 t189 true a1_0 a1_1) else (copperplatelaw17_SpanTells.j0 k a0 l2 a3 t189 (decide ((l2.length : Int) > 300)) a1_0 a1_1)) else (copperplatelaw17_SpanTells.j0 k a0 l2 a3 t189 true a1_0 a1_1))) = some r := h
  clear h
  replace H := Option.bind_eq_some_iff.mp H
  obtain ⟨t189, A50, H⟩ := H
  replace H : (if t189 = true then (if (a0.size : Int) > 600 then (copperplatelaw17_SpanTells.j0 k a0 l2 a3 t189 true a1_0 a1_1) else (copperplatelaw17_SpanTells.j0 k a0 l2 a3 t189 (decide ((l2.length : Int) > 300)) a1_0 a1_1)) else (copperplatelaw17_SpanTells.j0 k a0 l2 a3 t189 true a1_0 a1_1)) = some r := H
  have A5 := Aside0.mk A50
  clear A50
  have HC6 := Aside0.mk H
  clear H
  go_enter Try.func3, Try.ntmps3
  go_upto_region 2 with (first | ((with_reducible refine gate_dst (N := 5) rfl ?_); (try (refine gate_guard (by rfl) ?_; dsimp only)); refine box_event ?hg (N := 5) ?hd (cs := #[.int .i64 a1_0, .string a1_1]) (t := 23) ?hr ?_; (case hd => rfl); (case hg => rfl); (case hr => first | (go_simp; done) | (go_simp; rfl)); intro gb188 hg w7 hbox hb; have n0_ := Aside0.mk (below_step (by repeat (first | (with_reducible first | exact HB.out | apply below_alloc | apply pw_below_drewN | apply below_drew1) | exact HB.out)) hb); have n1_ := Aside0.mk (hbox); have n2_ := Aside0.mk ((by rw [hg]; exact (below_size (by repeat (first | (with_reducible first | exact HB.out | apply below_alloc | apply pw_below_drewN | apply below_drew1) | exact HB.out))) : w.heap.size ≤ gb188)); have n3_ := Aside0.mk ((by rw [hg]; exact (below_size (by repeat (first | (with_reducible first | exact HB.out | apply below_alloc | apply pw_below_drewN | apply below_drew1) | exact HB.out))) : w.heap.size ≤ gb188)); clear HB; have HB := n0_; have BK188 := n1_; have GW188 := n2_; have GE188 := n3_; clear n0_ n1_ n2_ n3_; clear hb hbox hg) | ((with_reducible refine gate_callee (f := 10) rfl ?_); refine goesL_ (some 15) rfl rfl Try.func10 (by kernel_rfl) rfl #[] rfl (by (try simp only [List.map_toArray, List.map_cons, List.map_nil]); first | done | rfl | (simp only [List.length_drop, List.length_take]; rfl)) ?_; (with_reducible refine (copperplatelaw17_awake.calls  t189 _ A5.out).mono ?_); (try clear A5); rintro e w8 ⟨rfl, hb⟩; refine ⟨_, rfl, ?_⟩; have n0_ := Aside0.mk (blk_below (g := gb188) (o := .cells #[.int .i64 a1_0, .string a1_1] 23 (0, 0)) (by (with_reducible repeat (first | refine blk_drewN ?_ _ | refine blk_drew ?_ | refine blk_alloc ?_ _)); exact BK188.out) hb); have n1_ := Aside0.mk (below_step (by repeat (first | (with_reducible first | exact HB.out | apply below_alloc | apply pw_below_drewN | apply below_drew1 | refine below_set ?_ GE188.out) | exact HB.out)) hb); clear BK188; clear HB; have BK188 := n0_; have HB := n1_; clear n0_ n1_; (try clear hb); (try clear hb2); (try clear hk); (try clear hi)))
  (try simp only [Act.put, List.setIfInBounds_toArray, List.set_cons_zero, List.set_cons_succ])
  go_cut [27] (fun v27 wc => ∃ (kq : Nat) (x27_5 : Bool), v27 = .bool x27_5 ∧ Aside0 (copperplatelaw17_SpanTells.j0 kq a0 l2 a3 t189 x27_5 a1_0 a1_1 = some r) ∧ Aside0 (kq ≤ k) ∧ Aside0 (wc.heap[gb188]? = some (.cells #[.int .i64 a1_0, .string a1_1] 23 (0, 0))) ∧ Aside0 (Below w.heap.size w wc))
  case first =>
    have H := HC6.out
    clear HC6
    by_cases c9 : t189 = true
    · subst c9
      have H1 : (if (a0.size : Int) > 600 then (copperplatelaw17_SpanTells.j0 k a0 l2 a3 true true a1_0 a1_1) else (copperplatelaw17_SpanTells.j0 k a0 l2 a3 true (decide ((l2.length : Int) > 300)) a1_0 a1_1)) = some r := by rw [if_pos rfl] at H; exact H
      clear H
      have H := H1
      clear H1
      by_cases c10 : (a0.size : Int) > 600
      · rw [if_pos c10] at H
        have c10b0 : decide (600 < (a0.size : Int)) = true := decide_eq_true c10
        have c10b1 : decide (600 < a0.size) = true := decide_eq_true (by omega)
        clear c10
        (first | rw [c10b0] | (simp only [i64_w, i32_w]; rw [c10b0]) | skip)
        have H' := Aside0.mk H
        clear H
        go_wp2
        go_meet
        case rel => exact ⟨_, (true), (by first | rfl | (simp; done) | (simp [*]; done)), H', ⟨by first | omega | exact Nat.le_refl _⟩, ⟨by (with_reducible repeat (first | refine blk_drewN ?_ _ | refine blk_drew ?_ | refine blk_alloc ?_ _)); exact BK188.out⟩, ⟨by repeat (first | (with_reducible first | exact HB.out | apply below_alloc | apply pw_below_drewN | apply below_drew1 | refine below_set ?_ GE188.out) | exact HB.out)⟩⟩
      · rw [if_neg c10] at H
        have c10b0 : decide (600 < (a0.size : Int)) = false := decide_eq_false c10
        have c10b1 : decide (600 < a0.size) = false := decide_eq_false (by omega)
        clear c10
        (first | rw [c10b0] | (simp only [i64_w, i32_w]; rw [c10b0]) | skip)
        have H' := Aside0.mk H
        clear H
        go_wp2
        go_meet
        case rel => exact ⟨_, (decide ((l2.length : Int) > 300)), (by first | rfl | (simp; done) | (simp [*]; done)), H', ⟨by first | omega | exact Nat.le_refl _⟩, ⟨by (with_reducible repeat (first | refine blk_drewN ?_ _ | refine blk_drew ?_ | refine blk_alloc ?_ _)); exact BK188.out⟩, ⟨by repeat (first | (with_reducible first | exact HB.out | apply below_alloc | apply pw_below_drewN | apply below_drew1 | refine below_set ?_ GE188.out) | exact HB.out)⟩⟩
    · replace c9 := Bool.eq_false_iff.mpr c9
      subst c9
      have H1 : (copperplatelaw17_SpanTells.j0 k a0 l2 a3 false true a1_0 a1_1) = some r := by rw [if_neg (show ¬ (false = true) by decide)] at H; exact H
      clear H
      have H := H1
      clear H1
      have H' := Aside0.mk H
      clear H
      go_wp2
      go_meet
      case rel => exact ⟨_, (true), (by first | rfl | (simp; done) | (simp [*]; done)), H', ⟨by first | omega | exact Nat.le_refl _⟩, ⟨by (with_reducible repeat (first | refine blk_drewN ?_ _ | refine blk_drew ?_ | refine blk_alloc ?_ _)); exact BK188.out⟩, ⟨by repeat (first | (with_reducible first | exact HB.out | apply below_alloc | apply pw_below_drewN | apply below_drew1 | refine below_set ?_ GE188.out) | exact HB.out)⟩⟩
  case rest =>
    clear HC6
    try clear c1
    try clear c2
    try clear p2
    try clear c3
    try clear c9
    try clear c10
    try clear c10b0
    try clear c10b1
    obtain ⟨kq, x27_5, rfl, HA, HJ5, BK188, HB⟩ := hcut
    cases kq with
    | zero => exact absurd HA.out (by simp [copperplatelaw17_SpanTells.j0])
    | succ kj5 =>
      have H := HA.out
      clear HA
      simp only [copperplatelaw17_SpanTells.j0] at H
      by_cases c11 : x27_5 = true
      · subst c11
        have H1 : (some t189) = some r := by rw [if_pos rfl] at H; exact H
        clear H
        have H := H1
        clear H1
        obtain rfl := Option.some.inj H
        go_wp2
        go_ret
        exact ⟨by first | rfl | (simp [errW_none, errW_some] <;> rfl) | (simp [*, errW_none, errW_some] <;> rfl), by repeat (first | (with_reducible first | exact HB.out | apply below_alloc | apply pw_below_drewN | apply below_drew1 | refine below_set ?_ GE188.out) | exact HB.out)⟩
      · replace c11 := Bool.eq_false_iff.mpr c11
        subst c11
        have H1 : ((span_Flat.f a1_0 a1_1).bind fun bt190 => ((copperplateref17_Flat.f kj5 a1_0 a1_1).bind fun bt192 => ((copperplateref17_Breaks.f a1_0 a1_1).bind fun t194 => ((span_Cols.f kj5 a0).bind fun t195 => ((copperplateref17_Cols.f kj5 a0).bind fun t196 => (if t195 = t196 then (if bt190.1.toList = bt192.1.toList then (if (bt190.2 == bt192.2) = true then ((span_Breaks.f a1_0 a1_1).bind fun t197 => (if (t197 == t194) = true then ((span_Match.f l2 a3).bind fun t198 => ((copperplateref17_Match.f kj5 l2 a3).bind fun t199 => (if t198 = t199 then ((span_Need.f l2 a3).bind fun t200 => ((copperplateref17_Need.f kj5 l2 a3).bind fun t201 => (some (t200 == t201)))) else (some false)))) else (some false))) else (some false)) else (some false)) else (some false))))))) = some r := by rw [if_neg (show ¬ (false = true) by decide)] at H; exact H
        clear H
        have H := H1
        clear H1
        replace H := Option.bind_eq_some_iff.mp H
        obtain ⟨⟨t190, t191⟩, A120, H⟩ := H
        replace H : ((copperplateref17_Flat.f kj5 a1_0 a1_1).bind fun bt192 => ((copperplateref17_Breaks.f a1_0 a1_1).bind fun t194 => ((span_Cols.f kj5 a0).bind fun t195 => ((copperplateref17_Cols.f kj5 a0).bind fun t196 => (if t195 = t196 then (if t190.toList = bt192.1.toList then (if (t191 == bt192.2) = true then ((span_Breaks.f a1_0 a1_1).bind fun t197 => (if (t197 == t194) = true then ((span_Match.f l2 a3).bind fun t198 => ((copperplateref17_Match.f kj5 l2 a3).bind fun t199 => (if t198 = t199 then ((span_Need.f l2 a3).bind fun t200 => ((copperplateref17_Need.f kj5 l2 a3).bind fun t201 => (some (t200 == t201)))) else (some false)))) else (some false))) else (some false)) else (some false)) else (some false)))))) = some r := H
        have A12 := Aside0.mk A120
        clear A120
        replace H := Option.bind_eq_some_iff.mp H
        obtain ⟨⟨t192, t193⟩, A130, H⟩ := H
        replace H : ((copperplateref17_Breaks.f a1_0 a1_1).bind fun t194 => ((span_Cols.f kj5 a0).bind fun t195 => ((copperplateref17_Cols.f kj5 a0).bind fun t196 => (if t195 = t196 then (if t190.toList = t192.toList then (if (t191 == t193) = true then ((span_Breaks.f a1_0 a1_1).bind fun t197 => (if (t197 == t194) = true then ((span_Match.f l2 a3).bind fun t198 => ((copperplateref17_Match.f kj5 l2 a3).bind fun t199 => (if t198 = t199 then ((span_Need.f l2 a3).bind fun t200 => ((copperplateref17_Need.f kj5 l2 a3).bind fun t201 => (some (t200 == t201)))) else (some false)))) else (some false))) else (some false)) else (some false)) else (some false))))) = some r := H
        have A13 := Aside0.mk A130
        clear A130
        replace H := Option.bind_eq_some_iff.mp H
        obtain ⟨t194, A140, H⟩ := H
        replace H : ((span_Cols.f kj5 a0).bind fun t195 => ((copperplateref17_Cols.f kj5 a0).bind fun t196 => (if t195 = t196 then (if t190.toList = t192.toList then (if (t191 == t193) = true then ((span_Breaks.f a1_0 a1_1).bind fun t197 => (if (t197 == t194) = true then ((span_Match.f l2 a3).bind fun t198 => ((copperplateref17_Match.f kj5 l2 a3).bind fun t199 => (if t198 = t199 then ((span_Need.f l2 a3).bind fun t200 => ((copperplateref17_Need.f kj5 l2 a3).bind fun t201 => (some (t200 == t201)))) else (some false)))) else (some false))) else (some false)) else (some false)) else (some false)))) = some r := H
        have A14 := Aside0.mk A140
        clear A140
        replace H := Option.bind_eq_some_iff.mp H
        obtain ⟨t195, A150, H⟩ := H
        replace H : ((copperplateref17_Cols.f kj5 a0).bind fun t196 => (if t195 = t196 then (if t190.toList = t192.toList then (if (t191 == t193) = true then ((span_Breaks.f a1_0 a1_1).bind fun t197 => (if (t197 == t194) = true then ((span_Match.f l2 a3).bind fun t198 => ((copperplateref17_Match.f kj5 l2 a3).bind fun t199 => (if t198 = t199 then ((span_Need.f l2 a3).bind fun t200 => ((copperplateref17_Need.f kj5 l2 a3).bind fun t201 => (some (t200 == t201)))) else (some false)))) else (some false))) else (some false)) else (some false)) else (some false))) = some r := H
        have A15 := Aside0.mk A150
        clear A150
        replace H := Option.bind_eq_some_iff.mp H
        obtain ⟨t196, A160, H⟩ := H
        replace H : (if t195 = t196 then (if t190.toList = t192.toList then (if (t191 == t193) = true then ((span_Breaks.f a1_0 a1_1).bind fun t197 => (if (t197 == t194) = true then ((span_Match.f l2 a3).bind fun t198 => ((copperplateref17_Match.f kj5 l2 a3).bind fun t199 => (if t198 = t199 then ((span_Need.f l2 a3).bind fun t200 => ((copperplateref17_Need.f kj5 l2 a3).bind fun t201 => (some (t200 == t201)))) else (some false)))) else (some false))) else (some false)) else (some false)) else (some false)) = some r := H
        have A16 := Aside0.mk A160
        clear A160
        by_cases c17 : t195 = t196
        · rw [if_pos c17] at H
          have c17b0 : (t195 == t196) = true := beq_iff_eq.mpr c17
          have c17b1 : (t195 != t196) = false := bne_eq_false_iff_eq.mpr c17
          clear c17
          by_cases c18 : t190.toList = t192.toList
          · rw [if_pos c18] at H
            have c18b0 : (t190.toList == t192.toList) = true := beq_iff_eq.mpr c18
            have c18b1 : (t190.toList != t192.toList) = false := bne_eq_false_iff_eq.mpr c18
            clear c18
            by_cases c19 : (t191 == t193) = true
            · rw [if_pos c19] at H
              have c19b0 : (t191 == t193) = true := c19
              (try (have c19b1 : decide (t191 = t193) = true := by simpa using c19))
              (try (have c19b2 : (t191 == t193) = true := by simpa using c19))
              clear c19
              replace H := Option.bind_eq_some_iff.mp H
              obtain ⟨t197, A200, H⟩ := H
              replace H : (if (t197 == t194) = true then ((span_Match.f l2 a3).bind fun t198 => ((copperplateref17_Match.f kj5 l2 a3).bind fun t199 => (if t198 = t199 then ((span_Need.f l2 a3).bind fun t200 => ((copperplateref17_Need.f kj5 l2 a3).bind fun t201 => (some (t200 == t201)))) else (some false)))) else (some false)) = some r := H
              have A20 := Aside0.mk A200
              clear A200
              by_cases c21 : (t197 == t194) = true
              · rw [if_pos c21] at H
                have c21b0 : (t197 == t194) = true := c21
                (try (have c21b1 : decide (t197 = t194) = true := by simpa using c21))
                (try (have c21b2 : (t197 == t194) = true := by simpa using c21))
                clear c21
                replace H := Option.bind_eq_some_iff.mp H
                obtain ⟨t198, A220, H⟩ := H
                replace H : ((copperplateref17_Match.f kj5 l2 a3).bind fun t199 => (if t198 = t199 then ((span_Need.f l2 a3).bind fun t200 => ((copperplateref17_Need.f kj5 l2 a3).bind fun t201 => (some (t200 == t201)))) else (some false))) = some r := H
                have A22 := Aside0.mk A220
                clear A220
                replace H := Option.bind_eq_some_iff.mp H
                obtain ⟨t199, A230, H⟩ := H
                replace H : (if t198 = t199 then ((span_Need.f l2 a3).bind fun t200 => ((copperplateref17_Need.f kj5 l2 a3).bind fun t201 => (some (t200 == t201)))) else (some false)) = some r := H
                have A23 := Aside0.mk A230
                clear A230
                by_cases c24 : t198 = t199
                · rw [if_pos c24] at H
                  have c24b0 : (t198 == t199) = true := beq_iff_eq.mpr c24
                  have c24b1 : (t198 != t199) = false := bne_eq_false_iff_eq.mpr c24
                  clear c24
                  replace H := Option.bind_eq_some_iff.mp H
                  obtain ⟨t200, A250, H⟩ := H
                  replace H : ((copperplateref17_Need.f kj5 l2 a3).bind fun t201 => (some (t200 == t201))) = some r := H
                  have A25 := Aside0.mk A250
                  clear A250
                  replace H := Option.bind_eq_some_iff.mp H
                  obtain ⟨t201, A260, H⟩ := H
                  replace H : (some (t200 == t201)) = some r := H
                  have A26 := Aside0.mk A260
                  clear A260
                  obtain rfl := Option.some.inj H
                  have hcz27_0 : wc.cell? ⟨gb188, 0, none⟩ = some (.int .i64 a1_0) := (blk_cell BK188.out 0).trans rfl
                  have hcz27_1 : wc.cell? ⟨gb188, 1, none⟩ = some (.string a1_1) := (blk_cell BK188.out 1).trans rfl
                  have hfz27_0 := blk_frozen BK188.out 0
                  have hfz27_1 := blk_frozen BK188.out 1
                  go_wp2_with (first | ((with_reducible refine gate_callee (f := 11) rfl ?_); refine goesL_ (some 31) rfl rfl Try.func11 (by kernel_rfl) rfl #[.agg #[.int .i64 a1_0, .string a1_1]] rfl (by (try simp only [List.map_toArray, List.map_cons, List.map_nil]); first | done | rfl | (simp only [List.length_drop, List.length_take]; rfl)) ?_; (with_reducible refine (span_Flat.calls a1_0 a1_1 t190 t191 _ A12.out).mono ?_); (try clear A12); rintro e w28 ⟨rfl, hb⟩; refine ⟨_, rfl, ?_⟩; have n0_ := Aside0.mk (blk_below (g := gb188) (o := .cells #[.int .i64 a1_0, .string a1_1] 23 (0, 0)) (by (with_reducible repeat (first | refine blk_drewN ?_ _ | refine blk_drew ?_ | refine blk_alloc ?_ _)); exact BK188.out) hb); have n1_ := Aside0.mk (below_step (by repeat (first | (with_reducible first | exact HB.out | apply below_alloc | apply pw_below_drewN | apply below_drew1 | refine below_set ?_ GE188.out) | exact HB.out)) hb); clear BK188; clear HB; have BK188 := n0_; have HB := n1_; clear n0_ n1_; (try clear hb); (try clear hb2); (try clear hk); (try clear hi); have hcz29_0 : w28.cell? ⟨gb188, 0, none⟩ = some (.int .i64 a1_0) := (blk_cell BK188.out 0).trans rfl; have hcz29_1 : w28.cell? ⟨gb188, 1, none⟩ = some (.string a1_1) := (blk_cell BK188.out 1).trans rfl; have hfz29_0 := blk_frozen BK188.out 0; have hfz29_1 := blk_frozen BK188.out 1) | ((with_reducible refine gate_callee (f := 12) rfl ?_); refine goesL_ (some 36) rfl rfl Try.func12 (by kernel_rfl) rfl #[.agg #[.int .i64 a1_0, .string a1_1]] rfl (by (try simp only [List.map_toArray, List.map_cons, List.map_nil]); first | done | rfl | (simp only [List.length_drop, List.length_take]; rfl)) ?_; (with_reducible refine (copperplateref17_Flat.calls kj5 a1_0 a1_1 t192 t193 _ A13.out).mono ?_); (try clear A13); rintro e w30 ⟨rfl, hb⟩; refine ⟨_, rfl, ?_⟩; have n0_ := Aside0.mk (blk_below (g := gb188) (o := .cells #[.int .i64 a1_0, .string a1_1] 23 (0, 0)) (by (with_reducible repeat (first | refine blk_drewN ?_ _ | refine blk_drew ?_ | refine blk_alloc ?_ _)); exact BK188.out) hb); have n1_ := Aside0.mk (below_step (by repeat (first | (with_reducible first | exact HB.out | apply below_alloc | apply pw_below_drewN | apply below_drew1 | refine below_set ?_ GE188.out) | exact HB.out)) hb); clear BK188; clear HB; have BK188 := n0_; have HB := n1_; clear n0_ n1_; (try clear hb); (try clear hb2); (try clear hk); (try clear hi); have hcz31_0 : w30.cell? ⟨gb188, 0, none⟩ = some (.int .i64 a1_0) := (blk_cell BK188.out 0).trans rfl; have hcz31_1 : w30.cell? ⟨gb188, 1, none⟩ = some (.string a1_1) := (blk_cell BK188.out 1).trans rfl; have hfz31_0 := blk_frozen BK188.out 0; have hfz31_1 := blk_frozen BK188.out 1) | ((with_reducible refine gate_callee (f := 13) rfl ?_); refine goesL_ (some 40) rfl rfl Try.func13 (by kernel_rfl) rfl #[.agg #[.int .i64 a1_0, .string a1_1]] rfl (by (try simp only [List.map_toArray, List.map_cons, List.map_nil]); first | done | rfl | (simp only [List.length_drop, List.length_take]; rfl)) ?_; (with_reducible refine (copperplateref17_Breaks.calls a1_0 a1_1 t194 _ A14.out).mono ?_); (try clear A14); rintro e w32 ⟨rfl, hb⟩; refine ⟨_, rfl, ?_⟩; have n0_ := Aside0.mk (blk_below (g := gb188) (o := .cells #[.int .i64 a1_0, .string a1_1] 23 (0, 0)) (by (with_reducible repeat (first | refine blk_drewN ?_ _ | refine blk_drew ?_ | refine blk_alloc ?_ _)); exact BK188.out) hb); have n1_ := Aside0.mk (below_step (by repeat (first | (with_reducible first | exact HB.out | apply below_alloc | apply pw_below_drewN | apply below_drew1 | refine below_set ?_ GE188.out) | exact HB.out)) hb); clear BK188; clear HB; have BK188 := n0_; have HB := n1_; clear n0_ n1_; (try clear hb); (try clear hb2); (try clear hk); (try clear hi)) | ((with_reducible refine gate_callee (f := 14) rfl ?_); refine goesL_ (some 42) rfl rfl Try.func14 (by kernel_rfl) rfl #[.string a0] rfl (by (try simp only [List.map_toArray, List.map_cons, List.map_nil]); first | done | rfl | (simp only [List.length_drop, List.length_take]; rfl)) ?_; (with_reducible refine (span_Cols.calls kj5 a0 t195 _ A15.out).mono ?_); (try clear A15); rintro e w33 ⟨rfl, hb⟩; refine ⟨_, rfl, ?_⟩; have n0_ := Aside0.mk (blk_below (g := gb188) (o := .cells #[.int .i64 a1_0, .string a1_1] 23 (0, 0)) (by (with_reducible repeat (first | refine blk_drewN ?_ _ | refine blk_drew ?_ | refine blk_alloc ?_ _)); exact BK188.out) hb); have n1_ := Aside0.mk (below_step (by repeat (first | (with_reducible first | exact HB.out | apply below_alloc | apply pw_below_drewN | apply below_drew1 | refine below_set ?_ GE188.out) | exact HB.out)) hb); clear BK188; clear HB; have BK188 := n0_; have HB := n1_; clear n0_ n1_; (try clear hb); (try clear hb2); (try clear hk); (try clear hi)) | ((with_reducible refine gate_callee (f := 15) rfl ?_); refine goesL_ (some 44) rfl rfl Try.func15 (by kernel_rfl) rfl #[.string a0] rfl (by (try simp only [List.map_toArray, List.map_cons, List.map_nil]); first | done | rfl | (simp only [List.length_drop, List.length_take]; rfl)) ?_; (with_reducible refine (copperplateref17_Cols.calls kj5 a0 t196 _ A16.out).mono ?_); (try clear A16); rintro e w34 ⟨rfl, hb⟩; refine ⟨_, rfl, ?_⟩; have n0_ := Aside0.mk (blk_below (g := gb188) (o := .cells #[.int .i64 a1_0, .string a1_1] 23 (0, 0)) (by (with_reducible repeat (first | refine blk_drewN ?_ _ | refine blk_drew ?_ | refine blk_alloc ?_ _)); exact BK188.out) hb); have n1_ := Aside0.mk (below_step (by repeat (first | (with_reducible first | exact HB.out | apply below_alloc | apply pw_below_drewN | apply below_drew1 | refine below_set ?_ GE188.out) | exact HB.out)) hb); clear BK188; clear HB; have BK188 := n0_; have HB := n1_; clear n0_ n1_; (try clear hb); (try clear hb2); (try clear hk); (try clear hi); have hcz35_0 : w34.cell? ⟨gb188, 0, none⟩ = some (.int .i64 a1_0) := (blk_cell BK188.out 0).trans rfl; have hcz35_1 : w34.cell? ⟨gb188, 1, none⟩ = some (.string a1_1) := (blk_cell BK188.out 1).trans rfl; have hfz35_0 := blk_frozen BK188.out 0; have hfz35_1 := blk_frozen BK188.out 1) | (go_at_call 16; (with_reducible refine (span_Breaks.calls a1_0 a1_1 t197 _ A20.out).mono ?_); (try clear A20); rintro e w36 ⟨rfl, hb⟩; have n0_ := Aside0.mk (blk_below (g := gb188) (o := .cells #[.int .i64 a1_0, .string a1_1] 23 (0, 0)) (by (with_reducible repeat (first | refine blk_drewN ?_ _ | refine blk_drew ?_ | refine blk_alloc ?_ _)); exact BK188.out) hb); have n1_ := Aside0.mk (below_step (by repeat (first | (with_reducible first | exact HB.out | apply below_alloc | apply pw_below_drewN | apply below_drew1 | refine below_set ?_ GE188.out) | exact HB.out)) hb); clear BK188; clear HB; have BK188 := n0_; have HB := n1_; clear n0_ n1_; (try clear hb); (try clear hb2); (try clear hk); (try clear hi)) | (go_at_call 17; (with_reducible refine (span_Match.calls _ _ l2 a3 t198 _ ?side1 ?side2 A22.out).mono ?_); (case side1 => repeat (first | exact (Kd.C_below HR2.out HB.out) | (with_reducible refine Kd.C_alloc ?_ _) | (with_reducible refine Kd.C_drewN ?_ _) | (with_reducible refine Kd.C_drew ?_))); (case side2 => exact HC2.out); (try clear A22); rintro e w37 ⟨rfl, hb⟩; have n0_ := Aside0.mk (blk_below (g := gb188) (o := .cells #[.int .i64 a1_0, .string a1_1] 23 (0, 0)) (by (with_reducible repeat (first | refine blk_drewN ?_ _ | refine blk_drew ?_ | refine blk_alloc ?_ _)); exact BK188.out) hb); have n1_ := Aside0.mk (below_step (by repeat (first | (with_reducible first | exact HB.out | apply below_alloc | apply pw_below_drewN | apply below_drew1 | refine below_set ?_ GE188.out) | exact HB.out)) hb); clear BK188; clear HB; have BK188 := n0_; have HB := n1_; clear n0_ n1_; (try clear hb); (try clear hb2); (try clear hk); (try clear hi)) | (go_at_call 18; (with_reducible refine (copperplateref17_Match.calls kj5 _ _ l2 a3 t199 _ ?side1 ?side2 A23.out).mono ?_); (case side1 => repeat (first | exact (Kd.C_below HR2.out HB.out) | (with_reducible refine Kd.C_alloc ?_ _) | (with_reducible refine Kd.C_drewN ?_ _) | (with_reducible refine Kd.C_drew ?_))); (case side2 => exact HC2.out); (try clear A23); rintro e w' ⟨rfl, ⟨nd, rfl⟩⟩) | (go_at_call 19; (with_reducible refine (span_Need.calls _ _ l2 a3 t200 _ ?side1 ?side2 A25.out).mono ?_); (case side1 => repeat (first | exact (Kd.C_below HR2.out (by repeat (first | (with_reducible first | exact HB.out | apply below_alloc | apply pw_below_drewN | apply below_drew1 | refine below_set ?_ GE188.out) | exact HB.out))) | (with_reducible refine Kd.C_alloc ?_ _) | (with_reducible refine Kd.C_drewN ?_ _) | (with_reducible refine Kd.C_drew ?_))); (case side2 => exact HC2.out); (try clear A25); rintro e w38 ⟨rfl, hb⟩; have n0_ := Aside0.mk (blk_below (g := gb188) (o := .cells #[.int .i64 a1_0, .string a1_1] 23 (0, 0)) (by (with_reducible repeat (first | refine blk_drewN ?_ _ | refine blk_drew ?_ | refine blk_alloc ?_ _)); exact BK188.out) hb); have n1_ := Aside0.mk (below_step (by repeat (first | (with_reducible first | exact HB.out | apply below_alloc | apply pw_below_drewN | apply below_drew1 | refine below_set ?_ GE188.out) | exact HB.out)) hb); clear BK188; clear HB; have BK188 := n0_; have HB := n1_; clear n0_ n1_; (try clear hb); (try clear hb2); (try clear hk); (try clear hi)) | (go_at_call 20; (with_reducible refine (copperplateref17_Need.calls kj5 _ _ l2 a3 t201 _ ?side1 ?side2 A26.out).mono ?_); (case side1 => repeat (first | exact (Kd.C_below HR2.out HB.out) | (with_reducible refine Kd.C_alloc ?_ _) | (with_reducible refine Kd.C_drewN ?_ _) | (with_reducible refine Kd.C_drew ?_))); (case side2 => exact HC2.out); (try clear A26); rintro e w39 ⟨rfl, hb⟩; have n0_ := Aside0.mk (blk_below (g := gb188) (o := .cells #[.int .i64 a1_0, .string a1_1] 23 (0, 0)) (by (with_reducible repeat (first | refine blk_drewN ?_ _ | refine blk_drew ?_ | refine blk_alloc ?_ _)); exact BK188.out) hb); have n1_ := Aside0.mk (below_step (by repeat (first | (with_reducible first | exact HB.out | apply below_alloc | apply pw_below_drewN | apply below_drew1 | refine below_set ?_ GE188.out) | exact HB.out)) hb); clear BK188; clear HB; have BK188 := n0_; have HB := n1_; clear n0_ n1_; (try clear hb); (try clear hb2); (try clear hk); (try clear hi)))
                  go_ret
                  exact ⟨by first | rfl | (simp [errW_none, errW_some] <;> rfl) | (simp [*, errW_none, errW_some] <;> rfl), by repeat (first | (with_reducible first | exact HB.out | apply below_alloc | apply pw_below_drewN | apply below_drew1 | refine below_set ?_ GE188.out) | exact HB.out)⟩
                · rw [if_neg c24] at H
                  have c24b0 : (t198 == t199) = false := beq_eq_false_iff_ne.mpr c24
                  have c24b1 : (t198 != t199) = true := bne_iff_ne.mpr c24
                  exact absurd H (by have h_ := HT_.out; subst h_; decide)
              · rw [if_neg c21] at H
                have c21b0 : (t197 == t194) = false := by simpa using c21
                (try (have c21b1 : decide (t197 = t194) = false := by simpa using c21))
                (try (have c21b2 : (t197 == t194) = false := by simpa using c21))
                (try (have c21b3 : ¬ (t197 = t194) := by simpa using c21))
                clear c21
                exact absurd H (by have h_ := HT_.out; subst h_; decide)
            · rw [if_neg c19] at H
              have c19b0 : (t191 == t193) = false := by simpa using c19
              (try (have c19b1 : decide (t191 = t193) = false := by simpa using c19))
              (try (have c19b2 : (t191 == t193) = false := by simpa using c19))
              (try (have c19b3 : ¬ (t191 = t193) := by simpa using c19))
              clear c19
              exact absurd H (by have h_ := HT_.out; subst h_; decide)
          · rw [if_neg c18] at H
            have c18b0 : (t190.toList == t192.toList) = false := beq_eq_false_iff_ne.mpr c18
            have c18b1 : (t190.toList != t192.toList) = true := bne_iff_ne.mpr c18
            exact absurd H (by have h_ := HT_.out; subst h_; decide)
        · rw [if_neg c17] at H
          have c17b0 : (t195 == t196) = false := beq_eq_false_iff_ne.mpr c17
          have c17b1 : (t195 != t196) = true := bne_iff_ne.mpr c17
          exact absurd H (by have h_ := HT_.out; subst h_; decide)

/-- The pure statement of copperplatelaw17_SpanTells. -/
def copperplatelaw17_SpanTells.Pure : Prop := ∀ (a0 : ByteArray) (a1_0 : Int) (a1_1 : ByteArray) (l2 : List (S23)) (a3 : Int), a0.size ≤ 140737488351232 → (Lit.int .i64 a1_0).wf = true → a1_1.size ≤ 140737488351232 → l2.length * 24 ≤ 140737488351232 → (∀ x ∈ l2, (Lit.int .i64 x.f0).wf = true ∧ x.f1.size ≤ 140737488351232) → (Lit.int .i64 a3).wf = true → ∃ k, copperplatelaw17_SpanTells.f k a0 a1_0 a1_1 l2 a3 = some true
def copperplatelaw17_SpanTells.PureUp : Prop := ∀ (a0 : ByteArray) (a1_0 : Int) (a1_1 : ByteArray) (l2 : List (S23)) (a3 : Int), a0.size ≤ 140737488351232 → (Lit.int .i64 a1_0).wf = true → a1_1.size ≤ 140737488351232 → l2.length * 24 ≤ 140737488351232 → (∀ x ∈ l2, (Lit.int .i64 x.f0).wf = true ∧ x.f1.size ≤ 140737488351232) → (Lit.int .i64 a3).wf = true → a0.size + (l2.map fun x => x.f1.size).sum ≤ 1048576 → ∃ k, copperplatelaw17_SpanTells.f k a0 a1_0 a1_1 l2 a3 = some true

/-! ### copperplatelaw17_SpanBehind: function 6 -/
mutual
def copperplatelaw17_SpanBehind.j0 : Nat → List (S23) → Int → ByteArray → ByteArray → Int → Bool → Bool → Option (Bool)
  | 0, _, _, _, _, _, _, _ => none
  | k + 1, x0, x1, x2, x3, x4, x11, x50 => if x50 = true then (some x11) else ((span_Match.f x0 x1).bind fun t203 => (if t203 < 0 then (copperplatelaw17_SpanBehind.j1 k x0 x1 x2 x3 x4 t203 true) else (copperplatelaw17_SpanBehind.j1 k x0 x1 x2 x3 x4 t203 (decide (t203 ≥ (x0.length : Int))))))
def copperplatelaw17_SpanBehind.j1 : Nat → List (S23) → Int → ByteArray → ByteArray → Int → Int → Bool → Option (Bool)
  | 0, _, _, _, _, _, _, _ => none
  | k + 1, x0, x1, x2, x3, x4, x12, x62 => if x62 = true then (some (x12 == (-1))) else (if 0 ≤ (wrap64 (x12 + 1)) then (if (wrap64 (x12 + 1)) ≤ (x0.length : Int) then ((span_Need.f (x0.take ((wrap64 (x12 + 1)) : Int).toNat) x1).bind fun t208 => ((some (x0.take ((wrap64 (x12 + 1)) : Int).toNat : List (S23))).bind fun y209 => (if ([] : List (S23)).length + y209.length < 5864062014805 then ((some (([] : List (S23)) ++ y209 : List (S23))).bind fun y213 => ((some (([(⟨0, x2⟩ : S23), (⟨x4, (⟨#[]⟩ : ByteArray)⟩ : S23), (⟨0, x3⟩ : S23)] : List (S23)) : List (S23))).bind fun y216 => (if y213.length + y216.length < 5864062014805 then ((some (y213 ++ y216 : List (S23))).bind fun y219 => (if t208 = (-1) then ((span_Need.f y219 x1).bind fun t222 => (if t222 = (-1) then (some true) else (if t208 ≥ 0 then ((span_Need.f y219 x1).bind fun t223 => ((span_Cols.f k x2).bind fun t224 => (some (t223 == (wrap64 (t208 + t224)))))) else (some false)))) else (if t208 ≥ 0 then ((span_Need.f y219 x1).bind fun t225 => ((span_Cols.f k x2).bind fun t226 => (some (t225 == (wrap64 (t208 + t226)))))) else (some false)))) else (none)))) else (none)))) else (none)) else (none))
end
def copperplatelaw17_SpanBehind.f (k : Nat) (l0 : List (S23)) (a1 : Int) (a2 : ByteArray) (a3 : ByteArray) (a4 : Int) : Option (Bool) := (copperplatelaw17_awake.f).bind fun t202 => (if t202 = true then (if (l0.length : Int) > 300 then (copperplatelaw17_SpanBehind.j0 k l0 a1 a2 a3 a4 t202 true) else (if (a2.size : Int) > 300 then (copperplatelaw17_SpanBehind.j0 k l0 a1 a2 a3 a4 t202 true) else (if (a3.size : Int) > 300 then (copperplatelaw17_SpanBehind.j0 k l0 a1 a2 a3 a4 t202 true) else (if a4 < 2 then (copperplatelaw17_SpanBehind.j0 k l0 a1 a2 a3 a4 t202 true) else (if a4 > 5 then (copperplatelaw17_SpanBehind.j0 k l0 a1 a2 a3 a4 t202 true) else (if a1 < 0 then (copperplatelaw17_SpanBehind.j0 k l0 a1 a2 a3 a4 t202 true) else (copperplatelaw17_SpanBehind.j0 k l0 a1 a2 a3 a4 t202 (decide (a1 ≥ (l0.length : Int)))))))))) else (copperplatelaw17_SpanBehind.j0 k l0 a1 a2 a3 a4 t202 true))
theorem copperplatelaw17_SpanBehind.mono_l : ∀ k, (∀ y0 y1 y2 y3 y4 y5 y6, LeO (copperplatelaw17_SpanBehind.j0 k y0 y1 y2 y3 y4 y5 y6) (copperplatelaw17_SpanBehind.j0 (k + 1) y0 y1 y2 y3 y4 y5 y6)) ∧ (∀ y0 y1 y2 y3 y4 y5 y6, LeO (copperplatelaw17_SpanBehind.j1 k y0 y1 y2 y3 y4 y5 y6) (copperplatelaw17_SpanBehind.j1 (k + 1) y0 y1 y2 y3 y4 y5 y6))
  | 0 => ⟨fun _ _ _ _ _ _ _ r h => by simp [copperplatelaw17_SpanBehind.j0] at h, fun _ _ _ _ _ _ _ r h => by simp [copperplatelaw17_SpanBehind.j1] at h⟩
  | k + 1 => by
    obtain ⟨ih0, ih1⟩ := copperplatelaw17_SpanBehind.mono_l k
    refine ⟨?_, ?_⟩
    · intro y0 y1 y2 y3 y4 y5 y6
      unfold copperplatelaw17_SpanBehind.j0
      repeat' first
      | (with_reducible exact ih0 _ _ _ _ _ _ _)
      | (with_reducible exact ih1 _ _ _ _ _ _ _)
      | (with_reducible exact span_Cols.mono _ _)
      | (with_reducible exact LeO.refl _)
      | (with_reducible exact LeO.none _)
      | (with_reducible refine LeO.ite ?_ ?_)
      | (with_reducible refine LeO.bind ?_ (fun _ => ?_))
      | exact ih0 _ _ _ _ _ _ _
      | exact ih1 _ _ _ _ _ _ _
      | exact span_Cols.mono _ _
      | exact LeO.none _
      | refine LeO.ite ?_ ?_
      | refine LeO.bind ?_ (fun _ => ?_)
    · intro y0 y1 y2 y3 y4 y5 y6
      unfold copperplatelaw17_SpanBehind.j1
      repeat' first
      | (with_reducible exact ih0 _ _ _ _ _ _ _)
      | (with_reducible exact ih1 _ _ _ _ _ _ _)
      | (with_reducible exact span_Cols.mono _ _)
      | (with_reducible exact LeO.refl _)
      | (with_reducible exact LeO.none _)
      | (with_reducible refine LeO.ite ?_ ?_)
      | (with_reducible refine LeO.bind ?_ (fun _ => ?_))
      | exact ih0 _ _ _ _ _ _ _
      | exact ih1 _ _ _ _ _ _ _
      | exact span_Cols.mono _ _
      | exact LeO.none _
      | refine LeO.ite ?_ ?_
      | refine LeO.bind ?_ (fun _ => ?_)
theorem copperplatelaw17_SpanBehind.mono : ∀ a0 a1 a2 a3 a4 k, LeO (copperplatelaw17_SpanBehind.f k a0 a1 a2 a3 a4) (copperplatelaw17_SpanBehind.f (k + 1) a0 a1 a2 a3 a4) := by
  intro a0 a1 a2 a3 a4 k
  obtain ⟨ih0, ih1⟩ := copperplatelaw17_SpanBehind.mono_l k
  unfold copperplatelaw17_SpanBehind.f
  repeat' first
      | (with_reducible exact ih0 _ _ _ _ _ _ _)
      | (with_reducible exact ih1 _ _ _ _ _ _ _)
      | (with_reducible exact span_Cols.mono _ _)
      | (with_reducible exact LeO.refl _)
      | (with_reducible exact LeO.none _)
      | (with_reducible refine LeO.ite ?_ ?_)
      | (with_reducible refine LeO.bind ?_ (fun _ => ?_))
      | exact ih0 _ _ _ _ _ _ _
      | exact ih1 _ _ _ _ _ _ _
      | exact span_Cols.mono _ _
      | exact LeO.none _
      | refine LeO.ite ?_ ?_
      | refine LeO.bind ?_ (fun _ => ?_)
set_option maxHeartbeats 8000000 in
set_option maxRecDepth 100000 in
theorem copperplatelaw17_SpanBehind.calls (k : Nat) (A0 : Option Addr) (c0 : Nat) (l0 : List (S23)) (a1 : Int) (a2 : ByteArray) (a3 : ByteArray) (a4 : Int) (r : Bool) (w : World) (hr0 : Kd.C k23 w A0 l0.length l0) (hc0 : l0.length ≤ c0) (h : copperplatelaw17_SpanBehind.f k l0 a1 a2 a3 a4 = some r) (hT_ : r = true) :
    Calls Try.prog 6 #[.slice A0 l0.length c0, .int .i64 a1, .string a2, .string a3, .int .i64 a4] w fun e w' => e = .returned (.bool r) ∧ Below w.heap.size w w' := by
  have hu23 := Try.underlying23
  have HT_ := Aside0.mk hT_
  clear hT_
  have HR0 := Aside0.mk hr0
  have HC0 := Aside0.mk hc0
  clear hr0 hc0
  have HB := Aside0.mk (Below.refl w.heap.size w)
  have H : ((copperplatelaw17_awake.f).bind fun t202 => (if t202 = true then (if (l0.length : Int) > 300 then (copperplatelaw17_SpanBehind.j0 k l0 a1 a2 a3 a4 t202 true) else (if (a2.size : Int) > 300 then (copperplatelaw17_SpanBehind.j0 k l0 a1 a2 a3 a4 t202 true) else (if (a3.size : Int) > 300 then (copperplatelaw17_SpanBehind.j0 k l0 a1 a2 a3 a4 t202 true) else (if a4 < 2 then (copperplatelaw17_SpanBehind.j0 k l0 a1 a2 a3 a4 t202 true) else (if a4 > 5 then (copperplatelaw17_SpanBehind.j0 k l0 a1 a2 a3 a4 t202 true) else (if a1 < 0 then (copperplatelaw17_SpanBehind.j0 k l0 a1 a2 a3 a4 t202 true) else (copperplatelaw17_SpanBehind.j0 k l0 a1 a2 a3 a4 t202 (decide (a1 ≥ (l0.length : Int)))))))))) else (copperplatelaw17_SpanBehind.j0 k l0 a1 a2 a3 a4 t202 true))) = some r := h
  clear h
  replace H := Option.bind_eq_some_iff.mp H
  obtain ⟨t202, A60, H⟩ := H
  replace H : (if t202 = true then (if (l0.length : Int) > 300 then (copperplatelaw17_SpanBehind.j0 k l0 a1 a2 a3 a4 t202 true) else (if (a2.size : Int) > 300 then (copperplatelaw17_SpanBehind.j0 k l0 a1 a2 a3 a4 t202 true) else (if (a3.size : Int) > 300 then (copperplatelaw17_SpanBehind.j0 k l0 a1 a2 a3 a4 t202 true) else (if a4 < 2 then (copperplatelaw17_SpanBehind.j0 k l0 a1 a2 a3 a4 t202 true) else (if a4 > 5 then (copperplatelaw17_SpanBehind.j0 k l0 a1 a2 a3 a4 t202 true) else (if a1 < 0 then (copperplatelaw17_SpanBehind.j0 k l0 a1 a2 a3 a4 t202 true) else (copperplatelaw17_SpanBehind.j0 k l0 a1 a2 a3 a4 t202 (decide (a1 ≥ (l0.length : Int)))))))))) else (copperplatelaw17_SpanBehind.j0 k l0 a1 a2 a3 a4 t202 true)) = some r := H
  have A6 := Aside0.mk A60
  clear A60
  have HC7 := Aside0.mk H
  clear H
  go_enter Try.func6, Try.ntmps6
  go_upto_region 2 with (first | ((with_reducible refine gate_callee (f := 10) rfl ?_); refine goesL_ (some 15) rfl rfl Try.func10 (by kernel_rfl) rfl #[] rfl (by (try simp only [List.map_toArray, List.map_cons, List.map_nil]); first | done | rfl | (simp only [List.length_drop, List.length_take]; rfl)) ?_; (with_reducible refine (copperplatelaw17_awake.calls  t202 _ A6.out).mono ?_); (try clear A6); rintro e w8 ⟨rfl, hb⟩; refine ⟨_, rfl, ?_⟩; have n0_ := Aside0.mk (below_step (by repeat (first | (with_reducible first | exact HB.out | apply below_alloc | apply pw_below_drewN | apply below_drew1) | exact HB.out)) hb); clear HB; have HB := n0_; clear n0_; (try clear hb); (try clear hb2); (try clear hk); (try clear hi)))
  (try simp only [Act.put, List.setIfInBounds_toArray, List.set_cons_zero, List.set_cons_succ])
  go_cut [50] (fun v50 wc => ∃ (kq : Nat) (x50_6 : Bool), v50 = .bool x50_6 ∧ Aside0 (copperplatelaw17_SpanBehind.j0 kq l0 a1 a2 a3 a4 t202 x50_6 = some r) ∧ Aside0 (kq ≤ k) ∧ Aside0 (Below w.heap.size w wc))
  case first =>
    have H := HC7.out
    clear HC7
    by_cases c9 : t202 = true
    · subst c9
      have H1 : (if (l0.length : Int) > 300 then (copperplatelaw17_SpanBehind.j0 k l0 a1 a2 a3 a4 true true) else (if (a2.size : Int) > 300 then (copperplatelaw17_SpanBehind.j0 k l0 a1 a2 a3 a4 true true) else (if (a3.size : Int) > 300 then (copperplatelaw17_SpanBehind.j0 k l0 a1 a2 a3 a4 true true) else (if a4 < 2 then (copperplatelaw17_SpanBehind.j0 k l0 a1 a2 a3 a4 true true) else (if a4 > 5 then (copperplatelaw17_SpanBehind.j0 k l0 a1 a2 a3 a4 true true) else (if a1 < 0 then (copperplatelaw17_SpanBehind.j0 k l0 a1 a2 a3 a4 true true) else (copperplatelaw17_SpanBehind.j0 k l0 a1 a2 a3 a4 true (decide (a1 ≥ (l0.length : Int)))))))))) = some r := by rw [if_pos rfl] at H; exact H
      clear H
      have H := H1
      clear H1
      by_cases c10 : (l0.length : Int) > 300
      · rw [if_pos c10] at H
        have c10b0 : decide (300 < (l0.length : Int)) = true := decide_eq_true c10
        have c10b1 : decide (300 < l0.length) = true := decide_eq_true (by omega)
        clear c10
        (first | rw [c10b0] | (simp only [i64_w, i32_w]; rw [c10b0]) | skip)
        have H' := Aside0.mk H
        clear H
        go_wp2
        go_meet
        case rel => exact ⟨_, (true), (by first | rfl | (simp; done) | (simp [*]; done)), H', ⟨by first | omega | exact Nat.le_refl _⟩, ⟨by repeat (first | (with_reducible first | exact HB.out | apply below_alloc | apply pw_below_drewN | apply below_drew1) | exact HB.out)⟩⟩
      · rw [if_neg c10] at H
        have c10b0 : decide (300 < (l0.length : Int)) = false := decide_eq_false c10
        have c10b1 : decide (300 < l0.length) = false := decide_eq_false (by omega)
        clear c10
        (first | rw [c10b0] | (simp only [i64_w, i32_w]; rw [c10b0]) | skip)
        by_cases c11 : (a2.size : Int) > 300
        · rw [if_pos c11] at H
          have c11b0 : decide (300 < (a2.size : Int)) = true := decide_eq_true c11
          have c11b1 : decide (300 < a2.size) = true := decide_eq_true (by omega)
          clear c11
          have H' := Aside0.mk H
          clear H
          go_wp2
          go_meet
          case rel => exact ⟨_, (true), (by first | rfl | (simp; done) | (simp [*]; done)), H', ⟨by first | omega | exact Nat.le_refl _⟩, ⟨by repeat (first | (with_reducible first | exact HB.out | apply below_alloc | apply pw_below_drewN | apply below_drew1) | exact HB.out)⟩⟩
        · rw [if_neg c11] at H
          have c11b0 : decide (300 < (a2.size : Int)) = false := decide_eq_false c11
          have c11b1 : decide (300 < a2.size) = false := decide_eq_false (by omega)
          clear c11
          by_cases c12 : (a3.size : Int) > 300
          · rw [if_pos c12] at H
            have c12b0 : decide (300 < (a3.size : Int)) = true := decide_eq_true c12
            have c12b1 : decide (300 < a3.size) = true := decide_eq_true (by omega)
            clear c12
            have H' := Aside0.mk H
            clear H
            go_wp2
            go_meet
            case rel => exact ⟨_, (true), (by first | rfl | (simp; done) | (simp [*]; done)), H', ⟨by first | omega | exact Nat.le_refl _⟩, ⟨by repeat (first | (with_reducible first | exact HB.out | apply below_alloc | apply pw_below_drewN | apply below_drew1) | exact HB.out)⟩⟩
          · rw [if_neg c12] at H
            have c12b0 : decide (300 < (a3.size : Int)) = false := decide_eq_false c12
            have c12b1 : decide (300 < a3.size) = false := decide_eq_false (by omega)
            clear c12
            by_cases c13 : a4 < 2
            · rw [if_pos c13] at H
              have c13b0 : decide (a4 < 2) = true := decide_eq_true c13
              clear c13
              have H' := Aside0.mk H
              clear H
              go_wp2
              go_meet
              case rel => exact ⟨_, (true), (by first | rfl | (simp; done) | (simp [*]; done)), H', ⟨by first | omega | exact Nat.le_refl _⟩, ⟨by repeat (first | (with_reducible first | exact HB.out | apply below_alloc | apply pw_below_drewN | apply below_drew1) | exact HB.out)⟩⟩
            · rw [if_neg c13] at H
              have c13b0 : decide (a4 < 2) = false := decide_eq_false c13
              clear c13
              by_cases c14 : a4 > 5
              · rw [if_pos c14] at H
                have c14b0 : decide (5 < a4) = true := decide_eq_true c14
                clear c14
                have H' := Aside0.mk H
                clear H
                go_wp2
                go_meet
                case rel => exact ⟨_, (true), (by first | rfl | (simp; done) | (simp [*]; done)), H', ⟨by first | omega | exact Nat.le_refl _⟩, ⟨by repeat (first | (with_reducible first | exact HB.out | apply below_alloc | apply pw_below_drewN | apply below_drew1) | exact HB.out)⟩⟩
              · rw [if_neg c14] at H
                have c14b0 : decide (5 < a4) = false := decide_eq_false c14
                clear c14
                by_cases c15 : a1 < 0
                · rw [if_pos c15] at H
                  have c15b0 : decide (a1 < 0) = true := decide_eq_true c15
                  clear c15
                  have H' := Aside0.mk H
                  clear H
                  go_wp2
                  go_meet
                  case rel => exact ⟨_, (true), (by first | rfl | (simp; done) | (simp [*]; done)), H', ⟨by first | omega | exact Nat.le_refl _⟩, ⟨by repeat (first | (with_reducible first | exact HB.out | apply below_alloc | apply pw_below_drewN | apply below_drew1) | exact HB.out)⟩⟩
                · rw [if_neg c15] at H
                  have c15b0 : decide (a1 < 0) = false := decide_eq_false c15
                  clear c15
                  have H' := Aside0.mk H
                  clear H
                  go_wp2
                  go_meet
                  case rel => exact ⟨_, (decide (a1 ≥ (l0.length : Int))), (by first | rfl | (simp; done) | (simp [*]; done)), H', ⟨by first | omega | exact Nat.le_refl _⟩, ⟨by repeat (first | (with_reducible first | exact HB.out | apply below_alloc | apply pw_below_drewN | apply below_drew1) | exact HB.out)⟩⟩
    · replace c9 := Bool.eq_false_iff.mpr c9
      subst c9
      have H1 : (copperplatelaw17_SpanBehind.j0 k l0 a1 a2 a3 a4 false true) = some r := by rw [if_neg (show ¬ (false = true) by decide)] at H; exact H
      clear H
      have H := H1
      clear H1
      have H' := Aside0.mk H
      clear H
      go_wp2
      go_meet
      case rel => exact ⟨_, (true), (by first | rfl | (simp; done) | (simp [*]; done)), H', ⟨by first | omega | exact Nat.le_refl _⟩, ⟨by repeat (first | (with_reducible first | exact HB.out | apply below_alloc | apply pw_below_drewN | apply below_drew1) | exact HB.out)⟩⟩
  case rest =>
    clear HC7
    try clear c1
    try clear p2
    try clear c6
    try clear c9
    try clear c10
    try clear c10b0
    try clear c10b1
    try clear c11
    try clear c11b0
    try clear c11b1
    try clear c12
    try clear c12b0
    try clear c12b1
    try clear c13
    try clear c13b0
    try clear c14
    try clear c14b0
    try clear c15
    try clear c15b0
    obtain ⟨kq, x50_6, rfl, HA, HJ6, HB⟩ := hcut
    cases kq with
    | zero => exact absurd HA.out (by simp [copperplatelaw17_SpanBehind.j0])
    | succ kj6 =>
      have H := HA.out
      clear HA
      simp only [copperplatelaw17_SpanBehind.j0] at H
      by_cases c16 : x50_6 = true
      · subst c16
        have H1 : (some t202) = some r := by rw [if_pos rfl] at H; exact H
        clear H
        have H := H1
        clear H1
        obtain rfl := Option.some.inj H
        go_wp2
        go_ret
        exact ⟨by first | rfl | (simp [errW_none, errW_some] <;> rfl) | (simp [*, errW_none, errW_some] <;> rfl), by repeat (first | (with_reducible first | exact HB.out | apply below_alloc | apply pw_below_drewN | apply below_drew1) | exact HB.out)⟩
      · replace c16 := Bool.eq_false_iff.mpr c16
        subst c16
        have H1 : ((span_Match.f l0 a1).bind fun t203 => (if t203 < 0 then (copperplatelaw17_SpanBehind.j1 kj6 l0 a1 a2 a3 a4 t203 true) else (copperplatelaw17_SpanBehind.j1 kj6 l0 a1 a2 a3 a4 t203 (decide (t203 ≥ (l0.length : Int)))))) = some r := by rw [if_neg (show ¬ (false = true) by decide)] at H; exact H
        clear H
        have H := H1
        clear H1
        replace H := Option.bind_eq_some_iff.mp H
        obtain ⟨t203, A170, H⟩ := H
        replace H : (if t203 < 0 then (copperplatelaw17_SpanBehind.j1 kj6 l0 a1 a2 a3 a4 t203 true) else (copperplatelaw17_SpanBehind.j1 kj6 l0 a1 a2 a3 a4 t203 (decide (t203 ≥ (l0.length : Int))))) = some r := H
        have A17 := Aside0.mk A170
        clear A170
        have HC18 := Aside0.mk H
        clear H
        go_upto_region 5 with (first | ((with_reducible refine gate_callee (f := 17) rfl ?_); refine goesL_ (some 54) rfl rfl Try.func17 (by kernel_rfl) rfl #[.slice A0 l0.length c0, .int .i64 a1] rfl (by (try simp only [List.map_toArray, List.map_cons, List.map_nil]); first | done | rfl | (simp only [List.length_drop, List.length_take]; rfl)) ?_; (with_reducible refine (span_Match.calls _ _ l0 a1 t203 _ ?side1 ?side2 A17.out).mono ?_); (case side1 => repeat (first | exact (Kd.C_below HR0.out HB.out) | (with_reducible refine Kd.C_alloc ?_ _) | (with_reducible refine Kd.C_drewN ?_ _) | (with_reducible refine Kd.C_drew ?_))); (case side2 => exact HC0.out); (try clear A17); rintro e w19 ⟨rfl, hb⟩; refine ⟨_, rfl, ?_⟩; have n0_ := Aside0.mk (below_step (by repeat (first | (with_reducible first | exact HB.out | apply below_alloc | apply pw_below_drewN | apply below_drew1) | exact HB.out)) hb); clear HB; have HB := n0_; clear n0_; (try clear hb); (try clear hb2); (try clear hk); (try clear hi)))
        (try simp only [Act.put, List.setIfInBounds_toArray, List.set_cons_zero, List.set_cons_succ])
        go_cut [62] (fun v62 wc => ∃ (kq : Nat) (x62_17 : Bool), v62 = .bool x62_17 ∧ Aside0 (copperplatelaw17_SpanBehind.j1 kq l0 a1 a2 a3 a4 t203 x62_17 = some r) ∧ Aside0 (kq ≤ kj6) ∧ Aside0 (Below w.heap.size w wc))
        case first =>
          have H := HC18.out
          clear HC18
          by_cases c20 : t203 < 0
          · rw [if_pos c20] at H
            have c20b0 : decide (t203 < 0) = true := decide_eq_true c20
            clear c20
            (first | rw [c20b0] | (simp only [i64_w, i32_w]; rw [c20b0]) | skip)
            have H' := Aside0.mk H
            clear H
            go_wp2
            go_meet
            case rel => exact ⟨_, (true), (by first | rfl | (simp; done) | (simp [*]; done)), H', ⟨by have := HJ6.out; first | omega | exact Nat.le_refl _⟩, ⟨by repeat (first | (with_reducible first | exact HB.out | apply below_alloc | apply pw_below_drewN | apply below_drew1) | exact HB.out)⟩⟩
          · rw [if_neg c20] at H
            have c20b0 : decide (t203 < 0) = false := decide_eq_false c20
            clear c20
            (first | rw [c20b0] | (simp only [i64_w, i32_w]; rw [c20b0]) | skip)
            have H' := Aside0.mk H
            clear H
            go_wp2
            go_meet
            case rel => exact ⟨_, (decide (t203 ≥ (l0.length : Int))), (by first | rfl | (simp; done) | (simp [*]; done)), H', ⟨by have := HJ6.out; first | omega | exact Nat.le_refl _⟩, ⟨by repeat (first | (with_reducible first | exact HB.out | apply below_alloc | apply pw_below_drewN | apply below_drew1) | exact HB.out)⟩⟩
        case rest =>
          clear HC18
          try clear c1
          try clear c2
          try clear p2
          try clear c6
          try clear c9
          try clear c10
          try clear c10b0
          try clear c10b1
          try clear c11
          try clear c11b0
          try clear c11b1
          try clear c12
          try clear c12b0
          try clear c12b1
          try clear c13
          try clear c13b0
          try clear c14
          try clear c14b0
          try clear c15
          try clear c15b0
          try clear c16
          try clear c17
          try clear c20
          try clear c20b0
          try clear p2
          obtain ⟨kq, x62_17, rfl, HA, HJ17, HB⟩ := hcut
          cases kq with
          | zero => exact absurd HA.out (by simp [copperplatelaw17_SpanBehind.j1])
          | succ kj17 =>
            have H := HA.out
            clear HA
            simp only [copperplatelaw17_SpanBehind.j1] at H
            by_cases c21 : x62_17 = true
            · subst c21
              have H1 : (some (t203 == (-1))) = some r := by rw [if_pos rfl] at H; exact H
              clear H
              have H := H1
              clear H1
              obtain rfl := Option.some.inj H
              go_wp2
              go_ret
              exact ⟨by first | rfl | (simp [errW_none, errW_some] <;> rfl) | (simp [*, errW_none, errW_some] <;> rfl), by repeat (first | (with_reducible first | exact HB.out | apply below_alloc | apply pw_below_drewN | apply below_drew1) | exact HB.out)⟩
            · replace c21 := Bool.eq_false_iff.mpr c21
              subst c21
              have H1 : (if 0 ≤ (wrap64 (t203 + 1)) then (if (wrap64 (t203 + 1)) ≤ (l0.length : Int) then ((span_Need.f (l0.take ((wrap64 (t203 + 1)) : Int).toNat) a1).bind fun t208 => ((some (l0.take ((wrap64 (t203 + 1)) : Int).toNat : List (S23))).bind fun y209 => (if ([] : List (S23)).length + y209.length < 5864062014805 then ((some (([] : List (S23)) ++ y209 : List (S23))).bind fun y213 => ((some (([(⟨0, a2⟩ : S23), (⟨a4, (⟨#[]⟩ : ByteArray)⟩ : S23), (⟨0, a3⟩ : S23)] : List (S23)) : List (S23))).bind fun y216 => (if y213.length + y216.length < 5864062014805 then ((some (y213 ++ y216 : List (S23))).bind fun y219 => (if t208 = (-1) then ((span_Need.f y219 a1).bind fun t222 => (if t222 = (-1) then (some true) else (if t208 ≥ 0 then ((span_Need.f y219 a1).bind fun t223 => ((span_Cols.f kj17 a2).bind fun t224 => (some (t223 == (wrap64 (t208 + t224)))))) else (some false)))) else (if t208 ≥ 0 then ((span_Need.f y219 a1).bind fun t225 => ((span_Cols.f kj17 a2).bind fun t226 => (some (t225 == (wrap64 (t208 + t226)))))) else (some false)))) else (none)))) else (none)))) else (none)) else (none)) = some r := by rw [if_neg (show ¬ (false = true) by decide)] at H; exact H
              clear H
              have H := H1
              clear H1
              obtain ⟨ji22, hji22⟩ : ∃ j_ : Int, (wrap64 (t203 + 1)) = j_ := ⟨_, rfl⟩
              replace H : (if 0 ≤ (ji22) then (if (ji22) ≤ (l0.length : Int) then ((span_Need.f (l0.take ((ji22) : Int).toNat) a1).bind fun t208 => ((some (l0.take ((ji22) : Int).toNat : List (S23))).bind fun y209 => (if ([] : List (S23)).length + y209.length < 5864062014805 then ((some (([] : List (S23)) ++ y209 : List (S23))).bind fun y213 => ((some (([(⟨0, a2⟩ : S23), (⟨a4, (⟨#[]⟩ : ByteArray)⟩ : S23), (⟨0, a3⟩ : S23)] : List (S23)) : List (S23))).bind fun y216 => (if y213.length + y216.length < 5864062014805 then ((some (y213 ++ y216 : List (S23))).bind fun y219 => (if t208 = (-1) then ((span_Need.f y219 a1).bind fun t222 => (if t222 = (-1) then (some true) else (if t208 ≥ 0 then ((span_Need.f y219 a1).bind fun t223 => ((span_Cols.f kj17 a2).bind fun t224 => (some (t223 == (wrap64 (t208 + t224)))))) else (some false)))) else (if t208 ≥ 0 then ((span_Need.f y219 a1).bind fun t225 => ((span_Cols.f kj17 a2).bind fun t226 => (some (t225 == (wrap64 (t208 + t226)))))) else (some false)))) else (none)))) else (none)))) else (none)) else (none)) = some r := by first | (rw [hji22] at H; exact H) | (simp only [hji22] at H ⊢; exact H)
              have hji22w : (IntKind.i64.wrap (t203 + 1)) = ji22 := (i64_w _).trans hji22
              by_cases c23 : 0 ≤ (ji22)
              · rw [if_pos c23] at H
                have c23b0 := eq_true c23
                have c23b1 : decide (0 ≤ (ji22)) = true := decide_eq_true c23
                clear c23
                by_cases c24 : (ji22) ≤ (l0.length : Int)
                · rw [if_pos c24] at H
                  have c24b0 := eq_true c24
                  have c24b1 : decide ((ji22) ≤ (l0.length : Int)) = true := decide_eq_true c24
                  clear c24
                  obtain ⟨y204, hy204⟩ : ∃ y_ : List (S23), y_ = (l0.take ((ji22) : Int).toNat) := ⟨_, rfl⟩
                  replace H : ((span_Need.f y204 a1).bind fun t208 => ((some (l0.take ((ji22) : Int).toNat : List (S23))).bind fun y209 => (if ([] : List (S23)).length + y209.length < 5864062014805 then ((some (([] : List (S23)) ++ y209 : List (S23))).bind fun y213 => ((some (([(⟨0, a2⟩ : S23), (⟨a4, (⟨#[]⟩ : ByteArray)⟩ : S23), (⟨0, a3⟩ : S23)] : List (S23)) : List (S23))).bind fun y216 => (if y213.length + y216.length < 5864062014805 then ((some (y213 ++ y216 : List (S23))).bind fun y219 => (if t208 = (-1) then ((span_Need.f y219 a1).bind fun t222 => (if t222 = (-1) then (some true) else (if t208 ≥ 0 then ((span_Need.f y219 a1).bind fun t223 => ((span_Cols.f kj17 a2).bind fun t224 => (some (t223 == (wrap64 (t208 + t224)))))) else (some false)))) else (if t208 ≥ 0 then ((span_Need.f y219 a1).bind fun t225 => ((span_Cols.f kj17 a2).bind fun t226 => (some (t225 == (wrap64 (t208 + t226)))))) else (some false)))) else (none)))) else (none)))) = some r := by first | (rw [hy204]; with_reducible exact H) | (have H2_ := (Option.bind_some _ _).symm.trans H; rw [hy204]; with_reducible exact H2_) | (have H2_ := (Option.bind_some _ _).symm.trans H; with_reducible exact H2_) | with_reducible exact H | (rw [hy204]; exact H) | exact H
                  have Ny204 := Aside0.mk hy204
                  clear hy204
                  replace H := Option.bind_eq_some_iff.mp H
                  obtain ⟨t208, A250, H⟩ := H
                  replace H : ((some (l0.take ((ji22) : Int).toNat : List (S23))).bind fun y209 => (if ([] : List (S23)).length + y209.length < 5864062014805 then ((some (([] : List (S23)) ++ y209 : List (S23))).bind fun y213 => ((some (([(⟨0, a2⟩ : S23), (⟨a4, (⟨#[]⟩ : ByteArray)⟩ : S23), (⟨0, a3⟩ : S23)] : List (S23)) : List (S23))).bind fun y216 => (if y213.length + y216.length < 5864062014805 then ((some (y213 ++ y216 : List (S23))).bind fun y219 => (if t208 = (-1) then ((span_Need.f y219 a1).bind fun t222 => (if t222 = (-1) then (some true) else (if t208 ≥ 0 then ((span_Need.f y219 a1).bind fun t223 => ((span_Cols.f kj17 a2).bind fun t224 => (some (t223 == (wrap64 (t208 + t224)))))) else (some false)))) else (if t208 ≥ 0 then ((span_Need.f y219 a1).bind fun t225 => ((span_Cols.f kj17 a2).bind fun t226 => (some (t225 == (wrap64 (t208 + t226)))))) else (some false)))) else (none)))) else (none))) = some r := H
                  have A25 := Aside0.mk A250
                  clear A250
                  have c26b0 := eq_true (of_decide_eq_true (by first | (with_reducible assumption) | assumption) : 0 ≤ (ji22))
                  have c27b0 := eq_true (of_decide_eq_true (by first | (with_reducible assumption) | assumption) : (ji22) ≤ (l0.length : Int))
                  obtain ⟨y209, hy209⟩ : ∃ y_ : List (S23), y_ = (l0.take ((ji22) : Int).toNat) := ⟨_, rfl⟩
                  replace H : (if ([] : List (S23)).length + y209.length < 5864062014805 then ((some (([] : List (S23)) ++ y209 : List (S23))).bind fun y213 => ((some (([(⟨0, a2⟩ : S23), (⟨a4, (⟨#[]⟩ : ByteArray)⟩ : S23), (⟨0, a3⟩ : S23)] : List (S23)) : List (S23))).bind fun y216 => (if y213.length + y216.length < 5864062014805 then ((some (y213 ++ y216 : List (S23))).bind fun y219 => (if t208 = (-1) then ((span_Need.f y219 a1).bind fun t222 => (if t222 = (-1) then (some true) else (if t208 ≥ 0 then ((span_Need.f y219 a1).bind fun t223 => ((span_Cols.f kj17 a2).bind fun t224 => (some (t223 == (wrap64 (t208 + t224)))))) else (some false)))) else (if t208 ≥ 0 then ((span_Need.f y219 a1).bind fun t225 => ((span_Cols.f kj17 a2).bind fun t226 => (some (t225 == (wrap64 (t208 + t226)))))) else (some false)))) else (none)))) else (none)) = some r := by first | (rw [hy209]; with_reducible exact H) | (have H2_ := (Option.bind_some _ _).symm.trans H; rw [hy209]; with_reducible exact H2_) | (have H2_ := (Option.bind_some _ _).symm.trans H; with_reducible exact H2_) | with_reducible exact H | (rw [hy209]; exact H) | exact H
                  have Ny209 := Aside0.mk hy209
                  clear hy209
                  by_cases c28 : ([] : List (S23)).length + y209.length < 5864062014805
                  · rw [if_pos c28] at H
                    have LMc28 := Aside0.mk c28
                    clear c28
                    obtain ⟨y213, hy213⟩ : ∃ y_ : List (S23), y_ = (([] : List (S23)) ++ y209) := ⟨_, rfl⟩
                    replace H : ((some (([(⟨0, a2⟩ : S23), (⟨a4, (⟨#[]⟩ : ByteArray)⟩ : S23), (⟨0, a3⟩ : S23)] : List (S23)) : List (S23))).bind fun y216 => (if y213.length + y216.length < 5864062014805 then ((some (y213 ++ y216 : List (S23))).bind fun y219 => (if t208 = (-1) then ((span_Need.f y219 a1).bind fun t222 => (if t222 = (-1) then (some true) else (if t208 ≥ 0 then ((span_Need.f y219 a1).bind fun t223 => ((span_Cols.f kj17 a2).bind fun t224 => (some (t223 == (wrap64 (t208 + t224)))))) else (some false)))) else (if t208 ≥ 0 then ((span_Need.f y219 a1).bind fun t225 => ((span_Cols.f kj17 a2).bind fun t226 => (some (t225 == (wrap64 (t208 + t226)))))) else (some false)))) else (none))) = some r := by first | (rw [hy213]; with_reducible exact H) | (have H2_ := (Option.bind_some _ _).symm.trans H; rw [hy213]; with_reducible exact H2_) | (have H2_ := (Option.bind_some _ _).symm.trans H; with_reducible exact H2_) | with_reducible exact H | (rw [hy213]; exact H) | exact H
                    have Ny213 := Aside0.mk hy213
                    clear hy213
                    obtain ⟨y216, hy216⟩ : ∃ y_ : List (S23), y_ = (([(⟨0, a2⟩ : S23), (⟨a4, (⟨#[]⟩ : ByteArray)⟩ : S23), (⟨0, a3⟩ : S23)] : List (S23))) := ⟨_, rfl⟩
                    replace H : (if y213.length + y216.length < 5864062014805 then ((some (y213 ++ y216 : List (S23))).bind fun y219 => (if t208 = (-1) then ((span_Need.f y219 a1).bind fun t222 => (if t222 = (-1) then (some true) else (if t208 ≥ 0 then ((span_Need.f y219 a1).bind fun t223 => ((span_Cols.f kj17 a2).bind fun t224 => (some (t223 == (wrap64 (t208 + t224)))))) else (some false)))) else (if t208 ≥ 0 then ((span_Need.f y219 a1).bind fun t225 => ((span_Cols.f kj17 a2).bind fun t226 => (some (t225 == (wrap64 (t208 + t226)))))) else (some false)))) else (none)) = some r := by first | (rw [hy216]; with_reducible exact H) | (have H2_ := (Option.bind_some _ _).symm.trans H; rw [hy216]; with_reducible exact H2_) | (have H2_ := (Option.bind_some _ _).symm.trans H; with_reducible exact H2_) | with_reducible exact H | (rw [hy216]; exact H) | exact H
                    have Ny216 := Aside0.mk hy216
                    clear hy216
                    by_cases c29 : y213.length + y216.length < 5864062014805
                    · rw [if_pos c29] at H
                      have LMc29 := Aside0.mk c29
                      clear c29
                      obtain ⟨y219, hy219⟩ : ∃ y_ : List (S23), y_ = (y213 ++ y216) := ⟨_, rfl⟩
                      replace H : (if t208 = (-1) then ((span_Need.f y219 a1).bind fun t222 => (if t222 = (-1) then (some true) else (if t208 ≥ 0 then ((span_Need.f y219 a1).bind fun t223 => ((span_Cols.f kj17 a2).bind fun t224 => (some (t223 == (wrap64 (t208 + t224)))))) else (some false)))) else (if t208 ≥ 0 then ((span_Need.f y219 a1).bind fun t225 => ((span_Cols.f kj17 a2).bind fun t226 => (some (t225 == (wrap64 (t208 + t226)))))) else (some false))) = some r := by first | (rw [hy219]; with_reducible exact H) | (have H2_ := (Option.bind_some _ _).symm.trans H; rw [hy219]; with_reducible exact H2_) | (have H2_ := (Option.bind_some _ _).symm.trans H; with_reducible exact H2_) | with_reducible exact H | (rw [hy219]; exact H) | exact H
                      have Ny219 := Aside0.mk hy219
                      clear hy219
                      by_cases c30 : t208 = (-1)
                      · rw [if_pos c30] at H
                        have c30b0 : (t208 == (-1)) = true := beq_iff_eq.mpr c30
                        have c30b1 : (t208 != (-1)) = false := bne_eq_false_iff_eq.mpr c30
                        clear c30
                        replace H := Option.bind_eq_some_iff.mp H
                        obtain ⟨t222, A310, H⟩ := H
                        replace H : (if t222 = (-1) then (some true) else (if t208 ≥ 0 then ((span_Need.f y219 a1).bind fun t223 => ((span_Cols.f kj17 a2).bind fun t224 => (some (t223 == (wrap64 (t208 + t224)))))) else (some false))) = some r := H
                        have A31 := Aside0.mk A310
                        clear A310
                        by_cases c32 : t222 = (-1)
                        · rw [if_pos c32] at H
                          have c32b0 : (t222 == (-1)) = true := beq_iff_eq.mpr c32
                          have c32b1 : (t222 != (-1)) = false := bne_eq_false_iff_eq.mpr c32
                          clear c32
                          obtain rfl := Option.some.inj H
                          have q33 : ((ji22) : Int) ≤ ((l0.length : Int) : Int) := of_decide_eq_true (by first | (with_reducible assumption) | assumption)
                          obtain ⟨i033, hi033, _, hsz33, _⟩ := info_parts info23
                          have hroom33 : l0.length ≤ c0 := HC0.out
                          have hC33 : Kd.C k23 _ A0 l0.length l0 := HR0.out
                          have hcut33 := cut_to (P := Try.prog) 24 23 .i64 Try.underlying24 hi033 A0 l0.length c0 (ji22) (of_decide_eq_true (by first | (with_reducible assumption) | assumption)) q33 hroom33
                          have hr33 := Kd.C_take (m := ((ji22) : Int).toNat) hC33 (by omega)
                          have hy33 : y204.length = ((ji22) : Int).toNat := (by rw [Ny204.out, List.length_take]; omega)
                          rw [← Ny204.out] at hr33
                          rw [← hy33] at hcut33
                          have HR207 := Aside0.mk hr33
                          have HC207 := Aside0.mk (show y204.length ≤ c0 from by omega)
                          clear hr33 hC33 hroom33 hi033 hsz33
                          have KY33 := Aside0.mk hy33
                          clear hy33
                          replace q33 := eq_true q33
                          go_wp2_with (first | ((with_reducible refine gate_callee (f := 19) rfl ?_); refine goesL_ (some 70) rfl rfl Try.func19 (by kernel_rfl) rfl #[.slice A0 y204.length c0, .int .i64 a1] rfl (by (try simp only [List.map_toArray, List.map_cons, List.map_nil]); first | done | rfl | (simp only [List.length_drop, List.length_take]; rfl)) ?_; (with_reducible refine (span_Need.calls _ _ y204 a1 t208 _ ?side1 ?side2 A25.out).mono ?_); (case side1 => repeat (first | exact (Kd.C_below HR207.out HB.out) | (with_reducible refine Kd.C_alloc ?_ _) | (with_reducible refine Kd.C_drewN ?_ _) | (with_reducible refine Kd.C_drew ?_))); (case side2 => exact HC207.out); (try clear A25); rintro e w34 ⟨rfl, hb⟩; refine ⟨_, rfl, ?_⟩; have n0_ := Aside0.mk (below_step (by repeat (first | (with_reducible first | exact HB.out | apply below_alloc | apply pw_below_drewN | apply below_drew1) | exact HB.out)) hb); clear HB; have HB := n0_; clear n0_; (try clear hb); (try clear hb2); (try clear hk); (try clear hi); have q35 : ((ji22) : Int) ≤ ((l0.length : Int) : Int) := of_decide_eq_true (by first | (with_reducible assumption) | assumption); obtain ⟨i035, hi035, _, hsz35, _⟩ := info_parts info23; have hroom35 : l0.length ≤ c0 := HC0.out; have hC35 : Kd.C k23 _ A0 l0.length l0 := HR0.out; (try clear hcut33); (try clear hcut33); have hcut35 := cut_to (P := Try.prog) 24 23 .i64 Try.underlying24 hi035 A0 l0.length c0 (ji22) (of_decide_eq_true (by first | (with_reducible assumption) | assumption)) q35 hroom35; have hr35 := Kd.C_take (m := ((ji22) : Int).toNat) hC35 (by omega); have hy35 : y209.length = ((ji22) : Int).toNat := (by rw [Ny209.out, List.length_take]; omega); rw [← Ny209.out] at hr35; rw [← hy35] at hcut35; have HR212 := Aside0.mk hr35; have HC212 := Aside0.mk (show y209.length ≤ c0 from by omega); clear hr35 hC35 hroom35 hi035 hsz35; have KY35 := Aside0.mk hy35; clear hy35; replace q35 := eq_true q35) | ((with_reducible refine gate_builtin (b := .append) (xs := #[.const (.slice none 0 0), .tmp 74]) rfl ?_); (try (refine gate_guard (by rfl) ?_; dsimp only)); at_builtin; refine Kd.R_append_rows k23 (w0 := w) w.heap.size rfl (.const (.slice none 0 0)) (.tmp 74) 24 23 (.agg #[(.int .i64 0), (.string ⟨#[]⟩)]) 24 rfl Try.underlying24 info23 rfl (by decide) (by omega) (.slice none 0 0) ([] : List (S23)) y209 _ _ _ (fun _ => True) (fun _ => False) rfl rfl ?aO ?aR (fun _ _ h => h) (fun _ h => h.elim) ?aF ?aB ?aS ?aL ?_; (case aR => repeat (first | exact (Kd.C_below HR212.out HB.out) | (with_reducible refine Kd.C_alloc ?_ _) | (with_reducible refine Kd.C_drewN ?_ _) | (with_reducible refine Kd.C_drew ?_))); (case aB => exact (by repeat (first | (with_reducible first | exact HB.out | apply below_alloc | apply pw_below_drewN | apply below_drew1) | exact HB.out))); (case aF => exact (fun _ _ => trivial)); (case aO => exact ((Kd.R_nil _ _ _ _ (fun _ => True)))); (case aS => exact (below_size (by repeat (first | (with_reducible first | exact HB.out | apply below_alloc | apply pw_below_drewN | apply below_drew1) | exact HB.out)))); (case aL => have := LMc28.out; omega); intro v214 w36 ho hb hg hat; rw [← Ny213.out] at ho; have n0_ := Aside0.mk (hb); have n1_ := Aside0.mk (ho); clear HB; have HB := n0_; have HO215 := n1_; clear n0_ n1_; clear ho hb hg hat) | ((with_reducible refine gate_dst (N := 82) rfl ?_); (try (refine gate_guard (by rfl) ?_; dsimp only)); refine Kd.R_lit k23 _ 23 ?hg (N := 82) ?hd (xs := ([(⟨0, a2⟩ : S23), (⟨a4, (⟨#[]⟩ : ByteArray)⟩ : S23), (⟨0, a3⟩ : S23)] : List (S23))) (inner := [.int .i64 0, .string a2, .int .i64 a4, .string (⟨#[]⟩ : ByteArray), .int .i64 0, .string a3]) (ok := fun _ => True) (okp := fun _ => True) ?hr ?hp (fun _ hk => hk) trivial (Below.refl _ _) (Nat.le_refl _) (by simp) ?_; (case hd => rfl); (case hg => rfl); (case hr => first | (go_simp; done) | (go_simp; rfl)); (case hp => exact (Reps.c2 (show Kd.M k23 _ _ _ (⟨0, a2⟩ : S23) [.int .i64 0, .string a2] from (k23_mkM _ _ _ (⟨0, a2⟩ : S23) )) (Reps.c2 (show Kd.M k23 _ _ _ (⟨a4, (⟨#[]⟩ : ByteArray)⟩ : S23) [.int .i64 a4, .string (⟨#[]⟩ : ByteArray)] from (k23_mkM _ _ _ (⟨a4, (⟨#[]⟩ : ByteArray)⟩ : S23) )) (Reps.c2 (show Kd.M k23 _ _ _ (⟨0, a3⟩ : S23) [.int .i64 0, .string a3] from (k23_mkM _ _ _ (⟨0, a3⟩ : S23) )) (Reps.none _ _))))); intro v217 w37 ho38 hb hg_ hnew_; clear hg_ hnew_; (first | rw [← Ny216.out] at ho38 | (simp only [Int.reduceToNat] at ho38; rw [← Ny216.out] at ho38)); have n0_ := Aside0.mk (Kd.R_elder' (by (with_reducible repeat (first | apply Kd.R_alloc | apply Kd.R_drewN | apply Kd.R_drew)); exact HO215.out) (Kd.R_base ho38) hb); have n1_ := Aside0.mk (Kd.R_lower (Kd.R_new' ho38 (Kd.R_lt (by (with_reducible repeat (first | apply Kd.R_alloc | apply Kd.R_drewN | apply Kd.R_drew)); exact HO215.out))) (below_size (by repeat (first | (with_reducible first | exact HB.out | apply below_alloc | apply pw_below_drewN | apply below_drew1) | exact HB.out)))); have n2_ := Aside0.mk (below_step (by repeat (first | (with_reducible first | exact HB.out | apply below_alloc | apply pw_below_drewN | apply below_drew1) | exact HB.out)) hb); clear HO215; clear HB; have HO215 := n0_; have HO218 := n1_; have HB := n2_; clear n0_ n1_ n2_; clear hb ho38; obtain ⟨Ao40, co40, eo40⟩ := Kd.R_slice HO218.out; subst eo40) | ((with_reducible refine gate_builtin (b := .append) (xs := #[.tmp 75, .tmp 82]) rfl ?_); (try (refine gate_guard (by rfl) ?_; dsimp only)); at_builtin; refine Kd.R_append_rows k23 (w0 := w) w.heap.size rfl (.tmp 75) (.tmp 82) 24 23 (.agg #[(.int .i64 0), (.string ⟨#[]⟩)]) 24 rfl Try.underlying24 info23 rfl (by decide) (by omega) v214 y213 y216 _ _ _ (fun k_ => some k_ ≠ (.slice Ao40 y216.length co40 : Value).ownBlock) (fun _ => False) rfl rfl ?aO ?aR (fun _ _ h => h) (fun _ h => h.elim) ?aF ?aB ?aS ?aL ?_; (case aR => repeat (first | exact (Kd.R_reads' HO218.out).2.2 | (with_reducible refine Kd.C_alloc ?_ _) | (with_reducible refine Kd.C_drewN ?_ _) | (with_reducible refine Kd.C_drew ?_))); (case aB => exact (by repeat (first | (with_reducible first | exact HB.out | apply below_alloc | apply pw_below_drewN | apply below_drew1) | exact HB.out))); (case aF => exact (fun k_ hk => Kd.fresh' (Kd.R_lt (by (with_reducible repeat (first | apply Kd.R_alloc | apply Kd.R_drewN | apply Kd.R_drew)); exact HO218.out)) k_ hk)); (case aO => exact (by (with_reducible repeat (first | apply Kd.R_alloc | apply Kd.R_drewN | apply Kd.R_drew)); exact Kd.R_mono HO215.out (fun _ hk => hk.2))); (case aS => exact (below_size (by repeat (first | (with_reducible first | exact HB.out | apply below_alloc | apply pw_below_drewN | apply below_drew1) | exact HB.out)))); (case aL => have := LMc29.out; omega); intro v220 w39 ho hb hg hat; rw [← Ny219.out] at ho; have n0_ := Aside0.mk (Kd.R_after (ok := (fun _ => True)) (by (with_reducible repeat (first | apply Kd.R_alloc | apply Kd.R_drewN | apply Kd.R_drew)); exact HO218.out) hg hat); have n1_ := Aside0.mk (hb); have n2_ := Aside0.mk (ho); clear HO218; clear HB; clear HO215; have HO218 := n0_; have HB := n1_; have HO221 := n2_; clear n0_ n1_ n2_; clear ho hb hg hat; obtain ⟨Ao41, co41, eo41⟩ := Kd.R_slice HO221.out; subst eo41) | (go_at_call 19; (with_reducible refine (span_Need.calls _ _ y219 a1 t222 _ ?side1 ?side2 A31.out).mono ?_); (case side1 => repeat (first | exact (Kd.R_reads' HO221.out).2.2 | (with_reducible refine Kd.C_alloc ?_ _) | (with_reducible refine Kd.C_drewN ?_ _) | (with_reducible refine Kd.C_drew ?_))); (case side2 => exact (Kd.R_reads' HO221.out).2.1); (try clear A31); rintro e w42 ⟨rfl, hb⟩; have n0_ := Aside0.mk (Kd.R_below (by (with_reducible repeat (first | apply Kd.R_alloc | apply Kd.R_drewN | apply Kd.R_drew)); exact HO218.out) hb); have n1_ := Aside0.mk (Kd.R_below (by (with_reducible repeat (first | apply Kd.R_alloc | apply Kd.R_drewN | apply Kd.R_drew)); exact HO221.out) hb); have n2_ := Aside0.mk (below_step (by repeat (first | (with_reducible first | exact HB.out | apply below_alloc | apply pw_below_drewN | apply below_drew1) | exact HB.out)) hb); clear HO218; clear HO221; clear HB; have HO218 := n0_; have HO221 := n1_; have HB := n2_; clear n0_ n1_ n2_; (try clear hb); (try clear hb2); (try clear hk); (try clear hi)))
                          go_ret
                          exact ⟨by first | rfl | (simp [errW_none, errW_some] <;> rfl) | (simp only [← hji22]; first | rfl | (simp [errW_none, errW_some] <;> rfl)) | (simp [*, errW_none, errW_some] <;> rfl), by repeat (first | (with_reducible first | exact HB.out | apply below_alloc | apply pw_below_drewN | apply below_drew1) | exact HB.out)⟩
                        · rw [if_neg c32] at H
                          have c32b0 : (t222 == (-1)) = false := beq_eq_false_iff_ne.mpr c32
                          have c32b1 : (t222 != (-1)) = true := bne_iff_ne.mpr c32
                          by_cases c43 : t208 ≥ 0
                          · rw [if_pos c43] at H
                            have c43b0 : decide (0 ≤ t208) = true := decide_eq_true c43
                            clear c43
                            replace H := Option.bind_eq_some_iff.mp H
                            obtain ⟨t223, A440, H⟩ := H
                            replace H : ((span_Cols.f kj17 a2).bind fun t224 => (some (t223 == (wrap64 (t208 + t224))))) = some r := H
                            have A44 := Aside0.mk A440
                            clear A440
                            replace H := Option.bind_eq_some_iff.mp H
                            obtain ⟨t224, A450, H⟩ := H
                            replace H : (some (t223 == (wrap64 (t208 + t224)))) = some r := H
                            have A45 := Aside0.mk A450
                            clear A450
                            obtain rfl := Option.some.inj H
                            have q46 : ((ji22) : Int) ≤ ((l0.length : Int) : Int) := of_decide_eq_true (by first | (with_reducible assumption) | assumption)
                            obtain ⟨i046, hi046, _, hsz46, _⟩ := info_parts info23
                            have hroom46 : l0.length ≤ c0 := HC0.out
                            have hC46 : Kd.C k23 _ A0 l0.length l0 := HR0.out
                            (try clear hcut35); (try clear hcut35); have hcut46 := cut_to (P := Try.prog) 24 23 .i64 Try.underlying24 hi046 A0 l0.length c0 (ji22) (of_decide_eq_true (by first | (with_reducible assumption) | assumption)) q46 hroom46
                            have hr46 := Kd.C_take (m := ((ji22) : Int).toNat) hC46 (by omega)
                            have hy46 : y204.length = ((ji22) : Int).toNat := (by rw [Ny204.out, List.length_take]; omega)
                            rw [← Ny204.out] at hr46
                            rw [← hy46] at hcut46
                            have HR207 := Aside0.mk hr46
                            have HC207 := Aside0.mk (show y204.length ≤ c0 from by omega)
                            clear hr46 hC46 hroom46 hi046 hsz46
                            have KY46 := Aside0.mk hy46
                            clear hy46
                            replace q46 := eq_true q46
                            go_wp2_with (first | ((with_reducible refine gate_callee (f := 19) rfl ?_); refine goesL_ (some 70) rfl rfl Try.func19 (by kernel_rfl) rfl #[.slice A0 y204.length c0, .int .i64 a1] rfl (by (try simp only [List.map_toArray, List.map_cons, List.map_nil]); first | done | rfl | (simp only [List.length_drop, List.length_take]; rfl)) ?_; (with_reducible refine (span_Need.calls _ _ y204 a1 t208 _ ?side1 ?side2 A25.out).mono ?_); (case side1 => repeat (first | exact (Kd.C_below HR207.out HB.out) | (with_reducible refine Kd.C_alloc ?_ _) | (with_reducible refine Kd.C_drewN ?_ _) | (with_reducible refine Kd.C_drew ?_))); (case side2 => exact HC207.out); (try clear A25); rintro e w47 ⟨rfl, hb⟩; refine ⟨_, rfl, ?_⟩; have n0_ := Aside0.mk (below_step (by repeat (first | (with_reducible first | exact HB.out | apply below_alloc | apply pw_below_drewN | apply below_drew1) | exact HB.out)) hb); clear HB; have HB := n0_; clear n0_; (try clear hb); (try clear hb2); (try clear hk); (try clear hi); have q48 : ((ji22) : Int) ≤ ((l0.length : Int) : Int) := of_decide_eq_true (by first | (with_reducible assumption) | assumption); obtain ⟨i048, hi048, _, hsz48, _⟩ := info_parts info23; have hroom48 : l0.length ≤ c0 := HC0.out; have hC48 : Kd.C k23 _ A0 l0.length l0 := HR0.out; (try clear hcut46); (try clear hcut46); have hcut48 := cut_to (P := Try.prog) 24 23 .i64 Try.underlying24 hi048 A0 l0.length c0 (ji22) (of_decide_eq_true (by first | (with_reducible assumption) | assumption)) q48 hroom48; have hr48 := Kd.C_take (m := ((ji22) : Int).toNat) hC48 (by omega); have hy48 : y209.length = ((ji22) : Int).toNat := (by rw [Ny209.out, List.length_take]; omega); rw [← Ny209.out] at hr48; rw [← hy48] at hcut48; have HR212 := Aside0.mk hr48; have HC212 := Aside0.mk (show y209.length ≤ c0 from by omega); clear hr48 hC48 hroom48 hi048 hsz48; have KY48 := Aside0.mk hy48; clear hy48; replace q48 := eq_true q48) | ((with_reducible refine gate_builtin (b := .append) (xs := #[.const (.slice none 0 0), .tmp 74]) rfl ?_); (try (refine gate_guard (by rfl) ?_; dsimp only)); at_builtin; refine Kd.R_append_rows k23 (w0 := w) w.heap.size rfl (.const (.slice none 0 0)) (.tmp 74) 24 23 (.agg #[(.int .i64 0), (.string ⟨#[]⟩)]) 24 rfl Try.underlying24 info23 rfl (by decide) (by omega) (.slice none 0 0) ([] : List (S23)) y209 _ _ _ (fun _ => True) (fun _ => False) rfl rfl ?aO ?aR (fun _ _ h => h) (fun _ h => h.elim) ?aF ?aB ?aS ?aL ?_; (case aR => repeat (first | exact (Kd.C_below HR212.out HB.out) | (with_reducible refine Kd.C_alloc ?_ _) | (with_reducible refine Kd.C_drewN ?_ _) | (with_reducible refine Kd.C_drew ?_))); (case aB => exact (by repeat (first | (with_reducible first | exact HB.out | apply below_alloc | apply pw_below_drewN | apply below_drew1) | exact HB.out))); (case aF => exact (fun _ _ => trivial)); (case aO => exact ((Kd.R_nil _ _ _ _ (fun _ => True)))); (case aS => exact (below_size (by repeat (first | (with_reducible first | exact HB.out | apply below_alloc | apply pw_below_drewN | apply below_drew1) | exact HB.out)))); (case aL => have := LMc28.out; omega); intro v214 w49 ho hb hg hat; rw [← Ny213.out] at ho; have n0_ := Aside0.mk (hb); have n1_ := Aside0.mk (ho); clear HB; have HB := n0_; have HO215 := n1_; clear n0_ n1_; clear ho hb hg hat) | ((with_reducible refine gate_dst (N := 82) rfl ?_); (try (refine gate_guard (by rfl) ?_; dsimp only)); refine Kd.R_lit k23 _ 23 ?hg (N := 82) ?hd (xs := ([(⟨0, a2⟩ : S23), (⟨a4, (⟨#[]⟩ : ByteArray)⟩ : S23), (⟨0, a3⟩ : S23)] : List (S23))) (inner := [.int .i64 0, .string a2, .int .i64 a4, .string (⟨#[]⟩ : ByteArray), .int .i64 0, .string a3]) (ok := fun _ => True) (okp := fun _ => True) ?hr ?hp (fun _ hk => hk) trivial (Below.refl _ _) (Nat.le_refl _) (by simp) ?_; (case hd => rfl); (case hg => rfl); (case hr => first | (go_simp; done) | (go_simp; rfl)); (case hp => exact (Reps.c2 (show Kd.M k23 _ _ _ (⟨0, a2⟩ : S23) [.int .i64 0, .string a2] from (k23_mkM _ _ _ (⟨0, a2⟩ : S23) )) (Reps.c2 (show Kd.M k23 _ _ _ (⟨a4, (⟨#[]⟩ : ByteArray)⟩ : S23) [.int .i64 a4, .string (⟨#[]⟩ : ByteArray)] from (k23_mkM _ _ _ (⟨a4, (⟨#[]⟩ : ByteArray)⟩ : S23) )) (Reps.c2 (show Kd.M k23 _ _ _ (⟨0, a3⟩ : S23) [.int .i64 0, .string a3] from (k23_mkM _ _ _ (⟨0, a3⟩ : S23) )) (Reps.none _ _))))); intro v217 w50 ho51 hb hg_ hnew_; clear hg_ hnew_; (first | rw [← Ny216.out] at ho51 | (simp only [Int.reduceToNat] at ho51; rw [← Ny216.out] at ho51)); have n0_ := Aside0.mk (Kd.R_elder' (by (with_reducible repeat (first | apply Kd.R_alloc | apply Kd.R_drewN | apply Kd.R_drew)); exact HO215.out) (Kd.R_base ho51) hb); have n1_ := Aside0.mk (Kd.R_lower (Kd.R_new' ho51 (Kd.R_lt (by (with_reducible repeat (first | apply Kd.R_alloc | apply Kd.R_drewN | apply Kd.R_drew)); exact HO215.out))) (below_size (by repeat (first | (with_reducible first | exact HB.out | apply below_alloc | apply pw_below_drewN | apply below_drew1) | exact HB.out)))); have n2_ := Aside0.mk (below_step (by repeat (first | (with_reducible first | exact HB.out | apply below_alloc | apply pw_below_drewN | apply below_drew1) | exact HB.out)) hb); clear HO215; clear HB; have HO215 := n0_; have HO218 := n1_; have HB := n2_; clear n0_ n1_ n2_; clear hb ho51; obtain ⟨Ao53, co53, eo53⟩ := Kd.R_slice HO218.out; subst eo53) | ((with_reducible refine gate_builtin (b := .append) (xs := #[.tmp 75, .tmp 82]) rfl ?_); (try (refine gate_guard (by rfl) ?_; dsimp only)); at_builtin; refine Kd.R_append_rows k23 (w0 := w) w.heap.size rfl (.tmp 75) (.tmp 82) 24 23 (.agg #[(.int .i64 0), (.string ⟨#[]⟩)]) 24 rfl Try.underlying24 info23 rfl (by decide) (by omega) v214 y213 y216 _ _ _ (fun k_ => some k_ ≠ (.slice Ao53 y216.length co53 : Value).ownBlock) (fun _ => False) rfl rfl ?aO ?aR (fun _ _ h => h) (fun _ h => h.elim) ?aF ?aB ?aS ?aL ?_; (case aR => repeat (first | exact (Kd.R_reads' HO218.out).2.2 | (with_reducible refine Kd.C_alloc ?_ _) | (with_reducible refine Kd.C_drewN ?_ _) | (with_reducible refine Kd.C_drew ?_))); (case aB => exact (by repeat (first | (with_reducible first | exact HB.out | apply below_alloc | apply pw_below_drewN | apply below_drew1) | exact HB.out))); (case aF => exact (fun k_ hk => Kd.fresh' (Kd.R_lt (by (with_reducible repeat (first | apply Kd.R_alloc | apply Kd.R_drewN | apply Kd.R_drew)); exact HO218.out)) k_ hk)); (case aO => exact (by (with_reducible repeat (first | apply Kd.R_alloc | apply Kd.R_drewN | apply Kd.R_drew)); exact Kd.R_mono HO215.out (fun _ hk => hk.2))); (case aS => exact (below_size (by repeat (first | (with_reducible first | exact HB.out | apply below_alloc | apply pw_below_drewN | apply below_drew1) | exact HB.out)))); (case aL => have := LMc29.out; omega); intro v220 w52 ho hb hg hat; rw [← Ny219.out] at ho; have n0_ := Aside0.mk (Kd.R_after (ok := (fun _ => True)) (by (with_reducible repeat (first | apply Kd.R_alloc | apply Kd.R_drewN | apply Kd.R_drew)); exact HO218.out) hg hat); have n1_ := Aside0.mk (hb); have n2_ := Aside0.mk (ho); clear HO218; clear HB; clear HO215; have HO218 := n0_; have HB := n1_; have HO221 := n2_; clear n0_ n1_ n2_; clear ho hb hg hat; obtain ⟨Ao54, co54, eo54⟩ := Kd.R_slice HO221.out; subst eo54) | (go_at_call 19; (with_reducible refine (span_Need.calls _ _ y219 a1 t222 _ ?side1 ?side2 A31.out).mono ?_); (case side1 => repeat (first | exact (Kd.R_reads' HO221.out).2.2 | (with_reducible refine Kd.C_alloc ?_ _) | (with_reducible refine Kd.C_drewN ?_ _) | (with_reducible refine Kd.C_drew ?_))); (case side2 => exact (Kd.R_reads' HO221.out).2.1); (try clear A31); rintro e w55 ⟨rfl, hb⟩; have n0_ := Aside0.mk (Kd.R_below (by (with_reducible repeat (first | apply Kd.R_alloc | apply Kd.R_drewN | apply Kd.R_drew)); exact HO218.out) hb); have n1_ := Aside0.mk (Kd.R_below (by (with_reducible repeat (first | apply Kd.R_alloc | apply Kd.R_drewN | apply Kd.R_drew)); exact HO221.out) hb); have n2_ := Aside0.mk (below_step (by repeat (first | (with_reducible first | exact HB.out | apply below_alloc | apply pw_below_drewN | apply below_drew1) | exact HB.out)) hb); clear HO218; clear HO221; clear HB; have HO218 := n0_; have HO221 := n1_; have HB := n2_; clear n0_ n1_ n2_; (try clear hb); (try clear hb2); (try clear hk); (try clear hi)) | (go_at_call 19; (with_reducible refine (span_Need.calls _ _ y219 a1 t223 _ ?side1 ?side2 A44.out).mono ?_); (case side1 => repeat (first | exact (Kd.R_reads' HO221.out).2.2 | (with_reducible refine Kd.C_alloc ?_ _) | (with_reducible refine Kd.C_drewN ?_ _) | (with_reducible refine Kd.C_drew ?_))); (case side2 => exact (Kd.R_reads' HO221.out).2.1); (try clear A44); rintro e w56 ⟨rfl, hb⟩; have n0_ := Aside0.mk (Kd.R_below (by (with_reducible repeat (first | apply Kd.R_alloc | apply Kd.R_drewN | apply Kd.R_drew)); exact HO218.out) hb); have n1_ := Aside0.mk (Kd.R_below (by (with_reducible repeat (first | apply Kd.R_alloc | apply Kd.R_drewN | apply Kd.R_drew)); exact HO221.out) hb); have n2_ := Aside0.mk (below_step (by repeat (first | (with_reducible first | exact HB.out | apply below_alloc | apply pw_below_drewN | apply below_drew1) | exact HB.out)) hb); clear HO218; clear HO221; clear HB; have HO218 := n0_; have HO221 := n1_; have HB := n2_; clear n0_ n1_ n2_; (try clear hb); (try clear hb2); (try clear hk); (try clear hi)) | (go_at_call 14; (with_reducible refine (span_Cols.calls kj17 a2 t224 _ A45.out).mono ?_); (try clear A45); rintro e w57 ⟨rfl, hb⟩; have n0_ := Aside0.mk (Kd.R_below (by (with_reducible repeat (first | apply Kd.R_alloc | apply Kd.R_drewN | apply Kd.R_drew)); exact HO218.out) hb); have n1_ := Aside0.mk (Kd.R_below (by (with_reducible repeat (first | apply Kd.R_alloc | apply Kd.R_drewN | apply Kd.R_drew)); exact HO221.out) hb); have n2_ := Aside0.mk (below_step (by repeat (first | (with_reducible first | exact HB.out | apply below_alloc | apply pw_below_drewN | apply below_drew1) | exact HB.out)) hb); clear HO218; clear HO221; clear HB; have HO218 := n0_; have HO221 := n1_; have HB := n2_; clear n0_ n1_ n2_; (try clear hb); (try clear hb2); (try clear hk); (try clear hi)))
                            go_ret
                            exact ⟨by first | rfl | (simp [errW_none, errW_some] <;> rfl) | (simp only [← hji22]; first | rfl | (simp [errW_none, errW_some] <;> rfl)) | (simp [*, errW_none, errW_some] <;> rfl), by repeat (first | (with_reducible first | exact HB.out | apply below_alloc | apply pw_below_drewN | apply below_drew1) | exact HB.out)⟩
                          · rw [if_neg c43] at H
                            have c43b0 : decide (0 ≤ t208) = false := decide_eq_false c43
                            clear c43
                            exact absurd H (by have h_ := HT_.out; subst h_; decide)
                      · rw [if_neg c30] at H
                        have c30b0 : (t208 == (-1)) = false := beq_eq_false_iff_ne.mpr c30
                        have c30b1 : (t208 != (-1)) = true := bne_iff_ne.mpr c30
                        by_cases c58 : t208 ≥ 0
                        · rw [if_pos c58] at H
                          have c58b0 : decide (0 ≤ t208) = true := decide_eq_true c58
                          clear c58
                          replace H := Option.bind_eq_some_iff.mp H
                          obtain ⟨t225, A590, H⟩ := H
                          replace H : ((span_Cols.f kj17 a2).bind fun t226 => (some (t225 == (wrap64 (t208 + t226))))) = some r := H
                          have A59 := Aside0.mk A590
                          clear A590
                          replace H := Option.bind_eq_some_iff.mp H
                          obtain ⟨t226, A600, H⟩ := H
                          replace H : (some (t225 == (wrap64 (t208 + t226)))) = some r := H
                          have A60 := Aside0.mk A600
                          clear A600
                          obtain rfl := Option.some.inj H
                          have q61 : ((ji22) : Int) ≤ ((l0.length : Int) : Int) := of_decide_eq_true (by first | (with_reducible assumption) | assumption)
                          obtain ⟨i061, hi061, _, hsz61, _⟩ := info_parts info23
                          have hroom61 : l0.length ≤ c0 := HC0.out
                          have hC61 : Kd.C k23 _ A0 l0.length l0 := HR0.out
                          (try clear hcut48); (try clear hcut48); have hcut61 := cut_to (P := Try.prog) 24 23 .i64 Try.underlying24 hi061 A0 l0.length c0 (ji22) (of_decide_eq_true (by first | (with_reducible assumption) | assumption)) q61 hroom61
                          have hr61 := Kd.C_take (m := ((ji22) : Int).toNat) hC61 (by omega)
                          have hy61 : y204.length = ((ji22) : Int).toNat := (by rw [Ny204.out, List.length_take]; omega)
                          rw [← Ny204.out] at hr61
                          rw [← hy61] at hcut61
                          have HR207 := Aside0.mk hr61
                          have HC207 := Aside0.mk (show y204.length ≤ c0 from by omega)
                          clear hr61 hC61 hroom61 hi061 hsz61
                          have KY61 := Aside0.mk hy61
                          clear hy61
                          replace q61 := eq_true q61
                          go_wp2_with (first | ((with_reducible refine gate_callee (f := 19) rfl ?_); refine goesL_ (some 70) rfl rfl Try.func19 (by kernel_rfl) rfl #[.slice A0 y204.length c0, .int .i64 a1] rfl (by (try simp only [List.map_toArray, List.map_cons, List.map_nil]); first | done | rfl | (simp only [List.length_drop, List.length_take]; rfl)) ?_; (with_reducible refine (span_Need.calls _ _ y204 a1 t208 _ ?side1 ?side2 A25.out).mono ?_); (case side1 => repeat (first | exact (Kd.C_below HR207.out HB.out) | (with_reducible refine Kd.C_alloc ?_ _) | (with_reducible refine Kd.C_drewN ?_ _) | (with_reducible refine Kd.C_drew ?_))); (case side2 => exact HC207.out); (try clear A25); rintro e w62 ⟨rfl, hb⟩; refine ⟨_, rfl, ?_⟩; have n0_ := Aside0.mk (below_step (by repeat (first | (with_reducible first | exact HB.out | apply below_alloc | apply pw_below_drewN | apply below_drew1) | exact HB.out)) hb); clear HB; have HB := n0_; clear n0_; (try clear hb); (try clear hb2); (try clear hk); (try clear hi); have q63 : ((ji22) : Int) ≤ ((l0.length : Int) : Int) := of_decide_eq_true (by first | (with_reducible assumption) | assumption); obtain ⟨i063, hi063, _, hsz63, _⟩ := info_parts info23; have hroom63 : l0.length ≤ c0 := HC0.out; have hC63 : Kd.C k23 _ A0 l0.length l0 := HR0.out; (try clear hcut61); (try clear hcut61); have hcut63 := cut_to (P := Try.prog) 24 23 .i64 Try.underlying24 hi063 A0 l0.length c0 (ji22) (of_decide_eq_true (by first | (with_reducible assumption) | assumption)) q63 hroom63; have hr63 := Kd.C_take (m := ((ji22) : Int).toNat) hC63 (by omega); have hy63 : y209.length = ((ji22) : Int).toNat := (by rw [Ny209.out, List.length_take]; omega); rw [← Ny209.out] at hr63; rw [← hy63] at hcut63; have HR212 := Aside0.mk hr63; have HC212 := Aside0.mk (show y209.length ≤ c0 from by omega); clear hr63 hC63 hroom63 hi063 hsz63; have KY63 := Aside0.mk hy63; clear hy63; replace q63 := eq_true q63) | ((with_reducible refine gate_builtin (b := .append) (xs := #[.const (.slice none 0 0), .tmp 74]) rfl ?_); (try (refine gate_guard (by rfl) ?_; dsimp only)); at_builtin; refine Kd.R_append_rows k23 (w0 := w) w.heap.size rfl (.const (.slice none 0 0)) (.tmp 74) 24 23 (.agg #[(.int .i64 0), (.string ⟨#[]⟩)]) 24 rfl Try.underlying24 info23 rfl (by decide) (by omega) (.slice none 0 0) ([] : List (S23)) y209 _ _ _ (fun _ => True) (fun _ => False) rfl rfl ?aO ?aR (fun _ _ h => h) (fun _ h => h.elim) ?aF ?aB ?aS ?aL ?_; (case aR => repeat (first | exact (Kd.C_below HR212.out HB.out) | (with_reducible refine Kd.C_alloc ?_ _) | (with_reducible refine Kd.C_drewN ?_ _) | (with_reducible refine Kd.C_drew ?_))); (case aB => exact (by repeat (first | (with_reducible first | exact HB.out | apply below_alloc | apply pw_below_drewN | apply below_drew1) | exact HB.out))); (case aF => exact (fun _ _ => trivial)); (case aO => exact ((Kd.R_nil _ _ _ _ (fun _ => True)))); (case aS => exact (below_size (by repeat (first | (with_reducible first | exact HB.out | apply below_alloc | apply pw_below_drewN | apply below_drew1) | exact HB.out)))); (case aL => have := LMc28.out; omega); intro v214 w64 ho hb hg hat; rw [← Ny213.out] at ho; have n0_ := Aside0.mk (hb); have n1_ := Aside0.mk (ho); clear HB; have HB := n0_; have HO215 := n1_; clear n0_ n1_; clear ho hb hg hat) | ((with_reducible refine gate_dst (N := 82) rfl ?_); (try (refine gate_guard (by rfl) ?_; dsimp only)); refine Kd.R_lit k23 _ 23 ?hg (N := 82) ?hd (xs := ([(⟨0, a2⟩ : S23), (⟨a4, (⟨#[]⟩ : ByteArray)⟩ : S23), (⟨0, a3⟩ : S23)] : List (S23))) (inner := [.int .i64 0, .string a2, .int .i64 a4, .string (⟨#[]⟩ : ByteArray), .int .i64 0, .string a3]) (ok := fun _ => True) (okp := fun _ => True) ?hr ?hp (fun _ hk => hk) trivial (Below.refl _ _) (Nat.le_refl _) (by simp) ?_; (case hd => rfl); (case hg => rfl); (case hr => first | (go_simp; done) | (go_simp; rfl)); (case hp => exact (Reps.c2 (show Kd.M k23 _ _ _ (⟨0, a2⟩ : S23) [.int .i64 0, .string a2] from (k23_mkM _ _ _ (⟨0, a2⟩ : S23) )) (Reps.c2 (show Kd.M k23 _ _ _ (⟨a4, (⟨#[]⟩ : ByteArray)⟩ : S23) [.int .i64 a4, .string (⟨#[]⟩ : ByteArray)] from (k23_mkM _ _ _ (⟨a4, (⟨#[]⟩ : ByteArray)⟩ : S23) )) (Reps.c2 (show Kd.M k23 _ _ _ (⟨0, a3⟩ : S23) [.int .i64 0, .string a3] from (k23_mkM _ _ _ (⟨0, a3⟩ : S23) )) (Reps.none _ _))))); intro v217 w65 ho66 hb hg_ hnew_; clear hg_ hnew_; (first | rw [← Ny216.out] at ho66 | (simp only [Int.reduceToNat] at ho66; rw [← Ny216.out] at ho66)); have n0_ := Aside0.mk (Kd.R_elder' (by (with_reducible repeat (first | apply Kd.R_alloc | apply Kd.R_drewN | apply Kd.R_drew)); exact HO215.out) (Kd.R_base ho66) hb); have n1_ := Aside0.mk (Kd.R_lower (Kd.R_new' ho66 (Kd.R_lt (by (with_reducible repeat (first | apply Kd.R_alloc | apply Kd.R_drewN | apply Kd.R_drew)); exact HO215.out))) (below_size (by repeat (first | (with_reducible first | exact HB.out | apply below_alloc | apply pw_below_drewN | apply below_drew1) | exact HB.out)))); have n2_ := Aside0.mk (below_step (by repeat (first | (with_reducible first | exact HB.out | apply below_alloc | apply pw_below_drewN | apply below_drew1) | exact HB.out)) hb); clear HO215; clear HB; have HO215 := n0_; have HO218 := n1_; have HB := n2_; clear n0_ n1_ n2_; clear hb ho66; obtain ⟨Ao68, co68, eo68⟩ := Kd.R_slice HO218.out; subst eo68) | ((with_reducible refine gate_builtin (b := .append) (xs := #[.tmp 75, .tmp 82]) rfl ?_); (try (refine gate_guard (by rfl) ?_; dsimp only)); at_builtin; refine Kd.R_append_rows k23 (w0 := w) w.heap.size rfl (.tmp 75) (.tmp 82) 24 23 (.agg #[(.int .i64 0), (.string ⟨#[]⟩)]) 24 rfl Try.underlying24 info23 rfl (by decide) (by omega) v214 y213 y216 _ _ _ (fun k_ => some k_ ≠ (.slice Ao68 y216.length co68 : Value).ownBlock) (fun _ => False) rfl rfl ?aO ?aR (fun _ _ h => h) (fun _ h => h.elim) ?aF ?aB ?aS ?aL ?_; (case aR => repeat (first | exact (Kd.R_reads' HO218.out).2.2 | (with_reducible refine Kd.C_alloc ?_ _) | (with_reducible refine Kd.C_drewN ?_ _) | (with_reducible refine Kd.C_drew ?_))); (case aB => exact (by repeat (first | (with_reducible first | exact HB.out | apply below_alloc | apply pw_below_drewN | apply below_drew1) | exact HB.out))); (case aF => exact (fun k_ hk => Kd.fresh' (Kd.R_lt (by (with_reducible repeat (first | apply Kd.R_alloc | apply Kd.R_drewN | apply Kd.R_drew)); exact HO218.out)) k_ hk)); (case aO => exact (by (with_reducible repeat (first | apply Kd.R_alloc | apply Kd.R_drewN | apply Kd.R_drew)); exact Kd.R_mono HO215.out (fun _ hk => hk.2))); (case aS => exact (below_size (by repeat (first | (with_reducible first | exact HB.out | apply below_alloc | apply pw_below_drewN | apply below_drew1) | exact HB.out)))); (case aL => have := LMc29.out; omega); intro v220 w67 ho hb hg hat; rw [← Ny219.out] at ho; have n0_ := Aside0.mk (Kd.R_after (ok := (fun _ => True)) (by (with_reducible repeat (first | apply Kd.R_alloc | apply Kd.R_drewN | apply Kd.R_drew)); exact HO218.out) hg hat); have n1_ := Aside0.mk (hb); have n2_ := Aside0.mk (ho); clear HO218; clear HB; clear HO215; have HO218 := n0_; have HB := n1_; have HO221 := n2_; clear n0_ n1_ n2_; clear ho hb hg hat; obtain ⟨Ao69, co69, eo69⟩ := Kd.R_slice HO221.out; subst eo69) | (go_at_call 19; (with_reducible refine (span_Need.calls _ _ y219 a1 t225 _ ?side1 ?side2 A59.out).mono ?_); (case side1 => repeat (first | exact (Kd.R_reads' HO221.out).2.2 | (with_reducible refine Kd.C_alloc ?_ _) | (with_reducible refine Kd.C_drewN ?_ _) | (with_reducible refine Kd.C_drew ?_))); (case side2 => exact (Kd.R_reads' HO221.out).2.1); (try clear A59); rintro e w70 ⟨rfl, hb⟩; have n0_ := Aside0.mk (Kd.R_below (by (with_reducible repeat (first | apply Kd.R_alloc | apply Kd.R_drewN | apply Kd.R_drew)); exact HO218.out) hb); have n1_ := Aside0.mk (Kd.R_below (by (with_reducible repeat (first | apply Kd.R_alloc | apply Kd.R_drewN | apply Kd.R_drew)); exact HO221.out) hb); have n2_ := Aside0.mk (below_step (by repeat (first | (with_reducible first | exact HB.out | apply below_alloc | apply pw_below_drewN | apply below_drew1) | exact HB.out)) hb); clear HO218; clear HO221; clear HB; have HO218 := n0_; have HO221 := n1_; have HB := n2_; clear n0_ n1_ n2_; (try clear hb); (try clear hb2); (try clear hk); (try clear hi)) | (go_at_call 14; (with_reducible refine (span_Cols.calls kj17 a2 t226 _ A60.out).mono ?_); (try clear A60); rintro e w71 ⟨rfl, hb⟩; have n0_ := Aside0.mk (Kd.R_below (by (with_reducible repeat (first | apply Kd.R_alloc | apply Kd.R_drewN | apply Kd.R_drew)); exact HO218.out) hb); have n1_ := Aside0.mk (Kd.R_below (by (with_reducible repeat (first | apply Kd.R_alloc | apply Kd.R_drewN | apply Kd.R_drew)); exact HO221.out) hb); have n2_ := Aside0.mk (below_step (by repeat (first | (with_reducible first | exact HB.out | apply below_alloc | apply pw_below_drewN | apply below_drew1) | exact HB.out)) hb); clear HO218; clear HO221; clear HB; have HO218 := n0_; have HO221 := n1_; have HB := n2_; clear n0_ n1_ n2_; (try clear hb); (try clear hb2); (try clear hk); (try clear hi)))
                          go_ret
                          exact ⟨by first | rfl | (simp [errW_none, errW_some] <;> rfl) | (simp only [← hji22]; first | rfl | (simp [errW_none, errW_some] <;> rfl)) | (simp [*, errW_none, errW_some] <;> rfl), by repeat (first | (with_reducible first | exact HB.out | apply below_alloc | apply pw_below_drewN | apply below_drew1) | exact HB.out)⟩
                        · rw [if_neg c58] at H
                          have c58b0 : decide (0 ≤ t208) = false := decide_eq_false c58
                          clear c58
                          exact absurd H (by have h_ := HT_.out; subst h_; decide)
                    · rw [if_neg c29] at H
                      exact absurd H (by simp)
                  · rw [if_neg c28] at H
                    exact absurd H (by simp)
                · rw [if_neg c24] at H
                  exact absurd H (by simp)
              · rw [if_neg c23] at H
                exact absurd H (by simp)

/-- The pure statement of copperplatelaw17_SpanBehind. -/
def copperplatelaw17_SpanBehind.Pure : Prop := ∀ (l0 : List (S23)) (a1 : Int) (a2 : ByteArray) (a3 : ByteArray) (a4 : Int), l0.length * 24 ≤ 140737488351232 → (∀ x ∈ l0, (Lit.int .i64 x.f0).wf = true ∧ x.f1.size ≤ 140737488351232) → (Lit.int .i64 a1).wf = true → a2.size ≤ 140737488351232 → a3.size ≤ 140737488351232 → (Lit.int .i64 a4).wf = true → ∃ k, copperplatelaw17_SpanBehind.f k l0 a1 a2 a3 a4 = some true
def copperplatelaw17_SpanBehind.PureUp : Prop := ∀ (l0 : List (S23)) (a1 : Int) (a2 : ByteArray) (a3 : ByteArray) (a4 : Int), l0.length * 24 ≤ 140737488351232 → (∀ x ∈ l0, (Lit.int .i64 x.f0).wf = true ∧ x.f1.size ≤ 140737488351232) → (Lit.int .i64 a1).wf = true → a2.size ≤ 140737488351232 → a3.size ≤ 140737488351232 → (Lit.int .i64 a4).wf = true → (l0.map fun x => x.f1.size).sum + a2.size + a3.size ≤ 1048576 → ∃ k, copperplatelaw17_SpanBehind.f k l0 a1 a2 a3 a4 = some true

end Go.Proofs.Ytjibfhlacbgkgaa.PSpan
