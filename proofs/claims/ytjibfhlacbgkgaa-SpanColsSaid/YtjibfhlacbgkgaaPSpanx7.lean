-- Written by a program of the session (drive.py, over the kit's print.py with contracts by hand). Not trusted: Lean checks it.
import Derived.Test.YtjibfhlacbgkgaaPSpanx0
import Derived.Test.YtjibfhlacbgkgaaPSpanx4
import Derived.Test.YtjibfhlacbgkgaaHSpanFlat
import Derived.Test.YtjibfhlacbgkgaaHSpanMatchM
import Derived.Test.YtjibfhlacbgkgaaHSpanNeed
namespace Go.Proofs.Ytjibfhlacbgkgaa.PSpan
open Go.RowKit Go.Proofs.YtjibfhlacbgkgaaW.PrintWords Go.Proofs.YtjibfhlacbgkgaaW.PrintLast Go.Proofs.YtjibfhlacbgkgaaW.PrintMore
attribute [local go_sem] max2_int min2_int max_two min_two max_three min_three max_four min_four   -- for this text's walks alone
set_option linter.unusedVariables false
set_option linter.unusedSimpArgs false

/-! ### copperplatelaw17_awake_p: function 10 -/
def copperplatelaw17_awake_p.f (k : Nat)  : Option (Bool) := (some (([(⟨6, (⟨#[]⟩ : ByteArray)⟩ : S23), (⟨0, (⟨#[97, 98]⟩ : ByteArray)⟩ : S23), (⟨2, (⟨#[]⟩ : ByteArray)⟩ : S23), (⟨0, (⟨#[99]⟩ : ByteArray)⟩ : S23), (⟨7, (⟨#[]⟩ : ByteArray)⟩ : S23), (⟨0, (⟨#[100]⟩ : ByteArray)⟩ : S23), (⟨3, (⟨#[]⟩ : ByteArray)⟩ : S23), (⟨0, (⟨#[101]⟩ : ByteArray)⟩ : S23)] : List (S23)) : List (S23))).bind fun y105 => (if 2 < (y105.length : Int) then ((span_Flat.f ((rd_T23 y105 2).f0) ((rd_T23 y105 2).f1)).bind fun bt109 => ((span_Need.f y105 0).bind fun t111 => (if t111 = 5 then ((span_Match.f y105 0).bind fun t112 => (if t112 = 4 then ((span_Cols.f k (⟨#[195, 169, 97]⟩ : ByteArray)).bind fun t113 => (if t113 = 2 then (if bt109.2 = true then (if bt109.1.toList = ([32] : List UInt8) then (if 6 < (y105.length : Int) then ((span_Breaks.f ((rd_T23 y105 6).f0) ((rd_T23 y105 6).f1)).bind fun t115 => (if t115 = true then (if 0 < (y105.length : Int) then ((span_Breaks.f ((rd_T23 y105 0).f0) ((rd_T23 y105 0).f1)).bind fun t117 => (some (!t117))) else (none)) else (some false))) else (none)) else (some false)) else (some false)) else (some false))) else (some false))) else (some false)))) else (none))
theorem copperplatelaw17_awake_p.mono : ∀ k, LeO (copperplatelaw17_awake_p.f k ) (copperplatelaw17_awake_p.f (k + 1) ) := by
  intro  k
  unfold copperplatelaw17_awake_p.f
  repeat' first
      | (with_reducible exact span_Cols.mono _ _)
      | (with_reducible exact LeO.refl _)
      | (with_reducible exact LeO.none _)
      | (with_reducible refine LeO.ite ?_ ?_)
      | (with_reducible refine LeO.bind ?_ (fun _ => ?_))
      | exact span_Cols.mono _ _
      | exact LeO.none _
      | refine LeO.ite ?_ ?_
      | refine LeO.bind ?_ (fun _ => ?_)
set_option maxHeartbeats 8000000 in
set_option maxRecDepth 100000 in
theorem copperplatelaw17_awake_p.calls (k : Nat)  (r : Bool) (w : World) (h : copperplatelaw17_awake_p.f k  = some r) (hT_ : r = true) :
    Calls Try.prog 10 #[] w fun e w' => e = .returned (.bool r) ∧ Below w.heap.size w w' := by
  have hu23 := Try.underlying23
  have HT_ := Aside0.mk hT_
  clear hT_
  have HB := Aside0.mk (Below.refl w.heap.size w)
  have H : ((some (([(⟨6, (⟨#[]⟩ : ByteArray)⟩ : S23), (⟨0, (⟨#[97, 98]⟩ : ByteArray)⟩ : S23), (⟨2, (⟨#[]⟩ : ByteArray)⟩ : S23), (⟨0, (⟨#[99]⟩ : ByteArray)⟩ : S23), (⟨7, (⟨#[]⟩ : ByteArray)⟩ : S23), (⟨0, (⟨#[100]⟩ : ByteArray)⟩ : S23), (⟨3, (⟨#[]⟩ : ByteArray)⟩ : S23), (⟨0, (⟨#[101]⟩ : ByteArray)⟩ : S23)] : List (S23)) : List (S23))).bind fun y105 => (if 2 < (y105.length : Int) then ((span_Flat.f ((rd_T23 y105 2).f0) ((rd_T23 y105 2).f1)).bind fun bt109 => ((span_Need.f y105 0).bind fun t111 => (if t111 = 5 then ((span_Match.f y105 0).bind fun t112 => (if t112 = 4 then ((span_Cols.f k (⟨#[195, 169, 97]⟩ : ByteArray)).bind fun t113 => (if t113 = 2 then (if bt109.2 = true then (if bt109.1.toList = ([32] : List UInt8) then (if 6 < (y105.length : Int) then ((span_Breaks.f ((rd_T23 y105 6).f0) ((rd_T23 y105 6).f1)).bind fun t115 => (if t115 = true then (if 0 < (y105.length : Int) then ((span_Breaks.f ((rd_T23 y105 0).f0) ((rd_T23 y105 0).f1)).bind fun t117 => (some (!t117))) else (none)) else (some false))) else (none)) else (some false)) else (some false)) else (some false))) else (some false))) else (some false)))) else (none))) = some r := h
  clear h
  obtain ⟨y105, hy105⟩ : ∃ y_ : List (S23), y_ = (([(⟨6, (⟨#[]⟩ : ByteArray)⟩ : S23), (⟨0, (⟨#[97, 98]⟩ : ByteArray)⟩ : S23), (⟨2, (⟨#[]⟩ : ByteArray)⟩ : S23), (⟨0, (⟨#[99]⟩ : ByteArray)⟩ : S23), (⟨7, (⟨#[]⟩ : ByteArray)⟩ : S23), (⟨0, (⟨#[100]⟩ : ByteArray)⟩ : S23), (⟨3, (⟨#[]⟩ : ByteArray)⟩ : S23), (⟨0, (⟨#[101]⟩ : ByteArray)⟩ : S23)] : List (S23))) := ⟨_, rfl⟩
  replace H : (if 2 < (y105.length : Int) then ((span_Flat.f ((rd_T23 y105 2).f0) ((rd_T23 y105 2).f1)).bind fun bt109 => ((span_Need.f y105 0).bind fun t111 => (if t111 = 5 then ((span_Match.f y105 0).bind fun t112 => (if t112 = 4 then ((span_Cols.f k (⟨#[195, 169, 97]⟩ : ByteArray)).bind fun t113 => (if t113 = 2 then (if bt109.2 = true then (if bt109.1.toList = ([32] : List UInt8) then (if 6 < (y105.length : Int) then ((span_Breaks.f ((rd_T23 y105 6).f0) ((rd_T23 y105 6).f1)).bind fun t115 => (if t115 = true then (if 0 < (y105.length : Int) then ((span_Breaks.f ((rd_T23 y105 0).f0) ((rd_T23 y105 0).f1)).bind fun t117 => (some (!t117))) else (none)) else (some false))) else (none)) else (some false)) else (some false)) else (some false))) else (some false))) else (some false)))) else (none)) = some r := by first | (rw [hy105]; with_reducible exact H) | (have H2_ := (Option.bind_some _ _).symm.trans H; rw [hy105]; with_reducible exact H2_) | (have H2_ := (Option.bind_some _ _).symm.trans H; with_reducible exact H2_) | with_reducible exact H | (rw [hy105]; exact H) | exact H
  have Ny105 := Aside0.mk hy105
  clear hy105
  by_cases c1 : 2 < (y105.length : Int)
  · rw [if_pos c1] at H
    have c1b0 : decide (2 < (y105.length : Int)) = true := decide_eq_true c1
    have c1b1 : decide (2 < y105.length) = true := decide_eq_true (by omega)
    clear c1
    replace H := Option.bind_eq_some_iff.mp H
    obtain ⟨⟨t109, t110⟩, A20, H⟩ := H
    replace H : ((span_Need.f y105 0).bind fun t111 => (if t111 = 5 then ((span_Match.f y105 0).bind fun t112 => (if t112 = 4 then ((span_Cols.f k (⟨#[195, 169, 97]⟩ : ByteArray)).bind fun t113 => (if t113 = 2 then (if t110 = true then (if t109.toList = ([32] : List UInt8) then (if 6 < (y105.length : Int) then ((span_Breaks.f ((rd_T23 y105 6).f0) ((rd_T23 y105 6).f1)).bind fun t115 => (if t115 = true then (if 0 < (y105.length : Int) then ((span_Breaks.f ((rd_T23 y105 0).f0) ((rd_T23 y105 0).f1)).bind fun t117 => (some (!t117))) else (none)) else (some false))) else (none)) else (some false)) else (some false)) else (some false))) else (some false))) else (some false))) = some r := H
    have A2 := Aside0.mk A20
    clear A20
    replace H := Option.bind_eq_some_iff.mp H
    obtain ⟨t111, A30, H⟩ := H
    replace H : (if t111 = 5 then ((span_Match.f y105 0).bind fun t112 => (if t112 = 4 then ((span_Cols.f k (⟨#[195, 169, 97]⟩ : ByteArray)).bind fun t113 => (if t113 = 2 then (if t110 = true then (if t109.toList = ([32] : List UInt8) then (if 6 < (y105.length : Int) then ((span_Breaks.f ((rd_T23 y105 6).f0) ((rd_T23 y105 6).f1)).bind fun t115 => (if t115 = true then (if 0 < (y105.length : Int) then ((span_Breaks.f ((rd_T23 y105 0).f0) ((rd_T23 y105 0).f1)).bind fun t117 => (some (!t117))) else (none)) else (some false))) else (none)) else (some false)) else (some false)) else (some false))) else (some false))) else (some false)) = some r := H
    have A3 := Aside0.mk A30
    clear A30
    by_cases c4 : t111 = 5
    · rw [if_pos c4] at H
      have c4b0 : (t111 == 5) = true := beq_iff_eq.mpr c4
      have c4b1 : (t111 != 5) = false := bne_eq_false_iff_eq.mpr c4
      clear c4
      replace H := Option.bind_eq_some_iff.mp H
      obtain ⟨t112, A50, H⟩ := H
      replace H : (if t112 = 4 then ((span_Cols.f k (⟨#[195, 169, 97]⟩ : ByteArray)).bind fun t113 => (if t113 = 2 then (if t110 = true then (if t109.toList = ([32] : List UInt8) then (if 6 < (y105.length : Int) then ((span_Breaks.f ((rd_T23 y105 6).f0) ((rd_T23 y105 6).f1)).bind fun t115 => (if t115 = true then (if 0 < (y105.length : Int) then ((span_Breaks.f ((rd_T23 y105 0).f0) ((rd_T23 y105 0).f1)).bind fun t117 => (some (!t117))) else (none)) else (some false))) else (none)) else (some false)) else (some false)) else (some false))) else (some false)) = some r := H
      have A5 := Aside0.mk A50
      clear A50
      by_cases c6 : t112 = 4
      · rw [if_pos c6] at H
        have c6b0 : (t112 == 4) = true := beq_iff_eq.mpr c6
        have c6b1 : (t112 != 4) = false := bne_eq_false_iff_eq.mpr c6
        clear c6
        replace H := Option.bind_eq_some_iff.mp H
        obtain ⟨t113, A70, H⟩ := H
        replace H : (if t113 = 2 then (if t110 = true then (if t109.toList = ([32] : List UInt8) then (if 6 < (y105.length : Int) then ((span_Breaks.f ((rd_T23 y105 6).f0) ((rd_T23 y105 6).f1)).bind fun t115 => (if t115 = true then (if 0 < (y105.length : Int) then ((span_Breaks.f ((rd_T23 y105 0).f0) ((rd_T23 y105 0).f1)).bind fun t117 => (some (!t117))) else (none)) else (some false))) else (none)) else (some false)) else (some false)) else (some false)) = some r := H
        have A7 := Aside0.mk A70
        clear A70
        by_cases c8 : t113 = 2
        · rw [if_pos c8] at H
          have c8b0 : (t113 == 2) = true := beq_iff_eq.mpr c8
          have c8b1 : (t113 != 2) = false := bne_eq_false_iff_eq.mpr c8
          clear c8
          by_cases c9 : t110 = true
          · subst c9
            have H1 : (if t109.toList = ([32] : List UInt8) then (if 6 < (y105.length : Int) then ((span_Breaks.f ((rd_T23 y105 6).f0) ((rd_T23 y105 6).f1)).bind fun t115 => (if t115 = true then (if 0 < (y105.length : Int) then ((span_Breaks.f ((rd_T23 y105 0).f0) ((rd_T23 y105 0).f1)).bind fun t117 => (some (!t117))) else (none)) else (some false))) else (none)) else (some false)) = some r := by rw [if_pos rfl] at H; exact H
            clear H
            have H := H1
            clear H1
            by_cases c10 : t109.toList = ([32] : List UInt8)
            · rw [if_pos c10] at H
              have c10b0 : (t109.toList == ([32] : List UInt8)) = true := beq_iff_eq.mpr c10
              have c10b1 : (t109.toList != ([32] : List UInt8)) = false := bne_eq_false_iff_eq.mpr c10
              clear c10
              by_cases c11 : 6 < (y105.length : Int)
              · rw [if_pos c11] at H
                have c11b0 : decide (6 < (y105.length : Int)) = true := decide_eq_true c11
                have c11b1 : decide (6 < y105.length) = true := decide_eq_true (by omega)
                clear c11
                replace H := Option.bind_eq_some_iff.mp H
                obtain ⟨t115, A120, H⟩ := H
                replace H : (if t115 = true then (if 0 < (y105.length : Int) then ((span_Breaks.f ((rd_T23 y105 0).f0) ((rd_T23 y105 0).f1)).bind fun t117 => (some (!t117))) else (none)) else (some false)) = some r := H
                have A12 := Aside0.mk A120
                clear A120
                by_cases c13 : t115 = true
                · subst c13
                  have H1 : (if 0 < (y105.length : Int) then ((span_Breaks.f ((rd_T23 y105 0).f0) ((rd_T23 y105 0).f1)).bind fun t117 => (some (!t117))) else (none)) = some r := by rw [if_pos rfl] at H; exact H
                  clear H
                  have H := H1
                  clear H1
                  by_cases c14 : 0 < (y105.length : Int)
                  · rw [if_pos c14] at H
                    have c14b0 : decide (0 < (y105.length : Int)) = true := decide_eq_true c14
                    have c14b1 : decide (0 < y105.length) = true := decide_eq_true (by omega)
                    clear c14
                    replace H := Option.bind_eq_some_iff.mp H
                    obtain ⟨t117, A150, H⟩ := H
                    replace H : (some (!t117)) = some r := H
                    have A15 := Aside0.mk A150
                    clear A150
                    obtain rfl := Option.some.inj H
                    go_enter Try.func10, Try.ntmps10
                    go_wp2_with (first | ((with_reducible refine gate_dst (N := 12) rfl ?_); refine Kd.R_lit k23 _ 23 ?hg (N := 12) ?hd (xs := ([(⟨6, (⟨#[]⟩ : ByteArray)⟩ : S23), (⟨0, (⟨#[97, 98]⟩ : ByteArray)⟩ : S23), (⟨2, (⟨#[]⟩ : ByteArray)⟩ : S23), (⟨0, (⟨#[99]⟩ : ByteArray)⟩ : S23), (⟨7, (⟨#[]⟩ : ByteArray)⟩ : S23), (⟨0, (⟨#[100]⟩ : ByteArray)⟩ : S23), (⟨3, (⟨#[]⟩ : ByteArray)⟩ : S23), (⟨0, (⟨#[101]⟩ : ByteArray)⟩ : S23)] : List (S23))) (inner := [.int .i64 6, .string (⟨#[]⟩ : ByteArray), .int .i64 0, .string (⟨#[97, 98]⟩ : ByteArray), .int .i64 2, .string (⟨#[]⟩ : ByteArray), .int .i64 0, .string (⟨#[99]⟩ : ByteArray), .int .i64 7, .string (⟨#[]⟩ : ByteArray), .int .i64 0, .string (⟨#[100]⟩ : ByteArray), .int .i64 3, .string (⟨#[]⟩ : ByteArray), .int .i64 0, .string (⟨#[101]⟩ : ByteArray)]) (ok := fun _ => True) (okp := fun _ => True) ?hr ?hp (fun _ hk => hk) trivial (Below.refl _ _) (Nat.le_refl _) (by simp) ?_; (case hd => rfl); (case hg => rfl); (case hr => first | (go_simp; done) | (go_simp; rfl)); (case hp => exact (Reps.c2 (show Kd.M k23 _ _ _ (⟨6, (⟨#[]⟩ : ByteArray)⟩ : S23) [.int .i64 6, .string (⟨#[]⟩ : ByteArray)] from (k23_mkM _ _ _ (⟨6, (⟨#[]⟩ : ByteArray)⟩ : S23) )) (Reps.c2 (show Kd.M k23 _ _ _ (⟨0, (⟨#[97, 98]⟩ : ByteArray)⟩ : S23) [.int .i64 0, .string (⟨#[97, 98]⟩ : ByteArray)] from (k23_mkM _ _ _ (⟨0, (⟨#[97, 98]⟩ : ByteArray)⟩ : S23) )) (Reps.c2 (show Kd.M k23 _ _ _ (⟨2, (⟨#[]⟩ : ByteArray)⟩ : S23) [.int .i64 2, .string (⟨#[]⟩ : ByteArray)] from (k23_mkM _ _ _ (⟨2, (⟨#[]⟩ : ByteArray)⟩ : S23) )) (Reps.c2 (show Kd.M k23 _ _ _ (⟨0, (⟨#[99]⟩ : ByteArray)⟩ : S23) [.int .i64 0, .string (⟨#[99]⟩ : ByteArray)] from (k23_mkM _ _ _ (⟨0, (⟨#[99]⟩ : ByteArray)⟩ : S23) )) (Reps.c2 (show Kd.M k23 _ _ _ (⟨7, (⟨#[]⟩ : ByteArray)⟩ : S23) [.int .i64 7, .string (⟨#[]⟩ : ByteArray)] from (k23_mkM _ _ _ (⟨7, (⟨#[]⟩ : ByteArray)⟩ : S23) )) (Reps.c2 (show Kd.M k23 _ _ _ (⟨0, (⟨#[100]⟩ : ByteArray)⟩ : S23) [.int .i64 0, .string (⟨#[100]⟩ : ByteArray)] from (k23_mkM _ _ _ (⟨0, (⟨#[100]⟩ : ByteArray)⟩ : S23) )) (Reps.c2 (show Kd.M k23 _ _ _ (⟨3, (⟨#[]⟩ : ByteArray)⟩ : S23) [.int .i64 3, .string (⟨#[]⟩ : ByteArray)] from (k23_mkM _ _ _ (⟨3, (⟨#[]⟩ : ByteArray)⟩ : S23) )) (Reps.c2 (show Kd.M k23 _ _ _ (⟨0, (⟨#[101]⟩ : ByteArray)⟩ : S23) [.int .i64 0, .string (⟨#[101]⟩ : ByteArray)] from (k23_mkM _ _ _ (⟨0, (⟨#[101]⟩ : ByteArray)⟩ : S23) )) (Reps.none _ _)))))))))); intro v106 w16 ho17 hb hg_ hnew_; clear hg_ hnew_; (first | rw [← Ny105.out] at ho17 | (simp only [Int.reduceToNat] at ho17; rw [← Ny105.out] at ho17)); have n0_ := Aside0.mk (Kd.R_lower ho17 (below_size (by repeat (first | (with_reducible first | exact HB.out | apply below_alloc | apply pw_below_drewN | apply below_drew1) | exact HB.out)))); have n1_ := Aside0.mk (below_step (by repeat (first | (with_reducible first | exact HB.out | apply below_alloc | apply pw_below_drewN | apply below_drew1) | exact HB.out)) hb); clear HB; have HO107 := n0_; have HB := n1_; clear n0_ n1_; clear hb ho17; obtain ⟨Ao18, co18, eo18⟩ := Kd.R_slice HO107.out; subst eo18; have p108 : 0 ≤ (2 : Int) := (by omega); have q108 : 2 < (y105.length : Int) := of_decide_eq_true (by first | (with_reducible assumption) | assumption); obtain ⟨ad108, e108, hx108_0, hx108_1⟩ := at_T23 (Kd.R_reads' HO107.out).2.2 2 p108 q108; cases e108; (try simp only [show (2 : Int).toNat = 2 from rfl, Nat.reduceMul, Nat.reduceEqDiff, Go.Addr.add, ↓reduceIte] at hx108_0); (try simp only [show (2 : Int).toNat = 2 from rfl, Nat.reduceMul, Nat.reduceEqDiff, Go.Addr.add, ↓reduceIte] at hx108_1); have qi108 : (2 < y105.length) = True := eq_true (by omega); (try rw [show ((2 : Int)).toNat = 2 from rfl] at hx108_0); (try rw [show 2 * 2 = 4 from rfl] at hx108_0); (try rw [show ((2 : Int)).toNat = 2 from rfl] at hx108_1); (try rw [show 2 * 2 = 4 from rfl] at hx108_1); replace p108 := eq_true p108; replace q108 := eq_true q108) | ((with_reducible refine gate_callee (f := 11) rfl ?_); refine goesL_ (some 17) rfl rfl Try.func11 (by kernel_rfl) rfl #[.agg #[.int .i64 ((rd_T23 y105 2).f0), .string ((rd_T23 y105 2).f1)]] rfl (by (try simp only [List.map_toArray, List.map_cons, List.map_nil]); first | done | rfl | (simp only [List.length_drop, List.length_take]; rfl)) ?_; (with_reducible refine (span_Flat.calls ((rd_T23 y105 2).f0) ((rd_T23 y105 2).f1) t109 true _ A2.out).mono ?_); (try clear A2); rintro e w19 ⟨rfl, hb⟩; refine ⟨_, rfl, ?_⟩; have n0_ := Aside0.mk (Kd.R_below (by (with_reducible repeat (first | apply Kd.R_alloc | apply Kd.R_drewN | apply Kd.R_drew)); exact HO107.out) hb); have n1_ := Aside0.mk (below_step (by repeat (first | (with_reducible first | exact HB.out | apply below_alloc | apply pw_below_drewN | apply below_drew1) | exact HB.out)) hb); clear HO107; clear HB; have HO107 := n0_; have HB := n1_; clear n0_ n1_; (try clear hb); (try clear hb2); (try clear hk); (try clear hi)) | ((with_reducible refine gate_callee (f := 19) rfl ?_); refine goesL_ (some 21) rfl rfl Try.func19 (by kernel_rfl) rfl #[.slice (some ad108) y105.length co18, .int .i64 0] rfl (by (try simp only [List.map_toArray, List.map_cons, List.map_nil]); first | done | rfl | (simp only [List.length_drop, List.length_take]; rfl)) ?_; (with_reducible refine (span_Need.calls _ _ y105 0 t111 _ ?side1 ?side2 A3.out).mono ?_); (case side1 => repeat (first | exact (Kd.R_reads' HO107.out).2.2 | (with_reducible refine Kd.C_alloc ?_ _) | (with_reducible refine Kd.C_drewN ?_ _) | (with_reducible refine Kd.C_drew ?_))); (case side2 => exact (Kd.R_reads' HO107.out).2.1); (try clear A3); rintro e w20 ⟨rfl, hb⟩; refine ⟨_, rfl, ?_⟩; have n0_ := Aside0.mk (Kd.R_below (by (with_reducible repeat (first | apply Kd.R_alloc | apply Kd.R_drewN | apply Kd.R_drew)); exact HO107.out) hb); have n1_ := Aside0.mk (below_step (by repeat (first | (with_reducible first | exact HB.out | apply below_alloc | apply pw_below_drewN | apply below_drew1) | exact HB.out)) hb); clear HO107; clear HB; have HO107 := n0_; have HB := n1_; clear n0_ n1_; (try clear hb); (try clear hb2); (try clear hk); (try clear hi)) | (go_at_call 17; (with_reducible refine (span_Match.calls _ _ y105 0 t112 _ ?side1 ?side2 A5.out).mono ?_); (case side1 => repeat (first | exact (Kd.R_reads' HO107.out).2.2 | (with_reducible refine Kd.C_alloc ?_ _) | (with_reducible refine Kd.C_drewN ?_ _) | (with_reducible refine Kd.C_drew ?_))); (case side2 => exact (Kd.R_reads' HO107.out).2.1); (try clear A5); rintro e w21 ⟨rfl, hb⟩; have n0_ := Aside0.mk (Kd.R_below (by (with_reducible repeat (first | apply Kd.R_alloc | apply Kd.R_drewN | apply Kd.R_drew)); exact HO107.out) hb); have n1_ := Aside0.mk (below_step (by repeat (first | (with_reducible first | exact HB.out | apply below_alloc | apply pw_below_drewN | apply below_drew1) | exact HB.out)) hb); clear HO107; clear HB; have HO107 := n0_; have HB := n1_; clear n0_ n1_; (try clear hb); (try clear hb2); (try clear hk); (try clear hi)) | (go_at_call 14; (with_reducible refine (span_Cols.calls k (⟨#[195, 169, 97]⟩ : ByteArray) t113 _ A7.out).mono ?_); (try clear A7); rintro e w22 ⟨rfl, hb⟩; have n0_ := Aside0.mk (Kd.R_below (by (with_reducible repeat (first | apply Kd.R_alloc | apply Kd.R_drewN | apply Kd.R_drew)); exact HO107.out) hb); have n1_ := Aside0.mk (below_step (by repeat (first | (with_reducible first | exact HB.out | apply below_alloc | apply pw_below_drewN | apply below_drew1) | exact HB.out)) hb); clear HO107; clear HB; have HO107 := n0_; have HB := n1_; clear n0_ n1_; (try clear hb); (try clear hb2); (try clear hk); (try clear hi); have p114 : 0 ≤ (6 : Int) := (by omega); have q114 : 6 < (y105.length : Int) := of_decide_eq_true (by first | (with_reducible assumption) | assumption); obtain ⟨ad114, e114, hx114_0, hx114_1⟩ := at_T23 (Kd.R_reads' HO107.out).2.2 6 p114 q114; obtain rfl : ad108 = ad114 := (by injection e114); (try simp only [show (6 : Int).toNat = 6 from rfl, Nat.reduceMul, Nat.reduceEqDiff, Go.Addr.add, ↓reduceIte] at hx114_0); (try simp only [show (6 : Int).toNat = 6 from rfl, Nat.reduceMul, Nat.reduceEqDiff, Go.Addr.add, ↓reduceIte] at hx114_1); have qi114 : (6 < y105.length) = True := eq_true (by omega); (try rw [show ((6 : Int)).toNat = 6 from rfl] at hx114_0); (try rw [show 6 * 2 = 12 from rfl] at hx114_0); (try rw [show ((6 : Int)).toNat = 6 from rfl] at hx114_1); (try rw [show 6 * 2 = 12 from rfl] at hx114_1); replace p114 := eq_true p114; replace q114 := eq_true q114) | (go_at_call 16; (with_reducible refine (span_Breaks.calls ((rd_T23 y105 6).f0) ((rd_T23 y105 6).f1) true _ A12.out).mono ?_); (try clear A12); rintro e w23 ⟨rfl, hb⟩; have n0_ := Aside0.mk (Kd.R_below (by (with_reducible repeat (first | apply Kd.R_alloc | apply Kd.R_drewN | apply Kd.R_drew)); exact HO107.out) hb); have n1_ := Aside0.mk (below_step (by repeat (first | (with_reducible first | exact HB.out | apply below_alloc | apply pw_below_drewN | apply below_drew1) | exact HB.out)) hb); clear HO107; clear HB; have HO107 := n0_; have HB := n1_; clear n0_ n1_; (try clear hb); (try clear hb2); (try clear hk); (try clear hi); have p116 : 0 ≤ (0 : Int) := (by omega); have q116 : 0 < (y105.length : Int) := of_decide_eq_true (by first | (with_reducible assumption) | assumption); obtain ⟨ad116, e116, hx116_0, hx116_1⟩ := at_T23 (Kd.R_reads' HO107.out).2.2 0 p116 q116; obtain rfl : ad108 = ad116 := (by injection e116); have qi116 : (0 < y105.length) = True := eq_true (by omega); (try rw [show ((0 : Int)).toNat = 0 from rfl] at hx116_0); (try rw [show 0 * 2 = 0 from rfl] at hx116_0); (try rw [Addr.add_zero'] at hx116_0); (try rw [show ((0 : Int)).toNat = 0 from rfl] at hx116_1); (try rw [show 0 * 2 = 0 from rfl] at hx116_1); (try rw [Addr.add_zero'] at hx116_1); replace p116 := eq_true p116; replace q116 := eq_true q116) | (go_at_call 16; (with_reducible refine (span_Breaks.calls ((rd_T23 y105 0).f0) ((rd_T23 y105 0).f1) t117 _ A15.out).mono ?_); (try clear A15); rintro e w24 ⟨rfl, hb⟩; have n0_ := Aside0.mk (Kd.R_below (by (with_reducible repeat (first | apply Kd.R_alloc | apply Kd.R_drewN | apply Kd.R_drew)); exact HO107.out) hb); have n1_ := Aside0.mk (below_step (by repeat (first | (with_reducible first | exact HB.out | apply below_alloc | apply pw_below_drewN | apply below_drew1) | exact HB.out)) hb); clear HO107; clear HB; have HO107 := n0_; have HB := n1_; clear n0_ n1_; (try clear hb); (try clear hb2); (try clear hk); (try clear hi)))
                    go_ret
                    exact ⟨by first | rfl | (simp [errW_none, errW_some] <;> rfl) | (simp [*, errW_none, errW_some] <;> rfl), by repeat (first | (with_reducible first | exact HB.out | apply below_alloc | apply pw_below_drewN | apply below_drew1) | exact HB.out)⟩
                  · rw [if_neg c14] at H
                    exact absurd H (by simp)
                · replace c13 := Bool.eq_false_iff.mpr c13
                  subst c13
                  have H1 : (some false) = some r := by rw [if_neg (show ¬ (false = true) by decide)] at H; exact H
                  clear H
                  have H := H1
                  clear H1
                  exact absurd H (by have h_ := HT_.out; subst h_; decide)
              · rw [if_neg c11] at H
                exact absurd H (by simp)
            · rw [if_neg c10] at H
              have c10b0 : (t109.toList == ([32] : List UInt8)) = false := beq_eq_false_iff_ne.mpr c10
              have c10b1 : (t109.toList != ([32] : List UInt8)) = true := bne_iff_ne.mpr c10
              exact absurd H (by have h_ := HT_.out; subst h_; decide)
          · replace c9 := Bool.eq_false_iff.mpr c9
            subst c9
            have H1 : (some false) = some r := by rw [if_neg (show ¬ (false = true) by decide)] at H; exact H
            clear H
            have H := H1
            clear H1
            exact absurd H (by have h_ := HT_.out; subst h_; decide)
        · rw [if_neg c8] at H
          have c8b0 : (t113 == 2) = false := beq_eq_false_iff_ne.mpr c8
          have c8b1 : (t113 != 2) = true := bne_iff_ne.mpr c8
          exact absurd H (by have h_ := HT_.out; subst h_; decide)
      · rw [if_neg c6] at H
        have c6b0 : (t112 == 4) = false := beq_eq_false_iff_ne.mpr c6
        have c6b1 : (t112 != 4) = true := bne_iff_ne.mpr c6
        exact absurd H (by have h_ := HT_.out; subst h_; decide)
    · rw [if_neg c4] at H
      have c4b0 : (t111 == 5) = false := beq_eq_false_iff_ne.mpr c4
      have c4b1 : (t111 != 5) = true := bne_iff_ne.mpr c4
      exact absurd H (by have h_ := HT_.out; subst h_; decide)
  · rw [if_neg c1] at H
    exact absurd H (by simp)

end Go.Proofs.Ytjibfhlacbgkgaa.PSpan
