-- Written by a program of the session (drive.py, over the kit's print.py with contracts by hand). Not trusted: Lean checks it.
import Derived.Test.YtkhlfdoeploddaaPFlowx0
import Derived.Test.YtkhlfdoeploddaaPFlowx9
import Derived.Test.YtkhlfdoeploddaaHFlowClone
import Derived.Test.YtkhlfdoeploddaaHFlowFlowF
namespace Go.Proofs.Ytkhlfdoeploddaa.PFlow
open Go.RowKit Go.Proofs.YtkhlfdoeploddaaW.PrintWords Go.Proofs.YtkhlfdoeploddaaW.PrintLast Go.Proofs.YtkhlfdoeploddaaW.PrintMore
attribute [local go_sem] max2_int min2_int max_two min_two max_three min_three max_four min_four   -- for this text's walks alone
set_option linter.unusedVariables false
set_option linter.unusedSimpArgs false

/-! ### flow_All: function 14 -/
def flow_All.f (l0 : List (S34)) (a1 : Int) : Option (ByteArray × Bool) := (api_Bit.f l0).bind fun t112 => (if t112.length < 5864062014805 then ((some (t112 ++ [(⟨5, (⟨#[]⟩ : ByteArray)⟩ : S34)] : List (S34))).bind fun y115 => ((flow_Flow.f y115 a1 (y115.length : Int)).bind fun bt118 => ((strings_TrimSuffix.f bt118.1 (⟨#[10]⟩ : ByteArray)).bind fun t121 => (some (t121, bt118.2.2))))) else (none))
set_option maxHeartbeats 8000000 in
set_option maxRecDepth 100000 in
theorem flow_All.calls (A0 : Option Addr) (c0 : Nat) (l0 : List (S34)) (a1 : Int) (r1 : ByteArray) (r2 : Bool) (w : World) (hr0 : Kd.C k34 w A0 l0.length l0) (hc0 : l0.length ≤ c0) (h : flow_All.f l0 a1 = some (r1, r2)) :
    Calls Try.prog 14 #[.slice A0 l0.length c0, .int .i64 a1] w fun e w' => e = .returned (.tuple #[.string r1, .bool r2]) ∧ Below w.heap.size w w' := by
  have hu34 := Try.underlying34
  have HR0 := Aside0.mk hr0
  have HC0 := Aside0.mk hc0
  clear hr0 hc0
  have HB := Aside0.mk (Below.refl w.heap.size w)
  have H : ((api_Bit.f l0).bind fun t112 => (if t112.length < 5864062014805 then ((some (t112 ++ [(⟨5, (⟨#[]⟩ : ByteArray)⟩ : S34)] : List (S34))).bind fun y115 => ((flow_Flow.f y115 a1 (y115.length : Int)).bind fun bt118 => ((strings_TrimSuffix.f bt118.1 (⟨#[10]⟩ : ByteArray)).bind fun t121 => (some (t121, bt118.2.2))))) else (none))) = some (r1, r2) := h
  clear h
  replace H := Option.bind_eq_some_iff.mp H
  obtain ⟨t112, A30, H⟩ := H
  replace H : (if t112.length < 5864062014805 then ((some (t112 ++ [(⟨5, (⟨#[]⟩ : ByteArray)⟩ : S34)] : List (S34))).bind fun y115 => ((flow_Flow.f y115 a1 (y115.length : Int)).bind fun bt118 => ((strings_TrimSuffix.f bt118.1 (⟨#[10]⟩ : ByteArray)).bind fun t121 => (some (t121, bt118.2.2))))) else (none)) = some (r1, r2) := H
  have A3 := Aside0.mk A30
  clear A30
  by_cases c4 : t112.length < 5864062014805
  · rw [if_pos c4] at H
    have LMc4 := Aside0.mk c4
    clear c4
    obtain ⟨y115, hy115⟩ : ∃ y_ : List (S34), y_ = (t112 ++ [(⟨5, (⟨#[]⟩ : ByteArray)⟩ : S34)]) := ⟨_, rfl⟩
    replace H : ((flow_Flow.f y115 a1 (y115.length : Int)).bind fun bt118 => ((strings_TrimSuffix.f bt118.1 (⟨#[10]⟩ : ByteArray)).bind fun t121 => (some (t121, bt118.2.2)))) = some (r1, r2) := by first | (rw [hy115]; with_reducible exact H) | (have H2_ := (Option.bind_some _ _).symm.trans H; rw [hy115]; with_reducible exact H2_) | (have H2_ := (Option.bind_some _ _).symm.trans H; with_reducible exact H2_) | with_reducible exact H | (rw [hy115]; exact H) | exact H
    have Ny115 := Aside0.mk hy115
    clear hy115
    replace H := Option.bind_eq_some_iff.mp H
    obtain ⟨⟨t118, t119, t120⟩, A50, H⟩ := H
    replace H : ((strings_TrimSuffix.f t118 (⟨#[10]⟩ : ByteArray)).bind fun t121 => (some (t121, t120))) = some (r1, r2) := H
    have A5 := Aside0.mk A50
    clear A50
    replace H := Option.bind_eq_some_iff.mp H
    obtain ⟨t121, A60, H⟩ := H
    replace H : (some (t121, t120)) = some (r1, r2) := H
    have A6 := Aside0.mk A60
    clear A60
    simp only [Option.some.injEq, Prod.mk.injEq] at H
    obtain ⟨rfl, rfl⟩ := H
    go_enter Try.func14, Try.ntmps14
    go_wp2_with (first | ((with_reducible refine gate_callee (f := 27) rfl ?_); refine goesL_ (some 11) rfl rfl Try.func27 (by kernel_rfl) rfl #[.slice A0 l0.length c0] rfl (by (try simp only [List.map_toArray, List.map_cons, List.map_nil]); first | done | rfl | (simp only [List.length_drop, List.length_take]; rfl)) ?_; (with_reducible refine (api_Bit.calls _ _ l0 t112 _ ?side1 ?side2 A3.out).mono ?_); (case side1 => repeat (first | exact HR0.out | (with_reducible refine Kd.C_alloc ?_ _) | (with_reducible refine Kd.C_drewN ?_ _) | (with_reducible refine Kd.C_drew ?_))); (case side2 => exact HC0.out); (try clear A3); rintro e w7 ⟨v113, rfl, ho0, hb⟩; refine ⟨_, rfl, ?_⟩; have n0_ := Aside0.mk (Kd.R_lower ho0 (below_size (by repeat (first | (with_reducible first | exact HB.out | apply below_alloc | apply pw_below_drewN | apply below_drew1) | exact HB.out)))); have n1_ := Aside0.mk (below_step (by repeat (first | (with_reducible first | exact HB.out | apply below_alloc | apply pw_below_drewN | apply below_drew1) | exact HB.out)) hb); clear HB; have HO114 := n0_; have HB := n1_; clear n0_ n1_; (try clear hb); (try clear hb2); (try clear hk); (try clear hi); (try clear ho0)) | ((with_reducible refine gate_builtin (b := .append) (xs := #[.tmp 11, .tmp 13]) rfl ?_); at_builtin; refine Kd.R_append k34 (w0 := w) w.heap.size rfl (.tmp 11) (.tmp 13) 22 34 (.agg #[(.int .i64 0), (.string ⟨#[]⟩)]) 24 rfl Try.underlying22 info34 rfl (by decide) (by omega) v113 t112 (⟨5, (⟨#[]⟩ : ByteArray)⟩ : S34) [.int .i64 5, .string (⟨#[]⟩ : ByteArray)] (fun _ => True) (fun _ => False) rfl rfl ?aP (fun _ hk => hk.elim) ?aF ?aO ?aB ?aS ?aL ?_; (case aP => exact k34_mkM _ _ _ (⟨5, (⟨#[]⟩ : ByteArray)⟩ : S34)); (case aB => exact (by repeat (first | (with_reducible first | exact HB.out | apply below_alloc | apply pw_below_drewN | apply below_drew1) | exact HB.out))); (case aF => exact (fun _ _ => trivial)); (case aO => exact (by (with_reducible repeat (first | apply Kd.R_alloc | apply Kd.R_drewN | apply Kd.R_drew)); exact HO114.out)); (case aS => exact (below_size (by repeat (first | (with_reducible first | exact HB.out | apply below_alloc | apply pw_below_drewN | apply below_drew1) | exact HB.out)))); (case aL => have := LMc4.out; omega); intro v116 w8 ho hb hg hat; rw [← Ny115.out] at ho; have n0_ := Aside0.mk (hb); have n1_ := Aside0.mk (ho); clear HB; clear HO114; have HB := n0_; have HO117 := n1_; clear n0_ n1_; clear ho hb hg hat; obtain ⟨Ao9, co9, eo9⟩ := Kd.R_slice HO117.out; subst eo9) | ((with_reducible refine gate_callee (f := 11) rfl ?_); refine goesL_ (some 20) rfl rfl Try.func11 (by kernel_rfl) rfl #[.slice Ao9 y115.length co9, .int .i64 a1, .int .i64 (y115.length : Int)] rfl (by (try simp only [List.map_toArray, List.map_cons, List.map_nil]); first | done | rfl | (simp only [List.length_drop, List.length_take]; rfl)) ?_; (with_reducible refine (flow_Flow.calls _ _ y115 a1 (y115.length : Int) t118 t119 t120 _ ?side1 ?side2 A5.out).mono ?_); (case side1 => repeat (first | exact (Kd.R_reads' HO117.out).2.2 | (with_reducible refine Kd.C_alloc ?_ _) | (with_reducible refine Kd.C_drewN ?_ _) | (with_reducible refine Kd.C_drew ?_))); (case side2 => exact (Kd.R_reads' HO117.out).2.1); (try clear A5); rintro e w10 ⟨rfl, hb⟩; refine ⟨_, rfl, ?_⟩; have n0_ := Aside0.mk (Kd.R_below (by (with_reducible repeat (first | apply Kd.R_alloc | apply Kd.R_drewN | apply Kd.R_drew)); exact HO117.out) hb); have n1_ := Aside0.mk (below_step (by repeat (first | (with_reducible first | exact HB.out | apply below_alloc | apply pw_below_drewN | apply below_drew1) | exact HB.out)) hb); clear HO117; clear HB; have HO117 := n0_; have HB := n1_; clear n0_ n1_; (try clear hb); (try clear hb2); (try clear hk); (try clear hi)) | ((with_reducible refine gate_callee (f := 28) rfl ?_); refine goesL_ (some 25) rfl rfl Try.func28 (by kernel_rfl) rfl #[.string t118, .string (⟨#[10]⟩ : ByteArray)] rfl (by (try simp only [List.map_toArray, List.map_cons, List.map_nil]); first | done | rfl | (simp only [List.length_drop, List.length_take]; rfl)) ?_; (with_reducible refine (strings_TrimSuffix.calls t118 (⟨#[10]⟩ : ByteArray) t121 _ A6.out).mono ?_); (try clear A6); rintro e w11 ⟨rfl, hb⟩; refine ⟨_, rfl, ?_⟩; have n0_ := Aside0.mk (Kd.R_below (by (with_reducible repeat (first | apply Kd.R_alloc | apply Kd.R_drewN | apply Kd.R_drew)); exact HO117.out) hb); have n1_ := Aside0.mk (below_step (by repeat (first | (with_reducible first | exact HB.out | apply below_alloc | apply pw_below_drewN | apply below_drew1) | exact HB.out)) hb); clear HO117; clear HB; have HO117 := n0_; have HB := n1_; clear n0_ n1_; (try clear hb); (try clear hb2); (try clear hk); (try clear hi)))
    go_ret2
    exact ⟨by first | rfl | (simp [errW_none, errW_some] <;> rfl) | (simp [*, errW_none, errW_some] <;> rfl), by repeat (first | (with_reducible first | exact HB.out | apply below_alloc | apply pw_below_drewN | apply below_drew1) | exact HB.out)⟩
  · rw [if_neg c4] at H
    exact absurd H (by simp)

/-! ### copperplatelaw18_Pair: function 21 -/
def copperplatelaw18_Pair.f  : Option ((List (S34))) := some (([(⟨6, (⟨#[]⟩ : ByteArray)⟩ : S34), (⟨0, (⟨#[40]⟩ : ByteArray)⟩ : S34), (⟨8, (⟨#[]⟩ : ByteArray)⟩ : S34), (⟨3, (⟨#[]⟩ : ByteArray)⟩ : S34), (⟨0, (⟨#[97]⟩ : ByteArray)⟩ : S34), (⟨4, (⟨#[]⟩ : ByteArray)⟩ : S34), (⟨0, (⟨#[98]⟩ : ByteArray)⟩ : S34), (⟨9, (⟨#[]⟩ : ByteArray)⟩ : S34), (⟨3, (⟨#[]⟩ : ByteArray)⟩ : S34), (⟨0, (⟨#[41]⟩ : ByteArray)⟩ : S34), (⟨7, (⟨#[]⟩ : ByteArray)⟩ : S34)] : List (S34)))
set_option maxHeartbeats 8000000 in
set_option maxRecDepth 100000 in
theorem copperplatelaw18_Pair.calls  (r : List (S34)) (w : World) (h : copperplatelaw18_Pair.f  = some r) :
    Calls Try.prog 21 #[] w fun e w' => ∃ v0_ : Value, e = .returned (v0_) ∧ Kd.R k34 34 w' w.heap.size (fun _ => True) v0_ r ∧ Below w.heap.size w w' := by
  have hu34 := Try.underlying34
  have HB := Aside0.mk (Below.refl w.heap.size w)
  have H : (some (([(⟨6, (⟨#[]⟩ : ByteArray)⟩ : S34), (⟨0, (⟨#[40]⟩ : ByteArray)⟩ : S34), (⟨8, (⟨#[]⟩ : ByteArray)⟩ : S34), (⟨3, (⟨#[]⟩ : ByteArray)⟩ : S34), (⟨0, (⟨#[97]⟩ : ByteArray)⟩ : S34), (⟨4, (⟨#[]⟩ : ByteArray)⟩ : S34), (⟨0, (⟨#[98]⟩ : ByteArray)⟩ : S34), (⟨9, (⟨#[]⟩ : ByteArray)⟩ : S34), (⟨3, (⟨#[]⟩ : ByteArray)⟩ : S34), (⟨0, (⟨#[41]⟩ : ByteArray)⟩ : S34), (⟨7, (⟨#[]⟩ : ByteArray)⟩ : S34)] : List (S34)))) = some r := h
  clear h
  obtain ⟨y122, hy122⟩ : ∃ y_ : List (S34), y_ = (([(⟨6, (⟨#[]⟩ : ByteArray)⟩ : S34), (⟨0, (⟨#[40]⟩ : ByteArray)⟩ : S34), (⟨8, (⟨#[]⟩ : ByteArray)⟩ : S34), (⟨3, (⟨#[]⟩ : ByteArray)⟩ : S34), (⟨0, (⟨#[97]⟩ : ByteArray)⟩ : S34), (⟨4, (⟨#[]⟩ : ByteArray)⟩ : S34), (⟨0, (⟨#[98]⟩ : ByteArray)⟩ : S34), (⟨9, (⟨#[]⟩ : ByteArray)⟩ : S34), (⟨3, (⟨#[]⟩ : ByteArray)⟩ : S34), (⟨0, (⟨#[41]⟩ : ByteArray)⟩ : S34), (⟨7, (⟨#[]⟩ : ByteArray)⟩ : S34)] : List (S34))) := ⟨_, rfl⟩
  replace H : (some y122) = some r := by first | (rw [hy122]; with_reducible exact H) | (have H2_ := (Option.bind_some _ _).symm.trans H; rw [hy122]; with_reducible exact H2_) | (have H2_ := (Option.bind_some _ _).symm.trans H; with_reducible exact H2_) | with_reducible exact H | (rw [hy122]; exact H) | exact H
  have Ny122 := Aside0.mk hy122
  clear hy122
  obtain rfl := Option.some.inj H
  go_enter Try.func21, Try.ntmps21
  go_wp2_with (first | ((with_reducible refine gate_dst (N := 12) rfl ?_); refine Kd.R_lit k34 _ 34 ?hg (N := 12) ?hd (xs := ([(⟨6, (⟨#[]⟩ : ByteArray)⟩ : S34), (⟨0, (⟨#[40]⟩ : ByteArray)⟩ : S34), (⟨8, (⟨#[]⟩ : ByteArray)⟩ : S34), (⟨3, (⟨#[]⟩ : ByteArray)⟩ : S34), (⟨0, (⟨#[97]⟩ : ByteArray)⟩ : S34), (⟨4, (⟨#[]⟩ : ByteArray)⟩ : S34), (⟨0, (⟨#[98]⟩ : ByteArray)⟩ : S34), (⟨9, (⟨#[]⟩ : ByteArray)⟩ : S34), (⟨3, (⟨#[]⟩ : ByteArray)⟩ : S34), (⟨0, (⟨#[41]⟩ : ByteArray)⟩ : S34), (⟨7, (⟨#[]⟩ : ByteArray)⟩ : S34)] : List (S34))) (inner := [.int .i64 6, .string (⟨#[]⟩ : ByteArray), .int .i64 0, .string (⟨#[40]⟩ : ByteArray), .int .i64 8, .string (⟨#[]⟩ : ByteArray), .int .i64 3, .string (⟨#[]⟩ : ByteArray), .int .i64 0, .string (⟨#[97]⟩ : ByteArray), .int .i64 4, .string (⟨#[]⟩ : ByteArray), .int .i64 0, .string (⟨#[98]⟩ : ByteArray), .int .i64 9, .string (⟨#[]⟩ : ByteArray), .int .i64 3, .string (⟨#[]⟩ : ByteArray), .int .i64 0, .string (⟨#[41]⟩ : ByteArray), .int .i64 7, .string (⟨#[]⟩ : ByteArray)]) (ok := fun _ => True) (okp := fun _ => True) ?hr ?hp (fun _ hk => hk) trivial (Below.refl _ _) (Nat.le_refl _) (by simp) ?_; (case hd => rfl); (case hg => rfl); (case hr => first | (go_simp; done) | (go_simp; rfl)); (case hp => exact (Reps.c2 (show Kd.M k34 _ _ _ (⟨6, (⟨#[]⟩ : ByteArray)⟩ : S34) [.int .i64 6, .string (⟨#[]⟩ : ByteArray)] from (k34_mkM _ _ _ (⟨6, (⟨#[]⟩ : ByteArray)⟩ : S34) )) (Reps.c2 (show Kd.M k34 _ _ _ (⟨0, (⟨#[40]⟩ : ByteArray)⟩ : S34) [.int .i64 0, .string (⟨#[40]⟩ : ByteArray)] from (k34_mkM _ _ _ (⟨0, (⟨#[40]⟩ : ByteArray)⟩ : S34) )) (Reps.c2 (show Kd.M k34 _ _ _ (⟨8, (⟨#[]⟩ : ByteArray)⟩ : S34) [.int .i64 8, .string (⟨#[]⟩ : ByteArray)] from (k34_mkM _ _ _ (⟨8, (⟨#[]⟩ : ByteArray)⟩ : S34) )) (Reps.c2 (show Kd.M k34 _ _ _ (⟨3, (⟨#[]⟩ : ByteArray)⟩ : S34) [.int .i64 3, .string (⟨#[]⟩ : ByteArray)] from (k34_mkM _ _ _ (⟨3, (⟨#[]⟩ : ByteArray)⟩ : S34) )) (Reps.c2 (show Kd.M k34 _ _ _ (⟨0, (⟨#[97]⟩ : ByteArray)⟩ : S34) [.int .i64 0, .string (⟨#[97]⟩ : ByteArray)] from (k34_mkM _ _ _ (⟨0, (⟨#[97]⟩ : ByteArray)⟩ : S34) )) (Reps.c2 (show Kd.M k34 _ _ _ (⟨4, (⟨#[]⟩ : ByteArray)⟩ : S34) [.int .i64 4, .string (⟨#[]⟩ : ByteArray)] from (k34_mkM _ _ _ (⟨4, (⟨#[]⟩ : ByteArray)⟩ : S34) )) (Reps.c2 (show Kd.M k34 _ _ _ (⟨0, (⟨#[98]⟩ : ByteArray)⟩ : S34) [.int .i64 0, .string (⟨#[98]⟩ : ByteArray)] from (k34_mkM _ _ _ (⟨0, (⟨#[98]⟩ : ByteArray)⟩ : S34) )) (Reps.c2 (show Kd.M k34 _ _ _ (⟨9, (⟨#[]⟩ : ByteArray)⟩ : S34) [.int .i64 9, .string (⟨#[]⟩ : ByteArray)] from (k34_mkM _ _ _ (⟨9, (⟨#[]⟩ : ByteArray)⟩ : S34) )) (Reps.c2 (show Kd.M k34 _ _ _ (⟨3, (⟨#[]⟩ : ByteArray)⟩ : S34) [.int .i64 3, .string (⟨#[]⟩ : ByteArray)] from (k34_mkM _ _ _ (⟨3, (⟨#[]⟩ : ByteArray)⟩ : S34) )) (Reps.c2 (show Kd.M k34 _ _ _ (⟨0, (⟨#[41]⟩ : ByteArray)⟩ : S34) [.int .i64 0, .string (⟨#[41]⟩ : ByteArray)] from (k34_mkM _ _ _ (⟨0, (⟨#[41]⟩ : ByteArray)⟩ : S34) )) (Reps.c2 (show Kd.M k34 _ _ _ (⟨7, (⟨#[]⟩ : ByteArray)⟩ : S34) [.int .i64 7, .string (⟨#[]⟩ : ByteArray)] from (k34_mkM _ _ _ (⟨7, (⟨#[]⟩ : ByteArray)⟩ : S34) )) (Reps.none _ _))))))))))))); intro v123 w1 ho2 hb hg_ hnew_; clear hg_ hnew_; (first | rw [← Ny122.out] at ho2 | (simp only [Int.reduceToNat] at ho2; rw [← Ny122.out] at ho2)); have n0_ := Aside0.mk (Kd.R_lower ho2 (below_size (by repeat (first | (with_reducible first | exact HB.out | apply below_alloc | apply pw_below_drewN | apply below_drew1) | exact HB.out)))); have n1_ := Aside0.mk (below_step (by repeat (first | (with_reducible first | exact HB.out | apply below_alloc | apply pw_below_drewN | apply below_drew1) | exact HB.out)) hb); clear HB; have HO124 := n0_; have HB := n1_; clear n0_ n1_; clear hb ho2))
  go_ret
  exact ⟨_, by first | rfl | (simp [errW_none, errW_some] <;> rfl) | (simp [*, errW_none, errW_some] <;> rfl), by (with_reducible repeat (first | apply Kd.R_alloc | apply Kd.R_drewN | apply Kd.R_drew)); exact HO124.out, by repeat (first | (with_reducible first | exact HB.out | apply below_alloc | apply pw_below_drewN | apply below_drew1) | exact HB.out)⟩

/-! ### copperplatelaw19_awake_p: function 9 -/
def copperplatelaw19_awake_p.f (k : Nat)  : Option (Bool) := (copperplatelaw18_Pair.f).bind fun t125 => ((flow_Flow.f t125 6 11).bind fun bt128 => ((flow_All.f t125 6).bind fun bt131 => (if bt128.2.2 = true then (if bt128.1.toList = ([] : List UInt8) then (if bt128.2.1 = 11 then (if bt131.2 = true then (if bt131.1.toList = ([40, 97, 44, 32, 98, 41] : List UInt8) then ((flow_Held.f k t125 6 11).bind fun t133 => (if t133 = 11 then ((flow_Held.f k t125 3 11).bind fun t134 => (some (decide (t134 < 11)))) else (some false))) else (some false)) else (some false)) else (some false)) else (some false)) else (some false))))
theorem copperplatelaw19_awake_p.mono : ∀ k, LeO (copperplatelaw19_awake_p.f k ) (copperplatelaw19_awake_p.f (k + 1) ) := by
  intro  k
  unfold copperplatelaw19_awake_p.f
  repeat' first
      | (with_reducible exact flow_Held.mono _ _ _ _)
      | (with_reducible exact LeO.refl _)
      | (with_reducible exact LeO.none _)
      | (with_reducible refine LeO.ite ?_ ?_)
      | (with_reducible refine LeO.bind ?_ (fun _ => ?_))
      | exact flow_Held.mono _ _ _ _
      | exact LeO.none _
      | refine LeO.ite ?_ ?_
      | refine LeO.bind ?_ (fun _ => ?_)
set_option maxHeartbeats 8000000 in
set_option maxRecDepth 100000 in
theorem copperplatelaw19_awake_p.calls (k : Nat)  (r : Bool) (w : World) (h : copperplatelaw19_awake_p.f k  = some r) (hT_ : r = true) :
    Calls Try.prog 9 #[] w fun e w' => e = .returned (.bool r) ∧ Below w.heap.size w w' := by
  have HT_ := Aside0.mk hT_
  clear hT_
  have HB := Aside0.mk (Below.refl w.heap.size w)
  have H : ((copperplatelaw18_Pair.f).bind fun t125 => ((flow_Flow.f t125 6 11).bind fun bt128 => ((flow_All.f t125 6).bind fun bt131 => (if bt128.2.2 = true then (if bt128.1.toList = ([] : List UInt8) then (if bt128.2.1 = 11 then (if bt131.2 = true then (if bt131.1.toList = ([40, 97, 44, 32, 98, 41] : List UInt8) then ((flow_Held.f k t125 6 11).bind fun t133 => (if t133 = 11 then ((flow_Held.f k t125 3 11).bind fun t134 => (some (decide (t134 < 11)))) else (some false))) else (some false)) else (some false)) else (some false)) else (some false)) else (some false))))) = some r := h
  clear h
  replace H := Option.bind_eq_some_iff.mp H
  obtain ⟨t125, A10, H⟩ := H
  replace H : ((flow_Flow.f t125 6 11).bind fun bt128 => ((flow_All.f t125 6).bind fun bt131 => (if bt128.2.2 = true then (if bt128.1.toList = ([] : List UInt8) then (if bt128.2.1 = 11 then (if bt131.2 = true then (if bt131.1.toList = ([40, 97, 44, 32, 98, 41] : List UInt8) then ((flow_Held.f k t125 6 11).bind fun t133 => (if t133 = 11 then ((flow_Held.f k t125 3 11).bind fun t134 => (some (decide (t134 < 11)))) else (some false))) else (some false)) else (some false)) else (some false)) else (some false)) else (some false)))) = some r := H
  have A1 := Aside0.mk A10
  clear A10
  replace H := Option.bind_eq_some_iff.mp H
  obtain ⟨⟨t128, t129, t130⟩, A20, H⟩ := H
  replace H : ((flow_All.f t125 6).bind fun bt131 => (if t130 = true then (if t128.toList = ([] : List UInt8) then (if t129 = 11 then (if bt131.2 = true then (if bt131.1.toList = ([40, 97, 44, 32, 98, 41] : List UInt8) then ((flow_Held.f k t125 6 11).bind fun t133 => (if t133 = 11 then ((flow_Held.f k t125 3 11).bind fun t134 => (some (decide (t134 < 11)))) else (some false))) else (some false)) else (some false)) else (some false)) else (some false)) else (some false))) = some r := H
  have A2 := Aside0.mk A20
  clear A20
  replace H := Option.bind_eq_some_iff.mp H
  obtain ⟨⟨t131, t132⟩, A30, H⟩ := H
  replace H : (if t130 = true then (if t128.toList = ([] : List UInt8) then (if t129 = 11 then (if t132 = true then (if t131.toList = ([40, 97, 44, 32, 98, 41] : List UInt8) then ((flow_Held.f k t125 6 11).bind fun t133 => (if t133 = 11 then ((flow_Held.f k t125 3 11).bind fun t134 => (some (decide (t134 < 11)))) else (some false))) else (some false)) else (some false)) else (some false)) else (some false)) else (some false)) = some r := H
  have A3 := Aside0.mk A30
  clear A30
  by_cases c4 : t130 = true
  · subst c4
    have H1 : (if t128.toList = ([] : List UInt8) then (if t129 = 11 then (if t132 = true then (if t131.toList = ([40, 97, 44, 32, 98, 41] : List UInt8) then ((flow_Held.f k t125 6 11).bind fun t133 => (if t133 = 11 then ((flow_Held.f k t125 3 11).bind fun t134 => (some (decide (t134 < 11)))) else (some false))) else (some false)) else (some false)) else (some false)) else (some false)) = some r := by rw [if_pos rfl] at H; exact H
    clear H
    have H := H1
    clear H1
    by_cases c5 : t128.toList = ([] : List UInt8)
    · rw [if_pos c5] at H
      have c5b0 : (t128.toList == ([] : List UInt8)) = true := beq_iff_eq.mpr c5
      have c5b1 : (t128.toList != ([] : List UInt8)) = false := bne_eq_false_iff_eq.mpr c5
      clear c5
      by_cases c6 : t129 = 11
      · rw [if_pos c6] at H
        have c6b0 : (t129 == 11) = true := beq_iff_eq.mpr c6
        have c6b1 : (t129 != 11) = false := bne_eq_false_iff_eq.mpr c6
        clear c6
        by_cases c7 : t132 = true
        · subst c7
          have H1 : (if t131.toList = ([40, 97, 44, 32, 98, 41] : List UInt8) then ((flow_Held.f k t125 6 11).bind fun t133 => (if t133 = 11 then ((flow_Held.f k t125 3 11).bind fun t134 => (some (decide (t134 < 11)))) else (some false))) else (some false)) = some r := by rw [if_pos rfl] at H; exact H
          clear H
          have H := H1
          clear H1
          by_cases c8 : t131.toList = ([40, 97, 44, 32, 98, 41] : List UInt8)
          · rw [if_pos c8] at H
            have c8b0 : (t131.toList == ([40, 97, 44, 32, 98, 41] : List UInt8)) = true := beq_iff_eq.mpr c8
            have c8b1 : (t131.toList != ([40, 97, 44, 32, 98, 41] : List UInt8)) = false := bne_eq_false_iff_eq.mpr c8
            clear c8
            replace H := Option.bind_eq_some_iff.mp H
            obtain ⟨t133, A90, H⟩ := H
            replace H : (if t133 = 11 then ((flow_Held.f k t125 3 11).bind fun t134 => (some (decide (t134 < 11)))) else (some false)) = some r := H
            have A9 := Aside0.mk A90
            clear A90
            by_cases c10 : t133 = 11
            · rw [if_pos c10] at H
              have c10b0 : (t133 == 11) = true := beq_iff_eq.mpr c10
              have c10b1 : (t133 != 11) = false := bne_eq_false_iff_eq.mpr c10
              clear c10
              replace H := Option.bind_eq_some_iff.mp H
              obtain ⟨t134, A110, H⟩ := H
              replace H : (some (decide (t134 < 11))) = some r := H
              have A11 := Aside0.mk A110
              clear A110
              obtain rfl := Option.some.inj H
              go_enter Try.func9, Try.ntmps9
              go_wp2_with (first | ((with_reducible refine gate_callee (f := 21) rfl ?_); refine goesL_ (some 7) rfl rfl Try.func21 (by kernel_rfl) rfl #[] rfl (by (try simp only [List.map_toArray, List.map_cons, List.map_nil]); first | done | rfl | (simp only [List.length_drop, List.length_take]; rfl)) ?_; (with_reducible refine (copperplatelaw18_Pair.calls  t125 _ A1.out).mono ?_); (try clear A1); rintro e w12 ⟨v126, rfl, ho0, hb⟩; refine ⟨_, rfl, ?_⟩; have n0_ := Aside0.mk (Kd.R_lower ho0 (below_size (by repeat (first | (with_reducible first | exact HB.out | apply below_alloc | apply pw_below_drewN | apply below_drew1) | exact HB.out)))); have n1_ := Aside0.mk (below_step (by repeat (first | (with_reducible first | exact HB.out | apply below_alloc | apply pw_below_drewN | apply below_drew1) | exact HB.out)) hb); clear HB; have HO127 := n0_; have HB := n1_; clear n0_ n1_; (try clear hb); (try clear hb2); (try clear hk); (try clear hi); (try clear ho0); obtain ⟨Ao13, co13, eo13⟩ := Kd.R_slice HO127.out; subst eo13) | ((with_reducible refine gate_callee (f := 11) rfl ?_); refine goesL_ (some 10) rfl rfl Try.func11 (by kernel_rfl) rfl #[.slice Ao13 t125.length co13, .int .i64 6, .int .i64 11] rfl (by (try simp only [List.map_toArray, List.map_cons, List.map_nil]); first | done | rfl | (simp only [List.length_drop, List.length_take]; rfl)) ?_; (with_reducible refine (flow_Flow.calls _ _ t125 6 11 t128 t129 true _ ?side1 ?side2 A2.out).mono ?_); (case side1 => repeat (first | exact (Kd.R_reads' HO127.out).2.2 | (with_reducible refine Kd.C_alloc ?_ _) | (with_reducible refine Kd.C_drewN ?_ _) | (with_reducible refine Kd.C_drew ?_))); (case side2 => exact (Kd.R_reads' HO127.out).2.1); (try clear A2); rintro e w14 ⟨rfl, hb⟩; refine ⟨_, rfl, ?_⟩; have n0_ := Aside0.mk (Kd.R_below (by (with_reducible repeat (first | apply Kd.R_alloc | apply Kd.R_drewN | apply Kd.R_drew)); exact HO127.out) hb); have n1_ := Aside0.mk (below_step (by repeat (first | (with_reducible first | exact HB.out | apply below_alloc | apply pw_below_drewN | apply below_drew1) | exact HB.out)) hb); clear HO127; clear HB; have HO127 := n0_; have HB := n1_; clear n0_ n1_; (try clear hb); (try clear hb2); (try clear hk); (try clear hi)) | ((with_reducible refine gate_callee (f := 14) rfl ?_); refine goesL_ (some 16) rfl rfl Try.func14 (by kernel_rfl) rfl #[.slice Ao13 t125.length co13, .int .i64 6] rfl (by (try simp only [List.map_toArray, List.map_cons, List.map_nil]); first | done | rfl | (simp only [List.length_drop, List.length_take]; rfl)) ?_; (with_reducible refine (flow_All.calls _ _ t125 6 t131 true _ ?side1 ?side2 A3.out).mono ?_); (case side1 => repeat (first | exact (Kd.R_reads' HO127.out).2.2 | (with_reducible refine Kd.C_alloc ?_ _) | (with_reducible refine Kd.C_drewN ?_ _) | (with_reducible refine Kd.C_drew ?_))); (case side2 => exact (Kd.R_reads' HO127.out).2.1); (try clear A3); rintro e w15 ⟨rfl, hb⟩; refine ⟨_, rfl, ?_⟩; have n0_ := Aside0.mk (Kd.R_below (by (with_reducible repeat (first | apply Kd.R_alloc | apply Kd.R_drewN | apply Kd.R_drew)); exact HO127.out) hb); have n1_ := Aside0.mk (below_step (by repeat (first | (with_reducible first | exact HB.out | apply below_alloc | apply pw_below_drewN | apply below_drew1) | exact HB.out)) hb); clear HO127; clear HB; have HO127 := n0_; have HB := n1_; clear n0_ n1_; (try clear hb); (try clear hb2); (try clear hk); (try clear hi)) | (go_at_call 12; (with_reducible refine (flow_Held.calls k _ _ t125 6 11 t133 _ ?side1 ?side2 A9.out).mono ?_); (case side1 => repeat (first | exact (Kd.R_reads' HO127.out).2.2 | (with_reducible refine Kd.C_alloc ?_ _) | (with_reducible refine Kd.C_drewN ?_ _) | (with_reducible refine Kd.C_drew ?_))); (case side2 => exact (Kd.R_reads' HO127.out).2.1); (try clear A9); rintro e w16 ⟨rfl, hb⟩; have n0_ := Aside0.mk (Kd.R_below (by (with_reducible repeat (first | apply Kd.R_alloc | apply Kd.R_drewN | apply Kd.R_drew)); exact HO127.out) hb); have n1_ := Aside0.mk (below_step (by repeat (first | (with_reducible first | exact HB.out | apply below_alloc | apply pw_below_drewN | apply below_drew1) | exact HB.out)) hb); clear HO127; clear HB; have HO127 := n0_; have HB := n1_; clear n0_ n1_; (try clear hb); (try clear hb2); (try clear hk); (try clear hi)) | (go_at_call 12; (with_reducible refine (flow_Held.calls k _ _ t125 3 11 t134 _ ?side1 ?side2 A11.out).mono ?_); (case side1 => repeat (first | exact (Kd.R_reads' HO127.out).2.2 | (with_reducible refine Kd.C_alloc ?_ _) | (with_reducible refine Kd.C_drewN ?_ _) | (with_reducible refine Kd.C_drew ?_))); (case side2 => exact (Kd.R_reads' HO127.out).2.1); (try clear A11); rintro e w17 ⟨rfl, hb⟩; have n0_ := Aside0.mk (Kd.R_below (by (with_reducible repeat (first | apply Kd.R_alloc | apply Kd.R_drewN | apply Kd.R_drew)); exact HO127.out) hb); have n1_ := Aside0.mk (below_step (by repeat (first | (with_reducible first | exact HB.out | apply below_alloc | apply pw_below_drewN | apply below_drew1) | exact HB.out)) hb); clear HO127; clear HB; have HO127 := n0_; have HB := n1_; clear n0_ n1_; (try clear hb); (try clear hb2); (try clear hk); (try clear hi)))
              go_ret
              exact ⟨by first | rfl | (simp [errW_none, errW_some] <;> rfl) | (simp [*, errW_none, errW_some] <;> rfl), by repeat (first | (with_reducible first | exact HB.out | apply below_alloc | apply pw_below_drewN | apply below_drew1) | exact HB.out)⟩
            · rw [if_neg c10] at H
              have c10b0 : (t133 == 11) = false := beq_eq_false_iff_ne.mpr c10
              have c10b1 : (t133 != 11) = true := bne_iff_ne.mpr c10
              exact absurd H (by have h_ := HT_.out; subst h_; decide)
          · rw [if_neg c8] at H
            have c8b0 : (t131.toList == ([40, 97, 44, 32, 98, 41] : List UInt8)) = false := beq_eq_false_iff_ne.mpr c8
            have c8b1 : (t131.toList != ([40, 97, 44, 32, 98, 41] : List UInt8)) = true := bne_iff_ne.mpr c8
            exact absurd H (by have h_ := HT_.out; subst h_; decide)
        · replace c7 := Bool.eq_false_iff.mpr c7
          subst c7
          have H1 : (some false) = some r := by rw [if_neg (show ¬ (false = true) by decide)] at H; exact H
          clear H
          have H := H1
          clear H1
          exact absurd H (by have h_ := HT_.out; subst h_; decide)
      · rw [if_neg c6] at H
        have c6b0 : (t129 == 11) = false := beq_eq_false_iff_ne.mpr c6
        have c6b1 : (t129 != 11) = true := bne_iff_ne.mpr c6
        exact absurd H (by have h_ := HT_.out; subst h_; decide)
    · rw [if_neg c5] at H
      have c5b0 : (t128.toList == ([] : List UInt8)) = false := beq_eq_false_iff_ne.mpr c5
      have c5b1 : (t128.toList != ([] : List UInt8)) = true := bne_iff_ne.mpr c5
      exact absurd H (by have h_ := HT_.out; subst h_; decide)
  · replace c4 := Bool.eq_false_iff.mpr c4
    subst c4
    have H1 : (some false) = some r := by rw [if_neg (show ¬ (false = true) by decide)] at H; exact H
    clear H
    have H := H1
    clear H1
    exact absurd H (by have h_ := HT_.out; subst h_; decide)

end Go.Proofs.Ytkhlfdoeploddaa.PFlow
