/- The law copperplate/copperplatelaw01.MeterBoth: its row, 'MeterBothSaid', out of the pure statement (YtfpihmjdcneheaaPureMeterBoth) and the walk of the law by its callees' contracts. No conditions. -/
import Derived.Test.YtfpihmjdcneheaaRows
import Derived.Test.YtfpihmjdcneheaaPMeterx13
import Derived.Test.YtfpihmjdcneheaaPureMeterBoth
import Derived.WalkKit
import Derived.ProofKit
import Derived.OpenShut
import Derived.ShutString
import Derived.ChangeOld
import Derived.Below
import Derived.SizedLaws
import Derived.Carry
import Derived.Lib.SmallJoins
import Derived.Deep.SlicePairs
import Derived.Test.YtfpihmjdcneheaaWSized
namespace Go.Proofs.Ytfpihmjdcneheaa.meterBoth
open Go.ChangeShapes Go.WideShapes Go.ChangeAt Go.RowKit
open Go.ChangeMaps (open_string shut_string)
open Go.Proofs.Ytfpihmjdcneheaa.PMeter Go.Proofs.YtfpihmjdcneheaaW.PrintWords
set_option linter.unusedVariables false
set_option linter.unusedSimpArgs false
theorem own : ownKnob Try.prog.godebug = none := by kernel_rfl
theorem laidOut : laidOutB Try.prog = true := by kernel_rfl
theorem w_each {H : Type} {P : Program} {ts : List TypeId} {ds : List (DataW H)} (h : (DataW.weightsEach P ts ds).all (· ≤ reachBytes) = true) {j : Nat} {t : TypeId} {d : DataW H} (ht : ts[j]? = some t) (hd : ds[j]? = some d) (m : Nat) (hm : m ∈ d.weights P t) : m ≤ reachBytes := by
  have := List.all_eq_true.1 h _ (DataW.weights_mem_each ht hd m hm)
  simpa using this
set_option maxRecDepth 100000 in
set_option maxHeartbeats 1000000 in
theorem lifted (os : Os) (started : os.Started) (H : Type) (enc : TypeId × Value → H) :
    ReturnsInHanded {} Try.checked os 8 .any (Rows.meterBothSpec.pre6 enc Try.prog Try.f8 Rows.meterBothRow.domain false) (Rows.meterBothSpec.post enc Try.prog Try.f8 false true false false) := by
  refine returnsInHanded_of_change_sized (C := Try.checked) own started (by kernel_rfl) Try.func8
    (ChangeSpec.witness6 (enc := enc) (C := Try.checked) false ⟨#[], #[.agg #[.int .i64 0, .int .i64 0], .agg #[.int .i64 0, .int .i64 0]], []⟩ 8 (by kernel_rfl) (by kernel_rfl) (by kernel_rfl) (by kernel_rfl)) ?_
  intro W base args ds gs before hval0 hW hcnd hsz0 _
  have hsz : (DataW.weightsEach Try.prog (Try.f8.params.toList ++ Rows.meterBothSpec.plain.varTypes Try.prog) (ds ++ gs)).all (· ≤ reachBytes) = true := hsz0
  have hval : ∀ (j : Nat) t v, Try.f8.params[j]? = some t → args[j]? = some v → Value.okWide Try.prog W .any base t v := hval0
  have hW' := hW
  obtain ⟨p, q, hA0, hV, rfl, hfz, hnd⟩ := hW
  have hA : DataW.TrodAll enc Try.prog W 0 (fun _ => true) true Try.f8.params.toList args.toList ds p := hA0
  rw [Try.params8] at hA hval hsz
  obtain ⟨v0, vs0, d0, ds0, p0, q0, hargs, rfl, rfl, h0, r0⟩ := trodAll_cons hA
  obtain ⟨v1, vs1, d1, ds1, p1, q1, rfl, rfl, rfl, h1, r1⟩ := trodAll_cons r0
  obtain ⟨rfl, rfl, rfl⟩ := trodAll_nil r1
  obtain rfl : args = #[v0, v1] := by cases args; simp_all
  obtain ⟨rfl, rfl⟩ := trodVars_none hV
  have k0 := h0
  have lt0 : ∀ x ∈ p0, x.block < W.heap.size := by obtain ⟨m, hm⟩ := k0; exact DataW.trod_lt m _ _ _ hm
  obtain ⟨v0_0, v0_1, y0_0, y0_1, n0, rfl, hd0, hp0, g0_0, g0_1⟩ := Go.Joins.open_agg2 Try.underlying23 (by kernel_rfl) (by kernel_rfl) (hval 0 23 v0 rfl rfl) h0
  obtain ⟨a0_0, e0_0, x0_0, w0_0⟩ := DataW.trod_int Try.underlying3 g0_0
  obtain rfl : v0_0 = .int .i64 a0_0 := by simpa using e0_0
  obtain ⟨a0_1, e0_1, x0_1, w0_1⟩ := DataW.trod_int Try.underlying3 g0_1
  obtain rfl : v0_1 = .int .i64 a0_1 := by simpa using e0_1
  have hd0' : d0 = .agg [.lit (.int .i64 a0_0), .lit (.int .i64 a0_1)] := by rw [hd0, x0_0, x0_1]
  have k1 := h1
  have lt1 : ∀ x ∈ p1, x.block < W.heap.size := by obtain ⟨m, hm⟩ := k1; exact DataW.trod_lt m _ _ _ hm
  obtain ⟨v1_0, v1_1, y1_0, y1_1, n1, rfl, hd1, hp1, g1_0, g1_1⟩ := Go.Joins.open_agg2 Try.underlying23 (by kernel_rfl) (by kernel_rfl) (hval 1 23 v1 rfl rfl) h1
  obtain ⟨a1_0, e1_0, x1_0, w1_0⟩ := DataW.trod_int Try.underlying3 g1_0
  obtain rfl : v1_0 = .int .i64 a1_0 := by simpa using e1_0
  obtain ⟨a1_1, e1_1, x1_1, w1_1⟩ := DataW.trod_int Try.underlying3 g1_1
  obtain rfl : v1_1 = .int .i64 a1_1 := by simpa using e1_1
  have hd1' : d1 = .agg [.lit (.int .i64 a1_0), .lit (.int .i64 a1_1)] := by rw [hd1, x1_0, x1_1]
  obtain ⟨k, h⟩ := (Pure.MeterBoth : copperplatelaw01_MeterBoth.Pure) a0_0 a0_1 a1_0 a1_1 w0_0 w0_1 w1_0 w1_1
  clear hA0 hval0 hsz0 hsz
  refine (copperplatelaw01_MeterBoth.calls k a0_0 a0_1 a1_0 a1_1 true W  h rfl).mono fun e W' ⟨he, hd⟩ => ?_
  have bel : Below W.heap.size W W' := hd
  subst he
  exact ⟨_, rfl, _, _, _, [], _, [], hW', trodAll_mk1 (shut_bool Try.underlying4 _), (trodAll_cons_mk (Below.trod laidOut (by kernel_rfl) (of_decide_eq_true (by kernel_rfl)) k0 bel lt0) (trodAll_cons_mk (Below.trod laidOut (by kernel_rfl) (of_decide_eq_true (by kernel_rfl)) k1 bel lt1) trodAll_mk0)), rfl, bel.frame _, fun h => by cases h⟩
theorem over : Rows.meterBothRow.holds Try.pinned (OpenSpec.ofChange Rows.meterBothSpec) :=
  OpenClaim.holds_of_wide 8 Try.f8 rfl rfl rfl rfl rfl rfl rfl ⟨rfl, rfl, rfl, rfl, rfl⟩ rfl rfl rfl rfl rfl (by kernel_rfl) Try.func8 (by kernel_rfl)
    (of_decide_eq_true (by kernel_rfl)) (by unfold Func.isWrapper; first | (rw [if_pos (by decide +kernel)]; kernel_rfl) | (rw [if_neg (by decide +kernel)]; exact ⟨rfl, rfl⟩))
    (fun os started H enc _ => lifted os started H enc)
theorem proved : Rows.MeterBothSaid := over
#print axioms proved
end Go.Proofs.Ytfpihmjdcneheaa.meterBoth
namespace Go.Proofs.Ytfpihmjdcneheaa
/-- The row, under a short name, for the claim. -/
theorem meterBoth_holds : Rows.MeterBothSaid := meterBoth.proved
end Go.Proofs.Ytfpihmjdcneheaa
