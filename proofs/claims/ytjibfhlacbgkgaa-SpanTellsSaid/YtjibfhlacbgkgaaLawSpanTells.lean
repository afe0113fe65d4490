/- The law copperplate/copperplatelaw17.SpanTells: its row, 'SpanTellsSaid', out of the pure statement (YtjibfhlacbgkgaaPureSpanTells) and the walk of the law by its callees' contracts. No conditions. -/
import Derived.Test.YtjibfhlacbgkgaaRows
import Derived.Test.YtjibfhlacbgkgaaPSpanx13
import Derived.Test.YtjibfhlacbgkgaaPureSpanTells
import Derived.WalkKit
import Derived.ProofKit
import Derived.OpenShut
import Derived.ShutString
import Derived.ChangeOld
import Derived.Below
import Derived.SizedLaws
import Derived.Carry
import Derived.Lib.SmallJoins
import Derived.Deep.SlicePairs
import Derived.Test.YtjibfhlacbgkgaaWSized
namespace Go.Proofs.Ytjibfhlacbgkgaa.spanTells
open Go.ChangeShapes Go.WideShapes Go.ChangeAt Go.RowKit
open Go.ChangeMaps (open_string shut_string)
open Go.Proofs.Ytjibfhlacbgkgaa.PSpan Go.Proofs.YtjibfhlacbgkgaaW.PrintWords
set_option linter.unusedVariables false
set_option linter.unusedSimpArgs false
theorem own : ownKnob Try.prog.godebug = none := by kernel_rfl
theorem laidOut : laidOutB Try.prog = true := by kernel_rfl
theorem w_each {H : Type} {P : Program} {ts : List TypeId} {ds : List (DataW H)} (h : (DataW.weightsEach P ts ds).all (· ≤ reachBytes) = true) {j : Nat} {t : TypeId} {d : DataW H} (ht : ts[j]? = some t) (hd : ds[j]? = some d) (m : Nat) (hm : m ∈ d.weights P t) : m ≤ reachBytes := by
  have := List.all_eq_true.1 h _ (DataW.weights_mem_each ht hd m hm)
  simpa using this
theorem w_all {H : Type} {P : Program} {e : TypeId} : ∀ {ds : List (DataW H)} {d : DataW H}, d ∈ ds → ∀ m ∈ d.weights P e, m ∈ DataW.weightsAll P e ds
  | a :: r, d, h, m, hm => by
    simp only [DataW.weightsAll, List.mem_append]
    rcases List.mem_cons.1 h with rfl | h
    · exact .inl hm
    · exact .inr (w_all h m hm)
  | [], _, h, _, _ => by simp at h
set_option maxRecDepth 100000 in
set_option maxHeartbeats 1000000 in
theorem lifted (os : Os) (started : os.Started) (H : Type) (enc : TypeId × Value → H) :
    ReturnsInHanded {} Try.checked os 3 .any (Rows.spanTellsSpec.pre6 enc Try.prog Try.f3 Rows.spanTellsRow.domain false) (Rows.spanTellsSpec.post enc Try.prog Try.f3 false true false false) := by
  refine returnsInHanded_of_change_sized (C := Try.checked) own started (by kernel_rfl) Try.func3
    (ChangeSpec.witness6 (enc := enc) (C := Try.checked) false ⟨#[], #[.string ByteArray.empty, .agg #[.int .i64 0, .string ByteArray.empty], .slice none 0 0, .int .i64 0], []⟩ 8 (by kernel_rfl) (by kernel_rfl) (by kernel_rfl) (by kernel_rfl)) ?_
  intro W base args ds gs before hval0 hW hcnd hsz0 _
  have hsz : (DataW.weightsEach Try.prog (Try.f3.params.toList ++ Rows.spanTellsSpec.plain.varTypes Try.prog) (ds ++ gs)).all (· ≤ reachBytes) = true := hsz0
  have hval : ∀ (j : Nat) t v, Try.f3.params[j]? = some t → args[j]? = some v → Value.okWide Try.prog W .any base t v := hval0
  have hW' := hW
  obtain ⟨p, q, hA0, hV, rfl, hfz, hnd⟩ := hW
  have hA : DataW.TrodAll enc Try.prog W 0 (fun _ => true) true Try.f3.params.toList args.toList ds p := hA0
  rw [Try.params3] at hA hval hsz
  obtain ⟨v0, vs0, d0, ds0, p0, q0, hargs, rfl, rfl, h0, r0⟩ := trodAll_cons hA
  obtain ⟨v1, vs1, d1, ds1, p1, q1, rfl, rfl, rfl, h1, r1⟩ := trodAll_cons r0
  obtain ⟨v2, vs2, d2, ds2, p2, q2, rfl, rfl, rfl, h2, r2⟩ := trodAll_cons r1
  obtain ⟨v3, vs3, d3, ds3, p3, q3, rfl, rfl, rfl, h3, r3⟩ := trodAll_cons r2
  obtain ⟨rfl, rfl, rfl⟩ := trodAll_nil r3
  obtain rfl : args = #[v0, v1, v2, v3] := by cases args; simp_all
  obtain ⟨rfl, rfl⟩ := trodVars_none hV
  obtain ⟨a0, rfl, rfl, rfl, y0⟩ := open_string Try.underlying9 (hval 0 9 v0 rfl rfl) h0
  have w0 : a0.size ≤ 140737488351232 := by
    have z := sized_string hsz (j := 0) (t := 9) rfl rfl
    rw [Array.length_toList] at z
    exact z
  have k1 := h1
  have lt1 : ∀ x ∈ p1, x.block < W.heap.size := by obtain ⟨m, hm⟩ := k1; exact DataW.trod_lt m _ _ _ hm
  obtain ⟨v1_0, v1_1, y1_0, y1_1, n1, rfl, hd1, hp1, g1_0, g1_1⟩ := Go.Joins.open_agg2 Try.underlying23 (by kernel_rfl) (by kernel_rfl) (hval 1 23 v1 rfl rfl) h1
  obtain ⟨a1_0, e1_0, x1_0, w1_0⟩ := DataW.trod_int Try.underlying3 g1_0
  obtain rfl : v1_0 = .int .i64 a1_0 := by simpa using e1_0
  obtain ⟨a1_1, e1_1, x1_1, m1_1⟩ := DataW.trod_string Try.underlying9 g1_1
  obtain rfl : v1_1 = .string a1_1 := by simpa using e1_1
  have hd1' : d1 = .agg [.lit (.int .i64 a1_0), .lit (.string a1_1.data.toList)] := by rw [hd1, x1_0, x1_1]
  have w1_1 : a1_1.size ≤ 140737488351232 := by
    have z := w_each hsz (j := 1) (t := 23) rfl rfl a1_1.size (by rw [hd1']; simp only [DataW.weights, Try.underlying23]; simp [DataW.weightsEach, DataW.weights])
    exact z
  have k2 := h2
  have lt2 : ∀ x ∈ p2, x.block < W.heap.size := by obtain ⟨m, hm⟩ := k2; exact DataW.trod_lt m _ _ _ hm
  obtain ⟨A2, l2, c2, rfl, hr2, hc2, y2, z2⟩ : ∃ (A : Option Addr) (l : List S23) (c : Nat), v2 = .slice A l.length c ∧ Kd.C k23 W A l.length l ∧ l.length ≤ c ∧ l.length * 24 ≤ 140737488351232 ∧ (∀ x ∈ l, (Lit.int .i64 x.f0).wf = true ∧ x.f1.size ≤ 140737488351232) := by
    obtain ⟨a_, len_, cap_, rfl⟩ := okWide_slice Try.underlying24 (hval 2 24 v2 rfl rfl)
    obtain ⟨fuel, hf⟩ := h2
    rcases Go.Deep.open_slice_pairs Try.underlying24 Try.underlying23 (by kernel_rfl) rfl rfl (by kernel_rfl) (by kernel_rfl) hf with ⟨hcs, hx⟩ | ⟨a, len, cap, m, nn, V0, V1, D0, D1, P0, P1, hcs, hb0, hl, hm, hmm, hx, hcell⟩
    · simp [Value.cells] at hcs
      obtain ⟨rfl, rfl, rfl⟩ := hcs
      exact ⟨none, [], 0, rfl, Kd.C_nil _ _, Nat.le_refl _, by simp, by simp⟩
    · simp [Value.cells] at hcs
      obtain ⟨rfl, rfl, rfl⟩ := hcs
      have hmm' : m = cap_ := by rw [hmm]; simp
      subst hmm'
      have each : ∀ i, i < m → ∃ x : S23, V0 i = .int .i64 x.f0 ∧ V1 i = .string x.f1 ∧ D0 i = .lit (.int .i64 x.f0) ∧ D1 i = .lit (.string x.f1.data.toList) ∧ (Lit.int .i64 x.f0).wf = true := by
        intro i hi
        obtain ⟨_, _, t0, t1⟩ := hcell i hi
        obtain ⟨a0, e0, x0, w0⟩ := DataW.trod_int Try.underlying3 t0
        obtain ⟨a1, e1, x1, m1⟩ := DataW.trod_string Try.underlying9 t1
        refine ⟨⟨a0, a1⟩, by simpa using e0, by simpa using e1, ?_, ?_, w0⟩
        · exact (Prod.mk.inj x0).1
        · exact (Prod.mk.inj x1).1
      obtain ⟨f, hf'⟩ : ∃ f : Nat → S23, ∀ i, i < m → V0 i = .int .i64 (f i).f0 ∧ V1 i = .string (f i).f1 ∧ D0 i = .lit (.int .i64 (f i).f0) ∧ D1 i = .lit (.string (f i).f1.data.toList) ∧ (Lit.int .i64 (f i).f0).wf = true := ⟨fun i => if h : i < m then (each i h).choose else ⟨0, ⟨#[]⟩⟩, fun i hi => by simp only [hi, dif_pos]; exact (each i hi).choose_spec⟩
      have hlen : ((List.range len_).map f).length = len_ := by simp
      have hd : d2 = .slice ((List.range len_).map fun i => .agg [D0 i, D1 i]) ((List.range (m - len_)).map fun j => .agg [D0 (len_ + j), D1 (len_ + j)]) := (Prod.mk.inj hx).1
      have hbig : (len_ + (m - len_)) * 24 ≤ 140737488351232 := by
        have z := sized_slice hsz (j := 2) (t := 24) (elems := (List.range len_).map fun i => .agg [D0 i, D1 i]) (spare := (List.range (m - len_)).map fun j => .agg [D0 (len_ + j), D1 (len_ + j)]) rfl (by simp only [← hd]; rfl) Try.underlying24
        rw [List.length_map, List.length_range, List.length_map, List.length_range, show Try.prog.bytesOf 23 = 24 by kernel_rfl] at z
        exact z
      refine ⟨_, (List.range len_).map f, m, by rw [hlen], ?_, by rw [hlen]; exact hl, by rw [hlen]; omega, ?_⟩
      · rw [hlen]
        refine ⟨hlen, by unfold maxLen at hm; omega, fun hn => ⟨a, rfl, fun j x hx_ => ?_⟩⟩
        obtain ⟨hjl, hjx⟩ := List.getElem?_eq_some_iff.1 hx_
        have hj : j < len_ := by rw [hlen] at hjl; exact hjl
        obtain rfl : f j = x := by simpa using hjx
        obtain ⟨b0, b1, _, _⟩ := hcell j (by omega)
        obtain ⟨e0, e1, _, _, _⟩ := hf' j (by omega)
        rw [e0] at b0
        rw [e1] at b1
        refine ⟨[.int .i64 (f j).f0, .string (f j).f1], rfl, k23_mk W (f j), fun i u hu => ?_⟩
        match i, hu with
        | 0, hu => obtain rfl := Option.some.inj hu; exact b0
        | 1, hu => obtain rfl := Option.some.inj hu; exact b1
        | n + 2, hu => simp at hu
      · intro x hx_
        obtain ⟨j, hj, rfl⟩ := List.mem_map.1 hx_
        have hj' : j < len_ := List.mem_range.1 hj
        obtain ⟨_, _, e0, e1, hw⟩ := hf' j (by omega)
        refine ⟨hw, ?_⟩
        have z := w_each hsz (j := 2) (t := 24) rfl rfl (f j).f1.size (by
          rw [hd]
          simp only [DataW.weights, Try.underlying24]
          refine List.mem_cons_of_mem _ (List.mem_append_left _ (w_all (d := .agg [D0 j, D1 j]) (List.mem_map.2 ⟨j, hj, rfl⟩) _ ?_))
          simp only [DataW.weights, Try.underlying23, e0, e1]
          simp [DataW.weightsEach, DataW.weights])
        exact z
  obtain ⟨a3, rfl, rfl, rfl, w3⟩ := open_int Try.underlying3 (hval 3 3 v3 rfl rfl) h3
  obtain ⟨k, h⟩ := (Pure.SpanTells : copperplatelaw17_SpanTells.Pure) a0 a1_0 a1_1 l2 a3 w0 w1_0 w1_1 y2 z2 w3
  clear hA0 hval0 hsz0 hsz
  refine (copperplatelaw17_SpanTells.calls k a0 a1_0 a1_1 A2 c2 l2 a3 true W hr2 hc2 h rfl).mono fun e W' ⟨he, hd⟩ => ?_
  have bel : Below W.heap.size W W' := hd
  subst he
  exact ⟨_, rfl, _, _, _, [], _, [], hW', trodAll_mk1 (shut_bool Try.underlying4 _), (trodAll_cons_mk (shut_string Try.underlying9 y0) (trodAll_cons_mk (Below.trod laidOut (by kernel_rfl) (of_decide_eq_true (by kernel_rfl)) k1 bel lt1) (trodAll_cons_mk (Below.trod laidOut (by kernel_rfl) (of_decide_eq_true (by kernel_rfl)) k2 bel lt2) (trodAll_cons_mk (shut_int Try.underlying3 w3) trodAll_mk0)))), rfl, bel.frame _, fun h => by cases h⟩
theorem over : Rows.spanTellsRow.holds Try.pinned (OpenSpec.ofChange Rows.spanTellsSpec) :=
  OpenClaim.holds_of_wide 3 Try.f3 rfl rfl rfl rfl rfl rfl rfl ⟨rfl, rfl, rfl, rfl, rfl⟩ rfl rfl rfl rfl rfl (by kernel_rfl) Try.func3 (by kernel_rfl)
    (of_decide_eq_true (by kernel_rfl)) (by unfold Func.isWrapper; first | (rw [if_pos (by decide +kernel)]; kernel_rfl) | (rw [if_neg (by decide +kernel)]; exact ⟨rfl, rfl⟩))
    (fun os started H enc _ => lifted os started H enc)
theorem proved : Rows.SpanTellsSaid := over
#print axioms proved
end Go.Proofs.Ytjibfhlacbgkgaa.spanTells
namespace Go.Proofs.Ytjibfhlacbgkgaa
/-- The row, under a short name, for the claim. -/
theorem spanTells_holds : Rows.SpanTellsSaid := spanTells.proved
end Go.Proofs.Ytjibfhlacbgkgaa
