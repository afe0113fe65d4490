/- The law copperplate/copperplatelaw19.FlowTells: its row, 'FlowTellsUptoSaid', out of the pure statement (YtkhlfdoeploddaaPureFlowTells) and the walk of the law by its callees' contracts. Conditions: the statement's own bound on what is read. -/
import Derived.Test.YtkhlfdoeploddaaRows
import Derived.Test.YtkhlfdoeploddaaPFlowx22
import Derived.Test.YtkhlfdoeploddaaPureFlowTells
import Derived.WalkKit
import Derived.ProofKit
import Derived.OpenShut
import Derived.ShutString
import Derived.ChangeOld
import Derived.Below
import Derived.SizedLaws
import Derived.Carry
import Derived.Lib.SmallJoins
import Derived.Deep.SlicePairs
import Derived.Deep.CondSized
import Derived.Test.YtkhlfdoeploddaaWSized
namespace Go.Proofs.Ytkhlfdoeploddaa.flowTellsUpto
open Go.ChangeShapes Go.WideShapes Go.ChangeAt Go.RowKit
open Go.ChangeMaps (open_string shut_string)
open Go.Proofs.Ytkhlfdoeploddaa.PFlow Go.Proofs.YtkhlfdoeploddaaW.PrintWords
set_option linter.unusedVariables false
set_option linter.unusedSimpArgs false
theorem own : ownKnob Try.prog.godebug = none := by kernel_rfl
theorem laidOut : laidOutB Try.prog = true := by kernel_rfl
theorem w_each {H : Type} {P : Program} {ts : List TypeId} {ds : List (DataW H)} (h : (DataW.weightsEach P ts ds).all (· ≤ reachBytes) = true) {j : Nat} {t : TypeId} {d : DataW H} (ht : ts[j]? = some t) (hd : ds[j]? = some d) (m : Nat) (hm : m ∈ d.weights P t) : m ≤ reachBytes := by
  have := List.all_eq_true.1 h _ (DataW.weights_mem_each ht hd m hm)
  simpa using this
theorem w_all {H : Type} {P : Program} {e : TypeId} : ∀ {ds : List (DataW H)} {d : DataW H}, d ∈ ds → ∀ m ∈ d.weights P e, m ∈ DataW.weightsAll P e ds
  | a :: r, d, h, m, hm => by
    simp only [DataW.weightsAll, List.mem_append]
    rcases List.mem_cons.1 h with rfl | h
    · exact .inl hm
    · exact .inr (w_all h m hm)
  | [], _, h, _, _ => by simp at h
theorem bulk_all {H : Type} : ∀ (ds : List (DataW H)), Rows.uptoBulkAll ds = (ds.map Rows.uptoBulk).sum
  | [] => rfl
  | d :: r => by rw [Rows.uptoBulkAll, bulk_all r]; rfl
theorem nat_sum_le {α : Type} (f g : α → Nat) : ∀ (l : List α), (∀ x ∈ l, f x ≤ g x) → (l.map f).sum ≤ (l.map g).sum
  | [], _ => Nat.le_refl _
  | x :: l, h => by
    have h1 := h x (List.mem_cons_self ..)
    have h2 := nat_sum_le f g l (fun y hy => h y (List.mem_cons_of_mem _ hy))
    simp only [List.map_cons, List.sum_cons]
    omega
set_option maxRecDepth 100000 in
set_option maxHeartbeats 1000000 in
theorem lifted (os : Os) (started : os.Started) (H : Type) (enc : TypeId × Value → H) (F : Stop.Interp) :
    ReturnsInHanded {} Try.checked os 5 .any ((Rows.OpenSpec.upto Rows.flowTellsSpec).pre6 enc Try.prog Try.f5 Rows.flowTellsUptoRow.domain false) (((Rows.OpenSpec.upto Rows.flowTellsSpec).at F).post enc Try.prog Try.f5 false true false false) := by
  refine returnsInHanded_of_cond_sized (C := Try.checked) (s := Rows.OpenSpec.upto Rows.flowTellsSpec) (k := Rows.uptoSmall) rfl own started (by kernel_rfl) Try.func5
    (OpenSpec.witness (enc := enc) (C := Try.checked) (s := Rows.OpenSpec.upto Rows.flowTellsSpec) (k := Rows.uptoSmall) rfl false ⟨#[], #[.slice none 0 0, .int .i64 0, .int .i64 0], []⟩ 8 (by kernel_rfl) (by kernel_rfl) (by kernel_rfl)
      (x := ([.nil, .lit (.int .i64 0), .lit (.int .i64 0)], [], [])) (by kernel_rfl) rfl (by kernel_rfl)) ?_
  intro W base args ds gs before hval0 hW hcnd hk0 hsz0 _
  have hsz : (DataW.weightsEach Try.prog (Try.f5.params.toList ++ (Rows.OpenSpec.upto Rows.flowTellsSpec).bare.plain.varTypes Try.prog) (ds ++ gs)).all (· ≤ reachBytes) = true := hsz0
  have hval : ∀ (j : Nat) t v, Try.f5.params[j]? = some t → args[j]? = some v → Value.okWide Try.prog W .any base t v := hval0
  have hW' := hW
  obtain ⟨p, q, hA0, hV, rfl, hfz, hnd⟩ := hW
  have hA : DataW.TrodAll enc Try.prog W 0 (fun _ => true) true Try.f5.params.toList args.toList ds p := hA0
  rw [Try.params5] at hA hval hsz
  obtain ⟨v0, vs0, d0, ds0, p0, q0, hargs, rfl, rfl, h0, r0⟩ := trodAll_cons hA
  obtain ⟨v1, vs1, d1, ds1, p1, q1, rfl, rfl, rfl, h1, r1⟩ := trodAll_cons r0
  obtain ⟨v2, vs2, d2, ds2, p2, q2, rfl, rfl, rfl, h2, r2⟩ := trodAll_cons r1
  obtain ⟨rfl, rfl, rfl⟩ := trodAll_nil r2
  obtain rfl : args = #[v0, v1, v2] := by cases args; simp_all
  obtain ⟨rfl, rfl⟩ := trodVars_none hV
  have hbk : Rows.uptoBulkAll ([d0, d1, d2] : List (DataW H)) ≤ 1048576 := of_decide_eq_true (by (first | exact hk0 | (simp only [List.append_nil, List.nil_append] at hk0; exact hk0)))
  simp only [Rows.uptoBulkAll] at hbk
  have k0 := h0
  have lt0 : ∀ x ∈ p0, x.block < W.heap.size := by obtain ⟨m, hm⟩ := k0; exact DataW.trod_lt m _ _ _ hm
  obtain ⟨A0, l0, c0, rfl, hr0, hc0, y0, z0, b0⟩ : ∃ (A : Option Addr) (l : List S34) (c : Nat), v0 = .slice A l.length c ∧ Kd.C k34 W A l.length l ∧ l.length ≤ c ∧ l.length * 24 ≤ 140737488351232 ∧ (∀ x ∈ l, (Lit.int .i64 x.f0).wf = true ∧ x.f1.size ≤ 140737488351232) ∧ (l.map fun x => x.f1.size).sum ≤ Rows.uptoBulk d0 := by
    obtain ⟨a_, len_, cap_, rfl⟩ := okWide_slice Try.underlying22 (hval 0 22 v0 rfl rfl)
    obtain ⟨fuel, hf⟩ := h0
    rcases Go.Deep.open_slice_pairs Try.underlying22 Try.underlying34 (by kernel_rfl) rfl rfl (by kernel_rfl) (by kernel_rfl) hf with ⟨hcs, hx⟩ | ⟨a, len, cap, m, nn, V0, V1, D0, D1, P0, P1, hcs, hb0, hl, hm, hmm, hx, hcell⟩
    · simp [Value.cells] at hcs
      obtain ⟨rfl, rfl, rfl⟩ := hcs
      exact ⟨none, [], 0, rfl, Kd.C_nil _ _, Nat.le_refl _, by simp, by simp, by simp⟩
    · simp [Value.cells] at hcs
      obtain ⟨rfl, rfl, rfl⟩ := hcs
      have hmm' : m = cap_ := by rw [hmm]; simp
      subst hmm'
      have each : ∀ i, i < m → ∃ x : S34, V0 i = .int .i64 x.f0 ∧ V1 i = .string x.f1 ∧ D0 i = .lit (.int .i64 x.f0) ∧ D1 i = .lit (.string x.f1.data.toList) ∧ (Lit.int .i64 x.f0).wf = true := by
        intro i hi
        obtain ⟨_, _, t0, t1⟩ := hcell i hi
        obtain ⟨a0, e0, x0, w0⟩ := DataW.trod_int Try.underlying3 t0
        obtain ⟨a1, e1, x1, m1⟩ := DataW.trod_string Try.underlying9 t1
        refine ⟨⟨a0, a1⟩, by simpa using e0, by simpa using e1, ?_, ?_, w0⟩
        · exact (Prod.mk.inj x0).1
        · exact (Prod.mk.inj x1).1
      obtain ⟨f, hf'⟩ : ∃ f : Nat → S34, ∀ i, i < m → V0 i = .int .i64 (f i).f0 ∧ V1 i = .string (f i).f1 ∧ D0 i = .lit (.int .i64 (f i).f0) ∧ D1 i = .lit (.string (f i).f1.data.toList) ∧ (Lit.int .i64 (f i).f0).wf = true := ⟨fun i => if h : i < m then (each i h).choose else ⟨0, ⟨#[]⟩⟩, fun i hi => by simp only [hi, dif_pos]; exact (each i hi).choose_spec⟩
      have hlen : ((List.range len_).map f).length = len_ := by simp
      have hd : d0 = .slice ((List.range len_).map fun i => .agg [D0 i, D1 i]) ((List.range (m - len_)).map fun j => .agg [D0 (len_ + j), D1 (len_ + j)]) := (Prod.mk.inj hx).1
      have hbig : (len_ + (m - len_)) * 24 ≤ 140737488351232 := by
        have z := sized_slice hsz (j := 0) (t := 22) (elems := (List.range len_).map fun i => .agg [D0 i, D1 i]) (spare := (List.range (m - len_)).map fun j => .agg [D0 (len_ + j), D1 (len_ + j)]) rfl (by simp only [← hd]; rfl) Try.underlying22
        rw [List.length_map, List.length_range, List.length_map, List.length_range, show Try.prog.bytesOf 34 = 24 by kernel_rfl] at z
        exact z
      refine ⟨_, (List.range len_).map f, m, by rw [hlen], ?_, by rw [hlen]; exact hl, by rw [hlen]; omega, ?_, ?_⟩
      · rw [hlen]
        refine ⟨hlen, by unfold maxLen at hm; omega, fun hn => ⟨a, rfl, fun j x hx_ => ?_⟩⟩
        obtain ⟨hjl, hjx⟩ := List.getElem?_eq_some_iff.1 hx_
        have hj : j < len_ := by rw [hlen] at hjl; exact hjl
        obtain rfl : f j = x := by simpa using hjx
        obtain ⟨b0, b1, _, _⟩ := hcell j (by omega)
        obtain ⟨e0, e1, _, _, _⟩ := hf' j (by omega)
        rw [e0] at b0
        rw [e1] at b1
        refine ⟨[.int .i64 (f j).f0, .string (f j).f1], rfl, k34_mk W (f j), fun i u hu => ?_⟩
        match i, hu with
        | 0, hu => obtain rfl := Option.some.inj hu; exact b0
        | 1, hu => obtain rfl := Option.some.inj hu; exact b1
        | n + 2, hu => simp at hu
      · intro x hx_
        obtain ⟨j, hj, rfl⟩ := List.mem_map.1 hx_
        have hj' : j < len_ := List.mem_range.1 hj
        obtain ⟨_, _, e0, e1, hw⟩ := hf' j (by omega)
        refine ⟨hw, ?_⟩
        have z := w_each hsz (j := 0) (t := 22) rfl rfl (f j).f1.size (by
          rw [hd]
          simp only [DataW.weights, Try.underlying22]
          refine List.mem_cons_of_mem _ (List.mem_append_left _ (w_all (d := .agg [D0 j, D1 j]) (List.mem_map.2 ⟨j, hj, rfl⟩) _ ?_))
          simp only [DataW.weights, Try.underlying34, e0, e1]
          simp [DataW.weightsEach, DataW.weights])
        exact z
      · rw [hd, Rows.uptoBulk, bulk_all, List.map_map, List.map_map]
        have z := nat_sum_le (fun j => (f j).f1.size) (Rows.uptoBulk ∘ fun i => (DataW.agg [D0 i, D1 i] : DataW H)) (List.range len_) (fun j hj => by
          have hj' : j < len_ := List.mem_range.1 hj
          obtain ⟨_, _, e0, e1, hw⟩ := hf' j (by omega)
          simp only [Function.comp, Rows.uptoBulk, Rows.uptoBulkAll, e0, e1]
          have : (f j).f1.data.toList.length = (f j).f1.size := by rw [Array.length_toList]; rfl
          omega)
        refine Nat.le_trans (Nat.le_of_eq ?_) (Nat.le_trans z (by omega))
        rfl
  obtain ⟨a1, rfl, rfl, rfl, w1⟩ := open_int Try.underlying3 (hval 1 3 v1 rfl rfl) h1
  obtain ⟨a2, rfl, rfl, rfl, w2⟩ := open_int Try.underlying3 (hval 2 3 v2 rfl rfl) h2
  have hbulk : (l0.map fun x => x.f1.size).sum ≤ 1048576 := by
    omega
  obtain ⟨k, h⟩ := (Pure.FlowTells : copperplatelaw19_FlowTells.PureUp) l0 a1 a2 y0 z0 w1 w2 hbulk
  clear hA0 hval0 hsz0 hsz
  refine (copperplatelaw19_FlowTells.calls k A0 c0 l0 a1 a2 true W hr0 hc0 h rfl).mono fun e W' ⟨he, hd⟩ => ?_
  have bel : Below W.heap.size W W' := hd
  subst he
  exact ⟨_, rfl, _, _, _, [], _, [], hW', trodAll_mk1 (shut_bool Try.underlying4 _), (trodAll_cons_mk (Below.trod laidOut (by kernel_rfl) (of_decide_eq_true (by kernel_rfl)) k0 bel lt0) (trodAll_cons_mk (shut_int Try.underlying3 w1) (trodAll_cons_mk (shut_int Try.underlying3 w2) trodAll_mk0))), rfl, bel.frame _, fun h => by cases h⟩
theorem over : Rows.flowTellsUptoRow.holds Try.pinned (Rows.OpenSpec.upto Rows.flowTellsSpec) :=
  OpenClaim.holds_of_cond 5 Try.f5 rfl rfl rfl rfl rfl rfl rfl ⟨rfl, rfl, rfl, rfl, rfl⟩ rfl rfl rfl rfl rfl (by kernel_rfl) Try.func5 (by kernel_rfl)
    (of_decide_eq_true (by kernel_rfl)) (by unfold Func.isWrapper; first | (rw [if_pos (by decide +kernel)]; kernel_rfl) | (rw [if_neg (by decide +kernel)]; exact ⟨rfl, rfl⟩))
    (fun os started H enc _ F => lifted os started H enc F)
theorem proved : Rows.FlowTellsUptoSaid := over
#print axioms proved
end Go.Proofs.Ytkhlfdoeploddaa.flowTellsUpto
namespace Go.Proofs.Ytkhlfdoeploddaa
/-- The row, under a short name, for the claim. -/
theorem flowTellsUpto_holds : Rows.FlowTellsUptoSaid := flowTellsUpto.proved
end Go.Proofs.Ytkhlfdoeploddaa
