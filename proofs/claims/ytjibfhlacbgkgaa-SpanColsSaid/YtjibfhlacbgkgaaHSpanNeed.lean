import Derived.Test.YtjibfhlacbgkgaaHSpanMatchM
import Derived.Test.YtjibfhlacbgkgaaHSpanColsF
import Derived.Test.YtjibfhlacbgkgaaHSpanFlat
import Derived.Test.YtjibfhlacbgkgaaPSpanx4
namespace Go.Proofs.Ytjibfhlacbgkgaa.PSpan
open Go.RowKit Go.Shelf Go.Proofs.YtjibfhlacbgkgaaW.PrintWords Go.Proofs.YtjibfhlacbgkgaaW.PrintMore
attribute [local go_sem] Oper.semAt_some
set_option linter.unusedVariables false
set_option linter.unusedSimpArgs false

theorem breaks_f (m : Int) (s : ByteArray) : span_Breaks.f m s = some (brB m) := by
  unfold span_Breaks.f brB
  by_cases h2 : m = 2
  · subst h2; rfl
  by_cases h3 : m = 3
  · subst h3; rfl
  by_cases h4 : m = 4
  · subst h4; rfl
  rw [if_neg h2, if_neg h3, if_neg h4]
  simp [h2, h3, h4]
def span_Need.f (l0 : List S23) (a1 : Int) : Option Int := if l0.length ≤ 17592186044416 ∧ small33 l0 then some (needOf l0 a1) else none
def sumN (l : List S23) (M : Int) (pre : List (Pl l)) : Int := pre.foldl (fun n x => wrap64 (n + addN l M x.1)) 0
theorem sumN_snoc (l : List S23) (M : Int) (pre : List (Pl l)) (x : Pl l) : sumN l M (pre ++ [x]) = wrap64 (sumN l M pre + addN l M x.1) := by simp [sumN]
theorem wsp64 (n : Int) : IntKind.i64.wrap n = wrap64 n := by unfold wrap64; exact IntKind.wrap_i64 n
theorem wrap_wrap (x : Int) : wrap64 (wrap64 x) = wrap64 x := by unfold wrap64; omega
theorem sumN_wrap (l : List S23) (M : Int) (pre : List (Pl l)) : wrap64 (sumN l M pre) = sumN l M pre := by
  have key : ∀ (p : List (Pl l)) (n : Int), wrap64 n = n → wrap64 (p.foldl (fun n x => wrap64 (n + addN l M x.1)) n) = p.foldl (fun n x => wrap64 (n + addN l M x.1)) n := by
    intro p
    induction p with
    | nil => intro n h; exact h
    | cons x p ih => intro n _; exact ih _ (wrap_wrap _)
  exact key pre 0 (by unfold wrap64; omega)
theorem rd_mem (l : List S23) (j : Nat) (h : j < l.length) : rd_T23 l (j : Int) ∈ l := by
  unfold rd_T23
  rw [Int.toNat_natCast, List.getD_eq_getElem?_getD, List.getElem?_eq_getElem h]
  exact List.getElem_mem h
def goN (l : List S23) (M : Int) (pre : List (Pl l)) : Prop := ∀ y ∈ pre, brkN l M y.1 = false ∧ retN l M y.1 = false
theorem goN_snoc {l : List S23} {M : Int} {pre : List (Pl l)} {x : Pl l} (h : goN l M pre) (h1 : brkN l M x.1 = false) (h2 : retN l M x.1 = false) : goN l M (pre ++ [x]) := by
  intro y hy
  rcases List.mem_append.1 hy with h3 | h3
  · exact h y h3
  · obtain rfl := List.mem_singleton.1 h3
    exact ⟨h1, h2⟩
theorem needRun_seg (l : List S23) (M : Int) (a : Nat) : ∀ (m : Nat) (hm : a + m ≤ l.length) (d : Nat), m ≤ d → goN l M (seg l a m hm) → needRun l M d a 0 = needRun l M (d - m) (a + m) (sumN l M (seg l a m hm))
  | 0, _, d, _, _ => by simp [sumN, seg]
  | m + 1, hm, d, hd, hg => by
    rw [seg] at hg ⊢
    rw [needRun_seg l M a m (by omega) d (by omega) (fun y hy => hg y (List.mem_append.2 (.inl hy))), sumN_snoc]
    obtain ⟨h1, h2⟩ := hg ⟨a + m, by omega⟩ (by simp)
    dsimp only at h1 h2 ⊢
    rw [show d - m = (d - (m + 1)) + 1 by omega, needRun, h1, h2]
    rfl
theorem match_range {l : List S23} {i : Int} (h : ¬ matchOf l i < 0) : 0 ≤ i ∧ i < l.length := by
  refine Classical.byContradiction fun hn => h ?_
  unfold matchOf
  rw [if_pos (by omega)]
  omega

theorem flatOf_size (m : Int) (s : ByteArray) (h : s.size ≤ 140737488355328) : (flatOf m s).1.size ≤ 4611686018427387904 := by
  unfold flatOf
  (repeat' split) <;> first | (dsimp only; omega) | (show _ ≤ _; decide)
/-- What lies in the frame's boxes. -/
structure NF (M n : Int) (B C : Nat) (W : World) : Prop where
  m : W.cell? ⟨C, 0, none⟩ = some (.int .i64 M)
  n : W.cell? ⟨C + 1, 0, none⟩ = some (.int .i64 n)
  nf : W.frozen? ⟨C + 1, 0, none⟩ = false
  b : W.cell? ⟨B, 0, none⟩ = some (.int .i64 0)
  bf : W.frozen? ⟨B, 0, none⟩ = false
  size : C + 4 ≤ W.heap.size
theorem NF.kept {M n : Int} {B C : Nat} {W W' : World} {row : Option Nat} (h : NF M n B C W) (hg : W.grownBy W' row) (hr : ∀ r, row = some r → ∃ o : Obj, W.heap[r]? = some o ∧ o.isCells = false) : NF M n B C W' :=
  ⟨Go.cell_kept h.m hg hr, Go.cell_kept h.n hg hr, (Go.frozen_kept h.n hg hr).trans h.nf, Go.cell_kept h.b hg hr, (Go.frozen_kept h.b hg hr).trans h.bf, Nat.le_trans h.size hg.size⟩
theorem NF.below {M n : Int} {B C : Nat} {W W' : World} (h : NF M n B C W) (hb : Below W.heap.size W W') : NF M n B C W' := h.kept (grown_of_below hb none) (fun r e => by cases e)
theorem NF.set {M n : Int} {B C : Nat} {W : World} (h : NF M n B C W) (hBC : B < C) (n' : Int) : NF M n' B C (W.setCell ⟨C + 1, 0, none⟩ (.int .i64 n')) :=
  ⟨(cell_of_block (a := ⟨C, 0, none⟩) (Below.heap_setCell W ⟨C + 1, 0, none⟩ _ C (by show C ≠ C + 1; omega))).trans h.m, World.cell?_setCell_same' _ _ _ (by rw [h.n]; rfl), by rw [World.frozen?_setCell]; exact h.nf,
    (cell_of_block (a := ⟨B, 0, none⟩) (Below.heap_setCell W ⟨C + 1, 0, none⟩ _ B (by show B ≠ C + 1; omega))).trans h.b, by rw [World.frozen?_setCell]; exact h.bf, by rw [World.size_setCell]; exact h.size⟩
/-- Why it ended early. -/
def NStop (l : List S23) (M : Int) (B C : Nat) (c : Code) (pre : List (Pl l)) (W : World) : Prop := ∃ q x, pre = q ++ [x] ∧ goN l M q ∧
  ((c = .exit 0 ∧ brkN l M x.1 = true ∧ W.cell? ⟨C + 1, 0, none⟩ = some (.int .i64 (sumN l M q)) ∧ W.cell? ⟨B, 0, none⟩ = some (.int .i64 0) ∧ W.frozen? ⟨B, 0, none⟩ = false)
  ∨ (c = .ret ∧ brkN l M x.1 = false ∧ retN l M x.1 = true ∧ W.cell? ⟨B, 0, none⟩ = some (.int .i64 (-1))))
theorem NStop.kept {l : List S23} {M : Int} {B C : Nat} {c : Code} {pre : List (Pl l)} {W W' : World} {row : Option Nat} (h : NStop l M B C c pre W) (hg : W.grownBy W' row) (hr : ∀ r, row = some r → ∃ o : Obj, W.heap[r]? = some o ∧ o.isCells = false) : NStop l M B C c pre W' := by
  obtain ⟨q, x, h1, h2, h3⟩ := h
  refine ⟨q, x, h1, h2, ?_⟩
  rcases h3 with ⟨e, h4, h5, h6, h7⟩ | ⟨e, h4, h5, h6⟩
  · exact .inl ⟨e, h4, Go.cell_kept h5 hg hr, Go.cell_kept h6 hg hr, (Go.frozen_kept h6 hg hr).trans h7⟩
  · exact .inr ⟨e, h4, h5, Go.cell_kept h6 hg hr⟩
theorem need_done {l : List S23} {M : Int} {i : Nat} (hM : matchOf l i = M) (hM0 : ¬ M < 0) (hi : i < l.length) (hg : goN l M (seg l (i + 1) (l.length - (i + 1)) (by omega))) : needOf l i = sumN l M (seg l (i + 1) (l.length - (i + 1)) (by omega)) := by
  unfold needOf
  rw [hM, if_neg hM0, Int.toNat_natCast, needRun_seg l M (i + 1) (l.length - (i + 1)) (by omega) _ (Nat.le_refl _) hg, Nat.sub_self, needRun]
theorem need_stop {l : List S23} {M : Int} {i m : Nat} {hm : i + 1 + m ≤ l.length} (hM : matchOf l i = M) (hM0 : ¬ M < 0) (hi : i < l.length) {q : List (Pl l)} {x : Pl l} (e : q ++ [x] = seg l (i + 1) m hm) (hg : goN l M q) :
    (brkN l M x.1 = true → needOf l i = sumN l M q) ∧ (brkN l M x.1 = false → retN l M x.1 = true → needOf l i = -1) := by
  cases m with
  | zero => exact absurd (congrArg List.length e) (by simp [seg])
  | succ m =>
    rw [seg] at e
    obtain ⟨rfl, e2⟩ := List.append_inj' e rfl
    obtain rfl := (List.cons.inj e2).1
    have h1 : needOf l i = needRun l M (l.length - (i + 1) - m) (i + 1 + m) (sumN l M (seg l (i + 1) m (by omega))) := by
      unfold needOf
      rw [hM, if_neg hM0, Int.toNat_natCast, needRun_seg l M (i + 1) m (by omega) _ (by omega) hg]
    rw [show l.length - (i + 1) - m = (l.length - (i + 1) - m - 1) + 1 by omega, needRun] at h1
    dsimp only
    refine ⟨fun hb => by rw [h1, if_pos hb], fun hb hr => by rw [h1, hb, if_neg (by decide), if_pos hr]⟩

set_option maxRecDepth 100000 in
set_option maxHeartbeats 4000000 in
theorem span_Need.calls (A0 : Option Addr) (c0 : Nat) (l0 : List S23) (a1 : Int) (r : Int) (w : World) (hr0 : Kd.C k23 w A0 l0.length l0) (hc0 : l0.length ≤ c0) (h : span_Need.f l0 a1 = some r) :
    Calls Try.prog 19 #[.slice A0 l0.length c0, .int .i64 a1] w fun e w' => e = .returned (.int .i64 r) ∧ Below w.heap.size w w' := by
  unfold span_Need.f at h
  by_cases hs0 : l0.length ≤ 17592186044416 ∧ small33 l0
  rotate_left
  · rw [if_neg hs0] at h; exact absurd h (by simp)
  rw [if_pos hs0] at h
  obtain ⟨hs, hsm⟩ := hs0
  have HR := Aside0.mk (Option.some.inj h)
  have HSM := Aside0.mk hsm
  clear h hsm
  have hu33 := Try.underlying23
  have hmx : Try.prog.follows .mixedOrders = true := by kernel_rfl
  have HMf := Aside0.mk (show span_Match.f l0 a1 = some (matchOf l0 a1) by unfold span_Match.f; rw [if_pos hs])
  obtain ⟨M, hM⟩ : ∃ M, matchOf l0 a1 = M := ⟨_, rfl⟩
  rw [hM] at HMf
  have HM := Aside0.mk hM
  clear hM
  obtain ⟨B, hB_⟩ : ∃ B, w.heap.size = B := ⟨_, rfl⟩
  have HR0 := Aside0.mk hr0
  clear hr0
  have HB0 := Aside0.mk (show Below w.heap.size w (w.alloc (.cells #[.int .i64 0] 3)) from (Below.refl _ w).alloc (Nat.le_refl _) _)
  have e0 := cell_new_l w (.int .i64 0) 3
  rw [hB_] at e0
  have HE0 := Aside0.mk e0
  clear e0
  refine (callsIn_wide (n := 6)).1 ?_
  refine callsIn_of_wp_marks Try.func19 rfl trivial ?_ rfl
  simp only [Try.ntmps19, List.size_toArray, List.length_cons, List.length_nil, Nat.reduceAdd, Nat.reduceSub, Array.replicate_succ, Array.replicate_zero, List.push_toArray, List.append_toArray, List.nil_append, List.cons_append]
  rw [hB_]
  by_cases n1 : M < 0
  · have d1 : decide (M < 0) = true := decide_eq_true n1
    have N1 := Aside0.mk n1
    clear n1
    gi_wp2_with (refine ⟨trivial, ?_⟩; gi_at_call 17; refine (callsIn_wide.2 (span_Match.calls A0 c0 l0 a1 M _ (Kd.C_below HR0.out HB0.out) hc0 HMf.out)).mono ?_; rintro e w1 ⟨rfl, hb1⟩; have k1 := Go.cell_kept HE0.out.1 (grown_of_below hb1 none) (fun r e => by cases e); have k1f := (Go.frozen_kept HE0.out.1 (grown_of_below hb1 none) (fun r e => by cases e)).trans HE0.out.2; have k2 := cell_alloc_l (.cells #[.int .i64 M] 3) k1; have k2f := frozen_alloc_l (.cells #[.int .i64 M] 3) k1 k1f; have HB1 := Aside0.mk (HB0.out.trans (hb1.mono (by simp))); clear hb1)
    have e1 := cell_new_l w1 (.int .i64 M) 3
    refine ⟨.int .i64 (-1), ?_, by rw [← HR.out]; unfold needOf; rw [HM.out, if_pos N1.out], ?_⟩
    · have hw := World.cell?_setCell_same' (w1.alloc (.cells #[.int .i64 M] 3)) ⟨B, 0, none⟩ (.int .i64 (-1)) (by rw [k2]; rfl)
      simp [results, Try.f19, go_sem, hw]
    · have hb2 : Below B w (w1.alloc (.cells #[.int .i64 M] 3)) := by rw [← hB_]; exact HB1.out.alloc HB1.out.size _
      exact hb2.setCell (p := ⟨B, 0, none⟩) (Nat.le_refl _) _
  · have d1 : decide (M < 0) = false := decide_eq_false n1
    have N1 := Aside0.mk n1
    clear n1
    obtain ⟨i, rfl⟩ := Int.eq_ofNat_of_zero_le (match_range (by rw [HM.out]; exact N1.out)).1
    have hi : i < l0.length := by have := (match_range (l := l0) (i := (i : Int)) (by rw [HM.out]; exact N1.out)).2; omega
    gi_wp2_with (first | (refine ⟨trivial, ?_⟩; gi_at_call 17; refine (callsIn_wide.2 (span_Match.calls A0 c0 l0 (i : Int) M _ (Kd.C_below HR0.out HB0.out) hc0 HMf.out)).mono ?_; rintro e w1 ⟨rfl, hb1⟩; have k1 := Go.cell_kept HE0.out.1 (grown_of_below hb1 none) (fun r e => by cases e); have k1f := (Go.frozen_kept HE0.out.1 (grown_of_below hb1 none) (fun r e => by cases e)).trans HE0.out.2; have HB1 := Aside0.mk (HB0.out.trans (hb1.mono (by simp))); clear hb1) | (refine ⟨trivial, ?_⟩; gi_at_call 26; refine (behind_in Fence.wide _ trivial rfl _ _ _ _ _).mono ?_; rintro e w' ⟨rfl, rfl⟩))
    obtain ⟨C, hC_⟩ : ∃ C, w1.heap.size = C := ⟨_, rfl⟩
    rw [hC_]
    have e1 := cell_new_l w1 (.int .i64 M) 3
    have e2 := cell_new_l (w1.alloc (.cells #[.int .i64 M] 3)) (.int .i64 0) 3
    have e3 := cell_new_l ((w1.alloc (.cells #[.int .i64 M] 3)).alloc (.cells #[.int .i64 0] 3)) (.slice A0 l0.length c0) 24
    have e4 := cell_new_l (((w1.alloc (.cells #[.int .i64 M] 3)).alloc (.cells #[.int .i64 0] 3)).alloc (.cells #[.slice A0 l0.length c0] 24)) (.int .i64 (i : Int)) 3
    simp only [World.size_alloc, hC_] at e1 e2 e3 e4
    have hBC : B < C := by have := World.block_lt_of_cell? w1 _ k1; rw [hC_] at this; exact this
    have hB4 : Below w.heap.size w ((((w1.alloc (.cells #[.int .i64 M] 3)).alloc (.cells #[.int .i64 0] 3)).alloc (.cells #[.slice A0 l0.length c0] 24)).alloc (.cells #[.int .i64 (i : Int)] 3)) := by
      have h0 : w.heap.size ≤ w1.heap.size := HB1.out.size
      exact (((HB1.out.alloc h0 _).alloc (by simp; omega) _).alloc (by simp; omega) _).alloc (by simp; omega) _
    have hsz4 : (((((w1.alloc (.cells #[.int .i64 M] 3)).alloc (.cells #[.int .i64 0] 3)).alloc (.cells #[.slice A0 l0.length c0] 24)).alloc (.cells #[.int .i64 (i : Int)] 3))).heap.size = C + 4 := by simp only [World.size_alloc, hC_]
    have hS : ∀ k, (k < B ∨ k = C + 1 + 1 ∨ k = C + 1 + 1 + 1) → k < (((((w1.alloc (.cells #[.int .i64 M] 3)).alloc (.cells #[.int .i64 0] 3)).alloc (.cells #[.slice A0 l0.length c0] 24)).alloc (.cells #[.int .i64 (i : Int)] 3))).heap.size := by rw [hsz4]; intro k hk; omega
    have hAd : ∀ ad, A0 = some ad → ad.block < B := by
      intro ad e
      subst e
      obtain ⟨ad', e', hx0, _⟩ := at_T23 HR0.out (i : Int) (by omega) (by omega)
      cases e'
      have := World.block_lt_of_cell? w _ hx0; rw [add_block_, hB_] at this; exact this
    refine wpIn_rangeFunc_ownH rfl (by omega) (gf := 32) (lb := #[.pointer (some ⟨C + 1 + 1 + 1, 0, none⟩), .pointer (some ⟨C + 1 + 1, 0, none⟩)]) rfl trivial (enters_of Try.func32 (by kernel_rfl) rfl)
      (behind_stops _ (by omega) (C + 1 + 1) (C + 1 + 1 + 1) (fun k => k < B ∨ k = C + 1 + 1 ∨ k = C + 1 + 1 + 1) A0 c0 l0 hs i hi _ (.inr (.inl rfl)) (.inr (.inr rfl)) hS (fun ad e => .inl (hAd ad e)) (Kd.C_below HR0.out hB4) (cell_alloc_l _ e3.1) e4.1)
      (fun h k => KS.trans h k) (fun W l o o' hl => KS.putObj (n := C + 4) (by intro k hk; omega) W l o o' (by rw [hsz4] at hl; exact hl)) (Below.refl _ _) (fun _ => rfl)
      (fun pre W => (goN l0 M pre ∧ NF M (sumN l0 M pre) B C W) ∧ Below B w W)
      (fun c pre W => NStop l0 M B C c pre W ∧ Below B w W)
      (OwnFrom.and (Own.from (fun s A B row hs hg hr => ⟨hs.1, hs.2.kept hg hr⟩) _) (ownFrom_below (by omega) (by rw [hsz4]; omega)))
      (fun c => OwnFrom.and (Own.from (fun s A B row hs hg hr => hs.kept hg hr) _) (ownFrom_below (by omega) (by rw [hsz4]; omega)))
      ⟨⟨by intro y hy; simp at hy, ⟨cell_alloc_l _ (cell_alloc_l _ (cell_alloc_l _ e1.1)), cell_alloc_l _ (cell_alloc_l _ e2.1), frozen_alloc_l _ (cell_alloc_l _ e2.1) (frozen_alloc_l _ e2.1 e2.2), cell_alloc_l _ (cell_alloc_l _ (cell_alloc_l _ (cell_alloc_l _ k1))), frozen_alloc_l _ (cell_alloc_l _ (cell_alloc_l _ (cell_alloc_l _ k1))) (frozen_alloc_l _ (cell_alloc_l _ (cell_alloc_l _ k1)) (frozen_alloc_l _ (cell_alloc_l _ k1) (frozen_alloc_l _ k1 k1f))), by rw [hsz4]; omega⟩⟩, by rw [← hB_]; exact hB4⟩
      (fun x a' W => ∃ P, C + 4 ≤ P ∧ a' = { tmps := #[.slice A0 l0.length c0, .int .i64 (i : Int), undef, undef, .pointer (some ⟨B, 0, none⟩), .pointer (some ⟨C, 0, none⟩), .pointer (some ⟨C + 1, 0, none⟩), .int .i64 (x.1 : Int), .pointer (some ⟨P, 0, none⟩), undef, undef, .slice A0 l0.length c0, .int .i64 (i : Int), .int .i64 M, .int .i64 M, .bool false, .slice A0 l0.length c0, .int .i64 (i : Int), .func (.func 32) #[] #[.pointer (some ⟨C + 1 + 1 + 1, 0, none⟩), .pointer (some ⟨C + 1 + 1, 0, none⟩)], .int .i64 (x.1 : Int), .agg #[.int .i64 (rd_T23 l0 (x.1 : Int)).f0, .string (rd_T23 l0 (x.1 : Int)).f1], undef, undef, undef, undef, undef, undef, undef, undef, undef, undef, undef, undef, undef, undef, undef, undef, undef, undef, undef, undef, undef, undef, undef, undef, undef, undef, undef, undef, undef, undef, undef, undef, undef, undef, undef, undef, undef], defers := [] } ∧ W.cell? ⟨P, 0, none⟩ = some (.int .i64 (rd_T23 l0 (x.1 : Int)).f0) ∧ W.cell? ⟨P, 1, none⟩ = some (.string (rd_T23 l0 (x.1 : Int)).f1))
      (fun x a' => Own.from (fun s A B row hs hg hr => by obtain ⟨P, h1, h2, h3, h4⟩ := hs; exact ⟨P, h1, h2, Go.cell_kept h3 hg hr, Go.cell_kept h4 hg hr⟩) _) ?assign ?body ?done ?stop
    case assign =>
      intro l pre x W K hI hK
      dsimp only [encB]
      gi_wp2
      obtain ⟨⟨hgo, hnf⟩, hB⟩ := hI
      have hsz := hnf.size
      refine hK _ _ (KeepsFrom.of_grownBy (World.grownBy_alloc W _ none) (by simp)) (KS.below (by intro k hk; omega) ((Below.refl _ W).alloc (Nat.le_refl _) _)) ⟨⟨hgo, hnf.below ((Below.refl _ W).alloc (Nat.le_refl _) _)⟩, hB.alloc (by omega) _⟩ ⟨W.heap.size, by omega, rfl, ?_, ?_⟩
      · rw [World.cell?_alloc_new]; rfl
      · rw [World.cell?_alloc_new]; rfl
    case body =>
      rintro l pre ⟨j, hj⟩ a' W hl _ ⟨⟨hgo, hnf⟩, hB⟩ ⟨P, hP, rfl, p0, p1⟩ hlen
      dsimp only at p0 p1 ⊢
      have hsz := HSM.out _ (rd_mem l0 j hj)
      obtain ⟨u, hu⟩ : ∃ u, (rd_T23 l0 (j : Int)).f0 = u := ⟨_, rfl⟩
      obtain ⟨s, hs'⟩ : ∃ s, (rd_T23 l0 (j : Int)).f1 = s := ⟨_, rfl⟩
      have hadd : addN l0 M j = if (j : Int) < M ∨ u = 0 ∨ u = 1 then colsOf (flatOf u s).1 else 0 := by unfold addN; rw [hu, hs']
      have hbr : brkN l0 M j = (decide (M < (j : Int)) && brB u) := by unfold brkN; rw [hu]
      have hre : retN l0 M j = (decide ((j : Int) < M) && !(flatOf u s).2) := by unfold retN; rw [hu, hs']
      rw [hs'] at hsz
      have hvs := flatOf_size u s hsz
      rw [hu] at p0 ⊢
      rw [hs'] at p1 ⊢
      clear hu hs' hsz k1 k1f
      obtain ⟨v, is, hfl⟩ : ∃ v is, flatOf u s = (v, is) := ⟨_, _, rfl⟩
      rw [hfl] at hadd hre hvs
      dsimp only at hadd hre hvs
      have HF := Aside0.mk (show span_Flat.f u s = some (v, is) by unfold span_Flat.f; rw [hfl])
      have HBR := Aside0.mk (breaks_f u s)
      clear hfl
      obtain ⟨n, hn⟩ : ∃ n, sumN l0 M pre = n := ⟨_, rfl⟩
      have hnw := sumN_wrap l0 M pre
      have hsn := sumN_snoc l0 M pre ⟨j, hj⟩
      rw [hn] at hnf hnw hsn
      have HNF := Aside0.mk hnf
      have HBX := Aside0.mk (Below.refl W.heap.size W)
      have HP0 := Aside0.mk p0
      have HP1 := Aside0.mk p1
      have q1 := hnf.m
      have q2 := hnf.n
      have q3 := hnf.nf
      have q4 := hnf.b
      have q5 := hnf.bf
      have hWB : B ≤ W.heap.size := by have := hnf.size; omega
      -- the ways out
      have FB := Aside0.mk (show ∀ W3, Below W.heap.size W W3 → NF M n B C W3 → brkN l0 M j = true → (∀ B', KeepsFrom B' W W3) ∧ NStop l0 M B C (.exit 0) (pre ++ [⟨j, hj⟩]) W3 ∧ Below B w W3 from fun W3 h1 h2 h3 =>
        ⟨fun B' => KeepsFrom.of_grownBy (grown_of_below h1 none) (by simp), ⟨pre, ⟨j, hj⟩, rfl, hgo, .inl ⟨rfl, h3, by rw [hn]; exact h2.n, h2.b, h2.bf⟩⟩, hB.trans (h1.mono hWB)⟩)
      have FR := Aside0.mk (show ∀ W3, Below W.heap.size W W3 → NF M n B C W3 → brkN l0 M j = false → retN l0 M j = true → (∀ B', KeepsFrom B' W (W3.setCell ⟨B, 0, none⟩ (.int .i64 (-1)))) ∧ NStop l0 M B C .ret (pre ++ [⟨j, hj⟩]) (W3.setCell ⟨B, 0, none⟩ (.int .i64 (-1))) ∧ Below B w (W3.setCell ⟨B, 0, none⟩ (.int .i64 (-1))) from fun W3 h1 h2 h3 h4 =>
        ⟨fun B' => (KeepsFrom.of_grownBy (grown_of_below h1 none) (by simp)).trans ((KeepsOthers.setCell _ _ _).from _), ⟨pre, ⟨j, hj⟩, rfl, hgo, .inr ⟨rfl, h3, h4, World.cell?_setCell_same' _ _ _ (by rw [h2.b]; rfl)⟩⟩, (hB.trans (h1.mono hWB)).setCell (p := ⟨B, 0, none⟩) (Nat.le_refl _) _⟩)
      have FN := Aside0.mk (show ∀ W3 c, Below W.heap.size W W3 → NF M n B C W3 → brkN l0 M j = false → retN l0 M j = false → addN l0 M j = c →
          (∀ B', KeepsFrom B' W (W3.setCell ⟨C + 1, 0, none⟩ (.int .i64 (wrap64 (n + c))))) ∧ KS (fun k => k < B ∨ k = C + 1 + 1 ∨ k = C + 1 + 1 + 1) W (W3.setCell ⟨C + 1, 0, none⟩ (.int .i64 (wrap64 (n + c)))) ∧ (goN l0 M (pre ++ [⟨j, hj⟩]) ∧ NF M (sumN l0 M (pre ++ [⟨j, hj⟩])) B C (W3.setCell ⟨C + 1, 0, none⟩ (.int .i64 (wrap64 (n + c))))) ∧ Below B w (W3.setCell ⟨C + 1, 0, none⟩ (.int .i64 (wrap64 (n + c)))) from fun W3 c h1 h2 h3 h4 h5 =>
        ⟨fun B' => (KeepsFrom.of_grownBy (grown_of_below h1 none) (by simp)).trans ((KeepsOthers.setCell _ _ _).from _), (KS.below (by have := hnf.size; intro k hk; omega) h1).trans (KS.setCell _ _ _ (by intro k hk; show k ≠ C + 1; omega)), ⟨goN_snoc hgo h3 h4, by rw [hsn, h5]; exact h2.set hBC _⟩, (hB.trans (h1.mono hWB)).setCell (p := ⟨C + 1, 0, none⟩) (by show B ≤ C + 1; omega) _⟩)
      have FZ := Aside0.mk (show ∀ W3, Below W.heap.size W W3 → NF M n B C W3 → brkN l0 M j = false → retN l0 M j = false → addN l0 M j = 0 →
          (∀ B', KeepsFrom B' W W3) ∧ KS (fun k => k < B ∨ k = C + 1 + 1 ∨ k = C + 1 + 1 + 1) W W3 ∧ (goN l0 M (pre ++ [⟨j, hj⟩]) ∧ NF M (sumN l0 M (pre ++ [⟨j, hj⟩])) B C W3) ∧ Below B w W3 from fun W3 h1 h2 h3 h4 h5 =>
        ⟨fun B' => KeepsFrom.of_grownBy (grown_of_below h1 none) (by simp), KS.below (by have := hnf.size; intro k hk; omega) h1, ⟨goN_snoc hgo h3 h4, by rw [hsn, h5, Int.add_zero, hnw]; exact h2⟩, hB.trans (h1.mono hWB)⟩)
      have HAD := Aside0.mk hadd
      have HBK := Aside0.mk hbr
      have HRE := Aside0.mk hre
      have HVS := Aside0.mk hvs
      clear hadd hbr hre hvs hgo hnf hB hn hsn hnw
      by_cases m1 : M < (j : Int)
      · have a1 : decide (M < (j : Int)) = true := decide_eq_true m1
        have a2 : decide ((j : Int) < M) = false := decide_eq_false (by omega)
        cases hbu : brB u with
        | true =>
          rw [hbu] at HBR
          gi_wp2_with (first | (refine ⟨trivial, ?_⟩; gi_at_call 11; refine (CallsIn.inRound l (callsIn_wide.2 (span_Flat.calls u s v is _ HF.out))).mono ?_; rintro e w2 ⟨rfl, hb2⟩; have m0_ := Aside0.mk (HNF.out.below hb2); have m1_ := Aside0.mk (HBX.out.trans (hb2.mono HBX.out.size)); have m2_ := Aside0.mk (Go.cell_kept HP0.out (grown_of_below hb2 none) (fun r e => by cases e)); have m3_ := Aside0.mk (Go.cell_kept HP1.out (grown_of_below hb2 none) (fun r e => by cases e)); clear HNF HBX HP0 HP1; have HNF := m0_; have HBX := m1_; have HP0 := m2_; have HP1 := m3_; clear m0_ m1_ m2_ m3_; have q1 := HNF.out.m; have q2 := HNF.out.n; have q3 := HNF.out.nf; have q4 := HNF.out.b; have q5 := HNF.out.bf; have p0 := HP0.out; have p1 := HP1.out; clear hb2) | (refine ⟨trivial, ?_⟩; gi_at_call 16; refine (CallsIn.inRound l (callsIn_wide.2 (span_Breaks.calls u s true _ HBR.out))).mono ?_; rintro e w2 ⟨rfl, hb2⟩; have m0_ := Aside0.mk (HNF.out.below hb2); have m1_ := Aside0.mk (HBX.out.trans (hb2.mono HBX.out.size)); have m2_ := Aside0.mk (Go.cell_kept HP0.out (grown_of_below hb2 none) (fun r e => by cases e)); have m3_ := Aside0.mk (Go.cell_kept HP1.out (grown_of_below hb2 none) (fun r e => by cases e)); clear HNF HBX HP0 HP1; have HNF := m0_; have HBX := m1_; have HP0 := m2_; have HP1 := m3_; clear m0_ m1_ m2_ m3_; have q1 := HNF.out.m; have q2 := HNF.out.n; have q3 := HNF.out.nf; have q4 := HNF.out.b; have q5 := HNF.out.bf; have p0 := HP0.out; have p1 := HP1.out; clear hb2))
          have hh := FB.out _ HBX.out HNF.out (by rw [HBK.out, a1, hbu]; rfl)
          exact ⟨hh.1 _, hh.2⟩
        | false =>
          rw [hbu] at HBR
          have HK0 := Aside0.mk (show brkN l0 M j = false by rw [HBK.out, hbu, Bool.and_false])
          have HR0_ := Aside0.mk (show retN l0 M j = false by rw [HRE.out, a2, Bool.false_and])
          by_cases u0 : u = 0
          · have c0_ : (u == 0) = true := beq_iff_eq.mpr u0
            have HA := Aside0.mk (show addN l0 M j = colsOf v by rw [HAD.out, if_pos (.inr (.inl u0))])
            clear u0
            gi_wp2_with (first | (refine ⟨trivial, ?_⟩; gi_at_call 11; refine (CallsIn.inRound l (callsIn_wide.2 (span_Flat.calls u s v is _ HF.out))).mono ?_; rintro e w2 ⟨rfl, hb2⟩; have m0_ := Aside0.mk (HNF.out.below hb2); have m1_ := Aside0.mk (HBX.out.trans (hb2.mono HBX.out.size)); have m2_ := Aside0.mk (Go.cell_kept HP0.out (grown_of_below hb2 none) (fun r e => by cases e)); have m3_ := Aside0.mk (Go.cell_kept HP1.out (grown_of_below hb2 none) (fun r e => by cases e)); clear HNF HBX HP0 HP1; have HNF := m0_; have HBX := m1_; have HP0 := m2_; have HP1 := m3_; clear m0_ m1_ m2_ m3_; have q1 := HNF.out.m; have q2 := HNF.out.n; have q3 := HNF.out.nf; have q4 := HNF.out.b; have q5 := HNF.out.bf; have p0 := HP0.out; have p1 := HP1.out; clear hb2) | (refine ⟨trivial, ?_⟩; gi_at_call 16; refine (CallsIn.inRound l (callsIn_wide.2 (span_Breaks.calls u s false _ HBR.out))).mono ?_; rintro e w2 ⟨rfl, hb2⟩; have m0_ := Aside0.mk (HNF.out.below hb2); have m1_ := Aside0.mk (HBX.out.trans (hb2.mono HBX.out.size)); have m2_ := Aside0.mk (Go.cell_kept HP0.out (grown_of_below hb2 none) (fun r e => by cases e)); have m3_ := Aside0.mk (Go.cell_kept HP1.out (grown_of_below hb2 none) (fun r e => by cases e)); clear HNF HBX HP0 HP1; have HNF := m0_; have HBX := m1_; have HP0 := m2_; have HP1 := m3_; clear m0_ m1_ m2_ m3_; have q1 := HNF.out.m; have q2 := HNF.out.n; have q3 := HNF.out.nf; have q4 := HNF.out.b; have q5 := HNF.out.bf; have p0 := HP0.out; have p1 := HP1.out; clear hb2))
            gi_region_with_o (refine ⟨trivial, ?_⟩; gi_at_call 14; refine (CallsIn.inRound l (callsIn_wide.2 (cols_calls v HVS.out _))).mono ?_; rintro e w2 ⟨rfl, hb3⟩; have hb2 := (Below.refl _ _).drew.trans hb3; have m0_ := Aside0.mk (HNF.out.below hb2); have m1_ := Aside0.mk (HBX.out.trans (hb2.mono HBX.out.size)); have m2_ := Aside0.mk (Go.cell_kept HP0.out (grown_of_below hb2 none) (fun r e => by cases e)); have m3_ := Aside0.mk (Go.cell_kept HP1.out (grown_of_below hb2 none) (fun r e => by cases e)); clear HNF HBX HP0 HP1; have HNF := m0_; have HBX := m1_; have HP0 := m2_; have HP1 := m3_; clear m0_ m1_ m2_ m3_; have q1 := HNF.out.m; have q2 := HNF.out.n; have q3 := HNF.out.nf; have q4 := HNF.out.b; have q5 := HNF.out.bf; have p0 := HP0.out; have p1 := HP1.out; clear hb2 hb3)
            all_goals gi_wp2
            all_goals simp only [wsp64]
            all_goals have hh := FN.out _ _ HBX.out HNF.out HK0.out HR0_.out HA.out
            all_goals exact ⟨hh.1 _, hh.2⟩
          have c0_ : (u == 0) = false := beq_eq_false_iff_ne.mpr u0
          by_cases u1 : u = 1
          · have c1_ : (u == 1) = true := beq_iff_eq.mpr u1
            have HA := Aside0.mk (show addN l0 M j = colsOf v by rw [HAD.out, if_pos (.inr (.inr u1))])
            clear u1
            gi_wp2_with (first | (refine ⟨trivial, ?_⟩; gi_at_call 11; refine (CallsIn.inRound l (callsIn_wide.2 (span_Flat.calls u s v is _ HF.out))).mono ?_; rintro e w2 ⟨rfl, hb2⟩; have m0_ := Aside0.mk (HNF.out.below hb2); have m1_ := Aside0.mk (HBX.out.trans (hb2.mono HBX.out.size)); have m2_ := Aside0.mk (Go.cell_kept HP0.out (grown_of_below hb2 none) (fun r e => by cases e)); have m3_ := Aside0.mk (Go.cell_kept HP1.out (grown_of_below hb2 none) (fun r e => by cases e)); clear HNF HBX HP0 HP1; have HNF := m0_; have HBX := m1_; have HP0 := m2_; have HP1 := m3_; clear m0_ m1_ m2_ m3_; have q1 := HNF.out.m; have q2 := HNF.out.n; have q3 := HNF.out.nf; have q4 := HNF.out.b; have q5 := HNF.out.bf; have p0 := HP0.out; have p1 := HP1.out; clear hb2) | (refine ⟨trivial, ?_⟩; gi_at_call 16; refine (CallsIn.inRound l (callsIn_wide.2 (span_Breaks.calls u s false _ HBR.out))).mono ?_; rintro e w2 ⟨rfl, hb2⟩; have m0_ := Aside0.mk (HNF.out.below hb2); have m1_ := Aside0.mk (HBX.out.trans (hb2.mono HBX.out.size)); have m2_ := Aside0.mk (Go.cell_kept HP0.out (grown_of_below hb2 none) (fun r e => by cases e)); have m3_ := Aside0.mk (Go.cell_kept HP1.out (grown_of_below hb2 none) (fun r e => by cases e)); clear HNF HBX HP0 HP1; have HNF := m0_; have HBX := m1_; have HP0 := m2_; have HP1 := m3_; clear m0_ m1_ m2_ m3_; have q1 := HNF.out.m; have q2 := HNF.out.n; have q3 := HNF.out.nf; have q4 := HNF.out.b; have q5 := HNF.out.bf; have p0 := HP0.out; have p1 := HP1.out; clear hb2))
            gi_region_with_o (refine ⟨trivial, ?_⟩; gi_at_call 14; refine (CallsIn.inRound l (callsIn_wide.2 (cols_calls v HVS.out _))).mono ?_; rintro e w2 ⟨rfl, hb3⟩; have hb2 := (Below.refl _ _).drew.trans hb3; have m0_ := Aside0.mk (HNF.out.below hb2); have m1_ := Aside0.mk (HBX.out.trans (hb2.mono HBX.out.size)); have m2_ := Aside0.mk (Go.cell_kept HP0.out (grown_of_below hb2 none) (fun r e => by cases e)); have m3_ := Aside0.mk (Go.cell_kept HP1.out (grown_of_below hb2 none) (fun r e => by cases e)); clear HNF HBX HP0 HP1; have HNF := m0_; have HBX := m1_; have HP0 := m2_; have HP1 := m3_; clear m0_ m1_ m2_ m3_; have q1 := HNF.out.m; have q2 := HNF.out.n; have q3 := HNF.out.nf; have q4 := HNF.out.b; have q5 := HNF.out.bf; have p0 := HP0.out; have p1 := HP1.out; clear hb2 hb3)
            all_goals gi_wp2
            all_goals simp only [wsp64]
            all_goals have hh := FN.out _ _ HBX.out HNF.out HK0.out HR0_.out HA.out
            all_goals exact ⟨hh.1 _, hh.2⟩
          have c1_ : (u == 1) = false := beq_eq_false_iff_ne.mpr u1
          have HA := Aside0.mk (show addN l0 M j = 0 by rw [HAD.out, if_neg (by omega)])
          gi_wp2_with (first | (refine ⟨trivial, ?_⟩; gi_at_call 11; refine (CallsIn.inRound l (callsIn_wide.2 (span_Flat.calls u s v is _ HF.out))).mono ?_; rintro e w2 ⟨rfl, hb2⟩; have m0_ := Aside0.mk (HNF.out.below hb2); have m1_ := Aside0.mk (HBX.out.trans (hb2.mono HBX.out.size)); have m2_ := Aside0.mk (Go.cell_kept HP0.out (grown_of_below hb2 none) (fun r e => by cases e)); have m3_ := Aside0.mk (Go.cell_kept HP1.out (grown_of_below hb2 none) (fun r e => by cases e)); clear HNF HBX HP0 HP1; have HNF := m0_; have HBX := m1_; have HP0 := m2_; have HP1 := m3_; clear m0_ m1_ m2_ m3_; have q1 := HNF.out.m; have q2 := HNF.out.n; have q3 := HNF.out.nf; have q4 := HNF.out.b; have q5 := HNF.out.bf; have p0 := HP0.out; have p1 := HP1.out; clear hb2) | (refine ⟨trivial, ?_⟩; gi_at_call 16; refine (CallsIn.inRound l (callsIn_wide.2 (span_Breaks.calls u s false _ HBR.out))).mono ?_; rintro e w2 ⟨rfl, hb2⟩; have m0_ := Aside0.mk (HNF.out.below hb2); have m1_ := Aside0.mk (HBX.out.trans (hb2.mono HBX.out.size)); have m2_ := Aside0.mk (Go.cell_kept HP0.out (grown_of_below hb2 none) (fun r e => by cases e)); have m3_ := Aside0.mk (Go.cell_kept HP1.out (grown_of_below hb2 none) (fun r e => by cases e)); clear HNF HBX HP0 HP1; have HNF := m0_; have HBX := m1_; have HP0 := m2_; have HP1 := m3_; clear m0_ m1_ m2_ m3_; have q1 := HNF.out.m; have q2 := HNF.out.n; have q3 := HNF.out.nf; have q4 := HNF.out.b; have q5 := HNF.out.bf; have p0 := HP0.out; have p1 := HP1.out; clear hb2))
          have hh := FZ.out _ HBX.out HNF.out HK0.out HR0_.out HA.out
          exact ⟨hh.1 _, hh.2⟩
      · have a1 : decide (M < (j : Int)) = false := decide_eq_false m1
        have HK0 := Aside0.mk (show brkN l0 M j = false by rw [HBK.out, a1, Bool.false_and])
        by_cases m2 : (j : Int) < M
        · have a2 : decide ((j : Int) < M) = true := decide_eq_true m2
          cases is with
          | false =>
            have HR1_ := Aside0.mk (show retN l0 M j = true by rw [HRE.out, a2]; rfl)
            gi_wp2_with (first | (refine ⟨trivial, ?_⟩; gi_at_call 11; refine (CallsIn.inRound l (callsIn_wide.2 (span_Flat.calls u s v false _ HF.out))).mono ?_; rintro e w2 ⟨rfl, hb2⟩; have m0_ := Aside0.mk (HNF.out.below hb2); have m1_ := Aside0.mk (HBX.out.trans (hb2.mono HBX.out.size)); have m2_ := Aside0.mk (Go.cell_kept HP0.out (grown_of_below hb2 none) (fun r e => by cases e)); have m3_ := Aside0.mk (Go.cell_kept HP1.out (grown_of_below hb2 none) (fun r e => by cases e)); clear HNF HBX HP0 HP1; have HNF := m0_; have HBX := m1_; have HP0 := m2_; have HP1 := m3_; clear m0_ m1_ m2_ m3_; have q1 := HNF.out.m; have q2 := HNF.out.n; have q3 := HNF.out.nf; have q4 := HNF.out.b; have q5 := HNF.out.bf; have p0 := HP0.out; have p1 := HP1.out; clear hb2) | (refine ⟨trivial, ?_⟩))
            have hh := FR.out _ HBX.out HNF.out HK0.out HR1_.out
            exact ⟨hh.1 _, hh.2⟩
          | true =>
            have HR0_ := Aside0.mk (show retN l0 M j = false by rw [HRE.out, a2]; rfl)
            have HA := Aside0.mk (show addN l0 M j = colsOf v by rw [HAD.out, if_pos (.inl m2)])
            gi_wp2_with (first | (refine ⟨trivial, ?_⟩; gi_at_call 11; refine (CallsIn.inRound l (callsIn_wide.2 (span_Flat.calls u s v true _ HF.out))).mono ?_; rintro e w2 ⟨rfl, hb2⟩; have m0_ := Aside0.mk (HNF.out.below hb2); have m1_ := Aside0.mk (HBX.out.trans (hb2.mono HBX.out.size)); have m2_ := Aside0.mk (Go.cell_kept HP0.out (grown_of_below hb2 none) (fun r e => by cases e)); have m3_ := Aside0.mk (Go.cell_kept HP1.out (grown_of_below hb2 none) (fun r e => by cases e)); clear HNF HBX HP0 HP1; have HNF := m0_; have HBX := m1_; have HP0 := m2_; have HP1 := m3_; clear m0_ m1_ m2_ m3_; have q1 := HNF.out.m; have q2 := HNF.out.n; have q3 := HNF.out.nf; have q4 := HNF.out.b; have q5 := HNF.out.bf; have p0 := HP0.out; have p1 := HP1.out; clear hb2) | (refine ⟨trivial, ?_⟩))
            gi_region_with_o (refine ⟨trivial, ?_⟩; gi_at_call 14; refine (CallsIn.inRound l (callsIn_wide.2 (cols_calls v HVS.out _))).mono ?_; rintro e w2 ⟨rfl, hb3⟩; have hb2 := (Below.refl _ _).drew.trans hb3; have m0_ := Aside0.mk (HNF.out.below hb2); have m1_ := Aside0.mk (HBX.out.trans (hb2.mono HBX.out.size)); have m2_ := Aside0.mk (Go.cell_kept HP0.out (grown_of_below hb2 none) (fun r e => by cases e)); have m3_ := Aside0.mk (Go.cell_kept HP1.out (grown_of_below hb2 none) (fun r e => by cases e)); clear HNF HBX HP0 HP1; have HNF := m0_; have HBX := m1_; have HP0 := m2_; have HP1 := m3_; clear m0_ m1_ m2_ m3_; have q1 := HNF.out.m; have q2 := HNF.out.n; have q3 := HNF.out.nf; have q4 := HNF.out.b; have q5 := HNF.out.bf; have p0 := HP0.out; have p1 := HP1.out; clear hb2 hb3)
            all_goals gi_wp2
            all_goals simp only [wsp64]
            all_goals have hh := FN.out _ _ HBX.out HNF.out HK0.out HR0_.out HA.out
            all_goals exact ⟨hh.1 _, hh.2⟩
        · have a2 : decide ((j : Int) < M) = false := decide_eq_false m2
          have HR0_ := Aside0.mk (show retN l0 M j = false by rw [HRE.out, a2, Bool.false_and])
          by_cases u0 : u = 0
          · have c0_ : (u == 0) = true := beq_iff_eq.mpr u0
            have HA := Aside0.mk (show addN l0 M j = colsOf v by rw [HAD.out, if_pos (.inr (.inl u0))])
            clear u0
            gi_wp2_with (first | (refine ⟨trivial, ?_⟩; gi_at_call 11; refine (CallsIn.inRound l (callsIn_wide.2 (span_Flat.calls u s v is _ HF.out))).mono ?_; rintro e w2 ⟨rfl, hb2⟩; have m0_ := Aside0.mk (HNF.out.below hb2); have m1_ := Aside0.mk (HBX.out.trans (hb2.mono HBX.out.size)); have m2_ := Aside0.mk (Go.cell_kept HP0.out (grown_of_below hb2 none) (fun r e => by cases e)); have m3_ := Aside0.mk (Go.cell_kept HP1.out (grown_of_below hb2 none) (fun r e => by cases e)); clear HNF HBX HP0 HP1; have HNF := m0_; have HBX := m1_; have HP0 := m2_; have HP1 := m3_; clear m0_ m1_ m2_ m3_; have q1 := HNF.out.m; have q2 := HNF.out.n; have q3 := HNF.out.nf; have q4 := HNF.out.b; have q5 := HNF.out.bf; have p0 := HP0.out; have p1 := HP1.out; clear hb2) | (refine ⟨trivial, ?_⟩))
            gi_region_with_o (refine ⟨trivial, ?_⟩; gi_at_call 14; refine (CallsIn.inRound l (callsIn_wide.2 (cols_calls v HVS.out _))).mono ?_; rintro e w2 ⟨rfl, hb3⟩; have hb2 := (Below.refl _ _).drew.trans hb3; have m0_ := Aside0.mk (HNF.out.below hb2); have m1_ := Aside0.mk (HBX.out.trans (hb2.mono HBX.out.size)); have m2_ := Aside0.mk (Go.cell_kept HP0.out (grown_of_below hb2 none) (fun r e => by cases e)); have m3_ := Aside0.mk (Go.cell_kept HP1.out (grown_of_below hb2 none) (fun r e => by cases e)); clear HNF HBX HP0 HP1; have HNF := m0_; have HBX := m1_; have HP0 := m2_; have HP1 := m3_; clear m0_ m1_ m2_ m3_; have q1 := HNF.out.m; have q2 := HNF.out.n; have q3 := HNF.out.nf; have q4 := HNF.out.b; have q5 := HNF.out.bf; have p0 := HP0.out; have p1 := HP1.out; clear hb2 hb3)
            all_goals gi_wp2
            all_goals simp only [wsp64]
            all_goals have hh := FN.out _ _ HBX.out HNF.out HK0.out HR0_.out HA.out
            all_goals exact ⟨hh.1 _, hh.2⟩
          have c0_ : (u == 0) = false := beq_eq_false_iff_ne.mpr u0
          by_cases u1 : u = 1
          · have c1_ : (u == 1) = true := beq_iff_eq.mpr u1
            have HA := Aside0.mk (show addN l0 M j = colsOf v by rw [HAD.out, if_pos (.inr (.inr u1))])
            clear u1
            gi_wp2_with (first | (refine ⟨trivial, ?_⟩; gi_at_call 11; refine (CallsIn.inRound l (callsIn_wide.2 (span_Flat.calls u s v is _ HF.out))).mono ?_; rintro e w2 ⟨rfl, hb2⟩; have m0_ := Aside0.mk (HNF.out.below hb2); have m1_ := Aside0.mk (HBX.out.trans (hb2.mono HBX.out.size)); have m2_ := Aside0.mk (Go.cell_kept HP0.out (grown_of_below hb2 none) (fun r e => by cases e)); have m3_ := Aside0.mk (Go.cell_kept HP1.out (grown_of_below hb2 none) (fun r e => by cases e)); clear HNF HBX HP0 HP1; have HNF := m0_; have HBX := m1_; have HP0 := m2_; have HP1 := m3_; clear m0_ m1_ m2_ m3_; have q1 := HNF.out.m; have q2 := HNF.out.n; have q3 := HNF.out.nf; have q4 := HNF.out.b; have q5 := HNF.out.bf; have p0 := HP0.out; have p1 := HP1.out; clear hb2) | (refine ⟨trivial, ?_⟩))
            gi_region_with_o (refine ⟨trivial, ?_⟩; gi_at_call 14; refine (CallsIn.inRound l (callsIn_wide.2 (cols_calls v HVS.out _))).mono ?_; rintro e w2 ⟨rfl, hb3⟩; have hb2 := (Below.refl _ _).drew.trans hb3; have m0_ := Aside0.mk (HNF.out.below hb2); have m1_ := Aside0.mk (HBX.out.trans (hb2.mono HBX.out.size)); have m2_ := Aside0.mk (Go.cell_kept HP0.out (grown_of_below hb2 none) (fun r e => by cases e)); have m3_ := Aside0.mk (Go.cell_kept HP1.out (grown_of_below hb2 none) (fun r e => by cases e)); clear HNF HBX HP0 HP1; have HNF := m0_; have HBX := m1_; have HP0 := m2_; have HP1 := m3_; clear m0_ m1_ m2_ m3_; have q1 := HNF.out.m; have q2 := HNF.out.n; have q3 := HNF.out.nf; have q4 := HNF.out.b; have q5 := HNF.out.bf; have p0 := HP0.out; have p1 := HP1.out; clear hb2 hb3)
            all_goals gi_wp2
            all_goals simp only [wsp64]
            all_goals have hh := FN.out _ _ HBX.out HNF.out HK0.out HR0_.out HA.out
            all_goals exact ⟨hh.1 _, hh.2⟩
          have c1_ : (u == 1) = false := beq_eq_false_iff_ne.mpr u1
          have HA := Aside0.mk (show addN l0 M j = 0 by rw [HAD.out, if_neg (by omega)])
          gi_wp2_with (first | (refine ⟨trivial, ?_⟩; gi_at_call 11; refine (CallsIn.inRound l (callsIn_wide.2 (span_Flat.calls u s v is _ HF.out))).mono ?_; rintro e w2 ⟨rfl, hb2⟩; have m0_ := Aside0.mk (HNF.out.below hb2); have m1_ := Aside0.mk (HBX.out.trans (hb2.mono HBX.out.size)); have m2_ := Aside0.mk (Go.cell_kept HP0.out (grown_of_below hb2 none) (fun r e => by cases e)); have m3_ := Aside0.mk (Go.cell_kept HP1.out (grown_of_below hb2 none) (fun r e => by cases e)); clear HNF HBX HP0 HP1; have HNF := m0_; have HBX := m1_; have HP0 := m2_; have HP1 := m3_; clear m0_ m1_ m2_ m3_; have q1 := HNF.out.m; have q2 := HNF.out.n; have q3 := HNF.out.nf; have q4 := HNF.out.b; have q5 := HNF.out.bf; have p0 := HP0.out; have p1 := HP1.out; clear hb2) | (refine ⟨trivial, ?_⟩))
          have hh := FZ.out _ HBX.out HNF.out HK0.out HR0_.out HA.out
          exact ⟨hh.1 _, hh.2⟩
    case done =>
      rintro D ys W hD rfl ⟨⟨hgo, hnf⟩, hB⟩ hK
      rw [hsz4] at hD
      have HE := Aside0.mk (need_done HM.out (by have := N1.out; omega) hi hgo)
      obtain ⟨n, hn⟩ : ∃ n, sumN l0 M (seg l0 (i + 1) (l0.length - (i + 1)) (by omega)) = n := ⟨_, rfl⟩
      rw [hn] at hnf HE
      have q1 := hnf.n
      have q2 := hnf.b
      have q3 := hnf.bf
      clear hgo hn k1 k1f
      gi_wp2
      have hK' := (KeepsOthers.setCell W ⟨B, 0, none⟩ (.int .i64 n)).same D _ hK rfl
      refine ⟨by simp, .inl ⟨_, _, rfl, run_takeDeferred hK', ?_⟩⟩
      have hc5 := Go.cell_kept (World.cell?_setCell_same' W ⟨B, 0, none⟩ (.int .i64 n) (by rw [q2]; rfl)) (grownBy_putObj' _ D (.deferred none)) (fun r e => by cases e; exact ⟨_, hK', rfl⟩)
      refine ⟨.int .i64 n, ?_, by rw [← HR.out, HE.out], ?_⟩
      · simp [results, Try.f19, go_sem, hc5]
      · exact (hB.setCell (p := ⟨B, 0, none⟩) (Nat.le_refl _) _).trans (belowK_b (w := w) (by omega) _ D _ _ (by omega) hK' rfl rfl)
    case stop =>
      rintro D c pre W hD ⟨m, hm, hpre⟩ ⟨⟨q, x, rfl, hg, hst⟩, hB⟩ hK
      rw [hsz4] at hD
      have HE := Aside0.mk (need_stop HM.out (by have := N1.out; omega) hi hpre hg)
      clear hpre hg k1 k1f
      rcases hst with ⟨rfl, h4, q1, q2, q3⟩ | ⟨rfl, h4, h5, q2⟩
      · have HE' := Aside0.mk (HE.out.1 h4)
        obtain ⟨n, hn⟩ : ∃ n, sumN l0 M q = n := ⟨_, rfl⟩
        rw [hn] at q1 HE'
        clear hn h4 HE
        gi_wp2
        have hK' := (KeepsOthers.setCell W ⟨B, 0, none⟩ (.int .i64 n)).same D _ hK rfl
        refine ⟨by simp, .inl ⟨_, _, rfl, run_takeDeferred hK', ?_⟩⟩
        have hc5 := Go.cell_kept (World.cell?_setCell_same' W ⟨B, 0, none⟩ (.int .i64 n) (by rw [q2]; rfl)) (grownBy_putObj' _ D (.deferred none)) (fun r e => by cases e; exact ⟨_, hK', rfl⟩)
        refine ⟨.int .i64 n, ?_, by rw [← HR.out, HE'.out], ?_⟩
        · simp [results, Try.f19, go_sem, hc5]
        · exact (hB.setCell (p := ⟨B, 0, none⟩) (Nat.le_refl _) _).trans (belowK_b (w := w) (by omega) _ D _ _ (by omega) hK' rfl rfl)
      · have HE' := Aside0.mk (HE.out.2 h4 h5)
        clear h4 h5 HE
        gi_wp2
        refine ⟨by simp, .inl ⟨_, _, rfl, run_takeDeferred hK, ?_⟩⟩
        have hc5 := Go.cell_kept q2 (grownBy_putObj' _ D (.deferred none)) (fun r e => by cases e; exact ⟨_, hK, rfl⟩)
        refine ⟨.int .i64 (-1), ?_, by rw [← HR.out, HE'.out], ?_⟩
        · simp [results, Try.f19, go_sem, hc5]
        · exact hB.trans (belowK_b (w := w) (by omega) W D _ _ (by omega) hK rfl rfl)
end Go.Proofs.Ytjibfhlacbgkgaa.PSpan
