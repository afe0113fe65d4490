import Derived.Test.YtkhlfdoeploddaaHFlowMatch
import Derived.Test.YtkhlfdoeploddaaHFlowGrpD
namespace Go.Proofs.Ytkhlfdoeploddaa.PFlow
open Go.RowKit Go.Shelf Go.Proofs.YtkhlfdoeploddaaW.PrintWords Go.Proofs.YtkhlfdoeploddaaW.PrintMore
attribute [local go_sem] Oper.semAt_some
set_option linter.unusedVariables false
set_option linter.unusedSimpArgs false

def openL (l : List S34) (pre : List (Pl l)) : Int := pre.foldl (fun n x => n + valB (rd_T34 l (x.1 : Int)).f0) 1
theorem openL_snoc (l : List S34) (pre : List (Pl l)) (x : Pl l) : openL l (pre ++ [x]) = openL l pre + valB (rd_T34 l (x.1 : Int)).f0 := by simp [openL]
theorem openL_seg (l : List S34) (a : Nat) : ∀ (m : Nat) (h : a + m ≤ l.length), openL l (seg l a m h) = cntB l a m
  | 0, _ => rfl
  | m + 1, h => by rw [seg, openL_snoc, openL_seg l a m, cntB]
theorem openL_bd (l : List S34) (pre : List (Pl l)) : -(pre.length : Int) ≤ openL l pre ∧ openL l pre ≤ 1 + pre.length := by
  have key : ∀ (p : List (Pl l)) (n : Int), n - p.length ≤ p.foldl (fun n x => n + valB (rd_T34 l (x.1 : Int)).f0) n ∧ p.foldl (fun n x => n + valB (rd_T34 l (x.1 : Int)).f0) n ≤ n + p.length := by
    intro p
    induction p with
    | nil => intro n; simp
    | cons x p ih =>
      intro n
      have h1 := ih (n + valB (rd_T34 l (x.1 : Int)).f0)
      have h2 := valB_bd (rd_T34 l (x.1 : Int)).f0
      rw [List.foldl_cons, List.length_cons]
      omega
  have := key pre 1
  unfold openL
  omega
/-- Ahead of its end nothing is matched. -/
def okL (l : List S34) (pre : List (Pl l)) : Prop := ∀ q x, q ++ [x] <+: pre → openL l (q ++ [x]) ≠ 0
def span_Match.f (l0 : List S34) (a1 : Int) : Option Int := if l0.length ≤ 17592186044416 then some (matchOf l0 a1) else none
theorem seg_prefix (l : List S34) (a j : Nat) : ∀ (m : Nat) (hm : a + m ≤ l.length) (hj : j ≤ m), seg l a j (by omega) <+: seg l a m hm
  | 0, _, hj => by obtain rfl : j = 0 := by omega
                   exact List.prefix_refl _
  | m + 1, hm, hj => by
    by_cases h : j = m + 1
    · subst h; exact List.prefix_refl _
    · exact (seg_prefix l a j m (by omega) (by omega)).trans (by rw [seg]; exact List.prefix_append _ _)
theorem okL_seg {l : List S34} {a m : Nat} {hm : a + m ≤ l.length} (h : okL l (seg l a m hm)) : ∀ j, j < m → cntB l a (j + 1) ≠ 0 := by
  intro j hj
  have h1 := seg_prefix l a (j + 1) m hm (by omega)
  have h2 := h (seg l a j (by omega)) ⟨a + j, by omega⟩ (by rw [seg] at h1; exact h1)
  have h3 := openL_seg l a (j + 1) (by omega)
  rw [seg] at h3
  rwa [h3] at h2
theorem okL_snoc {l : List S34} {pre : List (Pl l)} {x : Pl l} (h : okL l pre) (hx : openL l (pre ++ [x]) ≠ 0) : okL l (pre ++ [x]) := by
  intro q y hq
  rcases List.prefix_concat_iff.1 hq with e | e
  · rw [e]; exact hx
  · exact h q y e
theorem match_stop {l : List S34} {i m : Nat} {hm : i + 1 + m ≤ l.length} (hi : i < l.length) (h6 : (rd_T34 l (i : Int)).f0 = 6) {q : List (Pl l)} {x : Pl l} (e : q ++ [x] = seg l (i + 1) m hm) (hq : okL l q) (h0 : openL l (q ++ [x]) = 0) : matchOf l i = (x.1 : Int) := by
  cases m with
  | zero => exact absurd (congrArg List.length e) (by simp [seg])
  | succ m =>
    rw [seg] at e
    obtain ⟨rfl, e2⟩ := List.append_inj' e rfl
    obtain rfl := (List.cons.inj e2).1
    have h1 := openL_seg l (i + 1) (m + 1) hm
    rw [seg, h0] at h1
    exact match_some (by omega) h6 (okL_seg hq) h1.symm

/-- Told at its end: there. -/
def MStop (l : List S34) (B : Nat) (pre : List (Pl l)) (W : World) : Prop := ∃ q x, pre = q ++ [x] ∧ okL l q ∧ openL l pre = 0 ∧ W.cell? ⟨B, 0, none⟩ = some (.int .i64 (x.1 : Int))
theorem MStop.kept {l : List S34} {B : Nat} {pre : List (Pl l)} {W W' : World} (h : MStop l B pre W) (hk : ∀ v, W.cell? ⟨B, 0, none⟩ = some v → W'.cell? ⟨B, 0, none⟩ = some v) : MStop l B pre W' := by
  obtain ⟨q, x, h1, h2, h3, h4⟩ := h
  exact ⟨q, x, h1, h2, h3, hk _ h4⟩

set_option maxRecDepth 100000 in
set_option maxHeartbeats 4000000 in
theorem span_Match.calls (A0 : Option Addr) (c0 : Nat) (l0 : List S34) (a1 : Int) (r : Int) (w : World) (hr0 : Kd.C k34 w A0 l0.length l0) (hc0 : l0.length ≤ c0) (h : span_Match.f l0 a1 = some r) :
    Calls Try.prog 33 #[.slice A0 l0.length c0, .int .i64 a1] w fun e w' => e = .returned (.int .i64 r) ∧ Below w.heap.size w w' := by
  unfold span_Match.f at h
  by_cases hs : l0.length ≤ 17592186044416
  rotate_left
  · rw [if_neg hs] at h; exact absurd h (by simp)
  rw [if_pos hs] at h
  have HR := Aside0.mk (Option.some.inj h)
  clear h
  have hu33 := Try.underlying34
  obtain ⟨B, hB_⟩ : ∃ B, w.heap.size = B := ⟨_, rfl⟩
  have c0_ := cell_new_l w (.int .i64 (-1)) 3
  rw [hB_] at c0_
  have hBw : Below B w (w.alloc (.cells #[.int .i64 (-1)] 3)) := by rw [← hB_]; exact (Below.refl _ w).alloc (Nat.le_refl _) _
  rw [hB_]
  have early : matchOf l0 a1 = -1 → ∀ tmps : Array Value, tmps[4]?.getD undef = .pointer (some ⟨B, 0, none⟩) → bodyPost Try.prog Try.f33 (fun e w' => e = .returned (.int .i64 r) ∧ Below B w w') .ret { tmps, defers := [] } (w.alloc (.cells #[.int .i64 (-1)] 3)) := by
    intro hm tmps ht
    refine bodyPost_ret (v := .int .i64 (-1)) ?_ rfl ⟨by rw [← HR.out, hm], hBw⟩
    simp [results, Try.f33, go_sem, c0_.1, ht]
  by_cases n1 : a1 < 0
  · have HM := Aside0.mk (show matchOf l0 a1 = -1 by unfold matchOf; rw [if_pos (Or.inl n1)])
    have d1 : decide (a1 < 0) = true := decide_eq_true n1
    have HE := Aside0.mk early
    clear hr0 early
    go_enter Try.func33, Try.ntmps33
    go_wp2
    refine HE.out HM.out _ ?_; rfl
  have d1 : decide (a1 < 0) = false := decide_eq_false n1
  by_cases n2 : (l0.length : Int) ≤ a1
  · have HM := Aside0.mk (show matchOf l0 a1 = -1 by unfold matchOf; rw [if_pos (Or.inr n2)])
    have d2 : decide ((l0.length : Int) ≤ a1) = true := decide_eq_true n2
    have HE := Aside0.mk early
    clear hr0 early
    go_enter Try.func33, Try.ntmps33
    go_wp2
    refine HE.out HM.out _ ?_; rfl
  have d2 : decide ((l0.length : Int) ≤ a1) = false := decide_eq_false n2
  obtain ⟨i, rfl⟩ := Int.eq_ofNat_of_zero_le (show 0 ≤ a1 by omega)
  have hi : i < l0.length := by omega
  obtain ⟨ad, rfl, hx0, hx1⟩ := at_T34 hr0 (i : Int) (by omega) (by omega)
  rw [Int.toNat_natCast] at hx0 hx1
  by_cases n3 : (rd_T34 l0 (i : Int)).f0 = 6
  rotate_left
  · have HM := Aside0.mk (show matchOf l0 (i : Int) = -1 by unfold matchOf; rw [if_neg (by omega), if_pos n3])
    have d3 : ((rd_T34 l0 (i : Int)).f0 != 6) = true := bne_iff_ne.mpr n3
    have HE := Aside0.mk early
    have hy0 := cell_alloc_l (.cells #[.int .i64 0] 3) hx0
    clear hr0 early
    go_enter Try.func33, Try.ntmps33
    go_wp2
    refine HE.out HM.out _ ?_; rfl
  have d3 : ((rd_T34 l0 (i : Int)).f0 != 6) = false := by rw [n3]; rfl
  have N3 := Aside0.mk n3
  have hmx : Try.prog.follows .mixedOrders = true := by kernel_rfl
  have hy0 := cell_alloc_l (.cells #[.int .i64 0] 3) hx0
  have HR0 := Aside0.mk hr0
  have HX0 := Aside0.mk hx0
  have HX1 := Aside0.mk hx1
  clear hr0 early n3 hx1 c0_
  refine (callsIn_wide (n := 6)).1 ?_
  refine callsIn_of_wp_marks Try.func33 rfl trivial ?_ rfl
  simp only [Try.ntmps33, List.size_toArray, List.length_cons, List.length_nil, Nat.reduceAdd, Nat.reduceSub, Array.replicate_succ, Array.replicate_zero, List.push_toArray, List.append_toArray, List.nil_append, List.cons_append]
  gi_wp2_with (refine ⟨trivial, ?_⟩; gi_at_call 53; refine (behind_in Fence.wide _ trivial rfl _ _ _ _ _).mono ?_; rintro e w' ⟨rfl, rfl⟩)
  have e0 := cell_new_l w (.int .i64 0) 3
  have e1 := cell_new_l (w.alloc (.cells #[.int .i64 0] 3)) (.int .i64 1) 3
  have e2 := cell_new_l ((w.alloc (.cells #[.int .i64 0] 3)).alloc (.cells #[.int .i64 1] 3)) (.slice (some ad) l0.length c0) 22
  have e3 := cell_new_l (((w.alloc (.cells #[.int .i64 0] 3)).alloc (.cells #[.int .i64 1] 3)).alloc (.cells #[.slice (some ad) l0.length c0] 22)) (.int .i64 (i : Int)) 3
  simp only [World.size_alloc, hB_] at e0 e1 e2 e3
  have hB0 : Below B w ((((w.alloc (.cells #[.int .i64 0] 3)).alloc (.cells #[.int .i64 1] 3)).alloc (.cells #[.slice (some ad) l0.length c0] 22)).alloc (.cells #[.int .i64 (i : Int)] 3)) := by
    rw [← hB_]
    exact ((((Below.refl _ w).alloc (Nat.le_refl _) _).alloc (by simp) _).alloc (by first | (simp; done) | (simp; omega)) _).alloc (by first | (simp; done) | (simp; omega)) _
  have hsz4 : (((((w.alloc (.cells #[.int .i64 0] 3)).alloc (.cells #[.int .i64 1] 3)).alloc (.cells #[.slice (some ad) l0.length c0] 22)).alloc (.cells #[.int .i64 (i : Int)] 3))).heap.size = B + 4 := by simp only [World.size_alloc, hB_]
  have hS : ∀ k, (k < B ∨ k = B + 1 + 1 ∨ k = B + 1 + 1 + 1) → k < (((((w.alloc (.cells #[.int .i64 0] 3)).alloc (.cells #[.int .i64 1] 3)).alloc (.cells #[.slice (some ad) l0.length c0] 22)).alloc (.cells #[.int .i64 (i : Int)] 3))).heap.size := by rw [hsz4]; intro k hk; omega
  have hAd : ad.block < B := by have := World.block_lt_of_cell? w _ HX0.out; rw [add_block_, hB_] at this; exact this
  refine wpIn_rangeFunc_ownH rfl (by omega) (gf := 63) (lb := #[.pointer (some ⟨B + 1 + 1 + 1, 0, none⟩), .pointer (some ⟨B + 1 + 1, 0, none⟩)]) rfl trivial (enters_of Try.func63 (by kernel_rfl) rfl)
    (behind_stops _ (by omega) (B + 1 + 1) (B + 1 + 1 + 1) (fun k => k < B ∨ k = B + 1 + 1 ∨ k = B + 1 + 1 + 1) (some ad) c0 l0 hs i hi _ (.inr (.inl rfl)) (.inr (.inr rfl)) hS (by intro a e; cases e; exact .inl hAd) (Kd.C_below HR0.out (by rw [hB_]; exact hB0)) (cell_alloc_l _ e2.1) e3.1)
    (fun h k => KS.trans h k) (fun W l o o' hl => KS.putObj (n := B + 4) (by intro k hk; omega) W l o o' (by rw [hsz4] at hl; exact hl)) (Below.refl _ _) (fun _ => rfl)
    (fun pre W => (okL l0 pre ∧ W.cell? ⟨B + 1, 0, none⟩ = some (.int .i64 (openL l0 pre)) ∧ W.frozen? ⟨B + 1, 0, none⟩ = false ∧ W.cell? ⟨B, 0, none⟩ = some (.int .i64 0) ∧ W.frozen? ⟨B, 0, none⟩ = false ∧ B + 4 ≤ W.heap.size) ∧ Below B w W)
    (fun c pre W => (c = .ret ∧ MStop l0 B pre W) ∧ Below B w W)
    (OwnFrom.and (Own.from (fun s A B row hs hg hr => ⟨hs.1, Go.cell_kept hs.2.1 hg hr, (Go.frozen_kept hs.2.1 hg hr).trans hs.2.2.1, Go.cell_kept hs.2.2.2.1 hg hr, (Go.frozen_kept hs.2.2.2.1 hg hr).trans hs.2.2.2.2.1, Nat.le_trans hs.2.2.2.2.2 hg.size⟩) _) (ownFrom_below (by omega) (by rw [hsz4]; omega)))
    (fun c => OwnFrom.and (Own.from (fun s A B row hs hg hr => ⟨hs.1, hs.2.kept fun v h => Go.cell_kept h hg hr⟩) _) (ownFrom_below (by omega) (by rw [hsz4]; omega)))
    ⟨⟨by intro q x hq; exact absurd (congrArg List.length (List.prefix_nil.1 hq)) (by simp), cell_alloc_l _ (cell_alloc_l _ e1.1), frozen_alloc_l _ (cell_alloc_l _ e1.1) (frozen_alloc_l _ e1.1 e1.2), cell_alloc_l _ (cell_alloc_l _ (cell_alloc_l _ e0.1)), frozen_alloc_l _ (cell_alloc_l _ (cell_alloc_l _ e0.1)) (frozen_alloc_l _ (cell_alloc_l _ e0.1) (frozen_alloc_l _ e0.1 e0.2)), by rw [hsz4]; omega⟩, hB0⟩
    (fun x a' W => ∃ P, B + 4 ≤ P ∧ a' = { tmps := #[.slice (some ad) l0.length c0, .int .i64 (i : Int), undef, undef, .pointer (some ⟨B, 0, none⟩), .pointer (some ⟨B + 1, 0, none⟩), .int .i64 (x.1 : Int), .pointer (some ⟨P, 0, none⟩), .int .i64 (i : Int), .bool false, .bool false, .int .i64 (i : Int), .slice (some ad) l0.length c0, .int .i64 (l0.length : Int), .bool false, .bool false, .bool false, .slice (some ad) l0.length c0, .int .i64 (i : Int), .pointer (some (ad.add (i * 2))), .pointer (some (ad.add (i * 2))), .int .i64 (rd_T34 l0 (i : Int)).f0, .bool false, .bool false, .slice (some ad) l0.length c0, .int .i64 (i : Int), .func (.func 63) #[] #[.pointer (some ⟨B + 1 + 1 + 1, 0, none⟩), .pointer (some ⟨B + 1 + 1, 0, none⟩)], .int .i64 (x.1 : Int), .agg #[.int .i64 (rd_T34 l0 (x.1 : Int)).f0, .string (rd_T34 l0 (x.1 : Int)).f1], undef, undef, undef, undef, undef, undef, undef, undef, undef, undef, undef, undef, undef], defers := [] } ∧ W.cell? ⟨P, 0, none⟩ = some (.int .i64 (rd_T34 l0 (x.1 : Int)).f0))
    (fun x a' => Own.from (fun s A B row hs hg hr => by obtain ⟨P, h1, h2, h3⟩ := hs; exact ⟨P, h1, h2, Go.cell_kept h3 hg hr⟩) _) ?assign ?body ?done ?stop
  case assign =>
    intro l pre x W K hI hK
    dsimp only [encB]
    gi_wp2
    obtain ⟨⟨hok, k1, k1f, k0, k0f, hsz⟩, hB⟩ := hI
    refine hK _ _ (KeepsFrom.of_grownBy (World.grownBy_alloc W _ none) (by simp)) (KS.below (by intro k hk; omega) ((Below.refl _ W).alloc (Nat.le_refl _) _)) ⟨⟨hok, cell_alloc_l _ k1, frozen_alloc_l _ k1 k1f, cell_alloc_l _ k0, frozen_alloc_l _ k0 k0f, by rw [World.size_alloc]; omega⟩, hB.alloc (by omega) _⟩ ⟨W.heap.size, by omega, rfl, ?_⟩
    rw [World.cell?_alloc_new]; rfl
  case body =>
    rintro l pre ⟨j, hj⟩ a' W hl _ ⟨⟨hok, k1, k1f, k0, k0f, hsz⟩, hB⟩ ⟨P, hP, rfl, hp⟩ hlen
    have hsn := openL_snoc l0 pre ⟨j, hj⟩
    have hbd := openL_bd l0 pre
    dsimp only at hsn hp ⊢
    obtain ⟨n, hn⟩ : ∃ n, openL l0 pre = n := ⟨_, rfl⟩
    rw [hn] at hsn hbd k1
    have HN := Aside0.mk hn
    clear hn hy0
    have hP1 : P ≠ B + 1 := by omega
    obtain ⟨u, hu⟩ : ∃ u, (rd_T34 l0 (j : Int)).f0 = u := ⟨_, rfl⟩
    rw [hu] at hsn hp ⊢
    clear hu
    have hret : ∀ (nn : Int) (W1 : World), openL l0 (pre ++ [⟨j, hj⟩]) = 0 → Below B w W1 → KeepsOthers W W1 → W1.cell? ⟨B, 0, none⟩ = some (.int .i64 0) →
        (∀ B', KeepsFrom B' W (W1.setCell ⟨B, 0, none⟩ (.int .i64 (j : Int)))) ∧ (MStop l0 B (pre ++ [⟨j, hj⟩]) (W1.setCell ⟨B, 0, none⟩ (.int .i64 (j : Int))) ∧ Below B w (W1.setCell ⟨B, 0, none⟩ (.int .i64 (j : Int)))) := by
      intro nn W1 h1 h2 h3 h4
      exact ⟨fun B' => (h3.trans (KeepsOthers.setCell _ _ _)).from _, by unfold MStop; exact ⟨pre, ⟨j, hj⟩, rfl, hok, h1, World.cell?_setCell_same' _ _ _ (by rw [h4]; rfl)⟩, h2.setCell (p := ⟨B, 0, none⟩) (Nat.le_refl _) _⟩
    have hgo : ∀ (nn : Int) (W1 : World), openL l0 (pre ++ [⟨j, hj⟩]) = nn → nn ≠ 0 → W1 = W.setCell ⟨B + 1, 0, none⟩ (.int .i64 nn) ∨ (W1 = W ∧ nn = n) →
        (∀ B', KeepsFrom B' W W1) ∧ KS (fun k => k < B ∨ k = B + 1 + 1 ∨ k = B + 1 + 1 + 1) W W1 ∧ ((okL l0 (pre ++ [⟨j, hj⟩]) ∧ W1.cell? ⟨B + 1, 0, none⟩ = some (.int .i64 (openL l0 (pre ++ [⟨j, hj⟩]))) ∧ W1.frozen? ⟨B + 1, 0, none⟩ = false ∧ W1.cell? ⟨B, 0, none⟩ = some (.int .i64 0) ∧ W1.frozen? ⟨B, 0, none⟩ = false ∧ B + 4 ≤ W1.heap.size) ∧ Below B w W1) := by
      intro nn W1 h1 h2 h3
      rcases h3 with rfl | ⟨rfl, rfl⟩
      · exact ⟨fun B' => (KeepsOthers.setCell _ _ _).from _, KS.setCell _ _ _ (by intro k hk; show k ≠ B + 1; omega), ⟨okL_snoc hok (by rw [h1]; exact h2), by rw [h1]; exact World.cell?_setCell_same' _ _ _ (by rw [k1]; rfl), by rw [World.frozen?_setCell]; exact k1f, (cell_of_block (a := ⟨B, 0, none⟩) (Below.heap_setCell W ⟨B + 1, 0, none⟩ _ B (by show B ≠ B + 1; omega))).trans k0, by rw [World.frozen?_setCell]; exact k0f, by rw [World.size_setCell]; exact hsz⟩, hB.setCell (p := ⟨B + 1, 0, none⟩) (by show B ≤ B + 1; omega) _⟩
      · exact ⟨fun B' => KeepsFrom.refl _ _, KS.refl _, ⟨okL_snoc hok (by rw [h1]; exact h2), by rw [h1]; exact k1, k1f, k0, k0f, hsz⟩, hB⟩
    have hset0 : ∀ v, (W.setCell ⟨B + 1, 0, none⟩ v).cell? ⟨B, 0, none⟩ = some (.int .i64 0) := fun v => (cell_of_block (a := ⟨B, 0, none⟩) (Below.heap_setCell W ⟨B + 1, 0, none⟩ v B (by show B ≠ B + 1; omega))).trans k0
    have hset1 : ∀ v, (W.setCell ⟨B + 1, 0, none⟩ v).cell? ⟨B + 1, 0, none⟩ = some v := fun v => World.cell?_setCell_same' _ _ _ (by rw [k1]; rfl)
    have hsetB : ∀ v, Below B w (W.setCell ⟨B + 1, 0, none⟩ v) := fun v => hB.setCell (p := ⟨B + 1, 0, none⟩) (by show B ≤ B + 1; omega) _
    have HGO := Aside0.mk hgo
    have HRE := Aside0.mk hret
    have HSB := Aside0.mk hsetB
    have HB_ := Aside0.mk hB
    have HOK := Aside0.mk hok
    clear hgo hret hsetB hB hok
    by_cases h6 : u = 6
    · subst h6
      rw [show valB 6 = 1 from rfl] at hsn
      have HSN := Aside0.mk hsn
      clear hsn
      by_cases h0 : n + 1 = 0
      · have d0 : (n + 1 == 0) = true := beq_iff_eq.mpr h0
        have H0 := Aside0.mk h0
        clear h0
        gi_wp2
        have hh := HRE.out (n + 1) (W.setCell ⟨B + 1, 0, none⟩ (.int .i64 (n + 1))) (HSN.out.trans H0.out) (HSB.out _) (KeepsOthers.setCell _ _ _) (hset0 _)
        exact ⟨hh.1 _, ⟨rfl, hh.2.1⟩, hh.2.2⟩
      · have d0 : (n + 1 == 0) = false := beq_eq_false_iff_ne.mpr h0
        have H0 := Aside0.mk h0
        clear h0
        gi_wp2
        have hh := HGO.out (n + 1) (W.setCell ⟨B + 1, 0, none⟩ (.int .i64 (n + 1))) HSN.out H0.out (.inl rfl)
        exact ⟨hh.1 _, hh.2⟩
    by_cases h7 : u = 7
    · subst h7
      rw [show valB 7 = -1 from rfl] at hsn
      have HSN := Aside0.mk hsn
      clear hsn
      by_cases h0 : n - 1 = 0
      · have d0 : (n - 1 == 0) = true := beq_iff_eq.mpr h0
        have H0 := Aside0.mk h0
        clear h0
        gi_wp2
        have hh := HRE.out (n - 1) (W.setCell ⟨B + 1, 0, none⟩ (.int .i64 (n - 1))) (HSN.out.trans (by have := H0.out; omega)) (HSB.out _) (KeepsOthers.setCell _ _ _) (hset0 _)
        exact ⟨hh.1 _, ⟨rfl, hh.2.1⟩, hh.2.2⟩
      · have d0 : (n - 1 == 0) = false := beq_eq_false_iff_ne.mpr h0
        have H0 := Aside0.mk h0
        clear h0
        gi_wp2
        have hh := HGO.out (n - 1) (W.setCell ⟨B + 1, 0, none⟩ (.int .i64 (n - 1))) (HSN.out.trans (by omega)) H0.out (.inl rfl)
        exact ⟨hh.1 _, hh.2⟩
    · have hv : valB u = 0 := by unfold valB; rw [if_neg h6, if_neg h7]
      rw [hv] at hsn
      have HSN := Aside0.mk hsn
      have d6 : (u == 6) = false := beq_eq_false_iff_ne.mpr h6
      have d7 : (u == 7) = false := beq_eq_false_iff_ne.mpr h7
      clear hsn hv h6 h7
      by_cases h0 : n = 0
      · have d0 : (n == 0) = true := beq_iff_eq.mpr h0
        have H0 := Aside0.mk h0
        clear h0
        gi_wp2
        have hh := HRE.out n W (HSN.out.trans (by have := H0.out; omega)) HB_.out (KeepsOthers.refl _) k0
        exact ⟨hh.1 _, ⟨rfl, hh.2.1⟩, hh.2.2⟩
      · have d0 : (n == 0) = false := beq_eq_false_iff_ne.mpr h0
        have H0 := Aside0.mk h0
        clear h0
        gi_wp2
        have hh := HGO.out n W (HSN.out.trans (by omega)) H0.out (.inr ⟨rfl, rfl⟩)
        exact ⟨hh.1 _, hh.2⟩
  case done =>
    rintro D ys W hD rfl ⟨⟨hok, k1, k1f, hcr, hfr, hsz⟩, hB⟩ hK
    rw [hsz4] at hD
    have HE := Aside0.mk (match_none hi N3.out (okL_seg hok))
    clear hok hy0
    gi_wp2
    have hK' := (KeepsOthers.setCell W ⟨B, 0, none⟩ (.int .i64 (-1))).same D _ hK rfl
    refine ⟨by simp, .inl ⟨_, _, rfl, run_takeDeferred hK', ?_⟩⟩
    have hc5 := Go.cell_kept (World.cell?_setCell_same' W ⟨B, 0, none⟩ (.int .i64 (-1)) (by rw [hcr]; rfl)) (grownBy_putObj' _ D (.deferred none)) (fun r e => by cases e; exact ⟨_, hK', rfl⟩)
    refine ⟨.int .i64 (-1), ?_, by rw [← HR.out, HE.out], ?_⟩
    · simp [results, Try.f33, go_sem, hc5]
    · exact (hB.setCell (p := ⟨B, 0, none⟩) (Nat.le_refl _) _).trans (belowK_b (w := w) (by omega) _ D _ _ (by omega) hK' rfl rfl)
  case stop =>
    rintro D c pre W hD ⟨m, hm, hpre⟩ ⟨⟨rfl, q, x, rfl, hq, h0, hcr⟩, hB⟩ hK
    rw [hsz4] at hD
    have HE := Aside0.mk (match_stop hi N3.out hpre hq h0)
    clear hpre hq hy0 h0
    gi_wp2
    refine ⟨by simp, .inl ⟨_, _, rfl, run_takeDeferred hK, ?_⟩⟩
    have hc5 := Go.cell_kept hcr (grownBy_putObj' _ D (.deferred none)) (fun r e => by cases e; exact ⟨_, hK, rfl⟩)
    refine ⟨.int .i64 x.1, ?_, by rw [← HR.out, HE.out], ?_⟩
    · simp [results, Try.f33, go_sem, hc5]
    · exact hB.trans (belowK_b (w := w) (by omega) W D _ _ (by omega) hK rfl rfl)
end Go.Proofs.Ytkhlfdoeploddaa.PFlow
