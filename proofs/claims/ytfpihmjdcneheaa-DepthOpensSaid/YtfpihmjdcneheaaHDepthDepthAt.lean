import Derived.Test.YtfpihmjdcneheaaHDepthDepth
import Derived.Sort.QuietIn
namespace Go.Proofs.Ytfpihmjdcneheaa.PDepth
open Go.RowKit Go.Shelf Go.Proofs.YtfpihmjdcneheaaW.PrintWords Go.Proofs.YtfpihmjdcneheaaW.PrintMore
attribute [local go_sem] max2_int min2_int max_two min_two
attribute [local go_sem] Oper.semAt_some
set_option linter.unusedVariables false
set_option linter.unusedSimpArgs false

set_option maxRecDepth 100000 in
set_option maxHeartbeats 4000000 in
theorem depth_At.calls (A0 : Option Addr) (c0 : Nat) (l0 : List Int) (a1 : Int) (r : Int) (w : World) (hr0 : Kd.C (Kd.int .i64) w A0 l0.length l0) (hc0 : l0.length ≤ c0) (h : depth_At.f l0 a1 = some r) :
    Calls Try.prog 28 #[.slice A0 l0.length c0, .int .i64 a1] w fun e w' => e = .returned (.int .i64 r) ∧ Below w.heap.size w w' := by
  unfold depth_At.f at h
  by_cases hs : l0.length ≤ 17592186044416
  · rw [if_pos hs] at h
    have HR := Aside0.mk (Option.some.inj h)
    clear h
    have hmx : Try.prog.follows .mixedOrders = true := by kernel_rfl
    have hlk : ∀ W : World, ∀ M : Nat, W.heap[M]? = some (.map byMap 6) → True := fun _ _ _ => trivial
    refine (callsIn_wide (n := 6)).1 ?_
    refine callsIn_of_wp_marks Try.func28 rfl trivial ?_ rfl
    simp only [Try.ntmps28, List.size_toArray, List.length_cons, List.length_nil, Nat.reduceAdd, Nat.reduceSub, Array.replicate_succ, Array.replicate_zero, List.push_toArray, List.append_toArray, List.nil_append, List.cons_append]
    gi_wp2_with (first | (refine ⟨trivial, ?_⟩; gi_at_call 38; refine (callsIn_wide.2 (by_any _)).mono ?_; rintro e w' ⟨rfl, rfl⟩) | (refine ⟨trivial, ?_⟩; gi_at_call 37; refine (depths_in Fence.wide _ trivial rfl _ _ _ _).mono ?_; rintro e w' ⟨rfl, rfl⟩))
    obtain ⟨B, hB_⟩ : ∃ B, w.heap.size = B := ⟨_, rfl⟩
    rw [hB_]
    have c0_ := cell_new_l w (.slice A0 l0.length c0) 35
    have c1_ := cell_new_l (w.alloc (.cells #[.slice A0 l0.length c0] 35)) (.int .i64 a1) 3
    have c2_ := cell_new_l ((w.alloc (.cells #[.slice A0 l0.length c0] 35)).alloc (.cells #[.int .i64 a1] 3)) (.int .i64 0) 3
    have c3_ := World.alloc_heap_new (((w.alloc (.cells #[.slice A0 l0.length c0] 35)).alloc (.cells #[.int .i64 a1] 3)).alloc (.cells #[.int .i64 0] 3)) (.map byMap 6)
    have c4_ := cell_new_l ((((w.alloc (.cells #[.slice A0 l0.length c0] 35)).alloc (.cells #[.int .i64 a1] 3)).alloc (.cells #[.int .i64 0] 3)).alloc (.map byMap 6)) (.map (some (B + 1 + 1 + 1))) 49
    have c5_ := cell_new_l (((((w.alloc (.cells #[.slice A0 l0.length c0] 35)).alloc (.cells #[.int .i64 a1] 3)).alloc (.cells #[.int .i64 0] 3)).alloc (.map byMap 6)).alloc (.cells #[.map (some (B + 1 + 1 + 1))] 49)) (.slice A0 l0.length c0) 35
    simp only [World.size_alloc, hB_] at c0_ c1_ c2_ c3_ c4_ c5_
    have hB0 : Below B w ((((((w.alloc (.cells #[.slice A0 l0.length c0] 35)).alloc (.cells #[.int .i64 a1] 3)).alloc (.cells #[.int .i64 0] 3)).alloc (.map byMap 6)).alloc (.cells #[.map (some (B + 1 + 1 + 1))] 49)).alloc (.cells #[.slice A0 l0.length c0] 35)) := by
      rw [← hB_]
      exact ((((((Below.refl _ w).alloc (Nat.le_refl _) _).alloc (by simp) _).alloc (by first | (simp; done) | (simp; omega)) _).alloc (by first | (simp; done) | (simp; omega)) _).alloc (by first | (simp; done) | (simp; omega)) _).alloc (by first | (simp; done) | (simp; omega)) _
    have hm_ : ((((((w.alloc (.cells #[.slice A0 l0.length c0] 35)).alloc (.cells #[.int .i64 a1] 3)).alloc (.cells #[.int .i64 0] 3)).alloc (.map byMap 6)).alloc (.cells #[.map (some (B + 1 + 1 + 1))] 49)).alloc (.cells #[.slice A0 l0.length c0] 35)).heap[B + 1 + 1 + 1]? = some (.map byMap 6) := by
      rw [Below.heap_alloc _ _ _ (by first | (simp; done) | (simp; omega)), Below.heap_alloc _ _ _ (by first | (simp; done) | (simp; omega))]
      exact c3_
    have hS : ∀ k, (k < B ∨ k = B + 1 + 1 + 1 + 1 + 1) → k < B + 1 + 1 + 1 + 1 + 1 + 1 := by intro k hk; omega
    refine wpIn_rangeFunc_ownF rfl (by omega) (gf := 41) (lb := #[.pointer (some ⟨B + 1 + 1 + 1 + 1 + 1, 0, none⟩)]) rfl trivial (enters_of Try.func41 (by kernel_rfl) rfl)
      (depths_stops _ (by omega) (B + 1 + 1 + 1 + 1 + 1) (fun k => k < B ∨ k = B + 1 + 1 + 1 + 1 + 1) A0 c0 l0 hs _ (.inr rfl) (by simpa [hB_] using hS) (by
        intro ad e hp
        obtain ⟨ad', e', hx⟩ := Kd.at_int hr0 0 (by omega) (by omega)
        rw [e] at e'
        cases e'
        exact .inl (by have := World.block_lt_of_cell? w _ hx; rw [add_block_, hB_] at this; exact this)) (Kd.C_below hr0 (by rw [hB_]; exact hB0)) c5_.1) (fun h k => KS.trans h k) (fun W l o o' hl => KS.putObj (n := B + 6) (by intro k hk; omega) W l o o' (by simpa [hB_] using hl)) (Below.refl _ _) (fun _ => rfl)
      (fun pre W => (((∀ y ∈ pre, atP l0 a1 y.1 = false) ∧ W.cell? ⟨B, 0, none⟩ = some (.slice A0 l0.length c0) ∧ W.cell? ⟨B + 1, 0, none⟩ = some (.int .i64 a1) ∧ W.cell? ⟨B + 1 + 1, 0, none⟩ = some (.int .i64 0) ∧ W.frozen? ⟨B + 1 + 1, 0, none⟩ = false ∧ W.cell? ⟨B + 1 + 1 + 1 + 1, 0, none⟩ = some (.map (some (B + 1 + 1 + 1)))) ∧ W.heap[B + 1 + 1 + 1]? = some (.map byMap 6)) ∧ Below B w W)
      (fun c pre W => (c = .ret ∧ ∃ q x, pre = q ++ [x] ∧ (∀ y ∈ q, atP l0 a1 y.1 = false) ∧ atP l0 a1 x.1 = true ∧ W.cell? ⟨B + 1 + 1, 0, none⟩ = some (.int .i64 (x.1 : Int))) ∧ Below B w W)
      (OwnFrom.and (OwnFrom.and (Own.from (fun s A B row hs hg hr => ⟨hs.1, Go.cell_kept hs.2.1 hg hr, Go.cell_kept hs.2.2.1 hg hr, Go.cell_kept hs.2.2.2.1 hg hr, (Go.frozen_kept hs.2.2.2.1 hg hr).trans hs.2.2.2.2.1, Go.cell_kept hs.2.2.2.2.2 hg hr⟩) _) (ownFrom_block (by first | (simp [hB_]; done) | (simp [hB_]; omega)))) (ownFrom_below (by omega) (by first | (simp; done) | (simp; omega))))
      (fun c => OwnFrom.and (Own.from (fun s A B row hs hg hr => by obtain ⟨h1, q, x, h2, h3, h4, h5⟩ := hs; exact ⟨h1, q, x, h2, h3, h4, Go.cell_kept h5 hg hr⟩) _) (ownFrom_below (by omega) (by first | (simp; done) | (simp; omega))))
      ⟨⟨⟨by simp, cell_alloc_l _ (cell_alloc_l _ (cell_alloc_l _ (cell_alloc_l _ (cell_alloc_l _ c0_.1)))), cell_alloc_l _ (cell_alloc_l _ (cell_alloc_l _ (cell_alloc_l _ c1_.1))), cell_alloc_l _ (cell_alloc_l _ (cell_alloc_l _ c2_.1)), frozen_alloc_l _ (cell_alloc_l _ (cell_alloc_l _ c2_.1)) (frozen_alloc_l _ (cell_alloc_l _ c2_.1) (frozen_alloc_l _ c2_.1 c2_.2)), cell_alloc_l _ c4_.1⟩, hm_⟩, hB0⟩
      (fun x => { tmps := #[.slice A0 l0.length c0, .int .i64 a1, .pointer (some ⟨B, 0, none⟩), .pointer (some ⟨B + 1, 0, none⟩), .pointer (some ⟨B + 1 + 1, 0, none⟩), .pointer (some ⟨B + 1 + 1 + 1 + 1, 0, none⟩), .int .i64 (x.1 : Int), .int .i64 (sumTo l0 (x.1 + 1)), .map (some (B + 1 + 1 + 1)), .slice A0 l0.length c0, .func (.func 41) #[] #[.pointer (some ⟨B + 1 + 1 + 1 + 1 + 1, 0, none⟩)], .int .i64 (x.1 : Int), .int .i64 (sumTo l0 (x.1 + 1)), undef, undef, undef, undef, undef, undef, undef, undef, undef, undef, undef, undef, undef], defers := [] }) ?assign ?body ?done ?stop
    case assign =>
      intro l x W K hK
      gi_wp2
      exact hK
    case body =>
      rintro l pre ⟨j, hj⟩ W ⟨⟨⟨hp, k0, k1, k2, k2f, k4⟩, hM⟩, hB⟩ _
      obtain ⟨ad, rfl, hx0⟩ := Kd.at_int hr0 j (by omega) (by omega)
      rw [show ((j : Int)).toNat = j by omega] at hx0
      have hx : W.cell? (ad.add j) = some (.int .i64 (rd l0 j)) := (hB.cell (by have := World.block_lt_of_cell? w _ hx0; rwa [hB_] at this)).trans hx0
      have hl := run_look W (B + 1 + 1 + 1) hM (rd l0 j)
      have hl2 := run_look W.drew (B + 1 + 1 + 1) hM (rd l0 j)
      have b1 := sumTo_bd l0 (j + 1) hj
      have b3 := byOf_bd (rd l0 j)
      dsimp only at ⊢
      by_cases h1 : a1 < sumTo l0 (j + 1)
      · by_cases h2 : 0 < byOf (rd l0 j)
        · have hat : atP l0 a1 j = true := by simp [atP, h1, h2]
          have HT := Aside0.mk hat
          have d1 : decide (a1 < sumTo l0 (j + 1)) = true := decide_eq_true h1
          have d2 : decide (0 < byOf (rd l0 j)) = true := decide_eq_true h2
          clear hat hx0 hr0
          gi_wp2
          gi_region_with_o (fail)
          all_goals gi_wp2
          all_goals exact ⟨(KeepsOthers.drew _).trans (KeepsOthers.setCell _ _ _), ⟨rfl, pre, ⟨j, hj⟩, rfl, hp, HT.out, World.cell?_setCell_same' _ _ _ (by first | (rw [k2]; rfl) | (rw [World.cell?_drew, k2]; rfl))⟩, (hB.drew).setCell (p := ⟨B + 1 + 1, 0, none⟩) (by show B ≤ B + 1 + 1; omega) _⟩
        · have hat : atP l0 a1 j = false := by simp [atP, h2]
          have HT := Aside0.mk hat
          have d1 : decide (a1 < sumTo l0 (j + 1)) = true := decide_eq_true h1
          have d2 : decide (0 < byOf (rd l0 j)) = false := decide_eq_false h2
          clear hat hx0 hr0
          gi_wp2
          gi_region_with_o (fail)
          all_goals gi_wp2
          all_goals exact ⟨KeepsOthers.drew _, KS.drew _, ⟨⟨fun y hy => (List.mem_append.1 hy).elim (hp y) (fun e => by simp at e; subst e; exact HT.out), k0, k1, k2, k2f, k4⟩, hM⟩, hB.drew⟩
      · have hat : atP l0 a1 j = false := by simp [atP, h1]
        have HT := Aside0.mk hat
        have d1 : decide (a1 < sumTo l0 (j + 1)) = false := decide_eq_false h1
        clear hat hx0 hr0
        gi_wp2
        gi_region_with_o (fail)
        all_goals gi_wp2
        all_goals exact ⟨KeepsOthers.drew _, KS.drew _, ⟨⟨fun y hy => (List.mem_append.1 hy).elim (hp y) (fun e => by simp at e; subst e; exact HT.out), k0, k1, k2, k2f, k4⟩, hM⟩, hB.drew⟩
    case done =>
      rintro D ys W hD rfl ⟨⟨⟨hp, k0, k1, hcr, hfr, k4⟩, hM⟩, hB⟩ hK
      have HE := Aside0.mk (at_none l0 a1 hp)
      clear hp
      gi_wp2
      have hK' := (KeepsOthers.setCell W ⟨B + 1 + 1, 0, none⟩ (.int .i64 (-1))).same D _ hK rfl
      refine ⟨by simp, .inl ⟨_, _, rfl, run_takeDeferred hK', ?_⟩⟩
      have hc5 := Go.cell_kept (World.cell?_setCell_same' W ⟨B + 1 + 1, 0, none⟩ (.int .i64 (-1)) (by rw [hcr]; rfl)) (grownBy_putObj' _ D (.deferred none)) (fun r e => by cases e; exact ⟨_, hK', rfl⟩)
      refine ⟨.int .i64 (-1), ?_, by rw [← HR.out, HE.out], ?_⟩
      · simp [results, Try.f28, go_sem, hc5]
      · rw [hB_]
        exact (hB.setCell (p := ⟨B + 1 + 1, 0, none⟩) (by show B ≤ B + 1 + 1; omega) _).trans (belowK_b (w := w) (by omega) _ D _ _ (by simp at hD; omega) hK' rfl rfl)
    case stop =>
      rintro D c pre W hD ⟨k, hk, hpre⟩ ⟨⟨rfl, q, x, rfl, hq, hx, hcr⟩, hB⟩ hK
      have HE := Aside0.mk (at_some l0 a1 k hk q x hpre hq hx)
      clear hpre hq
      gi_wp2
      refine ⟨by simp, .inl ⟨_, _, rfl, run_takeDeferred hK, ?_⟩⟩
      have hc5 := Go.cell_kept hcr (grownBy_putObj' _ D (.deferred none)) (fun r e => by cases e; exact ⟨_, hK, rfl⟩)
      refine ⟨.int .i64 x.1, ?_, by rw [← HR.out, HE.out], ?_⟩
      · simp [results, Try.f28, go_sem, hc5]
      · rw [hB_]
        exact hB.trans (belowK_b (w := w) (by omega) W D _ _ (by simp at hD; omega) hK rfl rfl)
  · rw [if_neg hs] at h; exact absurd h (by simp)
end Go.Proofs.Ytfpihmjdcneheaa.PDepth
