import Derived.Test.YtfpihmjdcneheaaPMeterx0
import Derived.Test.YtfpihmjdcneheaaPMeterx3
namespace Go.Proofs.Ytfpihmjdcneheaa.PMeter
open Go.RowKit Go.Proofs.YtfpihmjdcneheaaW.PrintWords Go.Proofs.YtfpihmjdcneheaaW.PrintLast Go.Proofs.YtfpihmjdcneheaaW.PrintMore
attribute [local go_sem] max2_int min2_int max_two min_two max_three min_three max_four min_four
set_option linter.unusedVariables false
set_option linter.unusedSimpArgs false

/-- What a part is, counted. -/
def cnt (a b n : Int) : Int := if 0 ≤ a ∧ a ≤ 1099511627776 ∧ 0 ≤ b ∧ b ≤ 1099511627776 ∧ 0 ≤ n then (if n ≤ 1099511627776 - a then a + n else 1099511627776) else a
def meter_Step.f (a0_0 a0_1 a1 : Int) : Option (Int × Int) := some (cnt a0_0 a0_1 a1, a0_1)
def meter_Cell.f (a0_0 a0_1 a1 : Int) : Option (Int × Int) := some (a0_0, cnt a0_1 a0_0 a1)

theorem bcell {W w1 : World} (hb : Below W.heap.size W w1) : (∀ b o, b < W.heap.size → w1.cell? ⟨b, o, none⟩ = W.cell? ⟨b, o, none⟩) ∧ (∀ b o, b < W.heap.size → w1.frozen? ⟨b, o, none⟩ = W.frozen? ⟨b, o, none⟩) :=
  ⟨fun b o h => hb.cell (p := ⟨b, o, none⟩) h, fun b o h => hb.frozen (p := ⟨b, o, none⟩) h⟩

theorem may_f (a b : Int) : meter_May.f a b = some (decide (0 ≤ a ∧ a ≤ 1099511627776 ∧ 0 ≤ b ∧ b ≤ 1099511627776)) := by
  unfold meter_May.f meter_in.f
  by_cases h1 : 0 ≤ a <;> by_cases h2 : a ≤ 1099511627776 <;> by_cases h3 : 0 ≤ b <;> by_cases h4 : b ≤ 1099511627776 <;> simp [h1, h2, h3, h4]

theorem part0 (b : Nat) (w : World) : Calls Try.prog 34 #[.pointer (some ⟨b, 0, none⟩)] w fun e w' => e = .returned (.pointer (some ⟨b, 0, none⟩)) ∧ w = w' := by
  have hu := Try.underlying23
  go_enter Try.func34, Try.ntmps34
  go_wp2
  go_ret
  exact ⟨rfl, rfl⟩
theorem part1 (b : Nat) (w : World) : Calls Try.prog 36 #[.pointer (some ⟨b, 0, none⟩)] w fun e w' => e = .returned (.pointer (some ⟨b, 1, none⟩)) ∧ w = w' := by
  have hu := Try.underlying23
  go_enter Try.func36, Try.ntmps36
  go_wp2
  go_ret
  exact ⟨rfl, rfl⟩

set_option maxHeartbeats 1000000 in
set_option maxRecDepth 100000 in
theorem counted0 (s c n : Int) (w : World) :
    Calls Try.prog 33 #[.agg #[.int .i64 s, .int .i64 c], .int .i64 n, .func (.func 34) #[] #[]] w fun e w' => e = .returned (.agg #[.int .i64 (cnt s c n), .int .i64 c]) ∧ Below w.heap.size w w' := by
  have hu := Try.underlying23
  by_cases hm : (0 ≤ s ∧ s ≤ 1099511627776 ∧ 0 ≤ c ∧ c ≤ 1099511627776)
  · have e : meter_May.f s c = some true := by rw [may_f]; simp [hm]
    obtain ⟨h1, h2, h3, h4⟩ := hm
    by_cases hn : 0 ≤ n
    · by_cases hl : n ≤ 1099511627776 - s
      · have HC := Aside0.mk (show cnt s c n = s + n by unfold cnt; rw [if_pos (by omega), if_pos hl])
        go_enter Try.func33, Try.ntmps33
        go_wp2_with fail
        refine (meter_May.calls s c true _ e).mono ?_
        rintro e w1 ⟨rfl, hb⟩
        obtain ⟨hc, hf⟩ := bcell hb
        have hz := hb.size
        simp at hz
        have c0 := hc w.heap.size 0 (by simp only [World.size_alloc]; omega)
        have f0 := hf w.heap.size 0 (by simp only [World.size_alloc]; omega)
        have c1 := hc w.heap.size 1 (by simp only [World.size_alloc]; omega)
        have f1 := hf w.heap.size 1 (by simp only [World.size_alloc]; omega)
        have c2 := hc (w.heap.size + 1) 0 (by simp only [World.size_alloc]; omega)
        have f2 := hf (w.heap.size + 1) 0 (by simp only [World.size_alloc]; omega)
        have c3 := hc (w.heap.size + 1) 1 (by simp only [World.size_alloc]; omega)
        have f3 := hf (w.heap.size + 1) 1 (by simp only [World.size_alloc]; omega)
        simp at c0 c1 c2 c3 f0 f1 f2 f3
        clear hc hf
        go_wp2_with fail
        refine (part0 _ _).mono ?_
        rintro e w1 ⟨rfl, rfl⟩
        go_wp2
        go_region
        all_goals go_wp2
        all_goals
          refine bodyPost_ret (v := .agg #[.int .i64 (s + n), .int .i64 c]) (by simp [results, Try.results33, go_sem, c0, c1, c2, c3, f0, f1, f2, f3, hz]) rfl ⟨by rw [HC.out], ?_⟩
          exact ((((((Below.refl w.heap.size w).alloc (Nat.le_refl _) _).alloc (by simp) _).trans (hb.mono (by simp; omega))).setCell (by simp) _).drew.setCell (by simp) _).setCell (by simp) _
      · have HC := Aside0.mk (show cnt s c n = 1099511627776 by unfold cnt; rw [if_pos (by omega), if_neg hl])
        go_enter Try.func33, Try.ntmps33
        go_wp2_with fail
        refine (meter_May.calls s c true _ e).mono ?_
        rintro e w1 ⟨rfl, hb⟩
        obtain ⟨hc, hf⟩ := bcell hb
        have hz := hb.size
        simp at hz
        have c0 := hc w.heap.size 0 (by simp only [World.size_alloc]; omega)
        have f0 := hf w.heap.size 0 (by simp only [World.size_alloc]; omega)
        have c1 := hc w.heap.size 1 (by simp only [World.size_alloc]; omega)
        have f1 := hf w.heap.size 1 (by simp only [World.size_alloc]; omega)
        have c2 := hc (w.heap.size + 1) 0 (by simp only [World.size_alloc]; omega)
        have f2 := hf (w.heap.size + 1) 0 (by simp only [World.size_alloc]; omega)
        have c3 := hc (w.heap.size + 1) 1 (by simp only [World.size_alloc]; omega)
        have f3 := hf (w.heap.size + 1) 1 (by simp only [World.size_alloc]; omega)
        simp at c0 c1 c2 c3 f0 f1 f2 f3
        clear hc hf
        go_wp2_with fail
        refine (part0 _ _).mono ?_
        rintro e w1 ⟨rfl, rfl⟩
        go_wp2
        go_region
        all_goals go_wp2
        all_goals
          refine bodyPost_ret (v := .agg #[.int .i64 (s + (1099511627776 - s)), .int .i64 c]) (by simp [results, Try.results33, go_sem, c0, c1, c2, c3, f0, f1, f2, f3, hz]) rfl ⟨by rw [HC.out, show (s + (1099511627776 - s)) = 1099511627776 by omega], ?_⟩
          exact ((((((Below.refl w.heap.size w).alloc (Nat.le_refl _) _).alloc (by simp) _).trans (hb.mono (by simp; omega))).setCell (by simp) _).drew.setCell (by simp) _).setCell (by simp) _
    · have HC := Aside0.mk (show cnt s c n = s by unfold cnt; rw [if_neg (by omega)])
      have hn1 : decide (n < 0) = true := by simp; omega
      go_enter Try.func33, Try.ntmps33
      go_wp2_with fail
      refine (meter_May.calls s c true _ e).mono ?_
      rintro e w1 ⟨rfl, hb⟩
      obtain ⟨hc, hf⟩ := bcell hb
      have hz := hb.size
      simp at hz
      have c0 := hc w.heap.size 0 (by simp only [World.size_alloc]; omega)
      have f0 := hf w.heap.size 0 (by simp only [World.size_alloc]; omega)
      have c1 := hc w.heap.size 1 (by simp only [World.size_alloc]; omega)
      have f1 := hf w.heap.size 1 (by simp only [World.size_alloc]; omega)
      have c2 := hc (w.heap.size + 1) 0 (by simp only [World.size_alloc]; omega)
      have f2 := hf (w.heap.size + 1) 0 (by simp only [World.size_alloc]; omega)
      have c3 := hc (w.heap.size + 1) 1 (by simp only [World.size_alloc]; omega)
      have f3 := hf (w.heap.size + 1) 1 (by simp only [World.size_alloc]; omega)
      simp at c0 c1 c2 c3 f0 f1 f2 f3
      clear hc hf
      go_wp2
      refine bodyPost_ret (v := .agg #[.int .i64 s, .int .i64 c]) (by simp [results, Try.results33, go_sem, c0, c1, c2, c3, f0, f1, f2, f3, hz]) rfl ⟨by rw [HC.out], ?_⟩
      exact (((((Below.refl w.heap.size w).alloc (Nat.le_refl _) _).alloc (by simp) _).trans (hb.mono (by simp; omega))).setCell (by simp) _).setCell (by simp) _
  · have HC := Aside0.mk (show cnt s c n = s by unfold cnt; rw [if_neg (by omega)])
    have e : meter_May.f s c = some false := by rw [may_f]; simp only [hm, decide_false]
    clear hm
    go_enter Try.func33, Try.ntmps33
    go_wp2_with fail
    refine (meter_May.calls s c false _ e).mono ?_
    rintro e w1 ⟨rfl, hb⟩
    obtain ⟨hc, hf⟩ := bcell hb
    have hz := hb.size
    simp at hz
    have c0 := hc w.heap.size 0 (by simp only [World.size_alloc]; omega)
    have f0 := hf w.heap.size 0 (by simp only [World.size_alloc]; omega)
    have c1 := hc w.heap.size 1 (by simp only [World.size_alloc]; omega)
    have f1 := hf w.heap.size 1 (by simp only [World.size_alloc]; omega)
    have c2 := hc (w.heap.size + 1) 0 (by simp only [World.size_alloc]; omega)
    have f2 := hf (w.heap.size + 1) 0 (by simp only [World.size_alloc]; omega)
    have c3 := hc (w.heap.size + 1) 1 (by simp only [World.size_alloc]; omega)
    have f3 := hf (w.heap.size + 1) 1 (by simp only [World.size_alloc]; omega)
    simp at c0 c1 c2 c3 f0 f1 f2 f3
    clear hc hf
    go_wp2
    refine bodyPost_ret (v := .agg #[.int .i64 s, .int .i64 c]) (by simp [results, Try.results33, go_sem, c0, c1, c2, c3, f0, f1, f2, f3, hz]) rfl ⟨by rw [HC.out], ?_⟩
    exact (((((Below.refl w.heap.size w).alloc (Nat.le_refl _) _).alloc (by simp) _).trans (hb.mono (by simp; omega))).setCell (by simp) _).setCell (by simp) _

set_option maxHeartbeats 1000000 in
set_option maxRecDepth 100000 in
theorem meter_Step.calls (a0_0 a0_1 a1 : Int) (r1 r2 : Int) (w : World) (h : meter_Step.f a0_0 a0_1 a1 = some (r1, r2)) :
    Calls Try.prog 18 #[.agg #[.int .i64 a0_0, .int .i64 a0_1], .int .i64 a1] w fun e w' => e = .returned (.agg #[.int .i64 r1, .int .i64 r2]) ∧ Below w.heap.size w w' := by
  have hu := Try.underlying23
  unfold meter_Step.f at h
  simp only [Option.some.injEq, Prod.mk.injEq] at h
  obtain ⟨rfl, rfl⟩ := h
  go_enter Try.func18, Try.ntmps18
  go_wp2_with fail
  refine (counted0 _ _ _ _).mono ?_
  rintro e w1 ⟨rfl, hb⟩
  obtain ⟨hc, hf⟩ := bcell hb
  have hz := hb.size
  simp at hz
  have c0 := hc w.heap.size 0 (by simp only [World.size_alloc]; omega)
  have f0 := hf w.heap.size 0 (by simp only [World.size_alloc]; omega)
  have c1 := hc w.heap.size 1 (by simp only [World.size_alloc]; omega)
  have f1 := hf w.heap.size 1 (by simp only [World.size_alloc]; omega)
  have c2 := hc (w.heap.size + 1) 0 (by simp only [World.size_alloc]; omega)
  have f2 := hf (w.heap.size + 1) 0 (by simp only [World.size_alloc]; omega)
  have c3 := hc (w.heap.size + 1) 1 (by simp only [World.size_alloc]; omega)
  have f3 := hf (w.heap.size + 1) 1 (by simp only [World.size_alloc]; omega)
  simp at c0 c1 c2 c3 f0 f1 f2 f3
  clear hc hf
  go_wp2
  refine bodyPost_ret (v := .agg #[.int .i64 (cnt a0_0 a0_1 a1), .int .i64 a0_1]) (by simp [results, Try.results18, go_sem, c0, c1, c2, c3, f0, f1, f2, f3, hz]) rfl ⟨rfl, ?_⟩
  exact (((((Below.refl w.heap.size w).alloc (Nat.le_refl _) _).alloc (by simp) _).trans (hb.mono (by simp; omega))).setCell (by simp) _).setCell (by simp) _

set_option maxHeartbeats 1000000 in
set_option maxRecDepth 100000 in
theorem counted1 (s c n : Int) (w : World) :
    Calls Try.prog 33 #[.agg #[.int .i64 s, .int .i64 c], .int .i64 n, .func (.func 36) #[] #[]] w fun e w' => e = .returned (.agg #[.int .i64 s, .int .i64 (cnt c s n)]) ∧ Below w.heap.size w w' := by
  have hu := Try.underlying23
  by_cases hm : (0 ≤ s ∧ s ≤ 1099511627776 ∧ 0 ≤ c ∧ c ≤ 1099511627776)
  · have e : meter_May.f s c = some true := by rw [may_f]; simp [hm]
    obtain ⟨h1, h2, h3, h4⟩ := hm
    by_cases hn : 0 ≤ n
    · by_cases hl : n ≤ 1099511627776 - c
      · have HC := Aside0.mk (show cnt c s n = c + n by unfold cnt; rw [if_pos (by omega), if_pos hl])
        go_enter Try.func33, Try.ntmps33
        go_wp2_with fail
        refine (meter_May.calls s c true _ e).mono ?_
        rintro e w1 ⟨rfl, hb⟩
        obtain ⟨hc, hf⟩ := bcell hb
        have hz := hb.size
        simp at hz
        have c0 := hc w.heap.size 0 (by simp only [World.size_alloc]; omega)
        have f0 := hf w.heap.size 0 (by simp only [World.size_alloc]; omega)
        have c1 := hc w.heap.size 1 (by simp only [World.size_alloc]; omega)
        have f1 := hf w.heap.size 1 (by simp only [World.size_alloc]; omega)
        have c2 := hc (w.heap.size + 1) 0 (by simp only [World.size_alloc]; omega)
        have f2 := hf (w.heap.size + 1) 0 (by simp only [World.size_alloc]; omega)
        have c3 := hc (w.heap.size + 1) 1 (by simp only [World.size_alloc]; omega)
        have f3 := hf (w.heap.size + 1) 1 (by simp only [World.size_alloc]; omega)
        simp at c0 c1 c2 c3 f0 f1 f2 f3
        clear hc hf
        go_wp2_with fail
        refine (part1 _ _).mono ?_
        rintro e w1 ⟨rfl, rfl⟩
        go_wp2
        go_region
        all_goals go_wp2
        all_goals
          refine bodyPost_ret (v := .agg #[.int .i64 s, .int .i64 (c + n)]) (by simp [results, Try.results33, go_sem, c0, c1, c2, c3, f0, f1, f2, f3, hz]) rfl ⟨by rw [HC.out], ?_⟩
          exact ((((((Below.refl w.heap.size w).alloc (Nat.le_refl _) _).alloc (by simp) _).trans (hb.mono (by simp; omega))).setCell (by simp) _).drew.setCell (by simp) _).setCell (by simp) _
      · have HC := Aside0.mk (show cnt c s n = 1099511627776 by unfold cnt; rw [if_pos (by omega), if_neg hl])
        go_enter Try.func33, Try.ntmps33
        go_wp2_with fail
        refine (meter_May.calls s c true _ e).mono ?_
        rintro e w1 ⟨rfl, hb⟩
        obtain ⟨hc, hf⟩ := bcell hb
        have hz := hb.size
        simp at hz
        have c0 := hc w.heap.size 0 (by simp only [World.size_alloc]; omega)
        have f0 := hf w.heap.size 0 (by simp only [World.size_alloc]; omega)
        have c1 := hc w.heap.size 1 (by simp only [World.size_alloc]; omega)
        have f1 := hf w.heap.size 1 (by simp only [World.size_alloc]; omega)
        have c2 := hc (w.heap.size + 1) 0 (by simp only [World.size_alloc]; omega)
        have f2 := hf (w.heap.size + 1) 0 (by simp only [World.size_alloc]; omega)
        have c3 := hc (w.heap.size + 1) 1 (by simp only [World.size_alloc]; omega)
        have f3 := hf (w.heap.size + 1) 1 (by simp only [World.size_alloc]; omega)
        simp at c0 c1 c2 c3 f0 f1 f2 f3
        clear hc hf
        go_wp2_with fail
        refine (part1 _ _).mono ?_
        rintro e w1 ⟨rfl, rfl⟩
        go_wp2
        go_region
        all_goals go_wp2
        all_goals
          refine bodyPost_ret (v := .agg #[.int .i64 s, .int .i64 (c + (1099511627776 - c))]) (by simp [results, Try.results33, go_sem, c0, c1, c2, c3, f0, f1, f2, f3, hz]) rfl ⟨by rw [HC.out, show (c + (1099511627776 - c)) = 1099511627776 by omega], ?_⟩
          exact ((((((Below.refl w.heap.size w).alloc (Nat.le_refl _) _).alloc (by simp) _).trans (hb.mono (by simp; omega))).setCell (by simp) _).drew.setCell (by simp) _).setCell (by simp) _
    · have HC := Aside0.mk (show cnt c s n = c by unfold cnt; rw [if_neg (by omega)])
      have hn1 : decide (n < 0) = true := by simp; omega
      go_enter Try.func33, Try.ntmps33
      go_wp2_with fail
      refine (meter_May.calls s c true _ e).mono ?_
      rintro e w1 ⟨rfl, hb⟩
      obtain ⟨hc, hf⟩ := bcell hb
      have hz := hb.size
      simp at hz
      have c0 := hc w.heap.size 0 (by simp only [World.size_alloc]; omega)
      have f0 := hf w.heap.size 0 (by simp only [World.size_alloc]; omega)
      have c1 := hc w.heap.size 1 (by simp only [World.size_alloc]; omega)
      have f1 := hf w.heap.size 1 (by simp only [World.size_alloc]; omega)
      have c2 := hc (w.heap.size + 1) 0 (by simp only [World.size_alloc]; omega)
      have f2 := hf (w.heap.size + 1) 0 (by simp only [World.size_alloc]; omega)
      have c3 := hc (w.heap.size + 1) 1 (by simp only [World.size_alloc]; omega)
      have f3 := hf (w.heap.size + 1) 1 (by simp only [World.size_alloc]; omega)
      simp at c0 c1 c2 c3 f0 f1 f2 f3
      clear hc hf
      go_wp2
      refine bodyPost_ret (v := .agg #[.int .i64 s, .int .i64 c]) (by simp [results, Try.results33, go_sem, c0, c1, c2, c3, f0, f1, f2, f3, hz]) rfl ⟨by rw [HC.out], ?_⟩
      exact (((((Below.refl w.heap.size w).alloc (Nat.le_refl _) _).alloc (by simp) _).trans (hb.mono (by simp; omega))).setCell (by simp) _).setCell (by simp) _
  · have HC := Aside0.mk (show cnt c s n = c by unfold cnt; rw [if_neg (by omega)])
    have e : meter_May.f s c = some false := by rw [may_f]; simp only [hm, decide_false]
    clear hm
    go_enter Try.func33, Try.ntmps33
    go_wp2_with fail
    refine (meter_May.calls s c false _ e).mono ?_
    rintro e w1 ⟨rfl, hb⟩
    obtain ⟨hc, hf⟩ := bcell hb
    have hz := hb.size
    simp at hz
    have c0 := hc w.heap.size 0 (by simp only [World.size_alloc]; omega)
    have f0 := hf w.heap.size 0 (by simp only [World.size_alloc]; omega)
    have c1 := hc w.heap.size 1 (by simp only [World.size_alloc]; omega)
    have f1 := hf w.heap.size 1 (by simp only [World.size_alloc]; omega)
    have c2 := hc (w.heap.size + 1) 0 (by simp only [World.size_alloc]; omega)
    have f2 := hf (w.heap.size + 1) 0 (by simp only [World.size_alloc]; omega)
    have c3 := hc (w.heap.size + 1) 1 (by simp only [World.size_alloc]; omega)
    have f3 := hf (w.heap.size + 1) 1 (by simp only [World.size_alloc]; omega)
    simp at c0 c1 c2 c3 f0 f1 f2 f3
    clear hc hf
    go_wp2
    refine bodyPost_ret (v := .agg #[.int .i64 s, .int .i64 c]) (by simp [results, Try.results33, go_sem, c0, c1, c2, c3, f0, f1, f2, f3, hz]) rfl ⟨by rw [HC.out], ?_⟩
    exact (((((Below.refl w.heap.size w).alloc (Nat.le_refl _) _).alloc (by simp) _).trans (hb.mono (by simp; omega))).setCell (by simp) _).setCell (by simp) _

set_option maxHeartbeats 1000000 in
set_option maxRecDepth 100000 in
theorem meter_Cell.calls (a0_0 a0_1 a1 : Int) (r1 r2 : Int) (w : World) (h : meter_Cell.f a0_0 a0_1 a1 = some (r1, r2)) :
    Calls Try.prog 20 #[.agg #[.int .i64 a0_0, .int .i64 a0_1], .int .i64 a1] w fun e w' => e = .returned (.agg #[.int .i64 r1, .int .i64 r2]) ∧ Below w.heap.size w w' := by
  have hu := Try.underlying23
  unfold meter_Cell.f at h
  simp only [Option.some.injEq, Prod.mk.injEq] at h
  obtain ⟨rfl, rfl⟩ := h
  go_enter Try.func20, Try.ntmps20
  go_wp2_with fail
  refine (counted1 _ _ _ _).mono ?_
  rintro e w1 ⟨rfl, hb⟩
  obtain ⟨hc, hf⟩ := bcell hb
  have hz := hb.size
  simp at hz
  have c0 := hc w.heap.size 0 (by simp only [World.size_alloc]; omega)
  have f0 := hf w.heap.size 0 (by simp only [World.size_alloc]; omega)
  have c1 := hc w.heap.size 1 (by simp only [World.size_alloc]; omega)
  have f1 := hf w.heap.size 1 (by simp only [World.size_alloc]; omega)
  have c2 := hc (w.heap.size + 1) 0 (by simp only [World.size_alloc]; omega)
  have f2 := hf (w.heap.size + 1) 0 (by simp only [World.size_alloc]; omega)
  have c3 := hc (w.heap.size + 1) 1 (by simp only [World.size_alloc]; omega)
  have f3 := hf (w.heap.size + 1) 1 (by simp only [World.size_alloc]; omega)
  simp at c0 c1 c2 c3 f0 f1 f2 f3
  clear hc hf
  go_wp2
  refine bodyPost_ret (v := .agg #[.int .i64 a0_0, .int .i64 (cnt a0_1 a0_0 a1)]) (by simp [results, Try.results20, go_sem, c0, c1, c2, c3, f0, f1, f2, f3, hz]) rfl ⟨rfl, ?_⟩
  exact (((((Below.refl w.heap.size w).alloc (Nat.le_refl _) _).alloc (by simp) _).trans (hb.mono (by simp; omega))).setCell (by simp) _).setCell (by simp) _

end Go.Proofs.Ytfpihmjdcneheaa.PMeter
