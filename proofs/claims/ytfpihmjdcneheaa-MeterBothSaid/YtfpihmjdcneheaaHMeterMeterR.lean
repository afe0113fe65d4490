import Derived.Test.YtfpihmjdcneheaaHMeterMeter
import Derived.Test.YtfpihmjdcneheaaPMeterx3
import Derived.Test.YtfpihmjdcneheaaPMeterx8
namespace Go.Proofs.Ytfpihmjdcneheaa.PMeter
open Go.RowKit Go.Proofs.YtfpihmjdcneheaaW.PrintWords Go.Proofs.YtfpihmjdcneheaaW.PrintLast Go.Proofs.YtfpihmjdcneheaaW.PrintMore
set_option linter.unusedVariables false
set_option linter.unusedSimpArgs false

theorem rmay_f (a b : Int) : copperplateref01_May.f a b = some (decide (0 ≤ a ∧ a ≤ 1099511627776 ∧ 0 ≤ b ∧ b ≤ 1099511627776)) := by
  unfold copperplateref01_May.f
  by_cases h1 : 0 ≤ a <;> by_cases h2 : a ≤ 1099511627776 <;> by_cases h3 : 0 ≤ b <;> by_cases h4 : b ≤ 1099511627776 <;> simp [h1, h2, h3, h4]
theorem rmore_f (a n : Int) (h0 : 0 ≤ a) (h1 : a ≤ 1099511627776) (hn : 0 ≤ n) : copperplateref01_more.f a n = some (if n ≤ 1099511627776 - a then a + n else 1099511627776) := by
  unfold copperplateref01_more.f
  have e : wrap64 (1099511627776 - a) = 1099511627776 - a := by unfold wrap64; omega
  by_cases h : n ≤ 1099511627776 - a
  · have e2 : wrap64 (a + n) = a + n := by unfold wrap64; omega
    rw [e, if_neg (by omega), if_pos h, e2]
  · rw [e, if_pos (by omega), if_neg h]
def copperplateref01_Step.f (a0_0 a0_1 a1 : Int) : Option (Int × Int) := some (cnt a0_0 a0_1 a1, a0_1)
def copperplateref01_Cell.f (a0_0 a0_1 a1 : Int) : Option (Int × Int) := some (a0_0, cnt a0_1 a0_0 a1)

set_option maxHeartbeats 1000000 in
set_option maxRecDepth 100000 in
theorem rStep (s c n : Int) (w : World) :
    Calls Try.prog 19 #[.agg #[.int .i64 s, .int .i64 c], .int .i64 n] w fun e w' => e = .returned (.agg #[.int .i64 (cnt s c n), .int .i64 c]) ∧ Below w.heap.size w w' := by
  have hu := Try.underlying23
  by_cases hm : (0 ≤ s ∧ s ≤ 1099511627776 ∧ 0 ≤ c ∧ c ≤ 1099511627776)
  · have e : copperplateref01_May.f s c = some true := by rw [rmay_f]; simp [hm]
    obtain ⟨h1, h2, h3, h4⟩ := hm
    by_cases hn : 0 ≤ n
    · have em := rmore_f s n (by omega) (by omega) hn
      have HC := Aside0.mk (show cnt s c n = (if n ≤ 1099511627776 - s then s + n else 1099511627776) by unfold cnt; rw [if_pos (by omega)])
      obtain ⟨v, hv⟩ : ∃ v, v = (if n ≤ 1099511627776 - s then s + n else 1099511627776) := ⟨_, rfl⟩
      rw [← hv] at em
      have HV := Aside0.mk hv
      clear hv
      go_enter Try.func19, Try.ntmps19
      go_wp2_with fail
      refine (copperplateref01_May.calls s c true _ e).mono ?_
      rintro e w1 ⟨rfl, hb⟩
      obtain ⟨hc, hf⟩ := bcell hb
      have hz := hb.size
      simp at hz
      have c0 := hc w.heap.size 0 (by simp only [World.size_alloc]; omega)
      have f0 := hf w.heap.size 0 (by simp only [World.size_alloc]; omega)
      have c1 := hc w.heap.size 1 (by simp only [World.size_alloc]; omega)
      have f1 := hf w.heap.size 1 (by simp only [World.size_alloc]; omega)
      have c2 := hc (w.heap.size + 1) 0 (by simp only [World.size_alloc]; omega)
      have f2 := hf (w.heap.size + 1) 0 (by simp only [World.size_alloc]; omega)
      have c3 := hc (w.heap.size + 1) 1 (by simp only [World.size_alloc]; omega)
      have f3 := hf (w.heap.size + 1) 1 (by simp only [World.size_alloc]; omega)
      simp at c0 c1 c2 c3 f0 f1 f2 f3
      clear hc hf
      go_wp2_with fail
      refine (copperplateref01_more.calls _ _ _ _ em).mono ?_
      rintro e w2 ⟨rfl, ⟨⟨nn, rfl⟩⟩⟩
      go_wp2
      refine bodyPost_ret (v := .agg #[.int .i64 v, .int .i64 c]) (by simp [results, Try.results19, go_sem, c0, c1, c2, c3, f0, f1, f2, f3, hz]) rfl ⟨by rw [HC.out, HV.out], ?_⟩
      have HB : Below w.heap.size w w1 := (((Below.refl w.heap.size w).alloc (Nat.le_refl _) _).alloc (by simp) _).trans (hb.mono (by simp; omega))
      (repeat' (first | exact HB | refine pw_below_drewN ?_ _ | refine below_drew ?_ | refine Below.setCell ?_ (by first | exact Nat.le_refl _ | exact Nat.le_succ _) _))
    · have HC := Aside0.mk (show cnt s c n = s by unfold cnt; rw [if_neg (by omega)])
      go_enter Try.func19, Try.ntmps19
      go_wp2_with fail
      refine (copperplateref01_May.calls s c true _ e).mono ?_
      rintro e w1 ⟨rfl, hb⟩
      obtain ⟨hc, hf⟩ := bcell hb
      have hz := hb.size
      simp at hz
      have c0 := hc w.heap.size 0 (by simp only [World.size_alloc]; omega)
      have f0 := hf w.heap.size 0 (by simp only [World.size_alloc]; omega)
      have c1 := hc w.heap.size 1 (by simp only [World.size_alloc]; omega)
      have f1 := hf w.heap.size 1 (by simp only [World.size_alloc]; omega)
      have c2 := hc (w.heap.size + 1) 0 (by simp only [World.size_alloc]; omega)
      have f2 := hf (w.heap.size + 1) 0 (by simp only [World.size_alloc]; omega)
      have c3 := hc (w.heap.size + 1) 1 (by simp only [World.size_alloc]; omega)
      have f3 := hf (w.heap.size + 1) 1 (by simp only [World.size_alloc]; omega)
      simp at c0 c1 c2 c3 f0 f1 f2 f3
      clear hc hf
      go_wp2
      refine bodyPost_ret (v := .agg #[.int .i64 s, .int .i64 c]) (by simp [results, Try.results19, go_sem, c0, c1, c2, c3, f0, f1, f2, f3, hz]) rfl ⟨by rw [HC.out], ?_⟩
      have HB : Below w.heap.size w w1 := (((Below.refl w.heap.size w).alloc (Nat.le_refl _) _).alloc (by simp) _).trans (hb.mono (by simp; omega))
      (repeat' (first | exact HB | refine pw_below_drewN ?_ _ | refine below_drew ?_ | refine Below.setCell ?_ (by first | exact Nat.le_refl _ | exact Nat.le_succ _) _))
  · have HC := Aside0.mk (show cnt s c n = s by unfold cnt; rw [if_neg (by omega)])
    have e : copperplateref01_May.f s c = some false := by rw [rmay_f]; simp only [hm, decide_false]
    clear hm
    go_enter Try.func19, Try.ntmps19
    go_wp2_with fail
    refine (copperplateref01_May.calls s c false _ e).mono ?_
    rintro e w1 ⟨rfl, hb⟩
    obtain ⟨hc, hf⟩ := bcell hb
    have hz := hb.size
    simp at hz
    have c0 := hc w.heap.size 0 (by simp only [World.size_alloc]; omega)
    have f0 := hf w.heap.size 0 (by simp only [World.size_alloc]; omega)
    have c1 := hc w.heap.size 1 (by simp only [World.size_alloc]; omega)
    have f1 := hf w.heap.size 1 (by simp only [World.size_alloc]; omega)
    have c2 := hc (w.heap.size + 1) 0 (by simp only [World.size_alloc]; omega)
    have f2 := hf (w.heap.size + 1) 0 (by simp only [World.size_alloc]; omega)
    have c3 := hc (w.heap.size + 1) 1 (by simp only [World.size_alloc]; omega)
    have f3 := hf (w.heap.size + 1) 1 (by simp only [World.size_alloc]; omega)
    simp at c0 c1 c2 c3 f0 f1 f2 f3
    clear hc hf
    go_wp2
    refine bodyPost_ret (v := .agg #[.int .i64 s, .int .i64 c]) (by simp [results, Try.results19, go_sem, c0, c1, c2, c3, f0, f1, f2, f3, hz]) rfl ⟨by rw [HC.out], ?_⟩
    have HB : Below w.heap.size w w1 := (((Below.refl w.heap.size w).alloc (Nat.le_refl _) _).alloc (by simp) _).trans (hb.mono (by simp; omega))
    (repeat' (first | exact HB | refine pw_below_drewN ?_ _ | refine below_drew ?_ | refine Below.setCell ?_ (by first | exact Nat.le_refl _ | exact Nat.le_succ _) _))
theorem copperplateref01_Step.calls (a0_0 a0_1 a1 : Int) (r1 r2 : Int) (w : World) (h : copperplateref01_Step.f a0_0 a0_1 a1 = some (r1, r2)) :
    Calls Try.prog 19 #[.agg #[.int .i64 a0_0, .int .i64 a0_1], .int .i64 a1] w fun e w' => e = .returned (.agg #[.int .i64 r1, .int .i64 r2]) ∧ Below w.heap.size w w' := by
  unfold copperplateref01_Step.f at h
  simp only [Option.some.injEq, Prod.mk.injEq] at h
  obtain ⟨rfl, rfl⟩ := h
  exact rStep _ _ _ _

set_option maxHeartbeats 1000000 in
set_option maxRecDepth 100000 in
theorem rCell (s c n : Int) (w : World) :
    Calls Try.prog 21 #[.agg #[.int .i64 s, .int .i64 c], .int .i64 n] w fun e w' => e = .returned (.agg #[.int .i64 s, .int .i64 (cnt c s n)]) ∧ Below w.heap.size w w' := by
  have hu := Try.underlying23
  by_cases hm : (0 ≤ s ∧ s ≤ 1099511627776 ∧ 0 ≤ c ∧ c ≤ 1099511627776)
  · have e : copperplateref01_May.f s c = some true := by rw [rmay_f]; simp [hm]
    obtain ⟨h1, h2, h3, h4⟩ := hm
    by_cases hn : 0 ≤ n
    · have em := rmore_f c n (by omega) (by omega) hn
      have HC := Aside0.mk (show cnt c s n = (if n ≤ 1099511627776 - c then c + n else 1099511627776) by unfold cnt; rw [if_pos (by omega)])
      obtain ⟨v, hv⟩ : ∃ v, v = (if n ≤ 1099511627776 - c then c + n else 1099511627776) := ⟨_, rfl⟩
      rw [← hv] at em
      have HV := Aside0.mk hv
      clear hv
      go_enter Try.func21, Try.ntmps21
      go_wp2_with fail
      refine (copperplateref01_May.calls s c true _ e).mono ?_
      rintro e w1 ⟨rfl, hb⟩
      obtain ⟨hc, hf⟩ := bcell hb
      have hz := hb.size
      simp at hz
      have c0 := hc w.heap.size 0 (by simp only [World.size_alloc]; omega)
      have f0 := hf w.heap.size 0 (by simp only [World.size_alloc]; omega)
      have c1 := hc w.heap.size 1 (by simp only [World.size_alloc]; omega)
      have f1 := hf w.heap.size 1 (by simp only [World.size_alloc]; omega)
      have c2 := hc (w.heap.size + 1) 0 (by simp only [World.size_alloc]; omega)
      have f2 := hf (w.heap.size + 1) 0 (by simp only [World.size_alloc]; omega)
      have c3 := hc (w.heap.size + 1) 1 (by simp only [World.size_alloc]; omega)
      have f3 := hf (w.heap.size + 1) 1 (by simp only [World.size_alloc]; omega)
      simp at c0 c1 c2 c3 f0 f1 f2 f3
      clear hc hf
      go_wp2_with fail
      refine (copperplateref01_more.calls _ _ _ _ em).mono ?_
      rintro e w2 ⟨rfl, ⟨⟨nn, rfl⟩⟩⟩
      go_wp2
      refine bodyPost_ret (v := .agg #[.int .i64 s, .int .i64 v]) (by simp [results, Try.results21, go_sem, c0, c1, c2, c3, f0, f1, f2, f3, hz]) rfl ⟨by rw [HC.out, HV.out], ?_⟩
      have HB : Below w.heap.size w w1 := (((Below.refl w.heap.size w).alloc (Nat.le_refl _) _).alloc (by simp) _).trans (hb.mono (by simp; omega))
      (repeat' (first | exact HB | refine pw_below_drewN ?_ _ | refine below_drew ?_ | refine Below.setCell ?_ (by first | exact Nat.le_refl _ | exact Nat.le_succ _) _))
    · have HC := Aside0.mk (show cnt c s n = c by unfold cnt; rw [if_neg (by omega)])
      go_enter Try.func21, Try.ntmps21
      go_wp2_with fail
      refine (copperplateref01_May.calls s c true _ e).mono ?_
      rintro e w1 ⟨rfl, hb⟩
      obtain ⟨hc, hf⟩ := bcell hb
      have hz := hb.size
      simp at hz
      have c0 := hc w.heap.size 0 (by simp only [World.size_alloc]; omega)
      have f0 := hf w.heap.size 0 (by simp only [World.size_alloc]; omega)
      have c1 := hc w.heap.size 1 (by simp only [World.size_alloc]; omega)
      have f1 := hf w.heap.size 1 (by simp only [World.size_alloc]; omega)
      have c2 := hc (w.heap.size + 1) 0 (by simp only [World.size_alloc]; omega)
      have f2 := hf (w.heap.size + 1) 0 (by simp only [World.size_alloc]; omega)
      have c3 := hc (w.heap.size + 1) 1 (by simp only [World.size_alloc]; omega)
      have f3 := hf (w.heap.size + 1) 1 (by simp only [World.size_alloc]; omega)
      simp at c0 c1 c2 c3 f0 f1 f2 f3
      clear hc hf
      go_wp2
      refine bodyPost_ret (v := .agg #[.int .i64 s, .int .i64 c]) (by simp [results, Try.results21, go_sem, c0, c1, c2, c3, f0, f1, f2, f3, hz]) rfl ⟨by rw [HC.out], ?_⟩
      have HB : Below w.heap.size w w1 := (((Below.refl w.heap.size w).alloc (Nat.le_refl _) _).alloc (by simp) _).trans (hb.mono (by simp; omega))
      (repeat' (first | exact HB | refine pw_below_drewN ?_ _ | refine below_drew ?_ | refine Below.setCell ?_ (by first | exact Nat.le_refl _ | exact Nat.le_succ _) _))
  · have HC := Aside0.mk (show cnt c s n = c by unfold cnt; rw [if_neg (by omega)])
    have e : copperplateref01_May.f s c = some false := by rw [rmay_f]; simp only [hm, decide_false]
    clear hm
    go_enter Try.func21, Try.ntmps21
    go_wp2_with fail
    refine (copperplateref01_May.calls s c false _ e).mono ?_
    rintro e w1 ⟨rfl, hb⟩
    obtain ⟨hc, hf⟩ := bcell hb
    have hz := hb.size
    simp at hz
    have c0 := hc w.heap.size 0 (by simp only [World.size_alloc]; omega)
    have f0 := hf w.heap.size 0 (by simp only [World.size_alloc]; omega)
    have c1 := hc w.heap.size 1 (by simp only [World.size_alloc]; omega)
    have f1 := hf w.heap.size 1 (by simp only [World.size_alloc]; omega)
    have c2 := hc (w.heap.size + 1) 0 (by simp only [World.size_alloc]; omega)
    have f2 := hf (w.heap.size + 1) 0 (by simp only [World.size_alloc]; omega)
    have c3 := hc (w.heap.size + 1) 1 (by simp only [World.size_alloc]; omega)
    have f3 := hf (w.heap.size + 1) 1 (by simp only [World.size_alloc]; omega)
    simp at c0 c1 c2 c3 f0 f1 f2 f3
    clear hc hf
    go_wp2
    refine bodyPost_ret (v := .agg #[.int .i64 s, .int .i64 c]) (by simp [results, Try.results21, go_sem, c0, c1, c2, c3, f0, f1, f2, f3, hz]) rfl ⟨by rw [HC.out], ?_⟩
    have HB : Below w.heap.size w w1 := (((Below.refl w.heap.size w).alloc (Nat.le_refl _) _).alloc (by simp) _).trans (hb.mono (by simp; omega))
    (repeat' (first | exact HB | refine pw_below_drewN ?_ _ | refine below_drew ?_ | refine Below.setCell ?_ (by first | exact Nat.le_refl _ | exact Nat.le_succ _) _))
theorem copperplateref01_Cell.calls (a0_0 a0_1 a1 : Int) (r1 r2 : Int) (w : World) (h : copperplateref01_Cell.f a0_0 a0_1 a1 = some (r1, r2)) :
    Calls Try.prog 21 #[.agg #[.int .i64 a0_0, .int .i64 a0_1], .int .i64 a1] w fun e w' => e = .returned (.agg #[.int .i64 r1, .int .i64 r2]) ∧ Below w.heap.size w w' := by
  unfold copperplateref01_Cell.f at h
  simp only [Option.some.injEq, Prod.mk.injEq] at h
  obtain ⟨rfl, rfl⟩ := h
  exact rCell _ _ _ _
end Go.Proofs.Ytfpihmjdcneheaa.PMeter
