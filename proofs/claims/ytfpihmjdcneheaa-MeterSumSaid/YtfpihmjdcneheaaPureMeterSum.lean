/- The pure statement of MeterSum: over whole numbers alone. -/
import Derived.Test.YtfpihmjdcneheaaPMeterx11
import Derived.Test.YtfpihmjdcneheaaPureMeterLib
namespace Go.Proofs.Ytfpihmjdcneheaa.Pure
open Go.RowKit Go.Proofs.Ytfpihmjdcneheaa.PMeter Go.Proofs.YtfpihmjdcneheaaW.PrintWords
set_option linter.unusedVariables false

theorem sum_may (a b c d : Int) (h1 : Mayp a b) (h2 : Mayp c d) : Mayp (cnt a b c) (cnt b (cnt a b c) d) ∧ cnt a b c = (if c ≤ 1099511627776 - a then a + c else 1099511627776) ∧ cnt b (cnt a b c) d = (if d ≤ 1099511627776 - b then b + d else 1099511627776) := by
  unfold Mayp at h1 h2
  have e0 := cnt_bd a b c h1
  have e1 := cnt_yes h1 (n := c) (by omega)
  have e2 := cnt_yes (a := b) (b := cnt a b c) (n := d) (by unfold Mayp; omega) (by omega)
  have e3 := cnt_bd b (cnt a b c) d (by unfold Mayp; omega)
  exact ⟨by unfold Mayp; omega, e1, e2⟩
theorem MeterSum : copperplatelaw01_MeterSum.Pure := by
  intro a b c d e f _ _ _ _ _ _
  refine ⟨2, ?_⟩
  unfold copperplatelaw01_MeterSum.f copperplatelaw01_awake.f
  simp only [mayp_f, sump_f 1, Option.bind_some]
  by_cases h1 : Mayp a b
  · rw [if_pos (by simpa using h1)]
    by_cases h2 : Mayp c d
    · obtain ⟨m1, p1, q1⟩ := sum_may a b c d h1 h2
      obtain ⟨m1', p1', q1'⟩ := sum_may c d a b h2 h1
      have hz : Mayp 0 0 := by unfold Mayp; omega
      obtain ⟨m0, p0, q0⟩ := sum_may a b 0 0 h1 hz
      have k1 : cnt a b 0 = a := by rw [p0]; unfold Mayp at h1; rw [if_pos (by omega)]; omega
      have k2 : cnt b (cnt a b 0) 0 = b := by rw [q0]; unfold Mayp at h1; rw [if_pos (by omega)]; omega
      have e1 : cnt a b c = cnt c d a := by rw [p1, p1']; split <;> split <;> omega
      have e2 : cnt b (cnt a b c) d = cnt d (cnt c d a) b := by rw [q1, q1']; split <;> split <;> omega
      have e2' : cnt d (cnt a b c) b = cnt b (cnt a b c) d := by rw [e2, e1]
      have k2' : cnt b a 0 = b := by rw [k1] at k2; exact k2
      have g1 := cnt_bd a b c h1
      have g2 : b ≤ cnt b (cnt a b c) d ∧ d ≤ cnt b (cnt a b c) d := by rw [q1]; unfold Mayp at h1 h2; split <;> omega
      simp only [h1, h2, and_self, if_true, decide_true, Bool.not_true, copperplatelaw01_MeterSum.j0, Bool.false_eq_true, if_false, mayp_f, Option.bind_some]
      by_cases h3 : Mayp e f
      · obtain ⟨m2, p2, q2⟩ := sum_may c d e f h2 h3
        obtain ⟨m3, p3, q3⟩ := sum_may _ _ e f m1 h3
        obtain ⟨m4, p4, q4⟩ := sum_may a b _ _ h1 m2
        have r1 : cnt (cnt a b c) (cnt b (cnt a b c) d) e = cnt a b (cnt c d e) := by
          rw [p3, p4, p1, p2]; unfold Mayp at h1 h2 h3; (repeat' split) <;> omega
        have r2 : cnt (cnt b (cnt a b c) d) (cnt (cnt a b c) (cnt b (cnt a b c) d) e) f = cnt b (cnt a b (cnt c d e)) (cnt d (cnt c d e) f) := by
          rw [q3, q4, q1, q2]; unfold Mayp at h1 h2 h3; (repeat' split) <;> omega
        have r2' : cnt (cnt b (cnt a b c) d) (cnt a b (cnt c d e)) f = cnt b (cnt a b (cnt c d e)) (cnt d (cnt c d e) f) := by rw [← r1]; rw [r1] at r2 ⊢; exact r2
        simp only [h3, decide_true, if_true, sump_f 0, m1, h1, h2, hz, m2, and_self, Option.bind_some, e2', ← e1, k2', k1, r2', r1, beq_self_eq_true, Bool.and_self]
        rw [if_pos g1.2.2]
        simp [g2.2]
      · have h3' : decide (Mayp e f) = false := by simpa using h3
        show (if decide (Mayp e f) = true then _ else _) = _
        rw [h3', if_neg (by decide)]
        simp only [sump_f 0, m1, h1, h2, hz, and_self, if_true, Option.bind_some, e2', ← e1, k2', k1, beq_self_eq_true, Bool.and_self, decide_true]
        rw [if_pos g1.2.2]
        simp [g2.2]
    · simp [h1, h2, copperplatelaw01_MeterSum.j0]
  · rw [if_neg (by simpa using h1)]
    simp [h1, copperplatelaw01_MeterSum.j0]
end Go.Proofs.Ytfpihmjdcneheaa.Pure
