import Derived.Test.YtfpihmjdcneheaaHMeterMeter
import Derived.Test.YtfpihmjdcneheaaPMeterx8
import Derived.Test.YtfpihmjdcneheaaPMeterx8
namespace Go.Proofs.Ytfpihmjdcneheaa.PMeter
open Go.RowKit Go.Proofs.YtfpihmjdcneheaaW.PrintWords Go.Proofs.YtfpihmjdcneheaaW.PrintLast Go.Proofs.YtfpihmjdcneheaaW.PrintMore
set_option linter.unusedVariables false
set_option linter.unusedSimpArgs false

def copperplatelaw01_awake.f : Option Bool := some true
theorem sum_f (k : Nat) (a b c d : Int) : meter_Sum.f (k + 1) a b c d = some (if (0 ≤ a ∧ a ≤ 1099511627776 ∧ 0 ≤ b ∧ b ≤ 1099511627776) ∧ (0 ≤ c ∧ c ≤ 1099511627776 ∧ 0 ≤ d ∧ d ≤ 1099511627776) then (cnt a b c, cnt b (cnt a b c) d) else (0, 0)) := by
  unfold meter_Sum.f
  rw [may_f, may_f]
  by_cases h : 0 ≤ a ∧ a ≤ 1099511627776 ∧ 0 ≤ b ∧ b ≤ 1099511627776 <;> by_cases h2 : 0 ≤ c ∧ c ≤ 1099511627776 ∧ 0 ≤ d ∧ d ≤ 1099511627776 <;> simp [h, h2, meter_Sum.j0, meter_Step.f, meter_Cell.f]
set_option maxHeartbeats 1000000 in
set_option maxRecDepth 100000 in
theorem copperplatelaw01_awake.calls (r : Bool) (w : World) (h : copperplatelaw01_awake.f = some r) :
    Calls Try.prog 14 #[] w fun e w' => e = .returned (.bool r) ∧ Below w.heap.size w w' := by
  obtain rfl : true = r := Option.some.inj h
  clear h
  have hu := Try.underlying23
  have e1 : meter_Step.f 0 0 2 = some (2, 0) := by decide
  have e2 : meter_Cell.f 2 0 3 = some (2, 3) := by decide
  have e3 : meter_May.f 2 3 = some true := by decide
  have e4 : meter_Within.f 2 3 0 1 2 = some false := by decide +kernel
  have e5 : meter_Within.f 2 3 1 1 2 = some true := by decide +kernel
  have e6 : meter_Sum.f 1 2 3 2 3 = some (4, 6) := by decide
  have hfd : ∀ W : World, (Instr.field 23 (.agg #[.int .i64 4, .int .i64 6]) 1).run Try.prog W = .ok (.int .i64 6) W := fun _ => by kernel_rfl
  go_enter Try.func14, Try.ntmps14
  go_wp2_with fail
  refine (meter_Step.calls _ _ _ _ _ _ e1).mono ?_
  rintro e w1 ⟨rfl, hb1⟩
  go_wp2_with fail
  refine (meter_Cell.calls _ _ _ _ _ _ e2).mono ?_
  rintro e w2 ⟨rfl, hb2⟩
  have HB2 := hb1.trans (hb2.mono hb1.size)
  clear hb1 hb2
  go_wp2_with fail
  refine (meter_May.calls _ _ _ _ e3).mono ?_
  rintro e w3 ⟨rfl, hb⟩
  have HB3 : Below w.heap.size w w3 := by
    have hz := HB2.size
    refine Below.trans ?_ (hb.mono (by first | exact hz | (simp; omega)))
    first | exact HB2 | exact HB2.alloc HB2.size _
  obtain ⟨hc, hf⟩ := bcell hb
  have hz := hb.size
  simp at hz
  have c0 := hc w2.heap.size 0 (by simp only [World.size_alloc]; omega)
  have c1 := hc w2.heap.size 1 (by simp only [World.size_alloc]; omega)
  simp at c0 c1
  have d0 := c0
  have d1 := c1
  have z2 : w2.heap.size < w3.heap.size := by omega
  clear hc hf hb HB2 c0 c1
  replace z2 := z2
  have z3 := z2
  clear z2 hz
  go_wp2_with fail
  refine (meter_Within.calls _ _ _ _ _ _ _ e4).mono ?_
  rintro e w4 ⟨rfl, hb⟩
  have HB4 : Below w.heap.size w w4 := by
    have hz := HB3.size
    refine Below.trans ?_ (hb.mono (by first | exact hz | (simp; omega)))
    first | exact HB3 | exact HB3.alloc HB3.size _
  obtain ⟨hc, hf⟩ := bcell hb
  have hz := hb.size
  skip
  have c0 := hc w2.heap.size 0 (by omega)
  have c1 := hc w2.heap.size 1 (by omega)
  rw [d0] at c0; rw [d1] at c1; clear d0 d1
  have d0 := c0
  have d1 := c1
  have z2 : w2.heap.size < w4.heap.size := by omega
  clear z3
  clear hc hf hb HB3 c0 c1
  skip
  have z4 := z2
  clear z2 hz
  go_wp2_with fail
  refine (meter_Within.calls _ _ _ _ _ _ _ e5).mono ?_
  rintro e w5 ⟨rfl, hb⟩
  have HB5 : Below w.heap.size w w5 := by
    have hz := HB4.size
    refine Below.trans ?_ (hb.mono (by first | exact hz | (simp; omega)))
    first | exact HB4 | exact HB4.alloc HB4.size _
  obtain ⟨hc, hf⟩ := bcell hb
  have hz := hb.size
  skip
  have c0 := hc w2.heap.size 0 (by omega)
  have c1 := hc w2.heap.size 1 (by omega)
  rw [d0] at c0; rw [d1] at c1; clear d0 d1
  have d0 := c0
  have d1 := c1
  have z2 : w2.heap.size < w5.heap.size := by omega
  clear z4
  clear hc hf hb HB4 c0 c1
  skip
  have z5 := z2
  clear z2 hz
  go_wp2_with fail
  refine (meter_Sum.calls _ _ _ _ _ _ _ _ e6).mono ?_
  rintro e w6 ⟨rfl, hb⟩
  have HB6 := HB5.trans (hb.mono HB5.size)
  clear hb
  go_wp2
  all_goals go_ret
  all_goals exact ⟨by first | rfl | (simp; done), by repeat' (first | exact HB6 | refine pw_below_drewN ?_ _ | refine below_drew ?_ | refine below_alloc ?_ _)⟩
end Go.Proofs.Ytfpihmjdcneheaa.PMeter
