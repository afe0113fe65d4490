-- Written by a program of the session (drive.py, over the kit's print.py with contracts by hand). Not trusted: Lean checks it.
import Derived.Test.YtjibfhlacbgkgaaPSpanx0
import Derived.Test.YtjibfhlacbgkgaaHSpanBad
namespace Go.Proofs.Ytjibfhlacbgkgaa.PSpan
open Go.RowKit Go.Proofs.YtjibfhlacbgkgaaW.PrintWords Go.Proofs.YtjibfhlacbgkgaaW.PrintLast Go.Proofs.YtjibfhlacbgkgaaW.PrintMore
attribute [local go_sem] max2_int min2_int max_two min_two max_three min_three max_four min_four   -- for this text's walks alone
set_option linter.unusedVariables false
set_option linter.unusedSimpArgs false

/-! ### utf_May: function 22 -/
def utf_May.f (a0 : ByteArray) : Option (Bool) := (utf_Bad.f a0).bind fun t251 => (some (decide (t251 < 0)))
set_option maxHeartbeats 8000000 in
set_option maxRecDepth 100000 in
theorem utf_May.calls (a0 : ByteArray) (r : Bool) (w : World) (h : utf_May.f a0 = some r) :
    Calls Try.prog 22 #[.string a0] w fun e w' => e = .returned (.bool r) ∧ Below w.heap.size w w' := by
  have HB := Aside0.mk (Below.refl w.heap.size w)
  have H : ((utf_Bad.f a0).bind fun t251 => (some (decide (t251 < 0)))) = some r := h
  clear h
  replace H := Option.bind_eq_some_iff.mp H
  obtain ⟨t251, A20, H⟩ := H
  replace H : (some (decide (t251 < 0))) = some r := H
  have A2 := Aside0.mk A20
  clear A20
  obtain rfl := Option.some.inj H
  go_enter Try.func22, Try.ntmps22
  go_wp2_with (first | ((with_reducible refine gate_callee (f := 28) rfl ?_); refine goesL_ (some 4) rfl rfl Try.func28 (by kernel_rfl) rfl #[.string a0] rfl (by (try simp only [List.map_toArray, List.map_cons, List.map_nil]); first | done | rfl | (simp only [List.length_drop, List.length_take]; rfl)) ?_; (with_reducible refine (utf_Bad.calls a0 t251 _ A2.out).mono ?_); (try clear A2); rintro e w3 ⟨rfl, hb⟩; refine ⟨_, rfl, ?_⟩; have n0_ := Aside0.mk (below_step (by repeat (first | (with_reducible first | exact HB.out | apply below_alloc | apply pw_below_drewN | apply below_drew1) | exact HB.out)) hb); clear HB; have HB := n0_; clear n0_; (try clear hb); (try clear hb2); (try clear hk); (try clear hi)))
  go_ret
  exact ⟨by first | rfl | (simp [errW_none, errW_some] <;> rfl) | (simp [*, errW_none, errW_some] <;> rfl), by repeat (first | (with_reducible first | exact HB.out | apply below_alloc | apply pw_below_drewN | apply below_drew1) | exact HB.out)⟩

end Go.Proofs.Ytjibfhlacbgkgaa.PSpan
