/- What the callees of the laws on groups answer, in closed forms. -/
import Derived.Test.YtjibfhlacbgkgaaHSpanSpanA
import Derived.Test.YtjibfhlacbgkgaaHSpanMarkMay
import Derived.Test.YtjibfhlacbgkgaaHSpanPagL
namespace Go.Proofs.Ytjibfhlacbgkgaa.PSpan
open Go.RowKit Go.Proofs.YtjibfhlacbgkgaaW.PrintWords Go.Proofs.YtjibfhlacbgkgaaW.PrintMore
set_option linter.unusedVariables false
theorem small_of {l : List S23} (h : ∀ x ∈ l, (Lit.int .i64 x.f0).wf = true ∧ x.f1.size ≤ 140737488351232) : small33 l := fun x hx => by have := (h x hx).2; omega
theorem need_f {l : List S23} (hs : small33 l) (hl : l.length ≤ 17592186044416) (i : Int) : span_Need.f l i = some (needOf l i) := by unfold span_Need.f; rw [if_pos ⟨hl, hs⟩]
theorem match_f {l : List S23} (hl : l.length ≤ 17592186044416) (i : Int) : span_Match.f l i = some (matchOf l i) := by unfold span_Match.f; rw [if_pos hl]
theorem flat_f (m : Int) (s : ByteArray) : span_Flat.f m s = some (flatOf m s) := rfl
theorem may_f {l : List S23} (hl : l.length ≤ 17592186044416) : mark_May.f l = some (mayOf l) := by unfold mark_May.f; rw [if_pos hl]
theorem wf64 {x : Int} (h : (Lit.int .i64 x).wf = true) : -9223372036854775808 ≤ x ∧ x ≤ 9223372036854775807 := by
  simp [Lit.wf, IntKind.min, IntKind.max, IntKind.signed, IntKind.bits] at h
  omega
end Go.Proofs.Ytjibfhlacbgkgaa.PSpan
