/- The pure statement of SpanMatch. -/
import Derived.Test.YtjibfhlacbgkgaaPSpanx15
import Derived.Test.YtjibfhlacbgkgaaPureSpanLib
namespace Go.Proofs.Ytjibfhlacbgkgaa.PSpan
open Go.RowKit Go.Proofs.YtjibfhlacbgkgaaW.PrintWords Go.Proofs.YtjibfhlacbgkgaaW.PrintMore
set_option linter.unusedVariables false
set_option linter.unusedSimpArgs false
theorem _root_.Go.Proofs.Ytjibfhlacbgkgaa.Pure.SpanMatch : copperplatelaw17_SpanMatch.Pure := by
  intro l a1 a2 _ hw _ _
  refine ⟨2, ?_⟩
  have J : copperplatelaw17_SpanMatch.j0 2 l a1 a2 true true = some true := rfl
  unfold copperplatelaw17_SpanMatch.f copperplatelaw17_awake.f
  rw [Option.bind_some, if_pos rfl]
  by_cases c1 : (l.length : Int) > 300
  · rw [if_pos c1]; exact J
  rw [if_neg c1, may_f (by omega), Option.bind_some]
  by_cases hm : mayOf l = true
  rotate_left
  · rw [if_neg hm]; exact J
  rw [if_pos hm]
  have hm := mayOf_iff.1 hm
  by_cases c2 : a1 < 0
  · rw [if_pos c2]; exact J
  rw [if_neg c2]
  by_cases c3 : a2 < 0
  · rw [if_pos c3]; exact J
  rw [if_neg c3]
  by_cases c4 : a1 ≥ (l.length : Int)
  · rw [if_pos c4]; exact J
  rw [if_neg c4]
  by_cases c5 : a2 ≥ (l.length : Int)
  · rw [if_pos c5]; exact J
  rw [if_neg c5, if_pos (by omega), if_pos (by omega)]
  clear J
  obtain ⟨i, rfl⟩ := Int.eq_ofNat_of_zero_le (show 0 ≤ a1 by omega)
  obtain ⟨k, rfl⟩ := Int.eq_ofNat_of_zero_le (show 0 ≤ a2 by omega)
  rw [rd_gB]
  by_cases c6 : (gB l i).f0 = 6
  rotate_left
  · rw [show ((gB l i).f0 != 6) = true from bne_iff_ne.2 c6]; rfl
  rw [show ((gB l i).f0 != 6) = false by rw [c6]; rfl]
  obtain ⟨m, hM⟩ := hm.group (by omega) c6
  have lt := hM.lt; have hl := hM.len
  rw [copperplatelaw17_SpanMatch.j0, if_neg (by decide), match_f (by omega), hM.mt, Option.bind_some, if_neg (by omega), if_neg (by omega), if_pos (by omega), if_pos (by omega), rd_gB, if_pos hM.close, match_f (by omega), Option.bind_some]
  rcases matchOf_cases l (k : Int) with ⟨h1, _⟩ | ⟨k', n, e, h1, hN⟩
  · rw [h1]
    (repeat' split) <;> first | rfl | (exfalso; omega)
  · obtain rfl : k = k' := by omega
    have f := hM.facts hN
    rw [h1]
    (repeat' split) <;> first | rfl | (exfalso; omega) | (rw [decide_eq_true (by omega)])
end Go.Proofs.Ytjibfhlacbgkgaa.PSpan
