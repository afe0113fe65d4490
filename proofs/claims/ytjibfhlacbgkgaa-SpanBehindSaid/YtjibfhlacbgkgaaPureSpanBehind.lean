/- The pure statement of SpanBehind. -/
import Derived.Test.YtjibfhlacbgkgaaPSpanx13
import Derived.Test.YtjibfhlacbgkgaaPureSpanLib
namespace Go.Proofs.Ytjibfhlacbgkgaa.PSpan
open Go.RowKit Go.Proofs.YtjibfhlacbgkgaaW.PrintWords Go.Proofs.YtjibfhlacbgkgaaW.PrintMore
set_option linter.unusedVariables false
set_option linter.unusedSimpArgs false
theorem _root_.Go.Proofs.Ytjibfhlacbgkgaa.Pure.SpanBehind : copperplatelaw17_SpanBehind.Pure := by
  intro l a1 s b m _ hw _ hs hb _
  refine ⟨s.size + 3, ?_⟩
  have J : copperplatelaw17_SpanBehind.j0 (s.size + 3) l a1 s b m true true = some true := rfl
  unfold copperplatelaw17_SpanBehind.f copperplatelaw17_awake.f
  rw [Option.bind_some, if_pos rfl]
  by_cases c1 : (l.length : Int) > 300
  · rw [if_pos c1]; exact J
  rw [if_neg c1]
  by_cases c2 : (s.size : Int) > 300
  · rw [if_pos c2]; exact J
  rw [if_neg c2]
  by_cases c3 : (b.size : Int) > 300
  · rw [if_pos c3]; exact J
  rw [if_neg c3]
  by_cases c4 : m < 2
  · rw [if_pos c4]; exact J
  rw [if_neg c4]
  by_cases c5 : m > 5
  · rw [if_pos c5]; exact J
  rw [if_neg c5]
  by_cases c6 : a1 < 0
  · rw [if_pos c6]; exact J
  rw [if_neg c6]
  by_cases c7 : a1 ≥ (l.length : Int)
  · rw [decide_eq_true c7]; exact J
  rw [decide_eq_false c7, copperplatelaw17_SpanBehind.j0, if_neg (by decide), match_f (by omega), Option.bind_some]
  clear J
  have hsm := small_of hw
  have hbr : brB m = true := by
    have : m = 2 ∨ m = 3 ∨ m = 4 ∨ m = 5 := by omega
    rcases this with rfl | rfl | rfl | rfl <;> rfl
  rcases matchOf_cases l a1 with ⟨h1, _⟩ | ⟨i, k, e, h1, hM⟩
  · rw [h1, if_pos (by decide)]; rfl
  rw [h1, if_neg (by omega)]
  have lt := hM.lt; have hl := hM.len
  rw [decide_eq_false (by omega), copperplatelaw17_SpanBehind.j1, if_neg (by decide), wrap_id (by omega) (by omega), if_pos (by omega), if_pos (by omega), show ((k : Int) + 1).toNat = k + 1 by omega]
  have ht : (l.take (k + 1)).length = k + 1 := by rw [List.length_take]; omega
  have hst := small_take hsm (k + 1)
  have hMt := hM.take (show k < k + 1 by omega)
  have n1 : needOf (l.take (k + 1)) a1 = needV (l.take (k + 1)) i k := by rw [e]; exact hMt.need hst (by omega)
  have hbig : small33 (l.take (k + 1) ++ [⟨0, s⟩, ⟨m, ⟨#[]⟩⟩, ⟨0, b⟩]) := small_app hst (by
    intro x hx
    simp only [List.mem_cons, List.not_mem_nil, or_false] at hx
    rcases hx with rfl | rfl | rfl
    · show s.size ≤ _; omega
    · exact (by decide : (0 : Nat) ≤ 140737488355328)
    · show b.size ≤ _; omega)
  have n2 : needOf (l.take (k + 1) ++ [⟨0, s⟩, ⟨m, ⟨#[]⟩⟩, ⟨0, b⟩]) a1 = if needV (l.take (k + 1)) i k < 0 then -1 else needV (l.take (k + 1)) i k + colsOf s := by
    rw [e, hMt.app.need hbig (by rw [List.length_append, ht]; simp; omega)]
    have := need_behind hMt ht s m hbr ⟨0, b⟩ ⟨#[]⟩
    simpa using this
  have hc := colsOf_bd s
  have hge := needV_ge (l.take (k + 1)) i k
  have hup : needV (l.take (k + 1)) i k ≤ 140737488355328 * 301 + 140737488355328 * 301 := by
    have z1 := sumC_bd hst (i + 1) (k - (i + 1))
    have z2 := behB_bd hst ((l.take (k + 1)).length - (k + 1)) (k + 1)
    unfold needV
    split <;> omega
  rw [need_f hst (by omega)]
  simp only [Option.bind_some, List.nil_append, List.length_nil]
  rw [if_pos (by omega), if_pos (by simp; omega), need_f hbig (by rw [List.length_append, ht]; simp; omega), cols_f s (by omega) _ (by omega), n1, n2]
  simp only [Option.bind_some]
  generalize needV (l.take (k + 1)) i k = v at hge hup ⊢
  by_cases g : v = -1
  · subst g; rw [if_pos rfl, if_pos (show (-1 : Int) < 0 by decide), if_pos rfl]
  · rw [if_neg g, if_neg (show ¬ v < 0 by omega), if_pos (show v ≥ 0 by omega), wrap_id (by omega) (by omega), beq_self_eq_true]
end Go.Proofs.Ytjibfhlacbgkgaa.PSpan
