/- The pure statement of SpanFlat. -/
import Derived.Test.YtjibfhlacbgkgaaPSpanx9
import Derived.Test.YtjibfhlacbgkgaaPureSpanLib
namespace Go.Proofs.Ytjibfhlacbgkgaa.PSpan
open Go.RowKit Go.Proofs.YtjibfhlacbgkgaaW.PrintWords Go.Proofs.YtjibfhlacbgkgaaW.PrintMore
set_option linter.unusedVariables false
set_option linter.unusedSimpArgs false
theorem _root_.Go.Proofs.Ytjibfhlacbgkgaa.Pure.SpanFlat : copperplatelaw17_SpanFlat.Pure := by
  intro a0 a1 _ _
  refine ⟨a1.size + 3 + 1, ?_⟩
  unfold copperplatelaw17_SpanFlat.f copperplatelaw17_awake.f
  rw [Option.bind_some, if_pos rfl, copperplatelaw17_SpanFlat.j0]
  by_cases h : (a1.size : Int) > 300
  · rw [decide_eq_true h, if_pos rfl]
  rw [decide_eq_false h, if_neg (by decide), flat_f, breaks_f]
  have C : ∀ v : ByteArray, v.size ≤ a1.size + 2 → span_Cols.f (a1.size + 3) v = some (colsOf v) ∧ colsOf v ≤ (v.size : Int) := fun v hv => ⟨cols_f v (by omega) _ (by omega), (colsOf_bd v).2⟩
  have s1 : (⟨#[32]⟩ : ByteArray).size = 1 := rfl
  have s2 : (⟨#[44, 32]⟩ : ByteArray).size = 2 := rfl
  have s0 : (⟨#[]⟩ : ByteArray).size = 0 := rfl
  obtain ⟨c0, d0⟩ := C a1 (by omega)
  obtain ⟨c1, d1⟩ := C ⟨#[32]⟩ (by omega)
  obtain ⟨c2, d2⟩ := C ⟨#[44, 32]⟩ (by omega)
  obtain ⟨c3, _⟩ := C ⟨#[]⟩ (by omega)
  have d3 : colsOf ⟨#[]⟩ ≤ 0 := by rw [cols_none]; exact Int.le_refl 0
  clear C
  replace d1 : colsOf ⟨#[32]⟩ ≤ (1 : Int) := d1
  replace d2 : colsOf ⟨#[44, 32]⟩ ≤ (2 : Int) := d2
  simp only [Option.bind_some]
  by_cases e0 : a0 = 0
  · subst e0; simp [flatOf, brB, c0, d0]
  by_cases e1 : a0 = 1
  · subst e1; simp [flatOf, brB, c1, d1, s1]
  by_cases e2 : a0 = 2
  · subst e2; simp [flatOf, brB, c1, d1, s1]
  by_cases e3 : a0 = 3
  · subst e3; simp [flatOf, brB, c3, d3, s0]
  by_cases e4 : a0 = 4
  · subst e4; simp [flatOf, brB, c2, d2, s2]
  by_cases e5 : a0 = 5
  · subst e5; simp [flatOf, brB, c3, d3, s0]
  by_cases e6 : a0 = 6
  · subst e6; simp [flatOf, brB, c3, d3, s0]
  by_cases e7 : a0 = 7
  · subst e7; simp [flatOf, brB, c3, d3, s0]
  by_cases e8 : a0 = 8
  · subst e8; simp [flatOf, brB, c3, d3, s0]
  by_cases e9 : a0 = 9
  · subst e9; simp [flatOf, brB, c3, d3, s0]
  by_cases g : a0 ≥ 0
  · have g2 : ¬ a0 ≤ 9 := by omega
    simp [flatOf, brB, c3, d3, s0, e0, e1, e2, e3, e4, e5, e6, e7, e8, e9, g, g2]
  · simp [flatOf, brB, c3, d3, s0, e0, e1, e2, e3, e4, e5, e6, e7, e8, e9, g]
end Go.Proofs.Ytjibfhlacbgkgaa.PSpan
