/- strings.TrimSuffix, off the shelf. -/
import Derived.Test.YtkhlfdoeploddaaShelf
import Derived.Test.YtkhlfdoeploddaaPFlowx0
namespace Go.Proofs.Ytkhlfdoeploddaa.PFlow
open Go.RowKit Go.Proofs.YtkhlfdoeploddaaW.PrintWords Go.Proofs.YtkhlfdoeploddaaW.PrintMore
set_option linter.unusedVariables false
def strings_TrimSuffix.f (a0 a1 : ByteArray) : Option ByteArray := if a0.size ≤ 9223372036854775807 then some ⟨(Lib.trimSuffix a0.data.toList a1.data.toList).toArray⟩ else none
theorem strings_TrimSuffix.calls (a0 a1 : ByteArray) (r : ByteArray) (w : World) (h : strings_TrimSuffix.f a0 a1 = some r) :
    Calls Try.prog 28 #[.string a0, .string a1] w fun e w' => e = .returned (.string r) ∧ Below w.heap.size w w' := by
  unfold strings_TrimSuffix.f at h
  by_cases g : a0.size ≤ 9223372036854775807
  · rw [if_pos g] at h
    obtain rfl := Option.some.inj h
    refine (Try.strings_TrimSuffix a0 a1 w g).mono ?_
    rintro e w' ⟨rfl, rfl⟩
    exact ⟨rfl, Below.refl _ _⟩
  · rw [if_neg g] at h; exact absurd h (by simp)
end Go.Proofs.Ytkhlfdoeploddaa.PFlow
