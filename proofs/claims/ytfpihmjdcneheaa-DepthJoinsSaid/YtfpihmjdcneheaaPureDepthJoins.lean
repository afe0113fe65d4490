/- The pure statement of DepthJoins. -/
import Derived.Test.YtfpihmjdcneheaaPDepthx7
import Derived.Test.YtfpihmjdcneheaaPureDepthLib
namespace Go.Proofs.Ytfpihmjdcneheaa.PDepth
open Go.RowKit Go.Proofs.YtfpihmjdcneheaaW.PrintWords
set_option linter.unusedVariables false
set_option linter.unusedSimpArgs false

theorem _root_.Go.Proofs.Ytfpihmjdcneheaa.Pure.DepthJoins : copperplatelaw15_DepthJoins.Pure := by
  intro a b ha _ hb _
  refine ⟨10, ?_⟩
  unfold copperplatelaw15_DepthJoins.f copperplatelaw15_awake.f
  rw [Option.bind_some, if_pos rfl]
  by_cases h3 : (a.length : Int) > 300
  · rw [if_pos h3, copperplatelaw15_DepthJoins.j0, if_pos rfl]
  rw [if_neg h3]
  by_cases h4 : (b.length : Int) > 300
  · rw [decide_eq_true h4, copperplatelaw15_DepthJoins.j0, if_pos rfl]
  rw [decide_eq_false h4, copperplatelaw15_DepthJoins.j0, if_neg (by decide), List.nil_append, Option.bind_some]
  rw [if_pos (by simp only [List.length_nil]; omega), if_pos (by omega), Option.bind_some, ends_f (by omega), Option.bind_some, depth_f (by omega), Option.bind_some, depth_f (by omega), Option.bind_some, Option.bind_some]
  have s1 := sumTo_bd a a.length (by omega)
  have s2 := sumTo_bd b b.length (by omega)
  have m1 := maxTo_bd a
  have m2 := maxTo_bd b
  have hap := maxTo_append a b
  have hsp := sumTo_append a b b.length
  have hlen : (a ++ b).length = a.length + b.length := List.length_append
  have w1 : wrap64 (sumTo a a.length + maxTo b b.length) = sumTo a a.length + maxTo b b.length := w64 (by omega) (by omega)
  have w2 : wrap64 (sumTo a a.length + sumTo b b.length) = sumTo a a.length + sumTo b b.length := w64 (by omega) (by omega)
  have hg := maxTo_ge a a.length a.length (by omega)
  have key : ∀ x, x = maxTo (a ++ b) (a.length + b.length) → copperplatelaw15_DepthJoins.j1 9 a b (a ++ b) (sumTo a a.length) x = some true := by
    rintro x rfl
    rw [copperplatelaw15_DepthJoins.j1, ends_f (by omega), ends_f (by omega), depth_f (by omega), depth_f (by omega), hlen]
    simp only [Option.bind_some]
    rw [hsp, w2, if_pos rfl, if_pos trivial, if_pos (by omega), decide_eq_true (by omega)]
  rw [w1]
  split
  · rename_i h
    apply key
    rw [hap, if_pos h]
  · rename_i h
    apply key
    rw [hap, if_neg h]
end Go.Proofs.Ytfpihmjdcneheaa.PDepth
