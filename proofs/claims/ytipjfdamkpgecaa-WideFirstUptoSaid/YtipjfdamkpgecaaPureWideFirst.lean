/- The pure statement of WideFirst. -/
import Derived.Test.YtipjfdamkpgecaaPWidex16
import Derived.Test.YtipjfdamkpgecaaPureWideByt
namespace Go.Proofs.Ytipjfdamkpgecaa.PWide
open Go.RowKit Go.Proofs.YtipjfdamkpgecaaW.PrintWords Go.Proofs.YtipjfdamkpgecaaW.PrintMore
set_option linter.unusedVariables false
set_option linter.unusedSimpArgs false
theorem _root_.Go.Proofs.Ytipjfdamkpgecaa.Pure.WideFirst : copperplatelaw18_WideFirst.PureUp := by
  intro a b w ha16 hta hb16 htb hw hsum
  have hsa := small_of hta
  have hsb := small_of htb
  have hla : a.length ≤ 17592186044416 := by omega
  have hlb : b.length ≤ 17592186044416 := by omega
  refine ⟨1, ?_⟩
  unfold copperplatelaw18_WideFirst.f copperplatelaw18_awake.f
  rw [Option.bind_some, if_pos rfl]
  have J : copperplatelaw18_WideFirst.j0 1 a b w true true = some true := rfl
  by_cases c1 : (a.length : Int) > 150
  · rw [if_pos c1]; exact J
  rw [if_neg c1]
  by_cases c2 : (b.length : Int) > 150
  · rw [if_pos c2]; exact J
  rw [if_neg c2, roomB_len hla, roomB_len hlb, Option.bind_some, Option.bind_some]
  by_cases ga : roomB a w = true
  rotate_left
  · rw [if_neg ga]; exact J
  rw [if_pos ga]
  by_cases gb : roomB b w = true
  rotate_left
  · rw [show roomB b w = false by simpa using gb]; exact J
  have hma := (roomB_true.1 ga).1
  have hmb := (roomB_true.1 gb).1
  have hww := (roomB_true.1 ga).2
  have hA : MayB (a ++ [(⟨5, ⟨#[]⟩⟩ : S31)]) := hma.app mayB_hard (by show a.length + 1 ≤ 4000; omega)
  have hAB : MayB (a ++ [(⟨5, ⟨#[]⟩⟩ : S31)] ++ b) := hA.app hmb (by rw [List.length_append]; show a.length + 1 + b.length ≤ 4000; omega)
  have gA : roomB (a ++ [(⟨5, ⟨#[]⟩⟩ : S31)]) w = true := roomB_true.2 ⟨hA, hww⟩
  have gAB : roomB (a ++ [(⟨5, ⟨#[]⟩⟩ : S31)] ++ b) w = true := roomB_true.2 ⟨hAB, hww⟩
  have h5 : small33 [(⟨5, ⟨#[]⟩⟩ : S31)] := fun x hx => by obtain rfl := List.mem_singleton.1 hx; decide
  have sA : small33 (a ++ [(⟨5, ⟨#[]⟩⟩ : S31)]) := fun x hx => (List.mem_append.1 hx).elim (hsa x) (h5 x)
  have sAB : small33 (a ++ [(⟨5, ⟨#[]⟩⟩ : S31)] ++ b) := fun x hx => (List.mem_append.1 hx).elim (sA x) (hsb x)
  have lA : (a ++ [(⟨5, ⟨#[]⟩⟩ : S31)]).length = a.length + 1 := by simp
  have lAB : (a ++ [(⟨5, ⟨#[]⟩⟩ : S31)] ++ b).length = a.length + 1 + b.length := by rw [List.length_append, lA]
  have z5 : ([(⟨5, ⟨#[]⟩⟩ : S31)].map fun x => x.f1.size).sum = 0 := rfl
  have bA : bulkB (a ++ [(⟨5, ⟨#[]⟩⟩ : S31)]) (a ++ [(⟨5, ⟨#[]⟩⟩ : S31)]).length = (a.map fun x => x.f1.size).sum := by
    rw [bulk_sum, List.map_append, List.sum_append, z5, Nat.add_zero]
  have bAB : bulkB (a ++ [(⟨5, ⟨#[]⟩⟩ : S31)] ++ b) (a ++ [(⟨5, ⟨#[]⟩⟩ : S31)] ++ b).length = (a.map fun x => x.f1.size).sum + (b.map fun x => x.f1.size).sum := by
    rw [bulk_sum, List.map_append, List.sum_append, List.map_append, List.sum_append, z5, Nat.add_zero]
  have bB := bulk_sum b
  have LA := lay_f (w := w) (by omega) sA (by omega)
  have LB := lay_f (w := w) hlb hsb (by omega)
  have LAB := lay_f (w := w) (by omega) sAB (by omega)
  rw [if_pos gA] at LA
  rw [if_pos gb] at LB
  rw [if_pos gAB] at LAB
  have oA := (upto_bd hA (by omega) w (Nat.le_refl _)).2.2.1
  have oB := (upto_bd hmb (by omega) w (Nat.le_refl _)).2.2.1
  have zA : (outB (a ++ [(⟨5, ⟨#[]⟩⟩ : S31)]) w).size ≤ 2199023255552 := by rw [← bl_len, bl_out]; exact oA
  have zB : (outB b w).size ≤ 2199023255552 := by rw [← bl_len, bl_out]; exact oB
  have hE : outB (a ++ [(⟨5, ⟨#[]⟩⟩ : S31)] ++ b) w = outB (a ++ [(⟨5, ⟨#[]⟩⟩ : S31)]) w ++ outB b w := by
    apply bl_inj
    rw [bl_app, bl_out, bl_out, bl_out]
    exact first_upto hma hmb sAB (by omega) w
  clear oA oB
  rw [gb, copperplatelaw18_WideFirst.j0, if_neg (by decide)]
  simp only [List.nil_append, Option.bind_some]
  rw [if_pos (by show 0 + a.length < 5864062014805; omega), if_pos (by show a.length + 1 < 5864062014805; omega), LA, LB, Option.bind_some, Option.bind_some, if_pos (by show a.length + 1 < 5864062014805; omega), if_pos (by rw [lA]; omega), LAB, Option.bind_some]
  simp only [if_true]
  rw [if_pos (by omega), hE, beq_self_eq_true]
end Go.Proofs.Ytipjfdamkpgecaa.PWide
