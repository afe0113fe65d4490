/- The pure statement of WideTells. -/
import Derived.Test.YtipjfdamkpgecaaPWidex23
import Derived.Test.YtipjfdamkpgecaaPureWideLib
import Derived.Test.YtipjfdamkpgecaaHWideRef18
namespace Go.Proofs.Ytipjfdamkpgecaa.PWide
open Go.RowKit Go.Proofs.YtipjfdamkpgecaaW.PrintWords Go.Proofs.YtipjfdamkpgecaaW.PrintMore
set_option linter.unusedVariables false
set_option linter.unusedSimpArgs false
theorem rroom_f (l : List S31) (w : Int) {K : Nat} (hK : 2 * l.length + 1 ≤ K) : copperplateref18_Room.f K l w = some (roomB l w) := by
  unfold copperplateref18_Room.f roomB
  rw [rmay_f l hK, Option.bind_some]
  cases mayOf l with
  | false => rfl
  | true =>
    rw [if_pos rfl]
    by_cases g : 1 ≤ w
    · rw [if_pos g, decide_eq_true g]; rfl
    · rw [if_neg g, decide_eq_false g]; rfl
theorem rupto_f {l : List S31} (hm : MayB l) (hs : small33 l) (hb : bulkB l l.length ≤ 1099511627776) (w : Int) (k : Nat) (hk : k ≤ l.length) {K : Nat} (hK : 6 * l.length + bulkB l l.length + 9000 ≤ K) :
    copperplateref18_Upto.f K l w (k : Int) = some (pgT (uptoP l w k)) := by
  unfold copperplateref18_Upto.f
  exact rupto_l hm hs hb w k hk _ rfl k 0 K (by omega) (by omega)
theorem rlay_f {l : List S31} (hs : small33 l) (hb : bulkB l l.length ≤ 1099511627776) (w : Int) {K : Nat} (hK : 6 * l.length + bulkB l l.length + 9000 ≤ K) :
    copperplateref18_Lay.f K l w = some (if roomB l w = true then (outB l w, true) else (⟨#[]⟩, false)) := by
  unfold copperplateref18_Lay.f
  rw [rroom_f l w (by omega), Option.bind_some]
  by_cases g : roomB l w = true
  · rw [if_pos g, if_pos g, rupto_f (roomB_true.1 g).1 hs hb w l.length (Nat.le_refl _) hK]; rfl
  · rw [if_neg g, if_neg g]
theorem rcol_f {l : List S31} (hs : small33 l) (hb : bulkB l l.length ≤ 1099511627776) (w k : Int) {K : Nat} (hK : 6 * l.length + bulkB l l.length + 9000 ≤ K) :
    copperplateref18_Col.f K l w k = some (if roomB l w = true ∧ 0 ≤ k ∧ k ≤ l.length then (uptoP l w k.toNat).col else -1) := by
  unfold copperplateref18_Col.f
  rw [rroom_f l w (by omega), Option.bind_some]
  by_cases g : roomB l w = true
  · rw [if_pos g]
    by_cases h0 : k < 0
    · rw [if_pos h0, if_neg (fun h => by omega)]
    · rw [if_neg h0]
      by_cases h1 : k > (l.length : Int)
      · rw [if_pos h1, if_neg (fun h => by omega)]
      · obtain ⟨n, rfl⟩ := Int.eq_ofNat_of_zero_le (show 0 ≤ k by omega)
        rw [if_neg h1, rupto_f (roomB_true.1 g).1 hs hb w n (by omega) hK, if_pos (show roomB l w = true ∧ 0 ≤ (n : Int) ∧ (n : Int) ≤ (l.length : Int) from ⟨g, by omega, by omega⟩)]
        rfl
  · rw [if_neg g, if_neg (fun h => g h.1)]
theorem _root_.Go.Proofs.Ytipjfdamkpgecaa.Pure.WideTells : copperplatelaw18_WideTells.PureUp := by
  intro l w k hl16 ht hw hk hb
  have hsm := small_of ht
  rw [← bulk_sum] at hb
  have hl : l.length ≤ 17592186044416 := by omega
  obtain ⟨K, hK⟩ : ∃ K, K = 6 * l.length + bulkB l l.length + 9000 := ⟨_, rfl⟩
  refine ⟨K + 1, ?_⟩
  unfold copperplatelaw18_WideTells.f copperplatelaw18_awake.f
  rw [Option.bind_some, if_pos rfl]
  by_cases c2 : (l.length : Int) > 300
  · rw [decide_eq_true c2]; rfl
  rw [decide_eq_false c2, copperplatelaw18_WideTells.j0, if_neg (by decide), lay_f hl hsm (by omega), rlay_f hsm (by omega) w (by omega), rroom_f l w (by omega), roomB_len hl, col_f hl hsm (by omega), rcol_f hsm (by omega) w k (by omega)]
  simp only [Option.bind_some, if_true, beq_self_eq_true]
end Go.Proofs.Ytipjfdamkpgecaa.PWide
