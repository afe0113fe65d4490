/- The pure statement of WideCol. -/
import Derived.Test.YtipjfdamkpgecaaPWidex15
import Derived.Test.YtipjfdamkpgecaaPureWideLib
namespace Go.Proofs.Ytipjfdamkpgecaa.PWide
open Go.RowKit Go.Proofs.YtipjfdamkpgecaaW.PrintWords Go.Proofs.YtipjfdamkpgecaaW.PrintMore
set_option linter.unusedVariables false
set_option linter.unusedSimpArgs false
theorem _root_.Go.Proofs.Ytipjfdamkpgecaa.Pure.WideCol : copperplatelaw18_WideCol.PureUp := by
  intro l w k _ ht hw hk hb
  have hsm := small_of ht
  rw [← bulk_sum] at hb
  obtain ⟨K, hK⟩ : ∃ K, K = bulkB l l.length + 100 := ⟨_, rfl⟩
  refine ⟨K + 1 + 1 + 1, ?_⟩
  unfold copperplatelaw18_WideCol.f copperplatelaw18_awake.f
  rw [Option.bind_some, if_pos rfl]
  have hl16 : l.length * 24 ≤ 140737488351232 := by assumption
  have hR := roomB_len (w := w) (show l.length ≤ 17592186044416 by omega)
  have hC := col_f (show l.length ≤ 17592186044416 by omega) hsm (by omega) w
  have J : copperplatelaw18_WideCol.j0 (K + 1 + 1 + 1) l w k true true = some true := by
    rw [copperplatelaw18_WideCol.j0, if_pos rfl, if_pos rfl, hR, Option.bind_some]
    by_cases g : roomB l w = true
    · rw [if_pos g]
    · rw [if_neg g, hC, Option.bind_some, if_neg (fun h => g h.1)]; rfl
  by_cases c2 : (l.length : Int) > 300
  · rw [if_pos c2]; exact J
  rw [if_neg c2, hR, Option.bind_some]
  by_cases g : roomB l w = true
  rotate_left
  · rw [if_neg g]; exact J
  rw [if_pos g]
  by_cases k0 : k < 0
  · rw [if_pos k0]; exact J
  rw [if_neg k0]
  by_cases k1 : k ≥ (l.length : Int)
  · rw [decide_eq_true k1]; exact J
  rw [decide_eq_false k1]
  clear J
  obtain ⟨n, rfl⟩ := Int.eq_ofNat_of_zero_le (show 0 ≤ k by omega)
  have hm := (roomB_true.1 g).1
  have hn : n < l.length := by omega
  have A := upto_bd hm (by omega) w (k := n) (by omega)
  have T1 := fun h => col_text (l := l) w (k := n) h
  have T2 := fun h => col_hard hm w hn h
  have T3 := col_any hm w hn
  have Z0 : (uptoP l w 0).col = 0 := rfl
  generalize hcn : (uptoP l w n).col = cn at A T1 T2 T3
  generalize hcm : (uptoP l w (n + 1)).col = cm at T1 T2 T3
  have C0 : wide_Col.f l w 0 = some 0 := by
    rw [hC, if_pos (show roomB l w = true ∧ (0 : Int) ≤ 0 ∧ (0 : Int) ≤ l.length from ⟨g, by decide, by omega⟩)]; exact congrArg some Z0
  have C1 : wide_Col.f l w (n : Int) = some cn := by
    rw [hC, if_pos (show roomB l w = true ∧ (0 : Int) ≤ n ∧ (n : Int) ≤ l.length from ⟨g, by omega, by omega⟩), Int.toNat_natCast, hcn]
  have C2 : wide_Col.f l w ((n + 1 : Nat) : Int) = some cm := by
    rw [hC, if_pos (show roomB l w = true ∧ (0 : Int) ≤ (n + 1 : Nat) ∧ ((n + 1 : Nat) : Int) ≤ l.length from ⟨g, by omega, by omega⟩), Int.toNat_natCast, hcm]
  have C3 : wide_Col.f l w ((l.length : Int) + 1) = some (-1) := by
    rw [hC, if_neg (show ¬ (roomB l w = true ∧ (0 : Int) ≤ (l.length : Int) + 1 ∧ (l.length : Int) + 1 ≤ l.length) from fun h => by omega)]
  clear hC hR hcn hcm Z0
  obtain ⟨a0, a1, _⟩ := A
  have w1 : wrap64 ((n : Int) + 1) = ((n + 1 : Nat) : Int) := by rw [wrap_id (by omega) (by omega)]; omega
  have w2 : wrap64 ((l.length : Int) + 1) = (l.length : Int) + 1 := wrap_id (by omega) (by omega)
  have ci := colA_bd hsm n
  rw [copperplatelaw18_WideCol.j0, if_neg (by decide), w1, w2, C0, C1, C2, C3]
  simp only [Option.bind_some, if_true]
  rw [decide_eq_false (by omega), copperplatelaw18_WideCol.j1, if_neg (by decide), if_pos (show 0 ≤ (n : Int) by omega), if_pos (show (n : Int) < l.length by omega)]
  have hj : ∀ b : Bool, (b = true → (gB l n).f0 = 0 ∨ (gB l n).f0 = 1) → copperplatelaw18_WideCol.j2 (K + 1) l (n : Int) cn cm b = some true := by
    intro b hbt
    have hcols : span_Cols.f K (flatOf (gB l n).f0 (gB l n).f1).1 = some (colA l n) := colA_f hsm (rounds_bulk l (by omega)) n
    rw [copperplatelaw18_WideCol.j2, rd_gB]
    cases b with
    | true =>
      rw [if_pos rfl, if_pos (show 0 ≤ (n : Int) by omega), if_pos (show (n : Int) < l.length by omega), flat_f]
      simp only [Option.bind_some]
      rw [hcols, Option.bind_some, wrap_id (by omega) (by omega), ← T1 (hbt rfl), beq_self_eq_true]
    | false =>
      rw [if_neg (by decide), if_pos (show 0 ≤ (n : Int) by omega), if_pos (show (n : Int) < l.length by omega)]
      by_cases h5 : (gB l n).f0 = 5
      · rw [if_pos h5, T2 h5, Int.mul_tmod_right]; rfl
      · rw [if_neg h5, flat_f]
        simp only [Option.bind_some]
        rw [hcols, Option.bind_some, wrap_id (by omega) (by omega)]
        rcases T3 with e | e | e
        · rw [if_pos e]
        · by_cases q : cm = cn
          · rw [if_pos q]
          · rw [if_neg q, e, Int.mul_tmod_right, if_pos rfl]
        · rw [e, beq_self_eq_true]
          split
          · rfl
          · split <;> rfl
  rw [rd_gB]
  by_cases h0 : (gB l n).f0 = 0
  · rw [if_pos h0]; exact hj _ (fun _ => .inl h0)
  · rw [if_neg h0]; exact hj _ (fun h => .inr (eq_of_beq h))
end Go.Proofs.Ytipjfdamkpgecaa.PWide
