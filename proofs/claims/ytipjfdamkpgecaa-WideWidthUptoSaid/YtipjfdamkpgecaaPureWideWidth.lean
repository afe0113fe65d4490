/- The pure statement of WideWidth. -/
import Derived.Test.YtipjfdamkpgecaaPWidex12
import Derived.Test.YtipjfdamkpgecaaPureWideByt
namespace Go.Proofs.Ytipjfdamkpgecaa.PWide
open Go.RowKit Go.Proofs.YtipjfdamkpgecaaW.PrintWords Go.Proofs.YtipjfdamkpgecaaW.PrintMore
set_option linter.unusedVariables false
set_option linter.unusedSimpArgs false
theorem width_l0 (a b : ByteArray) (ha : a.size ≤ 4398046511104) (hab : (10 : UInt8) ∉ bl a → a = b) : ∀ (d i K : Nat), i + d = a.size → d < K → (∀ c ∈ (bl a).take i, c ≠ 10) → copperplatelaw18_WideWidth.l0 K a b (i : Int) = some true
  | 0, i, K, hi, hK, hc => by
    obtain ⟨K, rfl⟩ : ∃ K', K = K' + 1 := ⟨K - 1, by omega⟩
    obtain rfl : i = a.size := by omega
    rw [bl_all] at hc
    rw [copperplatelaw18_WideWidth.l0, if_neg (by omega), hab (fun h => hc _ h rfl), beq_self_eq_true]
  | d + 1, i, K, hi, hK, hc => by
    obtain ⟨K, rfl⟩ : ∃ K', K = K' + 1 := ⟨K - 1, by omega⟩
    have hlt : i < a.size := by omega
    have E : wrap64 ((i : Int) + 1) = ((i + 1 : Nat) : Int) := by rw [wrap_id (by omega) (by omega)]; omega
    have h10 := bt_is hlt 10 (by decide)
    rw [copperplatelaw18_WideWidth.l0, if_pos (by omega), if_pos (by omega), E]
    by_cases c3 : bt a (i : Int) = 10
    · rw [if_pos c3]
    rw [if_neg c3]
    refine width_l0 a b ha hab d (i + 1) K (by omega) (by omega) ?_
    rw [bl_take hlt]
    intro c hm
    rcases List.mem_append.1 hm with h | h
    · exact hc c h
    · obtain rfl := List.mem_singleton.1 h
      exact fun e => c3 (h10.2 e)
theorem _root_.Go.Proofs.Ytipjfdamkpgecaa.Pure.WideWidth : copperplatelaw18_WideWidth.PureUp := by
  intro l w v hl16 ht hw hv hb
  have hsm := small_of ht
  rw [← bulk_sum] at hb
  have hl : l.length ≤ 17592186044416 := by omega
  refine ⟨(outB l w).size + 1 + 1, ?_⟩
  unfold copperplatelaw18_WideWidth.f copperplatelaw18_awake.f
  rw [Option.bind_some, if_pos rfl]
  have J : copperplatelaw18_WideWidth.j0 ((outB l w).size + 1 + 1) l w v true true = some true := rfl
  by_cases c2 : (l.length : Int) > 300
  · rw [if_pos c2]; exact J
  rw [if_neg c2]
  by_cases c3 : v < w
  · rw [if_pos c3]; exact J
  rw [if_neg c3, roomB_len hl, roomB_len hl, Option.bind_some, Option.bind_some]
  by_cases g : roomB l w = true
  rotate_left
  · rw [if_neg g]; exact J
  rw [if_pos g]
  by_cases gv : roomB l v = true
  rotate_left
  · rw [show roomB l v = false by simpa using gv]; exact J
  have hm := (roomB_true.1 g).1
  rw [gv, copperplatelaw18_WideWidth.j0, if_neg (by decide), lay_f hl hsm (by omega), lay_f hl hsm (by omega), if_pos g, if_pos gv]
  simp only [Option.bind_some]
  have hsz : (outB l w).size ≤ 4398046511104 := by
    have := (upto_bd hm (by omega) w (Nat.le_refl _)).2.2.1
    rw [← bl_len, bl_out]; omega
  refine width_l0 _ _ hsz (fun hn => bl_inj ?_) (outB l w).size 0 _ (by omega) (by omega) (by intro c hm; rw [List.take_zero] at hm; exact absurd hm (List.not_mem_nil))
  rw [bl_out] at hn
  exact (show (uptoP l w l.length).out = (uptoP l v l.length).out from (wider hm (by omega) _ (Nat.le_refl _) hn).out.symm)
end Go.Proofs.Ytipjfdamkpgecaa.PWide
