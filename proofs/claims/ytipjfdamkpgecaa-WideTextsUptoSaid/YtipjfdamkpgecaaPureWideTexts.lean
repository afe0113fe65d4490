/- The pure statement of WideTexts. -/
import Derived.Test.YtipjfdamkpgecaaPWidex13
import Derived.Test.YtipjfdamkpgecaaPureWideByt
namespace Go.Proofs.Ytipjfdamkpgecaa.PWide
open Go.RowKit Go.Proofs.YtipjfdamkpgecaaW.PrintWords Go.Proofs.YtipjfdamkpgecaaW.PrintMore
set_option linter.unusedVariables false
set_option linter.unusedSimpArgs false
theorem texts_l2 (x6 t : ByteArray) (ht : t.size ≤ 4398046511104) (hx : bl x6 = (bl t).filter keepC) : ∀ (d i K : Nat) (g : ByteArray), i + d = t.size → d < K → bl g = ((bl t).take i).filter keepC → copperplatelaw18_WideTexts.l2 K x6 t g (i : Int) = some true
  | 0, i, K, g, hi, hK, hg => by
    obtain ⟨K, rfl⟩ : ∃ K', K = K' + 1 := ⟨K - 1, by omega⟩
    obtain rfl : i = t.size := by omega
    rw [copperplatelaw18_WideTexts.l2, if_neg (by omega)]
    rw [bl_all, ← hx] at hg
    rw [bl_inj hg, beq_self_eq_true]
  | d + 1, i, K, g, hi, hK, hg => by
    obtain ⟨K, rfl⟩ : ∃ K', K = K' + 1 := ⟨K - 1, by omega⟩
    have hlt : i < t.size := by omega
    have E : wrap64 ((i : Int) + 1) = ((i + 1 : Nat) : Int) := by rw [wrap_id (by omega) (by omega)]; omega
    have h32 := bt_is hlt 32 (by decide)
    have h44 := bt_is hlt 44 (by decide)
    have h10 := bt_is hlt 10 (by decide)
    have ih := fun g => texts_l2 x6 t ht hx d (i + 1) K g (by omega) (by omega)
    rw [bl_take hlt, List.filter_append] at ih
    rw [copperplatelaw18_WideTexts.l2, if_pos (by omega), if_pos (by omega), E]
    have hgs : g.size ≤ i := by
      have := congrArg List.length hg
      rw [bl_len] at this
      have h2 := List.length_filter_le keepC ((bl t).take i)
      rw [List.length_take] at h2
      omega
    by_cases c1 : bt t (i : Int) = 32
    · rw [if_pos c1]
      refine ih g ?_
      rw [hg, h32.1 c1, List.filter_cons_of_neg (by decide), List.filter_nil, List.append_nil]
    rw [if_neg c1]
    by_cases c2 : bt t (i : Int) = 44
    · rw [if_pos c2]
      refine ih g ?_
      rw [hg, h44.1 c2, List.filter_cons_of_neg (by decide), List.filter_nil, List.append_nil]
    rw [if_neg c2]
    by_cases c3 : bt t (i : Int) = 10
    · rw [if_pos c3]
      refine ih g ?_
      rw [hg, h10.1 c3, List.filter_cons_of_neg (by decide), List.filter_nil, List.append_nil]
    rw [if_neg c3, Int.toNat_natCast, Int.toNat_natCast]
    have hx1 := bl_ext hlt
    have hs1 : (t.extract i (i + 1)).size = 1 := by rw [← bl_len, hx1]; rfl
    rw [if_pos (by omega), if_pos (by omega), if_pos (by omega)]
    refine ih _ ?_
    have hk : keepC t[i] = true := by
      unfold keepC
      rw [Bool.and_eq_true, Bool.and_eq_true]
      exact ⟨⟨bne_iff_ne.2 fun e => c1 (h32.2 e), bne_iff_ne.2 fun e => c2 (h44.2 e)⟩, bne_iff_ne.2 fun e => c3 (h10.2 e)⟩
    rw [bl_app, hx1, hg, List.filter_cons_of_pos hk, List.filter_nil]
theorem texts_l1 (l : List S31) (hll : l.length ≤ 17592186044416) (w : Int) (x6 : ByteArray) (i : Nat) (hi : i < l.length) (N : Nat) (hs : x6.size + (gB l i).f1.size ≤ 4611686018427387904)
    (hgo : (∀ c ∈ bl (gB l i).f1, keepC c = true) → ∀ K, N ≤ K → copperplatelaw18_WideTexts.l0 K l w (x6 ++ (gB l i).f1) ((i + 1 : Nat) : Int) = some true) :
    ∀ (d j K : Nat), j + d = (gB l i).f1.size → N + d + 1 ≤ K → (∀ c ∈ (bl (gB l i).f1).take j, keepC c = true) → copperplatelaw18_WideTexts.l1 K l w x6 (i : Int) (j : Int) = some true
  | 0, j, K, hj, hK, hc => by
    obtain ⟨K, rfl⟩ : ∃ K', K = K' + 1 := ⟨K - 1, by omega⟩
    obtain rfl : j = (gB l i).f1.size := by omega
    have E : wrap64 ((i : Int) + 1) = ((i + 1 : Nat) : Int) := by rw [wrap_id (by omega) (by omega)]; omega
    rw [bl_all] at hc
    rw [copperplatelaw18_WideTexts.l1, if_pos (by omega), if_pos (by omega), rd_gB, if_neg (by omega), if_pos (by omega), E]
    exact hgo hc K (by omega)
  | d + 1, j, K, hj, hK, hc => by
    obtain ⟨K, rfl⟩ : ∃ K', K = K' + 1 := ⟨K - 1, by omega⟩
    have hlt : j < (gB l i).f1.size := by omega
    have E : wrap64 ((j : Int) + 1) = ((j + 1 : Nat) : Int) := by rw [wrap_id (by omega) (by omega)]; omega
    have h32 := bt_is hlt 32 (by decide)
    have h44 := bt_is hlt 44 (by decide)
    have h10 := bt_is hlt 10 (by decide)
    rw [copperplatelaw18_WideTexts.l1, if_pos (by omega), if_pos (by omega), rd_gB, if_pos (by omega), if_pos (by omega), E]
    by_cases c1 : bt (gB l i).f1 (j : Int) = 32
    · rw [if_pos c1]
    rw [if_neg c1]
    by_cases c2 : bt (gB l i).f1 (j : Int) = 44
    · rw [if_pos c2]
    rw [if_neg c2]
    by_cases c3 : bt (gB l i).f1 (j : Int) = 10
    · rw [if_pos c3]
    rw [if_neg c3]
    refine texts_l1 l hll w x6 i hi N hs hgo d (j + 1) K (by omega) (by omega) ?_
    rw [bl_take hlt]
    intro c hm
    rcases List.mem_append.1 hm with h | h
    · exact hc c h
    · obtain rfl := List.mem_singleton.1 h
      unfold keepC
      rw [Bool.and_eq_true, Bool.and_eq_true]
      exact ⟨⟨bne_iff_ne.2 fun e => c1 (h32.2 e), bne_iff_ne.2 fun e => c2 (h44.2 e)⟩, bne_iff_ne.2 fun e => c3 (h10.2 e)⟩
theorem texts_l0 {l : List S31} (hl : l.length ≤ 17592186044416) (hs : small33 l) (hb : bulkB l l.length ≤ 1099511627776) {w : Int} (hr : roomB l w = true) (M : Nat) (hM : M = (outB l w).size) :
    ∀ (d i K : Nat) (g : ByteArray), i + d = l.length → (bulkB l l.length - bulkB l i) + 2 * d + M + 2 ≤ K → bl g = textsB l i → g.size = bulkB l i → (∀ j, j < i → ∀ c ∈ bl (gB l j).f1, keepC c = true) → copperplatelaw18_WideTexts.l0 K l w g (i : Int) = some true
  | 0, i, K, g, hi, hK, hg, hz, hc => by
    obtain ⟨K, rfl⟩ : ∃ K', K = K' + 1 := ⟨K - 1, by omega⟩
    obtain rfl : i = l.length := by omega
    have hm := (roomB_true.1 hr).1
    have hsz : (outB l w).size ≤ 4398046511104 := by
      have := (upto_bd hm hb w (Nat.le_refl _)).2.2.1
      rw [← bl_len, bl_out]; omega
    rw [copperplatelaw18_WideTexts.l0, if_neg (by omega), lay_f hl hs hb, if_pos hr, Option.bind_some]
    exact texts_l2 g (outB l w) hsz (by rw [hg, bl_out, wide_texts hm w _ (Nat.le_refl _) hc]) M 0 K ⟨#[]⟩ (by omega) (by omega) rfl
  | d + 1, i, K, g, hi, hK, hg, hz, hc => by
    obtain ⟨K, rfl⟩ : ∃ K', K = K' + 1 := ⟨K - 1, by omega⟩
    have hlt : i < l.length := by omega
    have hbi : bulkB l (i + 1) = bulkB l i + (gB l i).f1.size := rfl
    have hbm := bulkB_mono l (i + 1) d
    rw [show i + 1 + d = l.length by omega] at hbm
    rw [copperplatelaw18_WideTexts.l0, if_pos (by omega)]
    refine texts_l1 l hl w g i hlt ((bulkB l l.length - bulkB l (i + 1)) + 2 * d + M + 2) (by omega) (fun hcl K' hK' => ?_) (gB l i).f1.size 0 K (by omega) (by omega) (by intro c hm; rw [List.take_zero] at hm; exact absurd hm (List.not_mem_nil))
    refine texts_l0 hl hs hb hr M hM d (i + 1) K' _ (by omega) hK' (by rw [bl_app, hg]; rfl) (by rw [← bl_len, bl_app, List.length_append, bl_len, bl_len, hz, hbi]) (fun j hj => ?_)
    by_cases e : j = i
    · subst e; exact hcl
    · exact hc j (by omega)
theorem _root_.Go.Proofs.Ytipjfdamkpgecaa.Pure.WideTexts : copperplatelaw18_WideTexts.PureUp := by
  intro l w hl16 ht hw hb
  have hsm := small_of ht
  rw [← bulk_sum] at hb
  have hl : l.length ≤ 17592186044416 := by omega
  obtain ⟨K, hK⟩ : ∃ K, K = bulkB l l.length + 2 * l.length + (outB l w).size + 2 := ⟨_, rfl⟩
  refine ⟨K + 1, ?_⟩
  unfold copperplatelaw18_WideTexts.f copperplatelaw18_awake.f
  rw [Option.bind_some, if_pos rfl]
  have J : copperplatelaw18_WideTexts.j0 (K + 1) l w true true = some true := rfl
  by_cases c2 : (l.length : Int) > 300
  · rw [if_pos c2]; exact J
  rw [if_neg c2, roomB_len hl, Option.bind_some]
  by_cases g : roomB l w = true
  rotate_left
  · rw [show roomB l w = false by simpa using g]; exact J
  rw [g, copperplatelaw18_WideTexts.j0, if_neg (by decide)]
  exact texts_l0 hl hsm (by omega) g _ rfl l.length 0 K ⟨#[]⟩ (by omega) (by rw [bulkB]; omega) rfl rfl (fun j hj => absurd hj (Nat.not_lt_zero j))
end Go.Proofs.Ytipjfdamkpgecaa.PWide
