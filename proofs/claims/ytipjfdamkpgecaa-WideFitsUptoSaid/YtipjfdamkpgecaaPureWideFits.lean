/- The pure statement of WideFits. -/
import Derived.Test.YtipjfdamkpgecaaPWidex12
import Derived.Test.YtipjfdamkpgecaaPureWideByt
namespace Go.Proofs.Ytipjfdamkpgecaa.PWide
open Go.RowKit Go.Proofs.YtipjfdamkpgecaaW.PrintWords Go.Proofs.YtipjfdamkpgecaaW.PrintMore
set_option linter.unusedVariables false
set_option linter.unusedSimpArgs false
/-- Are all the first bits such as may be on one line? -/
def mayF (l : List S31) : Nat → Bool
  | 0 => true
  | k + 1 => if mayF l k = true then flA l k else false
theorem mayF_all {l : List S31} : ∀ k, mayF l k = true → ∀ j, j < k → flA l j = true
  | 0, _, j, hj => absurd hj (Nat.not_lt_zero j)
  | k + 1, h, j, hj => by
    rw [mayF] at h
    by_cases g : mayF l k = true
    · rw [if_pos g] at h
      by_cases e : j = k
      · subst e; exact h
      · exact mayF_all k g j (by omega)
    · rw [if_neg g] at h; exact absurd h (by decide)
theorem mayF_not {l : List S31} : ∀ k, mayF l k = false → ∃ j, j < k ∧ flA l j = false
  | 0, h => absurd (show true = false from h) (by decide)
  | k + 1, h => by
    rw [mayF] at h
    by_cases g : mayF l k = true
    · rw [if_pos g] at h; exact ⟨k, by omega, h⟩
    · obtain ⟨j, h1, h2⟩ := mayF_not k (by simpa using g)
      exact ⟨j, by omega, h2⟩
theorem fits_l1 (w : Int) (f t : ByteArray) (cols : Int) (may : Bool) (ht : t.size ≤ 4398046511104) (h1 : may = true → cols ≤ w → t = f) (h2 : may = false → (10 : UInt8) ∈ bl t) :
    ∀ (d i K : Nat) (n : Int), i + d = t.size → d < K → 0 ≤ n → n ≤ i → ((10 : UInt8) ∈ (bl t).take i → 0 < n) → copperplatelaw18_WideFits.l1 K w f cols may t true n (i : Int) = some true
  | 0, i, K, n, hi, hK, n0, n1, hc => by
    obtain ⟨K, rfl⟩ : ∃ K', K = K' + 1 := ⟨K - 1, by omega⟩
    obtain rfl : i = t.size := by omega
    rw [bl_all] at hc
    rw [copperplatelaw18_WideFits.l1, if_neg (by omega)]
    cases may with
    | true =>
      rw [if_pos rfl]
      by_cases g : cols ≤ w
      · rw [if_pos g, if_pos rfl, h1 rfl g, beq_self_eq_true]
      · rw [if_neg g, if_pos rfl]
    | false =>
      have h := hc (h2 rfl)
      rw [if_neg (by decide), if_pos rfl, decide_eq_true h]
  | d + 1, i, K, n, hi, hK, n0, n1, hc => by
    obtain ⟨K, rfl⟩ : ∃ K', K = K' + 1 := ⟨K - 1, by omega⟩
    have hlt : i < t.size := by omega
    have E : wrap64 ((i : Int) + 1) = ((i + 1 : Nat) : Int) := by rw [wrap_id (by omega) (by omega)]; omega
    have E2 : wrap64 (n + 1) = n + 1 := wrap_id (by omega) (by omega)
    have h10 := bt_is hlt 10 (by decide)
    rw [copperplatelaw18_WideFits.l1, if_pos (by omega), if_pos (by omega), E, E2]
    by_cases c3 : bt t (i : Int) = 10
    · rw [if_pos c3]
      exact fits_l1 w f t cols may ht h1 h2 d (i + 1) K (n + 1) (by omega) (by omega) (by omega) (by omega) (fun _ => by omega)
    · rw [if_neg c3]
      refine fits_l1 w f t cols may ht h1 h2 d (i + 1) K n (by omega) (by omega) n0 (by omega) (fun hm => ?_)
      rw [bl_take hlt] at hm
      rcases List.mem_append.1 hm with h | h
      · exact hc h
      · exact absurd (h10.2 (List.mem_singleton.1 h).symm) c3
theorem fits_l0 {l : List S31} (hl : l.length ≤ 300) (hs : small33 l) {w : Int} (R : Nat) (hR : roundsW l R) (N : Nat)
    (hgo : ∀ (K : Nat) (f : ByteArray), N + R ≤ K → bl f = flatcat l l.length → copperplatelaw18_WideFits.l0 (K + 1) l w f (sumC l 0 l.length) (mayF l l.length) (l.length : Int) = some true) :
    ∀ (d i K : Nat) (f : ByteArray), i + d = l.length → N + R + d ≤ K → bl f = flatcat l i → f.size ≤ 140737488355330 * i → copperplatelaw18_WideFits.l0 (K + 1) l w f (sumC l 0 i) (mayF l i) (i : Int) = some true
  | 0, i, K, f, hi, hK, hf, hz => by
    obtain rfl : i = l.length := by omega
    exact hgo K f (by omega) hf
  | d + 1, i, K, f, hi, hK, hf, hz => by
    obtain ⟨K, rfl⟩ : ∃ K', K = K' + 1 := ⟨K - 1, by omega⟩
    have hlt : i < l.length := by omega
    have E : wrap64 ((i : Int) + 1) = ((i + 1 : Nat) : Int) := by rw [wrap_id (by omega) (by omega)]; omega
    have hsz := hs _ (gB_mem hlt)
    have hfs := flatOf_size2 (gB l i).f0 (gB l i).f1
    have hcol := colA_f hs (K := K + 1) (fun k => by have := hR k; omega) i
    have b1 := sumC_bd hs 0 i
    have b2 := colA_bd hs i
    have es : sumC l 0 (i + 1) = sumC l 0 i + colA l i := by rw [sumC, Nat.zero_add]
    have ih := fits_l0 hl hs R hR N hgo d (i + 1) K (f ++ (flatOf (gB l i).f0 (gB l i).f1).1) (by omega) (by omega) (by rw [bl_app, hf]; rfl) (by rw [← bl_len, bl_app, List.length_append, bl_len, bl_len]; omega)
    rw [es, mayF] at ih
    generalize sumC l 0 i = s at b1 ih ⊢
    rw [copperplatelaw18_WideFits.l0, if_pos (by omega), if_pos (by omega), rd_gB, flat_f]
    simp only [Option.bind_some]
    rw [if_pos (by omega), hcol, Option.bind_some, E, wrap_id (by omega) (by omega)]
    by_cases g : mayF l i = true
    · rw [if_pos g] at ih ⊢; exact ih
    · rw [if_neg g] at ih ⊢; exact ih
theorem _root_.Go.Proofs.Ytipjfdamkpgecaa.Pure.WideFits : copperplatelaw18_WideFits.PureUp := by
  intro l w hl16 ht hw hb
  have hsm := small_of ht
  have hb2 := hb
  rw [← bulk_sum] at hb
  have hl : l.length ≤ 17592186044416 := by omega
  obtain ⟨R, hR_⟩ : ∃ R, R = bulkB l l.length + 25 := ⟨_, rfl⟩
  have hR : roundsW l R := rounds_bulk l (by omega)
  obtain ⟨N, hN⟩ : ∃ N, N = (outB (grp l) w).size + 2 := ⟨_, rfl⟩
  refine ⟨N + R + l.length + 1 + 1, ?_⟩
  unfold copperplatelaw18_WideFits.f copperplatelaw18_awake.f
  rw [Option.bind_some, if_pos rfl]
  have J : copperplatelaw18_WideFits.j0 (N + R + l.length + 1 + 1) l w true true = some true := rfl
  by_cases c2 : (l.length : Int) > 300
  · rw [if_pos c2]; exact J
  rw [if_neg c2, roomB_len hl, Option.bind_some]
  by_cases g : roomB l w = true
  rotate_left
  · rw [show roomB l w = false by simpa using g]; exact J
  have hm := (roomB_true.1 g).1
  have hww := (roomB_true.1 g).2
  have hG : MayB (grp l) := mayB_wrap hm (by omega) 6 7 (.inl ⟨rfl, rfl⟩)
  have gG : roomB (grp l) w = true := roomB_true.2 ⟨hG, hww⟩
  have sG : small33 (grp l) := fun x hx => by
    unfold grp at hx
    rcases List.mem_append.1 hx with hx | hx
    · rcases List.mem_append.1 hx with hx | hx
      · obtain rfl := List.mem_singleton.1 hx; decide
      · exact hsm x hx
    · obtain rfl := List.mem_singleton.1 hx; decide
  have lG := grp_len l
  have bG : bulkB (grp l) (grp l).length = (l.map fun x => x.f1.size).sum := by
    rw [bulk_sum]; unfold grp
    rw [List.map_append, List.sum_append, List.map_append, List.sum_append]
    show 0 + _ + 0 = _
    omega
  have LG := lay_f (w := w) (by omega) sG (by omega)
  rw [if_pos gG] at LG
  have zG : (outB (grp l) w).size ≤ 4398046511104 := by
    have := (upto_bd hG (by omega) w (Nat.le_refl _)).2.2.1
    rw [← bl_len, bl_out]; omega
  rw [g, copperplatelaw18_WideFits.j0, if_neg (by decide)]
  refine fits_l0 (by omega) hsm R hR N (fun K f hK hf => ?_) l.length 0 (N + R + l.length) ⟨#[]⟩ (by omega) (by omega) rfl (Nat.zero_le _)
  rw [copperplatelaw18_WideFits.l0, if_neg (by omega)]
  simp only [Option.bind_some]
  rw [if_pos (by show 1 + l.length < 5864062014805; omega), if_pos (by rw [List.length_append]; show 1 + l.length < 5864062014805; omega), show [(⟨6, ⟨#[]⟩⟩ : S31)] ++ l ++ [(⟨7, ⟨#[]⟩⟩ : S31)] = grp l from rfl, LG, Option.bind_some]
  refine fits_l1 w f (outB (grp l) w) _ _ zG (fun h1 h2 => ?_) (fun h1 => ?_) (outB (grp l) w).size 0 K 0 (by omega) (by omega) (Int.le_refl 0) (Int.le_refl 0) (fun h => by rw [List.take_zero] at h; exact absurd h (List.not_mem_nil))
  · apply bl_inj
    rw [bl_out, hf]
    exact grp_out hm hsm (by omega) w (mayF_all _ h1) h2
  · obtain ⟨j, hj, hf2⟩ := mayF_not _ h1
    rw [bl_out]
    exact hard_in w (j := j + 1) (by omega) (by rw [grp_in hj]; exact (flA_hard hm hj).1 hf2)
end Go.Proofs.Ytipjfdamkpgecaa.PWide
