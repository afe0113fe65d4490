/- The pure statement of WideIn. -/
import Derived.Test.YtipjfdamkpgecaaPWidex14
import Derived.Test.YtipjfdamkpgecaaPureWideByt
namespace Go.Proofs.Ytipjfdamkpgecaa.PWide
open Go.RowKit Go.Proofs.YtipjfdamkpgecaaW.PrintWords Go.Proofs.YtipjfdamkpgecaaW.PrintMore
set_option linter.unusedVariables false
set_option linter.unusedSimpArgs false
theorem lastB_take {s : ByteArray} : ∀ {i : Nat} (h : i < s.size), lastB false ((bl s).take (i + 1)) = (s[i] == 10) := fun {i} h => by rw [bl_take h, lastB_app]; rfl
theorem insB_len : ∀ (p : Bool) (a : List UInt8), (insB p a).length ≤ 3 * a.length
  | p, [] => Nat.le_refl 0
  | p, c :: r => by
    have := insB_len (c == 10) r
    rw [insB, List.length_append, List.length_cons]
    split <;> simp <;> omega
theorem in_l2 (a b : ByteArray) (ha : a.size ≤ 4398046511104) (hb : bl b = insB false (bl a)) : ∀ (d i K : Nat) (g : ByteArray), i + d = a.size → d < K → bl g = insB false ((bl a).take i) → copperplatelaw18_WideIn.l2 K a b true g (i : Int) = some true
  | 0, i, K, g, hi, hK, hg => by
    obtain ⟨K, rfl⟩ : ∃ K', K = K' + 1 := ⟨K - 1, by omega⟩
    obtain rfl : i = a.size := by omega
    rw [bl_all, ← hb] at hg
    rw [copperplatelaw18_WideIn.l2, if_neg (by omega), if_pos rfl, bl_inj hg, beq_self_eq_true]
  | d + 1, i, K, g, hi, hK, hg => by
    obtain ⟨K, rfl⟩ : ∃ K', K = K' + 1 := ⟨K - 1, by omega⟩
    have hlt : i < a.size := by omega
    have E : wrap64 ((i : Int) + 1) = ((i + 1 : Nat) : Int) := by rw [wrap_id (by omega) (by omega)]; omega
    have h10 := bt_is hlt 10 (by decide)
    have hx1 := bl_ext hlt
    have hs1 : (a.extract i (i + 1)).size = 1 := by rw [← bl_len, hx1]; rfl
    have hgs : g.size ≤ 3 * i := by
      have := congrArg List.length hg
      rw [bl_len] at this
      have h2 := insB_len false ((bl a).take i)
      rw [List.length_take] at h2
      omega
    have ih := fun g => in_l2 a b ha hb d (i + 1) K g (by omega) (by omega)
    rw [bl_take hlt] at ih
    simp only [insB_app] at ih
    rw [← hg] at ih
    have one : ∀ p : Bool, insB p [a[i]] = (if p = true ∧ a[i] ≠ 10 then [32, 32, a[i]] else [a[i]]) := fun p => by
      rw [insB, insB, List.append_nil]
    rw [one] at ih
    have s2 : (⟨#[32, 32]⟩ : ByteArray).size = 2 := rfl
    have e2 : (g ++ (⟨#[32, 32]⟩ : ByteArray)).size = g.size + 2 := by rw [← bl_len, bl_app, List.length_append, bl_len]; rfl
    rw [copperplatelaw18_WideIn.l2, if_pos (by omega), E]
    simp only [Int.toNat_natCast]
    by_cases c0 : (i : Int) > 0
    · obtain ⟨j, rfl⟩ : ∃ j, i = j + 1 := ⟨i - 1, by omega⟩
      have hjl : j < a.size := by omega
      have E2 : wrap64 (((j + 1 : Nat) : Int) - 1) = (j : Int) := by rw [wrap_id (by omega) (by omega)]; omega
      have hj10 := bt_is hjl 10 (by decide)
      rw [lastB_take hjl] at ih
      rw [if_pos c0, E2, if_pos (by omega), if_pos (by omega)]
      by_cases c1 : bt a (j : Int) = 10
      · have e1 : (a[j] == 10) = true := beq_iff_eq.2 (hj10.1 c1)
        rw [e1] at ih
        rw [if_pos c1, if_pos (by omega)]
        by_cases c2 : bt a ((j + 1 : Nat) : Int) = 10
        · rw [if_neg (fun h => h.2 (h10.1 c2))] at ih
          rw [if_pos c2, if_pos (by omega), if_pos (by omega), if_pos (by omega)]
          exact ih _ (by rw [bl_app, hx1])
        · rw [if_pos ⟨rfl, fun e => c2 (h10.2 e)⟩] at ih
          rw [if_neg c2, if_pos (by omega), if_pos (by omega), if_pos (by omega), if_pos (by omega)]
          exact ih _ (by rw [bl_app, bl_app, hx1, List.append_assoc]; rfl)
      · have e1 : (a[j] == 10) = false := beq_eq_false_iff_ne.2 (fun e => c1 (hj10.2 e))
        rw [e1, if_neg (fun h => absurd h.1 (by decide))] at ih
        rw [if_neg c1, if_pos (by omega), if_pos (by omega), if_pos (by omega), if_pos (by omega)]
        exact ih _ (by rw [bl_app, hx1])
    · obtain rfl : i = 0 := by omega
      rw [List.take_zero] at ih
      rw [show lastB false [] = false from rfl, if_neg (fun h => absurd h.1 (by decide))] at ih
      rw [if_neg c0, if_pos (by omega), if_pos (by omega), if_pos (by omega), if_pos (by omega)]
      exact ih _ (by rw [bl_app, hx1])
theorem in_l1 (l : List S31) (hll : l.length ≤ 17592186044416) (w : Int) (i : Nat) (hi : i < l.length) (N : Nat) (hs : (gB l i).f1.size ≤ 4611686018427387904)
    (hgo : (∀ c ∈ bl (gB l i).f1, c ≠ 10) → ∀ K, N ≤ K → copperplatelaw18_WideIn.l0 K l w ((i + 1 : Nat) : Int) = some true) :
    ∀ (d j K : Nat), j + d = (gB l i).f1.size → N + d + 1 ≤ K → (∀ c ∈ (bl (gB l i).f1).take j, c ≠ 10) → copperplatelaw18_WideIn.l1 K l w (i : Int) (j : Int) = some true
  | 0, j, K, hj, hK, hc => by
    obtain ⟨K, rfl⟩ : ∃ K', K = K' + 1 := ⟨K - 1, by omega⟩
    obtain rfl : j = (gB l i).f1.size := by omega
    have E : wrap64 ((i : Int) + 1) = ((i + 1 : Nat) : Int) := by rw [wrap_id (by omega) (by omega)]; omega
    rw [bl_all] at hc
    rw [copperplatelaw18_WideIn.l1, if_pos (by omega), if_pos (by omega), rd_gB, if_neg (by omega), E]
    exact hgo hc K (by omega)
  | d + 1, j, K, hj, hK, hc => by
    obtain ⟨K, rfl⟩ : ∃ K', K = K' + 1 := ⟨K - 1, by omega⟩
    have hlt : j < (gB l i).f1.size := by omega
    have E : wrap64 ((j : Int) + 1) = ((j + 1 : Nat) : Int) := by rw [wrap_id (by omega) (by omega)]; omega
    have h10 := bt_is hlt 10 (by decide)
    rw [copperplatelaw18_WideIn.l1, if_pos (by omega), if_pos (by omega), rd_gB, if_pos (by omega), if_pos (by omega), E]
    by_cases c3 : bt (gB l i).f1 (j : Int) = 10
    · rw [if_pos c3]
    rw [if_neg c3]
    refine in_l1 l hll w i hi N hs hgo d (j + 1) K (by omega) (by omega) ?_
    rw [bl_take hlt]
    intro c hm
    rcases List.mem_append.1 hm with h | h
    · exact hc c h
    · obtain rfl := List.mem_singleton.1 h
      exact fun e => c3 (h10.2 e)
theorem in_l0 {l : List S31} (hl : l.length ≤ 300) (hs : small33 l) (hb : (l.map fun x => x.f1.size).sum ≤ 1048576) {w : Int} (hr : roomB l w = true) (M : Nat) (hM : M = (outB l w).size) :
    ∀ (d i K : Nat), i + d = l.length → (bulkB l l.length - bulkB l i) + 2 * d + M + 2 ≤ K → (∀ j, j < i → (gB l j).f0 ≠ 6 ∧ ∀ c ∈ bl (gB l j).f1, c ≠ 10) → copperplatelaw18_WideIn.l0 K l w (i : Int) = some true
  | 0, i, K, hi, hK, hc => by
    obtain ⟨K, rfl⟩ : ∃ K', K = K' + 1 := ⟨K - 1, by omega⟩
    obtain rfl : i = l.length := by omega
    have hm := (roomB_true.1 hr).1
    have hww := (roomB_true.1 hr).2
    have bL := bulk_sum l
    have hsz : (outB l w).size ≤ 4398046511104 := by
      have := (upto_bd hm (by omega) w (Nat.le_refl _)).2.2.1
      rw [← bl_len, bl_out]; omega
    have hG : MayB (movd l) := mayB_wrap hm (by omega) 8 9 (.inr ⟨rfl, rfl⟩)
    have gG : roomB (movd l) w = true := roomB_true.2 ⟨hG, hww⟩
    have sG : small33 (movd l) := fun x hx => by
      unfold movd at hx
      rcases List.mem_append.1 hx with hx | hx
      · rcases List.mem_append.1 hx with hx | hx
        · obtain rfl := List.mem_singleton.1 hx; decide
        · exact hs x hx
      · obtain rfl := List.mem_singleton.1 hx; decide
    have lG := movd_len l
    have bG : bulkB (movd l) (movd l).length = (l.map fun x => x.f1.size).sum := by
      rw [bulk_sum]; unfold movd
      rw [List.map_append, List.sum_append, List.map_append, List.sum_append]
      show 0 + _ + 0 = _
      omega
    have LG := lay_f (w := w) (by omega) sG (by omega)
    rw [if_pos gG] at LG
    rw [copperplatelaw18_WideIn.l0, if_neg (by omega), lay_f (by omega) hs (by omega), if_pos hr]
    simp only [Option.bind_some]
    rw [if_pos (by show 1 + l.length < 5864062014805; omega), if_pos (by rw [List.length_append]; show 1 + l.length < 5864062014805; omega), show [(⟨8, ⟨#[]⟩⟩ : S31)] ++ l ++ [(⟨9, ⟨#[]⟩⟩ : S31)] = movd l from rfl, LG, Option.bind_some]
    exact in_l2 (outB l w) (outB (movd l) w) hsz (by rw [bl_out, bl_out]; exact moved_out hm w (fun j hj => (hc j hj).1) (fun j hj => (hc j hj).2)) M 0 K ⟨#[]⟩ (by omega) (by omega) rfl
  | d + 1, i, K, hi, hK, hc => by
    obtain ⟨K, rfl⟩ : ∃ K', K = K' + 1 := ⟨K - 1, by omega⟩
    have hlt : i < l.length := by omega
    have hbi : bulkB l (i + 1) = bulkB l i + (gB l i).f1.size := rfl
    have hbm := bulkB_mono l (i + 1) d
    rw [show i + 1 + d = l.length by omega] at hbm
    have hsz := hs _ (gB_mem hlt)
    rw [copperplatelaw18_WideIn.l0, if_pos (by omega), if_pos (by omega), rd_gB]
    by_cases h6 : (gB l i).f0 = 6
    · rw [if_pos h6]
    rw [if_neg h6]
    refine in_l1 l (by omega) w i hlt ((bulkB l l.length - bulkB l (i + 1)) + 2 * d + M + 2) (by omega) (fun hcl K' hK' => ?_) (gB l i).f1.size 0 K (by omega) (by omega) (by intro c hm; rw [List.take_zero] at hm; exact absurd hm (List.not_mem_nil))
    refine in_l0 hl hs hb hr M hM d (i + 1) K' (by omega) hK' (fun j hj => ?_)
    by_cases e : j = i
    · subst e; exact ⟨h6, hcl⟩
    · exact hc j (by omega)
theorem _root_.Go.Proofs.Ytipjfdamkpgecaa.Pure.WideIn : copperplatelaw18_WideIn.PureUp := by
  intro l w hl16 ht hw hb
  have hsm := small_of ht
  have hl : l.length ≤ 17592186044416 := by omega
  obtain ⟨K, hK⟩ : ∃ K, K = bulkB l l.length + 2 * l.length + (outB l w).size + 2 := ⟨_, rfl⟩
  refine ⟨K + 1, ?_⟩
  unfold copperplatelaw18_WideIn.f copperplatelaw18_awake.f
  rw [Option.bind_some, if_pos rfl]
  have J : copperplatelaw18_WideIn.j0 (K + 1) l w true true = some true := rfl
  by_cases c2 : (l.length : Int) > 300
  · rw [if_pos c2]; exact J
  rw [if_neg c2, roomB_len hl, Option.bind_some]
  by_cases g : roomB l w = true
  rotate_left
  · rw [show roomB l w = false by simpa using g]; exact J
  rw [g, copperplatelaw18_WideIn.j0, if_neg (by decide)]
  exact in_l0 (by omega) hsm hb g _ rfl l.length 0 K (by omega) (by rw [bulkB]; omega) (fun j hj => absurd hj (Nat.not_lt_zero j))
end Go.Proofs.Ytipjfdamkpgecaa.PWide
