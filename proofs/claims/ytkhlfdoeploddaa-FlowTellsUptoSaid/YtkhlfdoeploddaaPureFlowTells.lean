/- The pure statement of FlowTells: the document's answer comes to the same closed forms. -/
import Derived.Test.YtkhlfdoeploddaaPFlowx22
import Derived.Test.YtkhlfdoeploddaaHFlowFlowA
import Derived.Test.YtkhlfdoeploddaaHFlowRef18P
namespace Go.Proofs.Ytkhlfdoeploddaa.PFlow
open Go.RowKit Go.Proofs.YtkhlfdoeploddaaW.PrintWords Go.Proofs.YtkhlfdoeploddaaW.PrintMore
set_option linter.unusedVariables false
set_option linter.unusedSimpArgs false
theorem rroom_f (l : List S34) (w : Int) {K : Nat} (hK : 2 * l.length + 1 ≤ K) : copperplateref18_Room.f K l w = some (roomB l w) := by
  unfold copperplateref18_Room.f roomB
  rw [rmay_f l hK, Option.bind_some]
  cases mayOf l with
  | false => rfl
  | true =>
    rw [if_pos rfl]
    by_cases g : w ≥ 1
    · rw [if_pos g, decide_eq_true (show 1 ≤ w from g)]; rfl
    · rw [if_neg g, decide_eq_false (show ¬ 1 ≤ w from g)]; rfl
theorem first_br (l : List S34) : ∀ d m, (∀ j, m ≤ j → j < m + d → brB (gB l j).f0 = false) ∨ ∃ b, m ≤ b ∧ b < m + d ∧ brB (gB l b).f0 = true ∧ ∀ j, m ≤ j → j < b → brB (gB l j).f0 = false
  | 0, m => .inl fun j h1 h2 => by omega
  | d + 1, m => by
    rcases first_br l d m with h | ⟨b, h1, h2, h3, h4⟩
    · cases hb : brB (gB l (m + d)).f0 with
      | true => exact .inr ⟨m + d, by omega, by omega, hb, fun j a c => h j a c⟩
      | false =>
        refine .inl fun j a c => ?_
        by_cases q : j = m + d
        · rw [q]; exact hb
        · exact h j a (by omega)
    · exact .inr ⟨b, h1, by omega, h3, h4⟩
theorem beh_take (l : List S34) (k : Nat) : ∀ d m, m + d ≤ k → behB (l.take k) d m = behB l d m
  | 0, _, _ => rfl
  | d + 1, m, h => by
    have g : gB (l.take k) m = gB l m := gB_take (by omega)
    have t : tsB (l.take k) m = tsB l m := by unfold tsB colA; rw [g]
    rw [behB, behB, beh_take l k d (m + 1) (by omega), g, t]
theorem step_no {x : S34} {i M M' : Int} {p : PgB} : stepP x i false M p = stepP x i false M' p := by
  by_cases c : x.f0 = 6
  · unfold stepP
    rw [if_pos c, if_pos c, if_neg (fun h => absurd h.2 (by decide)), if_neg (fun h => absurd h.2 (by decide))]
  · exact stepP_other c
section
variable {l : List S34} {k e : Nat} {col w mk : Int}
theorem dec_flat (hs : small33 l) (hl : l.length ≤ 4000) {R : Nat} (hR : roundsB l R) (he : e ≤ l.length) : ∀ (d j K : Nat) (n : Int), j + d = e → R + 2 ≤ K → 0 ≤ n → n + 140737488355328 * d ≤ 4611686018427387904 → (∀ x, j ≤ x → x < e → flA l x = true) →
    copperplateref19_decision.l0 (K + d) l (k : Int) col w mk (e : Int) n (j : Int) = copperplateref19_decision.l0 K l (k : Int) col w mk (e : Int) (n + sumC l j d) (e : Int)
  | 0, j, K, n, hj, hK, h0, h1, hf => by
    obtain rfl : j = e := by omega
    rw [sumC, Int.add_zero]; rfl
  | d + 1, j, K, n, hj, hK, h0, h1, hf => by
    obtain ⟨K', rfl⟩ : ∃ K', K = K' + 1 := ⟨K - 1, by omega⟩
    have hc := colA_bd hs j
    have hlt : j < e := by omega
    have f := hf j (Nat.le_refl _) hlt
    have hRK : roundsB l (K' + 1 + d) := fun x => by have := hR x; omega
    rw [show K' + 1 + (d + 1) = (K' + 1 + d) + 1 by omega, copperplateref19_decision.l0, if_pos (by omega), if_pos (by omega), if_pos (by omega), rd_gB, show K' + 1 + d = K' + d + 1 by omega, rflat_f, Option.bind_some]
    unfold flA at f
    rw [if_pos f, show K' + d + 1 = K' + 1 + d by omega, rcolA_f hs hRK, Option.bind_some, wrap_id (by omega) (by omega), show wrap64 ((j : Int) + 1) = ((j + 1 : Nat) : Int) by rw [wrap_id (by omega) (by omega)]; omega]
    rw [dec_flat hs hl hR he d (j + 1) (K' + 1) (n + colA l j) (by omega) hK (by omega) (by omega) (fun x a b => hf x (by omega) b), sumC_cons]
    congr 1
    omega
theorem dec_bad (hs : small33 l) (hl : l.length ≤ 4000) {R : Nat} (hR : roundsB l R) (he : e ≤ l.length) : ∀ (d j K : Nat) (n : Int), j + d = e → R + d + 2 ≤ K → (∃ x, j ≤ x ∧ x < e ∧ flA l x = false) →
    copperplateref19_decision.l0 K l (k : Int) col w mk (e : Int) n (j : Int) = some (true, false)
  | 0, j, K, n, hj, hK, ⟨x, h1, h2, _⟩ => by omega
  | d + 1, j, K, n, hj, hK, hx => by
    obtain ⟨K, rfl⟩ : ∃ K', K = K' + 1 + 1 := ⟨K - 2, by omega⟩
    have hlt : j < e := by omega
    have hRK : roundsB l (K + 1) := fun x => by have := hR x; omega
    rw [copperplateref19_decision.l0, if_pos (by omega), if_pos (by omega), if_pos (by omega), rd_gB, rflat_f, Option.bind_some]
    by_cases f : (flatOf (gB l j).f0 (gB l j).f1).2 = true
    · rw [if_pos f, rcolA_f hs hRK, Option.bind_some, show wrap64 ((j : Int) + 1) = ((j + 1 : Nat) : Int) by rw [wrap_id (by omega) (by omega)]; omega]
      refine dec_bad hs hl hR he d (j + 1) (K + 1) _ (by omega) (by omega) ?_
      obtain ⟨x, h1, h2, h3⟩ := hx
      refine ⟨x, ?_, h2, h3⟩
      have : x ≠ j := by
        intro q
        subst q
        unfold flA at h3
        rw [f] at h3
        cases h3
      omega
    · rw [if_neg f]
theorem br_none (hk : k ≤ l.length) (hl : l.length ≤ 4000) {m : Nat} : ∀ (d j K : Nat), j + d = k → 2 * d + 2 ≤ K → (∀ x, j ≤ x → x < k → brB (gB l x).f0 = false) → copperplateref19_decision.l1 K l (k : Int) (m : Int) (j : Int) = some (false, false)
  | 0, j, K, hj, hK, h => by
    obtain ⟨K, rfl⟩ : ∃ K', K = K' + 1 + 1 := ⟨K - 2, by omega⟩
    rw [copperplateref19_decision.l1, if_neg (by omega), copperplateref19_decision.j4, if_neg (by decide)]
  | d + 1, j, K, hj, hK, h => by
    obtain ⟨K, rfl⟩ : ∃ K', K = K' + 1 + 1 := ⟨K - 2, by omega⟩
    rw [copperplateref19_decision.l1, if_pos (by omega), decide_eq_true (by omega), copperplateref19_decision.j4, if_pos rfl, if_pos (by omega), if_pos (by omega), rd_gB, rbreaks_f, Option.bind_some, h j (Nat.le_refl _) (by omega), if_neg (by decide), show wrap64 ((j : Int) + 1) = ((j + 1 : Nat) : Int) by rw [wrap_id (by omega) (by omega)]; omega]
    exact br_none hk hl d (j + 1) K (by omega) (by omega) (fun x a b => h x (by omega) b)
theorem br_some (hk : k ≤ l.length) (hl : l.length ≤ 4000) {m : Nat} : ∀ (d j K : Nat), j + d = k → 2 * d + 2 ≤ K → (∃ x, j ≤ x ∧ x < k ∧ brB (gB l x).f0 = true) → copperplateref19_decision.l1 K l (k : Int) (m : Int) (j : Int) = some (true, true)
  | 0, j, K, hj, hK, ⟨x, h1, h2, _⟩ => by omega
  | d + 1, j, K, hj, hK, hx => by
    obtain ⟨K, rfl⟩ : ∃ K', K = K' + 1 + 1 := ⟨K - 2, by omega⟩
    rw [copperplateref19_decision.l1, if_pos (by omega), decide_eq_true (by omega), copperplateref19_decision.j4, if_pos rfl, if_pos (by omega), if_pos (by omega), rd_gB, rbreaks_f, Option.bind_some]
    cases f : brB (gB l j).f0 with
    | true => rw [if_pos rfl]
    | false =>
      rw [if_neg (by decide), show wrap64 ((j : Int) + 1) = ((j + 1 : Nat) : Int) by rw [wrap_id (by omega) (by omega)]; omega]
      refine br_some hk hl d (j + 1) K (by omega) (by omega) ?_
      obtain ⟨x, h1, h2, h3⟩ := hx
      refine ⟨x, ?_, h2, h3⟩
      have : x ≠ j := by
        intro q
        subst q
        rw [f] at h3
        cases h3
      omega
end
theorem dec_f {l : List S34} (hm : MayB l) (hs : small33 l) {R : Nat} (hR : roundsB l R) {i m k : Nat} (hM : IsM l i m) (hik : i < k) (hk : k ≤ l.length) {col w : Int} (hc0 : 0 ≤ col) (hc1 : col ≤ 1152921504606846976) (K : Nat) (hK : 20000 + R ≤ K) :
    copperplateref19_decision.f K l (i : Int) (k : Int) col w = some (if undB l k i m (w - col) then (false, false) else (true, decide (0 ≤ needV l i m ∧ needV l i m ≤ w - col))) := by
  have hl := hm.len
  have hmi := hM.lt
  have hml := hM.len
  have htl : (l.take k).length = k := by rw [List.length_take]; omega
  unfold copperplateref19_decision.f
  rw [if_pos (by omega), if_pos (by omega), Int.toNat_natCast, rmatch_f (by rw [htl]; omega) (i : Int) K (by rw [htl]; omega), Option.bind_some, match_take hM]
  obtain ⟨K, rfl⟩ : ∃ K', K = K' + 1 := ⟨K - 1, by omega⟩
  by_cases hmk : m < k
  · -- its match has come
    rw [if_pos hmk, if_neg (by omega), copperplateref19_decision.j0]
    by_cases hbad : ∃ x, i ≤ x ∧ x < m ∧ flA l x = false
    · rw [dec_bad hs hl hR (by omega) (m - i) i K 0 (by omega) (by omega) hbad]
      obtain ⟨x, h1, h2, h3⟩ := hbad
      have hxi : x ≠ i := by intro e; subst e; rw [flA_open hM.op] at h3; cases h3
      have hn : needV l i m = -1 := by
        unfold needV
        rw [if_neg]
        intro ha
        have := ha (x - (i + 1)) (by omega)
        rw [show i + 1 + (x - (i + 1)) = x by omega, h3] at this
        cases this
      rw [hn, if_neg, decide_eq_false (by omega)]
      intro hu
      have := hu.1 x h1 (by omega)
      rw [if_pos h2, h3] at this
      cases this
    · have hall : ∀ x, i ≤ x → x < m → flA l x = true := fun x a b => by
        cases f : flA l x with
        | true => rfl
        | false => exact absurd ⟨x, a, b, f⟩ hbad
      obtain ⟨K, rfl⟩ : ∃ K', K = K' + (m - i) := ⟨K - (m - i), by omega⟩
      have sb := sumC_bd hs i (m - i)
      rw [dec_flat hs hl hR (by omega) (m - i) i K 0 (by omega) (by omega) (Int.le_refl 0) (by omega) hall, Int.zero_add]
      obtain ⟨K, rfl⟩ : ∃ K', K = K' + 1 + 1 := ⟨K - 2, by omega⟩
      have hRt : roundsB (l.take k) R := fun x => by
        by_cases q : x < k
        · rw [gB_take q]; exact hR x
        · rw [gB_ge (by rw [htl]; omega)]; have := hR l.length; rw [gB_ge (Nat.le_refl _)] at this; exact this
      have hB : copperplateref17_Behind.f (K + 1) (l.take k) (m : Int) = some (0 + behB (l.take k) (k - m) m) := rbehind_l (fun x hx => hs x (List.mem_of_mem_take hx)) (by rw [htl]; omega) hRt (k - m) m (K + 1) 0 (by rw [htl]; omega) (by omega) (Int.le_refl 0) (by omega)
      rw [copperplateref19_decision.l0, if_neg (by omega), if_pos (by omega), if_pos (by omega), if_pos (by omega), Int.toNat_natCast, hB, Option.bind_some, Int.zero_add, beh_take l k (k - m) m (by omega), copperplateref19_decision.j2]
      have hcom : ∀ b, b ≤ k → (∀ j, m ≤ j → j < b → brB (gB l j).f0 = false) → ∀ j, i ≤ j → j < b → (if j < m then flA l j = true else brB (gB l j).f0 = false) := fun b hb h j a c => by
        by_cases q : j < m
        · rw [if_pos q]; exact hall j a q
        · rw [if_neg q]; exact h j (by omega) c
      rcases first_br l (k - m) m with hno | ⟨b, b1, b2, b3, b4⟩
      · have e1 : behB l (k - m) m = sumC l m (k - m) := by
          have := behB_run hm (k - m) (k - m) m (Nat.le_refl _) (by omega) (fun j hj => hno (m + j) (by omega) (by omega))
          rw [this, Nat.sub_self, behB, Int.add_zero]
        have e2 := sumC_add l i (m - i) (k - m)
        rw [show m - i + (k - m) = k - i by omega, show i + (m - i) = m by omega] at e2
        have sk := sumC_bd hs i (k - i)
        have hc := hcom k (Nat.le_refl _) (fun j a c => hno j a (by omega))
        rw [e1, ← e2, wrap_id (x := sumC l i (k - i)) (by omega) (by omega), wrap_id (by omega) (by omega)]
        by_cases g : col + sumC l i (k - i) > w
        · have hn := need_le hm hM hik hk hc
          rw [if_pos g, if_neg (fun hu => by have := hu.2; omega), decide_eq_false (by omega)]
        · rw [if_neg g, br_none hk hl (k - m) m K (by omega) (by omega) (fun x a c => hno x a (by omega)), if_pos ⟨hc, by omega⟩]
      · have e1 : behB l (k - m) m = sumC l m (b - m) := by
          have := behB_run hm (b - m) (k - m) m (by omega) (by omega) (fun j hj => b4 (m + j) (by omega) (by omega))
          rw [this, show k - m - (b - m) = (k - b - 1) + 1 by omega, show m + (b - m) = b by omega, behB, if_pos b3, Int.add_zero]
        have e2 := sumC_add l i (m - i) (b - m)
        rw [show m - i + (b - m) = b - i by omega, show i + (m - i) = m by omega] at e2
        have sk := sumC_bd hs i (b - i)
        have hbm : b ≠ m := by intro e; subst e; rw [hM.close] at b3; exact absurd b3 (by decide)
        have hn := need_eq hm hM (k := b) (by omega) (by omega) (hcom b (by omega) b4) b3
        have hu : ¬ undB l k i m (w - col) := fun hu => by
          have := hu.1 b (by omega) (by omega)
          rw [if_neg (by omega), b3] at this
          cases this
        rw [e1, ← e2, wrap_id (x := sumC l i (b - i)) (by omega) (by omega), wrap_id (by omega) (by omega), if_neg hu, hn]
        by_cases g : col + sumC l i (b - i) > w
        · rw [if_pos g, decide_eq_false (by omega)]
        · rw [if_neg g, br_some hk hl (k - m) m K (by omega) (by omega) ⟨b, b1, by omega, b3⟩, decide_eq_true (by omega)]
  · rw [if_neg hmk, if_pos (by omega), copperplateref19_decision.j0]
    by_cases hbad : ∃ x, i ≤ x ∧ x < k ∧ flA l x = false
    · rw [dec_bad hs hl hR hk (k - i) i K 0 (by omega) (by omega) hbad]
      obtain ⟨x, h1, h2, h3⟩ := hbad
      have hxi : x ≠ i := by intro e; subst e; rw [flA_open hM.op] at h3; cases h3
      have hn : needV l i m = -1 := by
        unfold needV
        rw [if_neg]
        intro ha
        have := ha (x - (i + 1)) (by omega)
        rw [show i + 1 + (x - (i + 1)) = x by omega, h3] at this
        cases this
      rw [hn, if_neg, decide_eq_false (by omega)]
      intro hu
      have := hu.1 x h1 h2
      rw [if_pos (by omega), h3] at this
      cases this
    · have hall : ∀ x, i ≤ x → x < k → flA l x = true := fun x a b => by
        cases f : flA l x with
        | true => rfl
        | false => exact absurd ⟨x, a, b, f⟩ hbad
      obtain ⟨K, rfl⟩ : ∃ K', K = K' + (k - i) := ⟨K - (k - i), by omega⟩
      have sb := sumC_bd hs i (k - i)
      rw [dec_flat hs hl hR hk (k - i) i K 0 (by omega) (by omega) (Int.le_refl 0) (by omega) hall, Int.zero_add]
      obtain ⟨K, rfl⟩ : ∃ K', K = K' + 1 + 1 + 1 + 1 := ⟨K - 4, by omega⟩
      rw [copperplateref19_decision.l0, if_neg (by omega), if_neg (by omega), copperplateref19_decision.j2, wrap_id (by omega) (by omega)]
      have hc : ∀ j, i ≤ j → j < k → (if j < m then flA l j = true else brB (gB l j).f0 = false) := fun j a c => by rw [if_pos (by omega)]; exact hall j a c
      by_cases g : col + sumC l i (k - i) > w
      · have hn := need_le hm hM hik hk hc
        rw [if_pos g, if_neg (fun hu => by have := hu.2; omega), decide_eq_false (by omega)]
      · rw [if_neg g, copperplateref19_decision.l1, if_pos (by omega), decide_eq_false (by decide), copperplateref19_decision.j4, if_neg (by decide), if_pos ⟨hc, by omega⟩]
theorem rounds_q {l : List S34} (hb : bulkB l l.length ≤ 1099511627776) : roundsB l 1099511627810 := fun k => by
  by_cases q : k < l.length
  · have := bulkB_le_q hb q; omega
  · rw [gB_ge (by omega)]; show 0 + 24 < _; omega
theorem rflow_l {l : List S34} (hm : MayB l) (hs : small33 l) (hb : bulkB l l.length ≤ 1099511627776) (w : Int) {k : Nat} (hk : k ≤ l.length) : ∀ (d i K : Nat), i + d = k → 2 * d + 1099511660000 ≤ K →
    copperplateref19_Flow.l0 K l w (k : Int) (i : Int) ⟨(uptoP l w i).out.toArray⟩ (uptoP l w i).ind (uptoP l w i).col (uptoP l w i).due (uptoP l w i).flat = some (⟨(flowRun l w k d i (uptoP l w i)).1.out.toArray⟩, (flowRun l w k d i (uptoP l w i)).2, true)
  | 0, i, K, hi, hK => by
    obtain ⟨K, rfl⟩ : ∃ K', K = K' + 1 := ⟨K - 1, by omega⟩
    rw [copperplateref19_Flow.l0, if_neg (by omega)]; rfl
  | d + 1, i, K, hi, hK => by
    obtain ⟨K, rfl⟩ : ∃ K', K = K' + 1 + 1 := ⟨K - 2, by omega⟩
    have hl := hm.len
    have hlt : i < l.length := by omega
    have E : wrap64 ((i : Int) + 1) = ((i + 1 : Nat) : Int) := by rw [wrap_id (by omega) (by omega)]; omega
    have ih := rflow_l hm hs hb w hk d (i + 1) K (by omega) (by omega)
    have ok := okP hm w i (by omega)
    have c1 := ok.col1; have c0 := ok.col0; have o1 := ok.out; have d0 := ok.due0; have d1 := ok.due1; have i1 := ok.ind
    have h7 := indB_le l i
    have h8 := hm.ind i (by omega)
    have h9 : (2 * i + 2) * i ≤ 8002 * 4000 := Nat.mul_le_mul (by omega) (by omega)
    have h11 := bulkB_le_q hb hlt
    have SN := flow_stepN (l := l) w (i := i)
    have SD := fun a b c => flow_stepD hm hs w hk (show i < k by omega) a b c
    have US := uptoP_succ l w i
    have PR := fun b => rprint_f hl hlt (uptoP l w i) b (by omega) d0 (by omega) c0 (by omega) (by omega) (by omega) (by omega)
    rw [flowRun_succ]
    have fin : ∀ b, stepP (gB l i) i b (matchOf l i) (uptoP l w i) = uptoP l w (i + 1) → (copperplateref18_Print.f ⟨(uptoP l w i).out.toArray⟩ (uptoP l w i).ind (uptoP l w i).col (uptoP l w i).due (uptoP l w i).flat l (i : Int) b).bind (fun t => copperplateref19_Flow.l0 K l w (k : Int) (wrap64 ((i : Int) + 1)) t.1 t.2.1 t.2.2.1 t.2.2.2.1 t.2.2.2.2) = some (⟨(flowRun l w k d (i + 1) (uptoP l w (i + 1))).1.out.toArray⟩, (flowRun l w k d (i + 1) (uptoP l w (i + 1))).2, true) := by
      intro b e
      rw [PR, Option.bind_some, E, e]
      exact ih
    rw [copperplateref19_Flow.l0, if_pos (by omega), if_pos (by omega), if_pos (by omega), rd_gB]
    by_cases c6 : (gB l i).f0 = 6
    · rw [if_pos c6, copperplateref19_Flow.j2]
      by_cases n1 : (uptoP l w i).flat < 0
      · obtain ⟨m, hM⟩ := hm.group hlt c6
        have hd := decOf_eq hm hM (show i < k by omega) hk (w - (uptoP l w i).col)
        rw [decide_eq_true n1, if_pos rfl, if_pos ⟨c6, n1⟩, dec_f hm hs (rounds_q hb) hM (show i < k by omega) hk c0 (by omega) K (by omega), Option.bind_some]
        by_cases u : undB l k i m (w - (uptoP l w i).col)
        · rw [if_pos u] at hd ⊢
          rw [hd, if_neg (by decide), if_pos rfl, wrap_id (by omega) (by omega)]
        · rw [if_neg u] at hd ⊢
          rw [if_pos rfl, hd, if_neg (fun h : true = false => by cases h)]
          have sd := SD c6 n1 (by rw [hd])
          rw [hd] at sd
          rw [sd]
          refine fin _ ?_
          rw [US]
          unfold fitP
          rw [hM.need hs (by omega)]
          congr 1
          exact decide_eq_decide.2 ⟨fun h => ⟨h.1, by omega⟩, fun h => ⟨h.1, by omega⟩⟩
      · have c : ¬ ((gB l i).f0 = 6 ∧ (uptoP l w i).flat < 0) := fun h => n1 h.2
        rw [decide_eq_false n1, if_neg (by decide), if_neg c, SN c]
        exact fin _ ((step_no (M' := 0)).trans (SN c))
    · have c : ¬ ((gB l i).f0 = 6 ∧ (uptoP l w i).flat < 0) := fun h => c6 h.1
      rw [if_neg c6, copperplateref19_Flow.j2, if_neg (by decide), if_neg c, SN c]
      exact fin _ ((step_no (M' := 0)).trans (SN c))
theorem rflow_f {l : List S34} (hl : l.length ≤ 4000) (hs : small33 l) (hb : bulkB l l.length ≤ 1099511627776) (w k : Int) {K : Nat} (hK : 1099511680000 ≤ K) :
    copperplateref19_Flow.f K l w k = some (if roomB l w = true ∧ 0 ≤ k ∧ k ≤ (l.length : Int) then (⟨(flowOf l w k.toNat).1.out.toArray⟩, (flowOf l w k.toNat).2, true) else (⟨#[]⟩, 0, false)) := by
  obtain ⟨K, rfl⟩ : ∃ K', K = K' + 1 := ⟨K - 1, by omega⟩
  unfold copperplateref19_Flow.f
  rw [rroom_f l w (by omega), Option.bind_some]
  by_cases r : roomB l w = true
  · rw [if_pos r]
    by_cases k0 : k < 0
    · rw [if_pos k0, copperplateref19_Flow.j0, if_pos rfl, if_neg (fun h => by omega)]
    · rw [if_neg k0, copperplateref19_Flow.j0]
      by_cases k1 : k > (l.length : Int)
      · rw [decide_eq_true k1, if_pos rfl, if_neg (fun h => by omega)]
      · obtain ⟨n, rfl⟩ := Int.eq_ofNat_of_zero_le (show 0 ≤ k by omega)
        rw [decide_eq_false k1, if_neg (by decide), if_pos ⟨r, by omega, by omega⟩, Int.toNat_natCast]
        exact rflow_l (roomB_true.1 r).1 hs hb w (show n ≤ l.length by omega) n 0 K (by omega) (by omega)
  · rw [if_neg r, copperplateref19_Flow.j0, if_pos rfl, if_neg (fun h => r h.1)]
theorem rheld_l {l : List S34} (hl : l.length ≤ 4000) (hs : small33 l) (hb : bulkB l l.length ≤ 1099511627776) {w : Int} (r : roomB l w = true) {k : Nat} (hk : k ≤ l.length) : ∀ (d j K : Nat), j + d = k + 1 → d + 1099511680001 ≤ K →
    copperplateref19_Held.l0 K l w (k : Int) (heldRun l w j) (j : Int) = some (heldRun l w (k + 1))
  | 0, j, K, hj, hK => by
    obtain ⟨K, rfl⟩ : ∃ K', K = K' + 1 := ⟨K - 1, by omega⟩
    obtain rfl : j = k + 1 := by omega
    rw [copperplateref19_Held.l0, if_neg (by omega)]
  | d + 1, j, K, hj, hK => by
    obtain ⟨K, rfl⟩ : ∃ K', K = K' + 1 := ⟨K - 1, by omega⟩
    have ih := rheld_l hl hs hb r hk d (j + 1) K (by omega) (by omega)
    rw [heldRun] at ih
    rw [copperplateref19_Held.l0, if_pos (by omega), rflow_f hl hs hb w (j : Int) (by omega), if_pos (show roomB l w = true ∧ 0 ≤ (j : Int) ∧ (j : Int) ≤ (l.length : Int) from ⟨r, by omega, by omega⟩), Option.bind_some, Int.toNat_natCast, show wrap64 ((j : Int) + 1) = ((j + 1 : Nat) : Int) by rw [wrap_id (by omega) (by omega)]; omega]
    dsimp only
    by_cases g : (flowOf l w j).2 > heldRun l w j
    · rw [if_pos g]
      rwa [show max (heldRun l w j) (flowOf l w j).2 = (flowOf l w j).2 by omega] at ih
    · rw [if_neg g]
      rwa [show max (heldRun l w j) (flowOf l w j).2 = heldRun l w j by omega] at ih
theorem rheld_f {l : List S34} (hl : l.length ≤ 4000) (hs : small33 l) (hb : bulkB l l.length ≤ 1099511627776) (w k : Int) {K : Nat} (hK : 1099511690000 ≤ K) :
    copperplateref19_Held.f K l w k = some (if roomB l w = true ∧ 0 ≤ k ∧ k ≤ (l.length : Int) then heldOf l w k.toNat else -1) := by
  unfold copperplateref19_Held.f
  rw [rflow_f hl hs hb w k (by omega), Option.bind_some]
  by_cases c : roomB l w = true ∧ 0 ≤ k ∧ k ≤ (l.length : Int)
  · obtain ⟨n, rfl⟩ := Int.eq_ofNat_of_zero_le c.2.1
    rw [if_pos c, if_pos c, if_pos rfl, Int.toNat_natCast]
    exact rheld_l hl hs hb c.1 (show n ≤ l.length by omega) (n + 1) 0 K (by omega) (by omega)
  · rw [if_neg c, if_neg c, if_neg (by decide)]
theorem cut_last (x : List UInt8) : (⟨(x ++ [10]).toArray⟩ : ByteArray).extract 0 x.length = ⟨x.toArray⟩ := by
  apply ByteArray.ext
  rw [ByteArray.data_extract]
  apply Array.ext'
  rw [Array.toList_extract, List.extract_eq_take_drop]
  simp
theorem rall_f {l : List S34} (h : Dom l) (hl : l.length ≤ 3999) (w : Int) {K : Nat} (hK : 1099511680000 ≤ K) :
    copperplateref19_All.f K l w = some (if roomB (l ++ [nlB]) w = true then (⟨(uptoP l w l.length).out.toArray⟩, true) else (⟨#[]⟩, false)) := by
  have hh := h.hard
  have hz : (l ++ [nlB]).length = l.length + 1 := by simp
  unfold copperplateref19_All.f
  rw [if_pos (by rw [List.length_nil]; omega), Option.bind_some, List.nil_append, if_pos (by omega), Option.bind_some]
  show (copperplateref19_Flow.f K (l ++ [nlB]) w ((l ++ [nlB]).length : Int)).bind _ = _
  rw [rflow_f (by rw [hz]; omega) hh.2.1 hh.2.2 w _ hK, Option.bind_some]
  have nc : ¬ roomB (l ++ [nlB]) w = true → ¬ (roomB (l ++ [nlB]) w = true ∧ 0 ≤ ((l ++ [nlB]).length : Int) ∧ ((l ++ [nlB]).length : Int) ≤ ((l ++ [nlB]).length : Int)) := fun c hh => c hh.1
  by_cases c : roomB (l ++ [nlB]) w = true
  · have m := (roomB_true.1 c).1
    have hf := flow_hard (mayB_left m) m hh.2.1 w
    have cc : roomB (l ++ [nlB]) w = true ∧ 0 ≤ ((l ++ [nlB]).length : Int) ∧ ((l ++ [nlB]).length : Int) ≤ ((l ++ [nlB]).length : Int) := ⟨c, by omega, Int.le_refl _⟩
    rw [if_pos cc, if_pos c, Int.toNat_natCast, hz]
    rw [show flowOf (l ++ [nlB]) w (l.length + 1) = (lineP (uptoP l w l.length), 0) from hf]
    have o := (okP (mayB_left m) w l.length (Nat.le_refl _)).out
    have hb := h.bulk
    have h3 : (2 * l.length + 2) * l.length ≤ 8002 * 4000 := Nat.mul_le_mul (by omega) (by omega)
    have ol : (uptoP l w l.length).out.length ≤ 35184372088832 := by omega
    clear o hf
    generalize uptoP l w l.length = p at ol ⊢
    dsimp only
    have hs : (⟨(lineP (p)).out.toArray⟩ : ByteArray).size = (p).out.length + 1 := by
      show (lineP (p)).out.toArray.size = _
      rw [List.size_toArray]; unfold lineP; simp
    rw [if_pos rfl, hs, wrap_id (by omega) (by omega), if_pos (by omega), if_pos (by omega)]
    have e : (lineP p).out = p.out ++ [10] := rfl
    rw [show (((p.out.length + 1 : Nat) : Int) - 1).toNat = p.out.length by omega, e, cut_last]
  · rw [if_neg (nc c), if_neg c]
    dsimp only
    exact if_neg (by decide)
theorem _root_.Go.Proofs.Ytkhlfdoeploddaa.Pure.FlowTells : copperplatelaw19_FlowTells.PureUp := by
  intro l w k hl16 ht hw hk hb
  have hsm := small_of ht
  rw [← bulk_sum] at hb
  have hd : Dom l := ⟨by omega, hsm, by omega⟩
  obtain ⟨K, hK⟩ : ∃ K, K = 1099511700000 := ⟨_, rfl⟩
  refine ⟨K + 1, ?_⟩
  unfold copperplatelaw19_FlowTells.f copperplatelaw19_awake.f
  rw [Option.bind_some, if_pos rfl]
  by_cases c2 : (l.length : Int) > 60
  · rw [decide_eq_true c2]; rfl
  rw [decide_eq_false c2, copperplatelaw19_FlowTells.j0, if_neg (by decide), hd.flow, rflow_f (by omega) hsm (by omega) w k (by omega), hd.all, rall_f hd (by omega) w (by omega), hd.held w k (by omega), rheld_f (by omega) hsm (by omega) w k (by omega)]
  simp only [Option.bind_some, if_true, beq_self_eq_true]
end Go.Proofs.Ytkhlfdoeploddaa.PFlow
