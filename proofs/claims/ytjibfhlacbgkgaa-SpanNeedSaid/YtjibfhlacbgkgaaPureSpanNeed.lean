/- The pure statement of SpanNeed. -/
import Derived.Test.YtjibfhlacbgkgaaPSpanx16
import Derived.Test.YtjibfhlacbgkgaaPureSpanLib
namespace Go.Proofs.Ytjibfhlacbgkgaa.PSpan
open Go.RowKit Go.Proofs.YtjibfhlacbgkgaaW.PrintWords Go.Proofs.YtjibfhlacbgkgaaW.PrintMore
set_option linter.unusedVariables false
set_option linter.unusedSimpArgs false
theorem _root_.Go.Proofs.Ytjibfhlacbgkgaa.Pure.SpanNeed : copperplatelaw17_SpanNeed.Pure := by
  intro l a1 a2 s _ hw _ _ hss
  refine ⟨3, ?_⟩
  have J : copperplatelaw17_SpanNeed.j0 3 l a1 a2 s true true = some true := rfl
  unfold copperplatelaw17_SpanNeed.f copperplatelaw17_awake.f
  rw [Option.bind_some, if_pos rfl]
  by_cases c1 : (l.length : Int) > 300
  · rw [if_pos c1]; exact J
  rw [if_neg c1, may_f (by omega), Option.bind_some]
  by_cases hm : mayOf l = true
  rotate_left
  · rw [if_neg hm]; exact J
  rw [if_pos hm]
  have hm := mayOf_iff.1 hm
  by_cases c2 : a1 < 0
  · rw [if_pos c2]; exact J
  rw [if_neg c2]
  by_cases c4 : a1 ≥ (l.length : Int)
  · rw [if_pos c4]; exact J
  rw [if_neg c4]
  by_cases c5 : (s.size : Int) > 300
  · rw [decide_eq_true c5]; exact J
  clear J
  have hsm := small_of hw
  have hs1 : small33 ([⟨0, s⟩] ++ l) := small_app (small_one (by show s.size ≤ _; omega)) hsm
  obtain ⟨i, rfl⟩ := Int.eq_ofNat_of_zero_le (show 0 ≤ a1 by omega)
  have hn : needOf ([⟨0, s⟩] ++ l) ((1 + i : Nat) : Int) = needOf l (i : Int) := pre_need [⟨0, s⟩] l hs1 (by simp; omega) i
  rw [decide_eq_false c5, copperplatelaw17_SpanNeed.j0, if_neg (by decide), need_f hsm (by omega)]
  simp only [Option.bind_some]
  rw [if_pos (by simp; omega), wrap_id (by omega) (by omega), show ((i : Int) + 1) = ((1 + i : Nat) : Int) by omega, need_f hs1 (by simp; omega), Option.bind_some, hn, if_pos rfl]
  rcases group_cases hsm (by omega) (i : Int) with ⟨h1, h2, _⟩ | ⟨i', m, e, h1, h2, hM⟩
  · rw [h2, if_neg (by decide), copperplatelaw17_SpanNeed.j1, if_neg (by decide), match_f (by omega), Option.bind_some, if_pos (by decide)]
  obtain rfl : i = i' := by omega
  have lt := hM.lt; have hl := hM.len
  have J2 : copperplatelaw17_SpanNeed.j1 2 l (i : Int) a2 (needV l i m) false = some true := by
    rw [copperplatelaw17_SpanNeed.j1, if_neg (by decide), match_f (by omega), Option.bind_some, h1]
    by_cases g0 : needV l i m < 0
    · rw [if_pos g0]
    rw [if_neg g0]
    by_cases g1 : a2 ≤ (i : Int)
    · rw [if_pos g1]
    rw [if_neg g1]
    by_cases g2 : a2 ≥ (m : Int)
    · rw [if_pos g2]
    rw [if_neg g2, if_neg (by omega), if_pos (by omega), if_pos (by omega)]
    obtain ⟨k, rfl⟩ := Int.eq_ofNat_of_zero_le (show 0 ≤ a2 by omega)
    rw [rd_gB]
    by_cases g3 : (gB l k).f0 = 6
    rotate_left
    · rw [if_neg g3]
    rw [if_pos g3, wrap_id (by omega) (by omega), if_pos (by omega), if_pos (by omega), show ((m : Int) + 1).toNat = m + 1 by omega]
    obtain ⟨n, hN⟩ := hm.group (by omega) g3
    have hnm := (hM.facts hN).2.1 (by omega) (by omega)
    have hst := small_take hsm (m + 1)
    have ht : (l.take (m + 1)).length = m + 1 := by rw [List.length_take]; omega
    obtain ⟨w1, w2⟩ := need_within hM hN (by omega) hnm (by omega)
    rw [need_f hst (by omega), Option.bind_some, (hN.take (show n < m + 1 by omega)).need hst (by omega), if_pos w1, decide_eq_true w2]
  rw [h2]
  by_cases g : needV l i m ≥ 0
  · rw [if_pos g, if_pos (by omega), if_pos (by omega), rd_gB, hM.op]; exact J2
  · rw [if_neg g]; exact J2
end Go.Proofs.Ytjibfhlacbgkgaa.PSpan
