/- The pure statement of SpanHard. -/
import Derived.Test.YtjibfhlacbgkgaaPSpanZx9
import Derived.Test.YtjibfhlacbgkgaaPureSpanZLib
namespace Go.Proofs.Ytjibfhlacbgkgaa.PSpanZ
open Go.RowKit Go.Proofs.YtjibfhlacbgkgaaW.PrintWords Go.Proofs.YtjibfhlacbgkgaaW.PrintMore
set_option linter.unusedVariables false
set_option linter.unusedSimpArgs false
theorem _root_.Go.Proofs.Ytjibfhlacbgkgaa.Pure.SpanHard : copperplatelaw17_SpanHard.Pure := by
  intro l a1 a2 s _ hw _ _ hss
  refine ⟨s.size + 3, ?_⟩
  have J : copperplatelaw17_SpanHard.j0 (s.size + 3) l a1 a2 s true true = some true := rfl
  unfold copperplatelaw17_SpanHard.f copperplatelaw17_awake.f
  rw [Option.bind_some, if_pos rfl]
  by_cases c1 : (l.length : Int) > 300
  · rw [if_pos c1]; exact J
  rw [if_neg c1]
  by_cases c2 : a1 < 0
  · rw [if_pos c2]; exact J
  rw [if_neg c2]
  by_cases c3 : a2 ≤ a1
  · rw [if_pos c3]; exact J
  rw [if_neg c3]
  by_cases c4 : a2 > (l.length : Int)
  · rw [if_pos c4]; exact J
  rw [if_neg c4]
  by_cases c5 : (s.size : Int) > 300
  · rw [decide_eq_true c5]; exact J
  clear J
  have hsm := small_of hw
  obtain ⟨i, rfl⟩ := Int.eq_ofNat_of_zero_le (show 0 ≤ a1 by omega)
  obtain ⟨k, rfl⟩ := Int.eq_ofNat_of_zero_le (show 0 ≤ a2 by omega)
  rw [decide_eq_false c5, copperplatelaw17_SpanHard.j0, if_neg (by decide), match_f (by omega), need_f hsm (by omega)]
  simp only [Option.bind_some]
  rcases group_cases hsm (by omega) (i : Int) with ⟨h1, h2, _⟩ | ⟨i', m, e, h1, h2, hM⟩
  · rw [h1, h2, if_pos (by decide), copperplatelaw17_SpanHard.j1, if_pos rfl, if_pos (by decide), if_pos (by omega), if_neg (by decide)]; rfl
  obtain rfl : i = i' := by omega
  have lt := hM.lt; have hl := hM.len
  rw [h1, h2, if_neg (by omega)]
  by_cases g : (k : Int) > (m : Int)
  · rw [if_pos g, copperplatelaw17_SpanHard.j1, if_pos rfl, if_pos (by omega), if_pos (by omega), if_pos (by omega)]
  rw [if_neg g, decide_eq_false (by omega), copperplatelaw17_SpanHard.j1, if_neg (by decide), if_pos (by omega), if_pos (by omega), Int.toNat_natCast]
  have hk : k ≤ l.length := by omega
  have hc := colsOf_bd s
  have hge := needV_ge l i m
  have hup : needV l i m ≤ 140737488355328 * 301 + 140737488355328 * 301 := by
    have z1 := sumC_bd hsm (i + 1) (m - (i + 1))
    have z2 := behB_bd hsm (l.length - (m + 1)) (m + 1)
    unfold needV
    split <;> omega
  have s1 : small33 (l.take k ++ [⟨5, ⟨#[]⟩⟩] ++ l.drop k) := small_app (small_app (small_take hsm k) (small_one (by decide))) (small_drop hsm k)
  have s2 : small33 (l.take k ++ [⟨0, s⟩] ++ l.drop k) := small_app (small_app (small_take hsm k) (small_one (by show s.size ≤ _; omega))) (small_drop hsm k)
  have e1 := ins_len l k ⟨5, ⟨#[]⟩⟩ hk
  have e2 := ins_len l k ⟨0, s⟩ hk
  have m1 := hM.ins (k := k) (x := ⟨5, ⟨#[]⟩⟩) (by decide) (by omega) (by omega)
  have m2 := hM.ins (k := k) (x := ⟨0, s⟩) (by show valB 0 = 0; decide) (by omega) (by omega)
  have n1 := needV_ins (x := ⟨5, ⟨#[]⟩⟩) hM (k := k) (by omega) (by omega)
  have n2 := needV_ins (x := ⟨0, s⟩) hM (k := k) (by omega) (by omega)
  rw [if_neg (by decide)] at n1
  rw [if_pos (show (flatOf 0 s).2 = true from rfl), show (flatOf 0 s).1 = s from rfl] at n2
  have t1 : (l.take k).length = k := by rw [List.length_take]; omega
  have t2 : (l.drop k).length = l.length - k := List.length_drop
  simp only [Option.bind_some, List.nil_append, List.length_nil]
  rw [if_pos (by omega), if_pos (by simp; omega), if_pos (by simp; omega), if_pos (by omega), if_pos (by simp; omega), if_pos (by simp; omega)]
  rw [need_f s1 (by omega), need_f s2 (by omega), match_f (by omega), cols_f s (by omega) _ (by omega), m1.need s1 (by omega), m2.need s2 (by omega), m2.mt, n1, n2]
  simp only [Option.bind_some]
  rw [if_pos trivial, wrap_id (by omega) (by omega)]
  generalize needV l i m = v at hge hup ⊢
  by_cases q : v = -1
  · subst q
    rw [if_pos rfl, if_pos (show (-1 : Int) < 0 by decide), if_pos rfl]
    exact congrArg some (beq_iff_eq.2 (by omega))
  · rw [if_neg q, if_pos (show v ≥ 0 by omega), if_neg (show ¬ v < 0 by omega), wrap_id (by omega) (by omega), if_pos rfl]
    exact congrArg some (beq_iff_eq.2 (by omega))
end Go.Proofs.Ytjibfhlacbgkgaa.PSpanZ
