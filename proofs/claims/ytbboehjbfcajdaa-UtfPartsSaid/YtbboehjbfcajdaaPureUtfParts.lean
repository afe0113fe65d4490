/- The pure statement of UtfParts. -/
import Derived.Test.YtbboehjbfcajdaaPUtfx10
import Derived.Test.YtbboehjbfcajdaaPureUtfLib
namespace Go.Proofs.Ytbboehjbfcajdaa.Pure
open Go.RowKit Go.Proofs.Ytbboehjbfcajdaa.PUtf Go.Proofs.YtbboehjbfcajdaaW.PrintWords
set_option linter.unusedVariables false

theorem UtfParts : copperplatelaw02_UtfParts.Pure := by
  intro a b ha hb
  refine ⟨2, ?_⟩
  unfold copperplatelaw02_UtfParts.f copperplatelaw02_awake.f
  simp only [Option.bind_some, if_true, copperplatelaw02_UtfParts.j0, copperplatelaw02_UtfParts.j1]
  by_cases h1 : (a.size : Int) > 600
  · rw [if_pos h1]
  rw [if_neg h1]
  by_cases h2 : (b.size : Int) > 600
  · rw [decide_eq_true h2, if_pos rfl]
  rw [decide_eq_false h2, if_neg (by decide)]
  have hcat : (a ++ b).data.toList = a.data.toList ++ b.data.toList := by rw [ByteArray.data_append, Array.toList_append]
  have hsc : (a ++ b).size = a.size + b.size := by rw [ByteArray.size_append]
  have hsa := size_len a
  rw [bad_f a (by omega), may_f a (by omega), bad_f b (by omega), bad_f (a ++ b) (by omega), may_f (a ++ b) (by omega), hcat]
  simp only [Option.bind_some]
  obtain ⟨cs, r, hcs, ea, hr⟩ := bad_dec a.data.toList
  rcases hr with rfl | ⟨hne, h0, hno⟩
  · rw [List.append_nil] at ea
    have eb : badL a.data.toList = none := by
      have := badL_cat cs hcs []
      rw [List.append_nil, badL_nil] at this
      rw [ea, this]; rfl
    have ec : badL (a.data.toList ++ b.data.toList) = (badL b.data.toList).map (· + a.data.toList.length) := by rw [ea]; exact badL_cat cs hcs _
    rw [show badI a.data.toList = -1 from by unfold badI; rw [eb], eb]
    unfold badI
    rw [ec, if_pos (show a.size + b.size ≤ 9223372036854775807 by omega)]
    cases hbb : badL b.data.toList with
    | none =>
      have i1 : ¬ ((-1 : Int) ≥ (a.size : Int)) := by omega
      simp [i1]
    | some j =>
      have hj : j ≤ 1000 := by
        obtain ⟨cs', r', hcs', eb', hr'⟩ := bad_dec b.data.toList
        have h3 := badL_cat cs' hcs' r'
        rw [← eb', hbb] at h3
        have hlen := congrArg List.length eb'
        rw [← size_len, List.length_append] at hlen
        rcases hr' with rfl | ⟨hne', h0', -⟩
        · rw [badL_nil] at h3; simp at h3
        · rw [badL_stop hne' h0'] at h3
          simp only [Option.map_some, Option.some.injEq] at h3
          omega
      have i1 : ¬ ((-1 : Int) ≥ (a.size : Int)) := by omega
      have w1 : wrap64 ((a.size : Int) + j) = a.size + j := by unfold wrap64; omega
      have i2 : ¬ ((j : Int) = -1) := by omega
      have i3 : (j : Int) ≥ 0 := by omega
      simp only [Option.map_some, Option.map_none, Option.getD_some, Option.getD_none, Option.isNone_none, if_true, i1, i2, i3, if_false, w1, Bool.false_eq_true, show ¬ ((-1 : Int) < -1) by omega]
      congr 1
      rw [beq_iff_eq]
      omega
  · have hlen := congrArg List.length ea
    rw [← size_len, List.length_append] at hlen
    have hrl : 0 < r.length := List.length_pos_iff.2 hne
    generalize hJ : cs.flatMap encL = J at *
    have eb : badL a.data.toList = some J.length := by
      rw [ea, ← hJ, badL_cat cs hcs, badL_stop hne h0]; simp
    have ec : badL (a.data.toList ++ b.data.toList) = (badL (r ++ b.data.toList)).map (· + J.length) := by rw [ea, List.append_assoc, ← hJ]; exact badL_cat cs hcs _
    have ej : badL (a.extract 0 J.length).data.toList = none := by
      rw [ext_data, List.drop_zero, ea, List.take_left, ← hJ]
      have := badL_cat cs hcs []
      rw [List.append_nil, badL_nil] at this
      rw [this]; rfl
    have hse : (a.extract 0 J.length).size ≤ 600 := by rw [ByteArray.size_extract]; omega
    rw [show badI a.data.toList = (J.length : Int) from by unfold badI; rw [eb], eb]
    simp only [Option.isNone_some, Int.toNat_natCast]
    rw [may_f _ (by omega), ej, Option.bind_some]
    have i1 : ¬ ((J.length : Int) < -1) := by omega
    have i2 : ¬ ((J.length : Int) ≥ a.size) := by omega
    have i3 : ¬ ((J.length : Int) = -1) := by omega
    have i4 : 0 ≤ (J.length : Int) := by omega
    have i5 : (J.length : Int) ≤ a.size := by omega
    have w1 : wrap64 ((a.size : Int) - 3) = a.size - 3 := by unfold wrap64; omega
    have i6 : a.size + b.size ≤ 9223372036854775807 := by omega
    simp only [i1, i2, i3, i4, i5, i6, w1, if_true, if_false, Bool.false_eq_true, Option.isNone_none]
    have hge : ∀ x, badL (a.data.toList ++ b.data.toList) = some x → J.length ≤ x := by
      intro x hx
      rw [ec] at hx
      cases hq : badL (r ++ b.data.toList) with
      | none => rw [hq] at hx; simp at hx
      | some y => rw [hq] at hx; simp at hx; omega
    by_cases h3 : (J.length : Int) < a.size - 3
    · rw [if_pos h3]
      have h4 : nextL (r ++ b.data.toList) = (0, 0) := by
        rcases nextL_cases (r ++ b.data.toList) with ⟨n, t, hn, e1, e2⟩ | ⟨e2, -⟩
        · exfalso
          have hl := encL_bd n
          have hp : encL n <+: r := by
            have hp1 : encL n <+: r ++ b.data.toList := ⟨t, e1.symm⟩
            exact List.prefix_of_prefix_length_le hp1 (List.prefix_append _ _) (by omega)
          obtain ⟨t', ht'⟩ := hp
          exact hno n t' hn ht'.symm
        · exact e2
      rw [show badI (a.data.toList ++ b.data.toList) = (J.length : Int) from by unfold badI; rw [ec, badL_stop (by intro h; simp at h; exact hne h.1) h4]; simp]
      simp
    · rw [if_neg h3, if_pos (by omega)]
      unfold badI
      cases hq : badL (a.data.toList ++ b.data.toList) with
      | none =>
        simp only [Option.isNone_none]
        split <;> rfl
      | some x =>
        have := hge x hq
        simp only
        rw [if_pos (by omega)]
end Go.Proofs.Ytbboehjbfcajdaa.Pure
