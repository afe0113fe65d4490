/- Plain facts of characters: no program in sight. -/
import Derived.Test.YtjibfhlacbgkgaaHSpanUtfL
import Derived.Test.YtjibfhlacbgkgaaHSpanBad
import Derived.Test.YtjibfhlacbgkgaaPSpanx18
namespace Go.Proofs.Ytjibfhlacbgkgaa.PSpan.U
open Go.RowKit Go.Proofs.Ytjibfhlacbgkgaa.PSpan Go.Proofs.YtjibfhlacbgkgaaW.PrintWords
set_option linter.unusedVariables false
set_option linter.unusedSimpArgs false
/-- The first place of a list of bytes that is none. -/
def badL (l : List UInt8) : Option Nat :=
  if h : l = [] then none else if (nextL l).2.toNat = 0 then some 0 else (badL (l.drop (nextL l).2.toNat)).map (· + (nextL l).2.toNat)
termination_by l.length
decreasing_by
  have : 0 < l.length := List.length_pos_iff.2 h
  simp
  omega
theorem badL_enc {n : Nat} (h : isN n) (l : List UInt8) : badL (encL n ++ l) = (badL l).map (· + (encL n).length) := by
  have hl := encL_bd n
  have hne : ¬ (encL n ++ l = []) := by intro h'; have := congrArg List.length h'; rw [List.length_append] at this; simp only [List.length_nil] at this; omega
  rw [badL, dif_neg hne, nextL_enc h]
  simp only [Int.toNat_natCast]
  rw [if_neg (by omega), List.drop_left]
theorem badL_cat (cs : List Nat) (h : ∀ c ∈ cs, isN c) (l : List UInt8) : badL (cs.flatMap encL ++ l) = (badL l).map (· + (cs.flatMap encL).length) := by
  induction cs with
  | nil => simp
  | cons c t ih =>
    rw [List.flatMap_cons, List.append_assoc, badL_enc (h c (by simp)), ih (fun c hc => h c (by simp [hc]))]
    rw [Option.map_map]
    congr 1
    funext x
    simp
    omega
theorem badL_nil : badL [] = none := by rw [badL]; rfl
theorem badL_stop {l : List UInt8} (h : l ≠ []) (h0 : nextL l = (0, 0)) : badL l = some 0 := by rw [badL, dif_neg h, h0]; rfl
theorem bad_dec (l : List UInt8) : ∃ cs : List Nat, ∃ r, (∀ c ∈ cs, isN c) ∧ l = cs.flatMap encL ++ r ∧ (r = [] ∨ (r ≠ [] ∧ nextL r = (0, 0) ∧ ∀ n t, isN n → r ≠ encL n ++ t)) := by
  generalize hk : l.length = k
  induction k using Nat.strongRecOn generalizing l with
  | ind k ih =>
    by_cases he : l = []
    · exact ⟨[], [], by simp, by simpa using he, Or.inl rfl⟩
    rcases nextL_cases l with ⟨n, r, hn, e, -⟩ | ⟨h0, h1⟩
    · have hl := encL_bd n
      have hlt : r.length < k := by rw [← hk, e, List.length_append]; omega
      obtain ⟨cs, r', h1, h2, h3⟩ := ih _ hlt r rfl
      refine ⟨n :: cs, r', ?_, ?_, h3⟩
      · intro c hc
        rcases List.mem_cons.1 hc with rfl | hc
        · exact hn
        · exact h1 c hc
      · rw [e, h2, List.flatMap_cons, List.append_assoc]
    · exact ⟨[], l, by simp, by simp, Or.inr ⟨he, h0, h1⟩⟩
theorem badOf_L (s : ByteArray) (k : Nat) (hk : k ≤ s.size) : badOf (allP s k) = (badL (s.data.toList.drop k)).map fun j => (((k + j : Nat) : Int), false) := by
  generalize hm : s.size - k = m
  induction m using Nat.strongRecOn generalizing k with
  | ind m ih =>
    by_cases hlt : k < s.size
    · have hne : s.data.toList.drop k ≠ [] := by
        intro h'; have := congrArg List.length h'; rw [List.length_drop, ← size_len] at this; simp at this; omega
      by_cases h0 : (nextOf s k).2 = 0
      · rw [allP_bad hlt h0]
        rcases nextL_cases (s.data.toList.drop k) with ⟨n, r, hn, e, e2⟩ | ⟨h1, h2⟩
        · rw [nextOf_L s k hk, e2] at h0
          have := encL_bd n
          have h0' : ((encL n).length : Int) = 0 := h0
          omega
        · rw [badL_stop hne h1]; rfl
      · rw [allP_good hlt h0]
        rw [nextOf_L s k hk] at h0 ⊢
        rcases nextL_cases (s.data.toList.drop k) with ⟨n, r, hn, e, e2⟩ | ⟨h1, h2⟩
        · have hl := encL_bd n
          have hle : k + (encL n).length ≤ s.size := by
            have := congrArg List.length e
            rw [List.length_drop, ← size_len, List.length_append] at this
            omega
          have er : r = s.data.toList.drop (k + (encL n).length) := by
            rw [← List.drop_drop, e, List.drop_left]
          have h3 := ih (s.size - (k + (encL n).length)) (by omega) (k + (encL n).length) hle rfl
          rw [e2]
          simp only [Int.toNat_natCast]
          rw [show badOf (((k : Int), true) :: allP s (k + (encL n).length)) = badOf (allP s (k + (encL n).length)) from by simp [badOf], h3, e, badL_enc hn, er, Option.map_map]
          cases badL (List.drop (k + (encL n).length) s.data.toList) with
          | none => rfl
          | some j =>
            simp only [Option.map_some, Function.comp_apply]
            rw [show k + (encL n).length + j = k + (j + (encL n).length) by omega]
        · rw [h1] at h0; exact absurd rfl h0
    · rw [allP_end hlt, show s.data.toList.drop k = [] from by rw [List.drop_eq_nil_iff, ← size_len]; omega, badL_nil]; rfl
def badI (l : List UInt8) : Int := match badL l with | none => -1 | some j => (j : Int)
theorem bad_f (s : ByteArray) (hs : s.size ≤ 140737488351232) : utf_Bad.f s = some (badI s.data.toList) := by
  unfold utf_Bad.f badI
  rw [if_pos hs, badOf_L s 0 (by omega), List.drop_zero]
  cases badL s.data.toList with
  | none => simp
  | some j => simp
theorem may_f (s : ByteArray) (hs : s.size ≤ 140737488351232) : utf_May.f s = some (badL s.data.toList).isNone := by
  unfold utf_May.f
  rw [bad_f s hs, Option.bind_some]
  congr 1
  unfold badI
  cases badL s.data.toList with
  | none => rfl
  | some j => simp
end Go.Proofs.Ytjibfhlacbgkgaa.PSpan.U
