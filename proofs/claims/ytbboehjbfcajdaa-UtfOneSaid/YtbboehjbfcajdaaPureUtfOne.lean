/- The pure statement of UtfOne. -/
import Derived.Test.YtbboehjbfcajdaaPUtfx10
import Derived.Test.YtbboehjbfcajdaaPureUtfLib
namespace Go.Proofs.Ytbboehjbfcajdaa.Pure
open Go.RowKit Go.Proofs.Ytbboehjbfcajdaa.PUtf Go.Proofs.YtbboehjbfcajdaaW.PrintWords
set_option linter.unusedVariables false

theorem head_enc {n c : Nat} (hn : isN n) (hc : c < 256) {l r : List UInt8} (h : UInt8.ofNat c :: l = encL n ++ r) :
    (n < 128 ∧ c = n) ∨ (128 ≤ n ∧ 194 ≤ c ∧ c ≤ 244 ∧ 2 ≤ (encL n).length) := by
  have hb := isN_le hn
  have hl := encL_len n
  unfold encL cL at h
  by_cases h1 : n < 128
  · rw [if_pos h1] at h
    simp only [List.map_cons, List.cons_append, List.cons.injEq, ← UInt8.toNat_inj, u8] at h
    omega
  rw [if_neg h1] at h hl
  by_cases h2 : n < 2048
  · rw [if_pos h2] at h hl
    simp only [List.map_cons, List.cons_append, List.cons.injEq, ← UInt8.toNat_inj, u8] at h
    omega
  rw [if_neg h2] at h hl
  by_cases h3 : n < 65536
  · rw [if_pos h3] at h hl
    simp only [List.map_cons, List.cons_append, List.cons.injEq, ← UInt8.toNat_inj, u8] at h
    omega
  · rw [if_neg h3] at h hl
    simp only [List.map_cons, List.cons_append, List.cons.injEq, ← UInt8.toNat_inj, u8] at h
    omega
theorem UtfOne : copperplatelaw02_UtfOne.Pure := by
  intro c s hc hs
  refine ⟨2, ?_⟩
  have hc' : 0 ≤ c ∧ c < 256 := by
    simp [Lit.wf, IntKind.min, IntKind.max, IntKind.signed, IntKind.bits] at hc
    omega
  unfold copperplatelaw02_UtfOne.f copperplatelaw02_awake.f
  simp only [Option.bind_some, if_true, copperplatelaw02_UtfOne.j0, copperplatelaw02_UtfOne.j1]
  by_cases h6 : (s.size : Int) > 600
  · rw [decide_eq_true h6, if_pos rfl]
  rw [decide_eq_false h6, if_neg (by decide)]
  have hsz : (strOfNums [c]).size = 1 := by rw [strOfNums_size]; rfl
  rw [if_pos (by rw [hsz]; omega)]
  rw [next_f _ _ (by rw [ByteArray.size_append, hsz]; omega)]
  rw [if_neg (by rw [ByteArray.size_append, hsz]; omega), Option.bind_some]
  have e : ((strOfNums [c] ++ s).data.toList.drop (0 : Int).toNat) = UInt8.ofNat c.toNat :: s.data.toList := by
    simp [ByteArray.data_append, strOfNums_data]
  rw [e]
  have hw : wrap64 c = c := by unfold wrap64; omega
  rw [hw]
  by_cases hp : c = 9 ∨ c = 10 ∨ c = 13 ∨ (32 ≤ c ∧ c < 128)
  · have hN : isN c.toNat := by unfold isN; omega
    have hE : encL c.toNat = [UInt8.ofNat c.toNat] := by unfold encL cL; rw [if_pos (by omega)]; rfl
    have hx := nextL_enc hN s.data.toList
    rw [hE] at hx
    have hx' : nextL (UInt8.ofNat c.toNat :: s.data.toList) = (c, 1) := by
      have : nextL (UInt8.ofNat c.toNat :: s.data.toList) = ((c.toNat : Int), 1) := hx
      rw [this]; congr 1; omega
    rw [hx']
    rcases hp with rfl | rfl | rfl | ⟨h1, h2⟩
    · simp
    · simp
    · simp
    · simp [h1, h2]
  · have n1 : ¬ c = 9 := by omega
    have n2 : ¬ c = 10 := by omega
    have n3 : ¬ c = 13 := by omega
    have n4 : 32 ≤ c → ¬ c < 128 := by omega
    rcases nextL_cases (UInt8.ofNat c.toNat :: s.data.toList) with ⟨n, r, hn, e1, e2⟩ | ⟨e2, -⟩
    · rw [e2]
      have hl := encL_bd n
      rcases head_enc hn (by omega) e1 with ⟨h1, h2⟩ | ⟨h1, h2, h3, h4⟩
      · exfalso
        unfold isN at hn
        omega
      · have i1 : ¬ c < 128 := by omega
        have i2 : ¬ c < 194 := by omega
        have i3 : ¬ 244 < c := by omega
        have i4 : ¬ ((encL n).length : Int) = 0 := by omega
        have i5 : 2 ≤ ((encL n).length : Int) := by omega
        have i6 : ((encL n).length : Int) ≤ 4 := by omega
        have i7 : (128 : Int) ≤ n := by omega
        have i8 : 32 ≤ c := by omega
        simp only [ge_iff_le, gt_iff_lt, n1, n2, n3, i1, i2, i3, i4, i5, i6, i7, i8, if_true, if_false, decide_false, decide_true, Bool.false_eq_true]
    · rw [e2]
      by_cases i8 : 32 ≤ c
      · have i1 : ¬ c < 128 := by omega
        simp [n1, n2, n3, i1, i8]
      · have i1 : c < 128 := by omega
        simp [n1, n2, n3, i1, i8]
end Go.Proofs.Ytbboehjbfcajdaa.Pure
