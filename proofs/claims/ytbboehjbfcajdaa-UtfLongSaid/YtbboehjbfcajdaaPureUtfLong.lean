/- The pure statement of UtfLong. -/
import Derived.Test.YtbboehjbfcajdaaPUtfx11
import Derived.Test.YtbboehjbfcajdaaPureUtfLib
namespace Go.Proofs.Ytbboehjbfcajdaa.Pure
open Go.RowKit Go.Proofs.Ytbboehjbfcajdaa.PUtf Go.Proofs.YtbboehjbfcajdaaW.PrintWords
set_option linter.unusedVariables false

theorem bt_L (s : ByteArray) (l : List Nat) (h : s.data.toList = l.map UInt8.ofNat) (k : Nat) (hk : k < l.length) : bt s (k : Int) = ((l[k] % 256 : Nat) : Int) := by
  have hs : k < s.size := by rw [size_len, h, List.length_map]; exact hk
  unfold bt
  rw [dif_pos (by simpa using hs)]
  have e : s.data.toList[k]'(by rw [← size_len]; exact hs) = (l.map UInt8.ofNat)[k]'(by rw [List.length_map]; exact hk) := by simp only [h]
  have e2 : (s[((k : Int).toNat)]'(by simpa using hs)) = s.data.toList[k]'(by rw [← size_len]; exact hs) := by simp [ByteArray.getElem_eq_getElem_data]
  rw [e2, e, List.getElem_map, u8]
theorem UtfLong : copperplatelaw02_UtfLong.Pure := by
  intro r k _ _
  refine ⟨2, ?_⟩
  unfold copperplatelaw02_UtfLong.f copperplatelaw02_awake.f utf_Put.f
  simp only [Option.bind_some, if_true, ByteArray.toList_eq, copperplatelaw02_UtfLong.j0, copperplatelaw02_UtfLong.j1]
  rcases put_data r with ⟨n, rfl, hn, e⟩ | ⟨-, e⟩
  rotate_left
  · rw [e]; simp
  have hb := isN_le hn
  have h1 := encL_bd n
  have h3 : ((putOf (n : Int)).data.toList == ([] : List UInt8)) = false := by rw [e, beq_eq_false_iff_ne]; intro h; rw [h] at h1; simp at h1
  rw [h3]
  simp only [Bool.false_eq_true, if_false]
  have hsz : ((putOf (n : Int)).size : Int) = ((cL n).length : Int) := by rw [size_len, e, encL, List.length_map]
  have hbt := fun j hj => bt_L _ _ e j hj
  generalize putOf (n : Int) = s at hsz hbt
  by_cases hn1 : n < 128
  · have hc : cL n = [n] := by unfold cL; rw [if_pos hn1]
    rw [hc] at hbt hsz
    have b0 := hbt 0 (by simp)
    simp only [List.length_cons, List.length_nil, List.getElem_cons_zero] at b0 hsz
    have hw : wrap64 (bt s 0) = (n : Int) := by rw [show (0 : Int) = ((0 : Nat) : Int) from rfl, b0]; unfold wrap64; omega
    have i1 : (n : Int) < 65536 := by omega
    have i2 : (n : Int) < 2048 := by omega
    have i3 : (n : Int) < 128 := by omega
    have i4 : (0 : Int) < (s.size : Int) := by omega
    have i5 : (s.size : Int) = 1 := by omega
    by_cases k1 : k < 1
    · simp [i1, i2, i3, i4, i5, hw, k1]
    · have k2 : 1 ≤ k := by omega
      simp [i1, i2, i3, i4, i5, hw, k1, k2]
  by_cases hn2 : n < 2048
  · have hc : cL n = [192 + n / 64, 128 + n % 64] := by unfold cL; rw [if_neg hn1, if_pos hn2]
    rw [hc] at hbt hsz
    have b0 := hbt 0 (by simp)
    have b1 := hbt 1 (by simp)
    simp only [List.length_cons, List.length_nil, List.getElem_cons_zero, List.getElem_cons_succ, Int.natCast_zero, Int.cast_ofNat_Int] at b0 b1 hsz
    have i1 : (n : Int) < 65536 := by omega
    have i2 : (n : Int) < 2048 := by omega
    have i3 : ¬ (n : Int) < 128 := by omega
    have i4 : (0 : Int) < (s.size : Int) := by omega
    have i5 : (s.size : Int) = 2 := by omega
    have g0 : 192 ≤ bt s 0 := by omega
    by_cases k1 : k < 1
    · simp [i1, i2, i3, i4, i5, k1, g0]
    by_cases k2 : 2 ≤ k
    · simp [i1, i2, i3, i4, i5, k1, k2, g0]
    obtain rfl : k = 1 := by omega
    have g1 : 128 ≤ bt s 1 ∧ bt s 1 < 192 := by omega
    simp [i1, i2, i3, i4, i5, k1, g0, g1]
  by_cases hn3 : n < 65536
  · have hc : cL n = [224 + n / 4096, 128 + n / 64 % 64, 128 + n % 64] := by unfold cL; rw [if_neg hn1, if_neg hn2, if_pos hn3]
    rw [hc] at hbt hsz
    have b0 := hbt 0 (by simp)
    have b1 := hbt 1 (by simp)
    have b2 := hbt 2 (by simp)
    simp only [List.length_cons, List.length_nil, List.getElem_cons_zero, List.getElem_cons_succ, Int.natCast_zero, Int.cast_ofNat_Int] at b0 b1 b2 hsz
    have i1 : (n : Int) < 65536 := by omega
    have i2 : ¬ (n : Int) < 2048 := by omega
    have i3 : ¬ (n : Int) < 128 := by omega
    have i4 : (0 : Int) < (s.size : Int) := by omega
    have i5 : (s.size : Int) = 3 := by omega
    have g0 : 192 ≤ bt s 0 := by omega
    by_cases k1 : k < 1
    · simp [i1, i2, i3, i4, i5, k1, g0]
    by_cases k2 : 3 ≤ k
    · simp [i1, i2, i3, i4, i5, k1, k2, g0]
    have g1 : 128 ≤ bt s k ∧ bt s k < 192 := by
      obtain rfl | rfl : k = 1 ∨ k = 2 := by omega
      · omega
      · omega
    have k3 : 0 ≤ k := by omega
    have k4 : k < 3 := by omega
    simp [i1, i2, i3, i4, i5, k1, k2, k3, k4, g0, g1]
  · have hc : cL n = [240 + n / 262144, 128 + n / 4096 % 64, 128 + n / 64 % 64, 128 + n % 64] := by unfold cL; rw [if_neg hn1, if_neg hn2, if_neg hn3]
    rw [hc] at hbt hsz
    have b0 := hbt 0 (by simp)
    have b1 := hbt 1 (by simp)
    have b2 := hbt 2 (by simp)
    have b3 := hbt 3 (by simp)
    simp only [List.length_cons, List.length_nil, List.getElem_cons_zero, List.getElem_cons_succ, Int.natCast_zero, Int.cast_ofNat_Int] at b0 b1 b2 b3 hsz
    have i1 : ¬ (n : Int) < 65536 := by omega
    have i2 : ¬ (n : Int) < 2048 := by omega
    have i3 : ¬ (n : Int) < 128 := by omega
    have i4 : (0 : Int) < (s.size : Int) := by omega
    have i5 : (s.size : Int) = 4 := by omega
    have g0 : 192 ≤ bt s 0 := by omega
    by_cases k1 : k < 1
    · simp [i1, i2, i3, i4, i5, k1, g0]
    by_cases k2 : 4 ≤ k
    · simp [i1, i2, i3, i4, i5, k1, k2, g0]
    have g1 : 128 ≤ bt s k ∧ bt s k < 192 := by
      obtain rfl | rfl | rfl : k = 1 ∨ k = 2 ∨ k = 3 := by omega
      · omega
      · omega
      · omega
    have k3 : 0 ≤ k := by omega
    have k4 : k < 4 := by omega
    simp [i1, i2, i3, i4, i5, k1, k2, k3, k4, g0, g1]
end Go.Proofs.Ytbboehjbfcajdaa.Pure
