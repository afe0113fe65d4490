/- Plain facts of characters: no program in sight. -/
import Derived.Test.YtjibfhlacbgkgaaHSpanColsF
namespace Go.Proofs.Ytjibfhlacbgkgaa.PSpan.U
open Go.RowKit Go.Proofs.Ytjibfhlacbgkgaa.PSpan Go.Proofs.YtjibfhlacbgkgaaW.PrintWords
set_option linter.unusedVariables false
set_option linter.unusedSimpArgs false

/-- A character's bytes, as numbers. -/
def cL (n : Nat) : List Nat :=
  if n < 128 then [n] else if n < 2048 then [192 + n / 64, 128 + n % 64] else if n < 65536 then [224 + n / 4096, 128 + n / 64 % 64, 128 + n % 64]
  else [240 + n / 262144, 128 + n / 4096 % 64, 128 + n / 64 % 64, 128 + n % 64]
def encL (n : Nat) : List UInt8 := (cL n).map UInt8.ofNat
def isN (n : Nat) : Prop := n = 9 ∨ n = 10 ∨ n = 13 ∨ (32 ≤ n ∧ n ≤ 1114111 ∧ (n < 55296 ∨ 57343 < n))
theorem isB_iff (r : Int) : isB r = true ↔ ∃ n : Nat, r = n ∧ isN n := by
  unfold isB isN
  constructor
  · intro h
    simp only [Bool.or_eq_true, Bool.and_eq_true, beq_iff_eq, decide_eq_true_eq, Bool.not_eq_true', Bool.and_eq_false_iff, decide_eq_false_iff_not] at h
    exact ⟨r.toNat, by omega, by omega⟩
  · rintro ⟨n, rfl, h⟩
    simp only [Bool.or_eq_true, Bool.and_eq_true, beq_iff_eq, decide_eq_true_eq, Bool.not_eq_true', Bool.and_eq_false_iff, decide_eq_false_iff_not]
    omega
theorem isN_le {n : Nat} (h : isN n) : 9 ≤ n ∧ n ≤ 1114111 := by unfold isN at h; omega
theorem valid_N {n : Nat} (h : isN n) : Utf8.valid (n : Int) = true := by
  unfold Utf8.valid; unfold isN at h
  simp only [Bool.or_eq_true, Bool.and_eq_true, decide_eq_true_eq]; omega
theorem encode_L {n : Nat} (h : isN n) : (Utf8.encode (n : Int)).data.toList = encL n := by
  have e : (if Utf8.valid (n : Int) = true then (n : Int).toNat else Utf8.runeError) = n := by rw [if_pos (valid_N h)]; exact Int.toNat_natCast n
  unfold Utf8.encode encL cL
  simp only [e]
  by_cases h1 : n < 128
  · rw [if_pos h1, if_pos h1]; simp
  rw [if_neg h1, if_neg h1]
  by_cases h2 : n < 2048
  · rw [if_pos h2, if_pos h2]; simp
  rw [if_neg h2, if_neg h2]
  by_cases h3 : n < 65536
  · rw [if_pos h3, if_pos h3]; simp
  rw [if_neg h3, if_neg h3]; simp
theorem u8 (n : Nat) : (UInt8.ofNat n).toNat = n % 256 := UInt8.toNat_ofNat'
theorem encL_len (n : Nat) : (encL n).length = (if n < 128 then 1 else if n < 2048 then 2 else if n < 65536 then 3 else 4) := by
  unfold encL cL; (repeat' split) <;> rfl
theorem encL_bd (n : Nat) : 1 ≤ (encL n).length ∧ (encL n).length ≤ 4 := by rw [encL_len]; (repeat' split) <;> omega
theorem get_mk (l : List UInt8) (k : Nat) (h : k < l.length) : (⟨l.toArray⟩ : ByteArray).get! k = l[k] := by
  simp [ByteArray.get!, h]
theorem dec1 (t : ByteArray) (b0 : Nat) (h0 : (t.get! 0).toNat = b0) (h : b0 < 128) : (Utf8.decode t 0).1 = b0 := by
  unfold Utf8.decode
  simp only [Nat.zero_add, h0]
  rw [if_pos h]
theorem dec2 (t : ByteArray) (b0 b1 : Nat) (hs : 2 ≤ t.size) (h0 : (t.get! 0).toNat = b0) (h1 : (t.get! 1).toNat = b1) (k0 : b0 / 32 = 6) (k1 : b1 / 64 = 2)
    (hc : (b0 % 32) * 64 + b1 % 64 ≥ 128) : (Utf8.decode t 0).1 = (b0 % 32) * 64 + b1 % 64 := by
  unfold Utf8.decode
  simp only [Nat.zero_add, h0, h1]
  rw [if_neg (by omega), if_pos (by simp [k0, k1]; omega), if_pos hc]
theorem dec3 (t : ByteArray) (b0 b1 b2 : Nat) (hs : 3 ≤ t.size) (h0 : (t.get! 0).toNat = b0) (h1 : (t.get! 1).toNat = b1) (h2 : (t.get! 2).toNat = b2) (k0 : b0 / 16 = 14) (k1 : b1 / 64 = 2) (k2 : b2 / 64 = 2)
    (hc : (b0 % 16) * 4096 + (b1 % 64) * 64 + b2 % 64 ≥ 2048) (hv : Utf8.valid (((b0 % 16) * 4096 + (b1 % 64) * 64 + b2 % 64 : Nat) : Int) = true) : (Utf8.decode t 0).1 = (b0 % 16) * 4096 + (b1 % 64) * 64 + b2 % 64 := by
  unfold Utf8.decode
  simp only [Nat.zero_add, h0, h1, h2]
  have e : ¬ (b0 / 32 = 6) := by omega
  rw [if_neg (by omega), if_neg (by simp [e]), if_pos (by simp [k0, k1, k2]; omega), if_pos (by rw [hv]; simpa using hc)]
theorem dec4 (t : ByteArray) (b0 b1 b2 b3 : Nat) (hs : 4 ≤ t.size) (h0 : (t.get! 0).toNat = b0) (h1 : (t.get! 1).toNat = b1) (h2 : (t.get! 2).toNat = b2) (h3 : (t.get! 3).toNat = b3) (k0 : b0 / 8 = 30) (k1 : b1 / 64 = 2) (k2 : b2 / 64 = 2) (k3 : b3 / 64 = 2)
    (hc : (b0 % 8) * 262144 + (b1 % 64) * 4096 + (b2 % 64) * 64 + b3 % 64 ≥ 65536) (hv : Utf8.valid (((b0 % 8) * 262144 + (b1 % 64) * 4096 + (b2 % 64) * 64 + b3 % 64 : Nat) : Int) = true) : (Utf8.decode t 0).1 = (b0 % 8) * 262144 + (b1 % 64) * 4096 + (b2 % 64) * 64 + b3 % 64 := by
  unfold Utf8.decode
  simp only [Nat.zero_add, h0, h1, h2, h3]
  have e : ¬ (b0 / 32 = 6) := by omega
  have e' : ¬ (b0 / 16 = 14) := by omega
  rw [if_neg (by omega), if_neg (by simp [e]), if_neg (by simp [e']), if_pos (by simp [k0, k1, k2, k3]; omega), if_pos (by rw [hv]; simpa using hc)]
theorem decode_enc {n : Nat} (h : isN n) (l : List UInt8) : (Utf8.decode ⟨(encL n ++ l).toArray⟩ 0).1 = n := by
  have hb := isN_le h
  have hv : ∀ m : Nat, m = n → Utf8.valid (m : Int) = true := by
    rintro m rfl
    unfold Utf8.valid; unfold isN at h
    simp only [Bool.or_eq_true, Bool.and_eq_true, decide_eq_true_eq]; omega
  unfold encL cL
  split
  · have e0 : ((⟨(List.map UInt8.ofNat [n] ++ l).toArray⟩ : ByteArray).get! 0).toNat = n := by rw [get_mk _ _ (by simp)]; simp [u8]; omega
    rw [dec1 _ _ e0 (by omega)]
  split
  · have e0 : ((⟨(List.map UInt8.ofNat [192 + n / 64, 128 + n % 64] ++ l).toArray⟩ : ByteArray).get! 0).toNat = 192 + n / 64 := by rw [get_mk _ _ (by simp)]; simp [u8]; omega
    have e1 : ((⟨(List.map UInt8.ofNat [192 + n / 64, 128 + n % 64] ++ l).toArray⟩ : ByteArray).get! 1).toNat = 128 + n % 64 := by rw [get_mk _ _ (by simp)]; simp [u8]; omega
    rw [dec2 _ _ _ (by simp [ByteArray.size]) e0 e1 (by omega) (by omega) (by omega)]
    omega
  split
  · have e0 : ((⟨(List.map UInt8.ofNat [224 + n / 4096, 128 + n / 64 % 64, 128 + n % 64] ++ l).toArray⟩ : ByteArray).get! 0).toNat = 224 + n / 4096 := by rw [get_mk _ _ (by simp)]; simp [u8]; omega
    have e1 : ((⟨(List.map UInt8.ofNat [224 + n / 4096, 128 + n / 64 % 64, 128 + n % 64] ++ l).toArray⟩ : ByteArray).get! 1).toNat = 128 + n / 64 % 64 := by rw [get_mk _ _ (by simp)]; simp [u8]; omega
    have e2 : ((⟨(List.map UInt8.ofNat [224 + n / 4096, 128 + n / 64 % 64, 128 + n % 64] ++ l).toArray⟩ : ByteArray).get! 2).toNat = 128 + n % 64 := by rw [get_mk _ _ (by simp)]; simp [u8]; omega
    have en : ((224 + n / 4096) % 16) * 4096 + ((128 + n / 64 % 64) % 64) * 64 + (128 + n % 64) % 64 = n := by omega
    rw [dec3 _ _ _ _ (by simp [ByteArray.size]) e0 e1 e2 (by omega) (by omega) (by omega) (by omega) (hv _ en)]
    exact en
  · have e0 : ((⟨(List.map UInt8.ofNat [240 + n / 262144, 128 + n / 4096 % 64, 128 + n / 64 % 64, 128 + n % 64] ++ l).toArray⟩ : ByteArray).get! 0).toNat = 240 + n / 262144 := by rw [get_mk _ _ (by simp)]; simp [u8]; omega
    have e1 : ((⟨(List.map UInt8.ofNat [240 + n / 262144, 128 + n / 4096 % 64, 128 + n / 64 % 64, 128 + n % 64] ++ l).toArray⟩ : ByteArray).get! 1).toNat = 128 + n / 4096 % 64 := by rw [get_mk _ _ (by simp)]; simp [u8]; omega
    have e2 : ((⟨(List.map UInt8.ofNat [240 + n / 262144, 128 + n / 4096 % 64, 128 + n / 64 % 64, 128 + n % 64] ++ l).toArray⟩ : ByteArray).get! 2).toNat = 128 + n / 64 % 64 := by rw [get_mk _ _ (by simp)]; simp [u8]; omega
    have e3 : ((⟨(List.map UInt8.ofNat [240 + n / 262144, 128 + n / 4096 % 64, 128 + n / 64 % 64, 128 + n % 64] ++ l).toArray⟩ : ByteArray).get! 3).toNat = 128 + n % 64 := by rw [get_mk _ _ (by simp)]; simp [u8]; omega
    have en : ((240 + n / 262144) % 8) * 262144 + ((128 + n / 4096 % 64) % 64) * 4096 + ((128 + n / 64 % 64) % 64) * 64 + (128 + n % 64) % 64 = n := by omega
    rw [dec4 _ _ _ _ _ (by simp [ByteArray.size]) e0 e1 e2 e3 (by omega) (by omega) (by omega) (by omega) (by omega) (hv _ en)]
    exact en

/-- The character ahead of a list of bytes. -/
def nextL (l : List UInt8) : Int × Int :=
  let c := (Utf8.decode ⟨l.toArray⟩ 0).1
  if isB c = true ∧ encL c <+: l then ((c : Int), ((encL c).length : Int)) else (0, 0)
theorem nextL_enc {n : Nat} (h : isN n) (l : List UInt8) : nextL (encL n ++ l) = ((n : Int), ((encL n).length : Int)) := by
  unfold nextL
  simp only [decode_enc h]
  rw [if_pos ⟨(isB_iff _).2 ⟨n, rfl, h⟩, List.prefix_append _ _⟩]
theorem nextL_cases (l : List UInt8) : (∃ n r, isN n ∧ l = encL n ++ r ∧ nextL l = ((n : Int), ((encL n).length : Int))) ∨ (nextL l = (0, 0) ∧ ∀ n r, isN n → l ≠ encL n ++ r) := by
  by_cases h : isB ((Utf8.decode ⟨l.toArray⟩ 0).1 : Nat) = true ∧ encL (Utf8.decode ⟨l.toArray⟩ 0).1 <+: l
  · left
    obtain ⟨r, hr⟩ := h.2
    obtain ⟨n, e, hn⟩ := (isB_iff _).1 h.1
    obtain rfl : (Utf8.decode ⟨l.toArray⟩ 0).1 = n := by omega
    exact ⟨_, r, hn, hr.symm, by unfold nextL; exact if_pos h⟩
  · right
    refine ⟨if_neg h, ?_⟩
    rintro n r hn rfl
    apply h
    rw [decode_enc hn]
    exact ⟨(isB_iff _).2 ⟨n, rfl, hn⟩, List.prefix_append _ _⟩
theorem encL_inj {a b : Nat} (ha : isN a) (hb : isN b) {l r : List UInt8} (h : encL a ++ l = encL b ++ r) : a = b := by
  have h1 := nextL_enc ha l
  rw [h, nextL_enc hb r] at h1
  have := congrArg Prod.fst h1
  simp at this
  omega
theorem ext_data (s : ByteArray) (i j : Nat) : (s.extract i j).data.toList = (s.data.toList.take j).drop i := by
  rw [ByteArray.data_extract, Array.toList_extract, List.extract_eq_take_drop, List.drop_take]
theorem size_len (s : ByteArray) : s.size = s.data.toList.length := by rw [Array.length_toList]; rfl
theorem nextOf_L (s : ByteArray) (i : Nat) (h : i ≤ s.size) : nextOf s i = nextL (s.data.toList.drop i) := by
  unfold nextOf nextL
  have e1 : s.extract i s.size = (⟨(s.data.toList.drop i).toArray⟩ : ByteArray) := by
    apply ByteArray.ext
    apply Array.ext'
    rw [ext_data, size_len, List.take_length]
  simp only [e1]
  by_cases hb : isB ((Utf8.decode ⟨(s.data.toList.drop i).toArray⟩ 0).1 : Nat) = true
  · obtain ⟨n, e, hn⟩ := (isB_iff _).1 hb
    have e2 : (Utf8.decode ⟨(s.data.toList.drop i).toArray⟩ 0).1 = n := by omega
    rw [e2] at hb ⊢
    have e3 : (Utf8.encode (n : Int)).size = (encL n).length := by rw [size_len, encode_L hn]
    simp only [hb, true_and, ByteArray.toList_eq, ext_data, e3, encode_L hn]
    have e4 : (i + (encL n).length ≤ s.size ∧ List.drop i (List.take (i + (encL n).length) s.data.toList) = encL n) ↔ encL n <+: List.drop i s.data.toList := by
      rw [List.prefix_iff_eq_take, List.drop_take, Nat.add_sub_cancel_left]
      constructor
      · exact fun h => h.2.symm
      · intro h'
        refine ⟨?_, h'.symm⟩
        have := congrArg List.length h'
        rw [List.length_take, List.length_drop] at this
        rw [size_len] at h ⊢
        omega
    by_cases h4 : encL n <+: List.drop i s.data.toList
    · rw [if_pos h4, if_pos (e4.2 h4)]
    · rw [if_neg h4, if_neg (fun h5 => h4 (e4.1 h5))]
  · rw [if_neg (fun h => hb h.1), if_neg (fun h => hb h.1)]
theorem next_f (s : ByteArray) (i : Int) (hs : s.size ≤ 4611686018427387904) : utf_Next.f s i = some (if i < 0 ∨ (s.size : Int) ≤ i then (0, 0) else nextL (s.data.toList.drop i.toNat)) := by
  unfold utf_Next.f
  rw [if_pos hs]
  split
  · rfl
  · rw [nextOf_L _ _ (by omega)]
theorem put_data (r : Int) : ((∃ n : Nat, r = n ∧ isN n ∧ (putOf r).data.toList = encL n) ∨ (isB r = false ∧ putOf r = ⟨#[]⟩)) := by
  unfold putOf
  by_cases h : isB r = true
  · obtain ⟨n, rfl, hn⟩ := (isB_iff _).1 h
    exact Or.inl ⟨n, rfl, hn, by rw [if_pos h, encode_L hn]⟩
  · exact Or.inr ⟨by simpa using h, if_neg h⟩
end Go.Proofs.Ytjibfhlacbgkgaa.PSpan.U
