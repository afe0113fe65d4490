/- Plain facts of characters: no program in sight. -/
import Derived.Test.YtkhlfdoeploddaaHFlowColsF
import Derived.Test.YtkhlfdoeploddaaPFlowx17
import Derived.Test.YtkhlfdoeploddaaHFlowGrpL
-- (not printed: copperplateref17_Need.calls)
import Derived.Test.YtkhlfdoeploddaaPFlowx18
import Derived.Test.YtkhlfdoeploddaaPFlowx15
import Derived.Test.YtkhlfdoeploddaaPFlowx15
import Derived.Test.YtkhlfdoeploddaaPFlowx17
import Derived.Test.YtkhlfdoeploddaaPFlowx17
namespace Go.Proofs.Ytkhlfdoeploddaa.PFlow.U
open Go.RowKit Go.Proofs.Ytkhlfdoeploddaa.PFlow Go.Proofs.YtkhlfdoeploddaaW.PrintWords
set_option linter.unusedVariables false
set_option linter.unusedSimpArgs false

/-- A character's bytes, as numbers. -/
def cL (n : Nat) : List Nat :=
  if n < 128 then [n] else if n < 2048 then [192 + n / 64, 128 + n % 64] else if n < 65536 then [224 + n / 4096, 128 + n / 64 % 64, 128 + n % 64]
  else [240 + n / 262144, 128 + n / 4096 % 64, 128 + n / 64 % 64, 128 + n % 64]
def encL (n : Nat) : List UInt8 := (cL n).map UInt8.ofNat
def isN (n : Nat) : Prop := n = 9 ∨ n = 10 ∨ n = 13 ∨ (32 ≤ n ∧ n ≤ 1114111 ∧ (n < 55296 ∨ 57343 < n))
theorem isB_iff (r : Int) : isB r = true ↔ ∃ n : Nat, r = n ∧ isN n := by
  unfold isB isN
  constructor
  · intro h
    simp only [Bool.or_eq_true, Bool.and_eq_true, beq_iff_eq, decide_eq_true_eq, Bool.not_eq_true', Bool.and_eq_false_iff, decide_eq_false_iff_not] at h
    exact ⟨r.toNat, by omega, by omega⟩
  · rintro ⟨n, rfl, h⟩
    simp only [Bool.or_eq_true, Bool.and_eq_true, beq_iff_eq, decide_eq_true_eq, Bool.not_eq_true', Bool.and_eq_false_iff, decide_eq_false_iff_not]
    omega
theorem isN_le {n : Nat} (h : isN n) : 9 ≤ n ∧ n ≤ 1114111 := by unfold isN at h; omega
theorem valid_N {n : Nat} (h : isN n) : Utf8.valid (n : Int) = true := by
  unfold Utf8.valid; unfold isN at h
  simp only [Bool.or_eq_true, Bool.and_eq_true, decide_eq_true_eq]; omega
theorem encode_L {n : Nat} (h : isN n) : (Utf8.encode (n : Int)).data.toList = encL n := by
  have e : (if Utf8.valid (n : Int) = true then (n : Int).toNat else Utf8.runeError) = n := by rw [if_pos (valid_N h)]; exact Int.toNat_natCast n
  unfold Utf8.encode encL cL
  simp only [e]
  by_cases h1 : n < 128
  · rw [if_pos h1, if_pos h1]; simp
  rw [if_neg h1, if_neg h1]
  by_cases h2 : n < 2048
  · rw [if_pos h2, if_pos h2]; simp
  rw [if_neg h2, if_neg h2]
  by_cases h3 : n < 65536
  · rw [if_pos h3, if_pos h3]; simp
  rw [if_neg h3, if_neg h3]; simp
theorem u8 (n : Nat) : (UInt8.ofNat n).toNat = n % 256 := UInt8.toNat_ofNat'
theorem encL_len (n : Nat) : (encL n).length = (if n < 128 then 1 else if n < 2048 then 2 else if n < 65536 then 3 else 4) := by
  unfold encL cL; (repeat' split) <;> rfl
theorem encL_bd (n : Nat) : 1 ≤ (encL n).length ∧ (encL n).length ≤ 4 := by rw [encL_len]; (repeat' split) <;> omega
theorem get_mk (l : List UInt8) (k : Nat) (h : k < l.length) : (⟨l.toArray⟩ : ByteArray).get! k = l[k] := by
  simp [ByteArray.get!, h]
theorem dec1 (t : ByteArray) (b0 : Nat) (h0 : (t.get! 0).toNat = b0) (h : b0 < 128) : (Utf8.decode t 0).1 = b0 := by
  unfold Utf8.decode
  simp only [Nat.zero_add, h0]
  rw [if_pos h]
theorem dec2 (t : ByteArray) (b0 b1 : Nat) (hs : 2 ≤ t.size) (h0 : (t.get! 0).toNat = b0) (h1 : (t.get! 1).toNat = b1) (k0 : b0 / 32 = 6) (k1 : b1 / 64 = 2)
    (hc : (b0 % 32) * 64 + b1 % 64 ≥ 128) : (Utf8.decode t 0).1 = (b0 % 32) * 64 + b1 % 64 := by
  unfold Utf8.decode
  simp only [Nat.zero_add, h0, h1]
  rw [if_neg (by omega), if_pos (by simp [k0, k1]; omega), if_pos hc]
theorem dec3 (t : ByteArray) (b0 b1 b2 : Nat) (hs : 3 ≤ t.size) (h0 : (t.get! 0).toNat = b0) (h1 : (t.get! 1).toNat = b1) (h2 : (t.get! 2).toNat = b2) (k0 : b0 / 16 = 14) (k1 : b1 / 64 = 2) (k2 : b2 / 64 = 2)
    (hc : (b0 % 16) * 4096 + (b1 % 64) * 64 + b2 % 64 ≥ 2048) (hv : Utf8.valid (((b0 % 16) * 4096 + (b1 % 64) * 64 + b2 % 64 : Nat) : Int) = true) : (Utf8.decode t 0).1 = (b0 % 16) * 4096 + (b1 % 64) * 64 + b2 % 64 := by
  unfold Utf8.decode
  simp only [Nat.zero_add, h0, h1, h2]
  have e : ¬ (b0 / 32 = 6) := by omega
  rw [if_neg (by omega), if_neg (by simp [e]), if_pos (by simp [k0, k1, k2]; omega), if_pos (by rw [hv]; simpa using hc)]
theorem dec4 (t : ByteArray) (b0 b1 b2 b3 : Nat) (hs : 4 ≤ t.size) (h0 : (t.get! 0).toNat = b0) (h1 : (t.get! 1).toNat = b1) (h2 : (t.get! 2).toNat = b2) (h3 : (t.get! 3).toNat = b3) (k0 : b0 / 8 = 30) (k1 : b1 / 64 = 2) (k2 : b2 / 64 = 2) (k3 : b3 / 64 = 2)
    (hc : (b0 % 8) * 262144 + (b1 % 64) * 4096 + (b2 % 64) * 64 + b3 % 64 ≥ 65536) (hv : Utf8.valid (((b0 % 8) * 262144 + (b1 % 64) * 4096 + (b2 % 64) * 64 + b3 % 64 : Nat) : Int) = true) : (Utf8.decode t 0).1 = (b0 % 8) * 262144 + (b1 % 64) * 4096 + (b2 % 64) * 64 + b3 % 64 := by
  unfold Utf8.decode
  simp only [Nat.zero_add, h0, h1, h2, h3]
  have e : ¬ (b0 / 32 = 6) := by omega
  have e' : ¬ (b0 / 16 = 14) := by omega
  rw [if_neg (by omega), if_neg (by simp [e]), if_neg (by simp [e']), if_pos (by simp [k0, k1, k2, k3]; omega), if_pos (by rw [hv]; simpa using hc)]
theorem decode_enc {n : Nat} (h : isN n) (l : List UInt8) : (Utf8.decode ⟨(encL n ++ l).toArray⟩ 0).1 = n := by
  have hb := isN_le h
  have hv : ∀ m : Nat, m = n → Utf8.valid (m : Int) = true := by
    rintro m rfl
    unfold Utf8.valid; unfold isN at h
    simp only [Bool.or_eq_true, Bool.and_eq_true, decide_eq_true_eq]; omega
  unfold encL cL
  split
  · have e0 : ((⟨(List.map UInt8.ofNat [n] ++ l).toArray⟩ : ByteArray).get! 0).toNat = n := by rw [get_mk _ _ (by simp)]; simp [u8]; omega
    rw [dec1 _ _ e0 (by omega)]
  split
  · have e0 : ((⟨(List.map UInt8.ofNat [192 + n / 64, 128 + n % 64] ++ l).toArray⟩ : ByteArray).get! 0).toNat = 192 + n / 64 := by rw [get_mk _ _ (by simp)]; simp [u8]; omega
    have e1 : ((⟨(List.map UInt8.ofNat [192 + n / 64, 128 + n % 64] ++ l).toArray⟩ : ByteArray).get! 1).toNat = 128 + n % 64 := by rw [get_mk _ _ (by simp)]; simp [u8]; omega
    rw [dec2 _ _ _ (by simp [ByteArray.size]) e0 e1 (by omega) (by omega) (by omega)]
    omega
  split
  · have e0 : ((⟨(List.map UInt8.ofNat [224 + n / 4096, 128 + n / 64 % 64, 128 + n % 64] ++ l).toArray⟩ : ByteArray).get! 0).toNat = 224 + n / 4096 := by rw [get_mk _ _ (by simp)]; simp [u8]; omega
    have e1 : ((⟨(List.map UInt8.ofNat [224 + n / 4096, 128 + n / 64 % 64, 128 + n % 64] ++ l).toArray⟩ : ByteArray).get! 1).toNat = 128 + n / 64 % 64 := by rw [get_mk _ _ (by simp)]; simp [u8]; omega
    have e2 : ((⟨(List.map UInt8.ofNat [224 + n / 4096, 128 + n / 64 % 64, 128 + n % 64] ++ l).toArray⟩ : ByteArray).get! 2).toNat = 128 + n % 64 := by rw [get_mk _ _ (by simp)]; simp [u8]; omega
    have en : ((224 + n / 4096) % 16) * 4096 + ((128 + n / 64 % 64) % 64) * 64 + (128 + n % 64) % 64 = n := by omega
    rw [dec3 _ _ _ _ (by simp [ByteArray.size]) e0 e1 e2 (by omega) (by omega) (by omega) (by omega) (hv _ en)]
    exact en
  · have e0 : ((⟨(List.map UInt8.ofNat [240 + n / 262144, 128 + n / 4096 % 64, 128 + n / 64 % 64, 128 + n % 64] ++ l).toArray⟩ : ByteArray).get! 0).toNat = 240 + n / 262144 := by rw [get_mk _ _ (by simp)]; simp [u8]; omega
    have e1 : ((⟨(List.map UInt8.ofNat [240 + n / 262144, 128 + n / 4096 % 64, 128 + n / 64 % 64, 128 + n % 64] ++ l).toArray⟩ : ByteArray).get! 1).toNat = 128 + n / 4096 % 64 := by rw [get_mk _ _ (by simp)]; simp [u8]; omega
    have e2 : ((⟨(List.map UInt8.ofNat [240 + n / 262144, 128 + n / 4096 % 64, 128 + n / 64 % 64, 128 + n % 64] ++ l).toArray⟩ : ByteArray).get! 2).toNat = 128 + n / 64 % 64 := by rw [get_mk _ _ (by simp)]; simp [u8]; omega
    have e3 : ((⟨(List.map UInt8.ofNat [240 + n / 262144, 128 + n / 4096 % 64, 128 + n / 64 % 64, 128 + n % 64] ++ l).toArray⟩ : ByteArray).get! 3).toNat = 128 + n % 64 := by rw [get_mk _ _ (by simp)]; simp [u8]; omega
    have en : ((240 + n / 262144) % 8) * 262144 + ((128 + n / 4096 % 64) % 64) * 4096 + ((128 + n / 64 % 64) % 64) * 64 + (128 + n % 64) % 64 = n := by omega
    rw [dec4 _ _ _ _ _ (by simp [ByteArray.size]) e0 e1 e2 e3 (by omega) (by omega) (by omega) (by omega) (by omega) (hv _ en)]
    exact en

/-- The character ahead of a list of bytes. -/
def nextL (l : List UInt8) : Int × Int :=
  let c := (Utf8.decode ⟨l.toArray⟩ 0).1
  if isB c = true ∧ encL c <+: l then ((c : Int), ((encL c).length : Int)) else (0, 0)
theorem nextL_enc {n : Nat} (h : isN n) (l : List UInt8) : nextL (encL n ++ l) = ((n : Int), ((encL n).length : Int)) := by
  unfold nextL
  simp only [decode_enc h]
  rw [if_pos ⟨(isB_iff _).2 ⟨n, rfl, h⟩, List.prefix_append _ _⟩]
theorem nextL_cases (l : List UInt8) : (∃ n r, isN n ∧ l = encL n ++ r ∧ nextL l = ((n : Int), ((encL n).length : Int))) ∨ (nextL l = (0, 0) ∧ ∀ n r, isN n → l ≠ encL n ++ r) := by
  by_cases h : isB ((Utf8.decode ⟨l.toArray⟩ 0).1 : Nat) = true ∧ encL (Utf8.decode ⟨l.toArray⟩ 0).1 <+: l
  · left
    obtain ⟨r, hr⟩ := h.2
    obtain ⟨n, e, hn⟩ := (isB_iff _).1 h.1
    obtain rfl : (Utf8.decode ⟨l.toArray⟩ 0).1 = n := by omega
    exact ⟨_, r, hn, hr.symm, by unfold nextL; exact if_pos h⟩
  · right
    refine ⟨if_neg h, ?_⟩
    rintro n r hn rfl
    apply h
    rw [decode_enc hn]
    exact ⟨(isB_iff _).2 ⟨n, rfl, hn⟩, List.prefix_append _ _⟩
theorem encL_inj {a b : Nat} (ha : isN a) (hb : isN b) {l r : List UInt8} (h : encL a ++ l = encL b ++ r) : a = b := by
  have h1 := nextL_enc ha l
  rw [h, nextL_enc hb r] at h1
  have := congrArg Prod.fst h1
  simp at this
  omega
theorem ext_data (s : ByteArray) (i j : Nat) : (s.extract i j).data.toList = (s.data.toList.take j).drop i := by
  rw [ByteArray.data_extract, Array.toList_extract, List.extract_eq_take_drop, List.drop_take]
theorem size_len (s : ByteArray) : s.size = s.data.toList.length := by rw [Array.length_toList]; rfl
theorem nextOf_L (s : ByteArray) (i : Nat) (h : i ≤ s.size) : nextOf s i = nextL (s.data.toList.drop i) := by
  unfold nextOf nextL
  have e1 : s.extract i s.size = (⟨(s.data.toList.drop i).toArray⟩ : ByteArray) := by
    apply ByteArray.ext
    apply Array.ext'
    rw [ext_data, size_len, List.take_length]
  simp only [e1]
  by_cases hb : isB ((Utf8.decode ⟨(s.data.toList.drop i).toArray⟩ 0).1 : Nat) = true
  · obtain ⟨n, e, hn⟩ := (isB_iff _).1 hb
    have e2 : (Utf8.decode ⟨(s.data.toList.drop i).toArray⟩ 0).1 = n := by omega
    rw [e2] at hb ⊢
    have e3 : (Utf8.encode (n : Int)).size = (encL n).length := by rw [size_len, encode_L hn]
    simp only [hb, true_and, ByteArray.toList_eq, ext_data, e3, encode_L hn]
    have e4 : (i + (encL n).length ≤ s.size ∧ List.drop i (List.take (i + (encL n).length) s.data.toList) = encL n) ↔ encL n <+: List.drop i s.data.toList := by
      rw [List.prefix_iff_eq_take, List.drop_take, Nat.add_sub_cancel_left]
      constructor
      · exact fun h => h.2.symm
      · intro h'
        refine ⟨?_, h'.symm⟩
        have := congrArg List.length h'
        rw [List.length_take, List.length_drop] at this
        rw [size_len] at h ⊢
        omega
    by_cases h4 : encL n <+: List.drop i s.data.toList
    · rw [if_pos h4, if_pos (e4.2 h4)]
    · rw [if_neg h4, if_neg (fun h5 => h4 (e4.1 h5))]
  · rw [if_neg (fun h => hb h.1), if_neg (fun h => hb h.1)]
theorem next_f (s : ByteArray) (i : Int) (hs : s.size ≤ 4611686018427387904) : utf_Next.f s i = some (if i < 0 ∨ (s.size : Int) ≤ i then (0, 0) else nextL (s.data.toList.drop i.toNat)) := by
  unfold utf_Next.f
  rw [if_pos hs]
  split
  · rfl
  · rw [nextOf_L _ _ (by omega)]
theorem put_data (r : Int) : ((∃ n : Nat, r = n ∧ isN n ∧ (putOf r).data.toList = encL n) ∨ (isB r = false ∧ putOf r = ⟨#[]⟩)) := by
  unfold putOf
  by_cases h : isB r = true
  · obtain ⟨n, rfl, hn⟩ := (isB_iff _).1 h
    exact Or.inl ⟨n, rfl, hn, by rw [if_pos h, encode_L hn]⟩
  · exact Or.inr ⟨by simpa using h, if_neg h⟩
end Go.Proofs.Ytkhlfdoeploddaa.PFlow.U
namespace Go.Proofs.Ytkhlfdoeploddaa.PFlow.U
open Go.RowKit Go.Proofs.Ytkhlfdoeploddaa.PFlow Go.Proofs.YtkhlfdoeploddaaW.PrintWords
set_option linter.unusedVariables false
set_option linter.unusedSimpArgs false
theorem ris_f (r : Int) : copperplateref02_is.f r = some (isB r) := by
  unfold copperplateref02_is.f isB
  by_cases h1 : r = 9
  · subst h1; decide
  by_cases h2 : r = 10
  · subst h2; decide
  by_cases h3 : r = 13
  · subst h3; decide
  have e1 : (r == 9) = false := by simpa using h1
  have e2 : (r == 10) = false := by simpa using h2
  have e3 : (r == 13) = false := by simpa using h3
  rw [if_neg h1, if_neg h2, if_neg h3, e1, e2, e3]
  by_cases h4 : 32 ≤ r
  · by_cases h5 : r ≤ 1114111
    · by_cases h6 : r < 55296
      · have h6' : ¬ 55296 ≤ r := by omega
        simp [h4, h5, h6, h6']
      · have h6' : 55296 ≤ r := by omega
        by_cases h7 : 57343 < r
        · have h7' : ¬ r ≤ 57343 := by omega
          simp [h4, h5, h6, h6', h7, h7']
        · have h7' : r ≤ 57343 := by omega
          simp [h4, h5, h6, h6', h7, h7']
    · simp [h4, h5]
  · simp [h4]
theorem td (n k : Nat) : Int.tdiv (n : Int) (k : Int) = ((n / k : Nat) : Int) := (Int.ofNat_tdiv n k).symm
theorem tm (n k : Nat) : Int.tmod (n : Int) (k : Int) = ((n % k : Nat) : Int) := (Int.ofNat_tmod n k).symm
theorem w64 (n : Int) (h : 0 ≤ n) (h2 : n ≤ 9223372036854775807) : wrap64 n = n := by unfold wrap64; omega
theorem rput_f (r : Int) : ∃ s, copperplateref02_Put.f r = some s ∧ s.data.toList = (putOf r).data.toList := by
  unfold copperplateref02_Put.f
  rw [ris_f, Option.bind_some]
  rcases put_data r with ⟨n, rfl, hn, e⟩ | ⟨e1, e⟩
  rotate_left
  · rw [e1, if_neg (by decide), e]; exact ⟨_, rfl, rfl⟩
  rw [(isB_iff n).2 ⟨n, rfl, hn⟩, if_pos rfl, e]
  have hb := isN_le hn
  have a1 := td n 64
  have a2 := td n 4096
  have a3 := td n 262144
  have a4 := tm n 64
  simp only [Int.cast_ofNat_Int] at a1 a2 a3 a4
  rw [a1, a2, a3, a4]
  rw [w64 ((n / 64 : Nat) : Int) (by omega) (by omega), w64 ((n / 4096 : Nat) : Int) (by omega) (by omega), w64 ((n / 262144 : Nat) : Int) (by omega) (by omega)]
  have a5 := tm (n / 64) 64
  have a6 := tm (n / 4096) 64
  simp only [Int.cast_ofNat_Int] at a5 a6
  rw [a5, a6]
  rw [w64 (192 + ((n / 64 : Nat) : Int)) (by omega) (by omega), w64 (224 + ((n / 4096 : Nat) : Int)) (by omega) (by omega), w64 (240 + ((n / 262144 : Nat) : Int)) (by omega) (by omega), w64 (128 + ((n % 64 : Nat) : Int)) (by omega) (by omega), w64 (128 + ((n / 64 % 64 : Nat) : Int)) (by omega) (by omega), w64 (128 + ((n / 4096 % 64 : Nat) : Int)) (by omega) (by omega)]
  have hu : ∀ (x : Int) (m : Nat), x = (m : Int) → UInt8.ofNat (x % 256).toNat = UInt8.ofNat m := by
    rintro x m rfl
    rw [← UInt8.toNat_inj, u8, u8]; omega
  unfold encL cL
  by_cases h1 : n < 128
  · rw [if_pos (by omega), if_pos h1]
    refine ⟨_, rfl, ?_⟩
    rw [strOfNums_data]
    simp only [List.map_cons, List.map_nil]
    rw [hu _ _ rfl]
  rw [if_neg (by omega), if_neg h1]
  by_cases h2 : n < 2048
  · rw [if_pos (by omega), if_pos h2]
    refine ⟨_, rfl, ?_⟩
    rw [strOfNums_data]
    simp only [List.map_cons, List.map_nil]
    rw [hu _ (192 + n / 64) (by omega), hu _ (128 + n % 64) (by omega)]
  rw [if_neg (by omega), if_neg h2]
  by_cases h3 : n < 65536
  · rw [if_pos (by omega), if_pos h3]
    refine ⟨_, rfl, ?_⟩
    rw [strOfNums_data]
    simp only [List.map_cons, List.map_nil]
    rw [hu _ (224 + n / 4096) (by omega), hu _ (128 + n / 64 % 64) (by omega), hu _ (128 + n % 64) (by omega)]
  · rw [if_neg (by omega), if_neg h3]
    refine ⟨_, rfl, ?_⟩
    rw [strOfNums_data]
    simp only [List.map_cons, List.map_nil]
    rw [hu _ (240 + n / 262144) (by omega), hu _ (128 + n / 4096 % 64) (by omega), hu _ (128 + n / 64 % 64) (by omega), hu _ (128 + n % 64) (by omega)]
/-- A byte at a place, as a number. -/
def bn (l : List UInt8) (k : Nat) : Nat := (l.getD k 0).toNat
theorem bn_lt (l : List UInt8) (k : Nat) : bn l k < 256 := UInt8.toNat_lt _
theorem bt_bn (s : ByteArray) (k : Nat) (hk : k < s.size) : bt s (k : Int) = (bn s.data.toList k : Int) := by
  unfold bt bn
  rw [dif_pos (by simpa using hk)]
  have : (s[((k : Int).toNat)]'(by simpa using hk)) = s.data.toList.getD k 0 := by
    rw [List.getD_eq_getElem?_getD, List.getElem?_eq_getElem (by rw [← size_len]; exact hk)]
    simp [ByteArray.getElem_eq_getElem_data]
  rw [this]
def G (l : List UInt8) (n : Nat) : Nat :=
  if n = 1 then bn l 0 else if n = 2 then 64 * (bn l 0 % 32) + bn l 1 % 64 else if n = 3 then 64 * (64 * (bn l 0 % 16) + bn l 1 % 64) + bn l 2 % 64
  else 64 * (64 * (64 * (bn l 0 % 8) + bn l 1 % 64) + bn l 2 % 64) + bn l 3 % 64
theorem guess_step (k : Nat) (s : ByteArray) (n j x : Nat) (hj : j < n) (hn : n ≤ s.size) (hn4 : n ≤ 4) (hx : x ≤ 1000000) :
    copperplateref02_guess.l0 (k + 1) s n x j = copperplateref02_guess.l0 k s n ((64 * x + bn s.data.toList j % 64 : Nat) : Int) ((j + 1 : Nat) : Int) := by
  rw [copperplateref02_guess.l0, if_pos (by omega), if_pos (by omega), if_pos (by omega), bt_bn _ _ (by omega)]
  have h1 := bn_lt s.data.toList j
  rw [w64 ((bn s.data.toList j : Nat) : Int) (by omega) (by omega)]
  have a := tm (bn s.data.toList j) 64
  simp only [Int.cast_ofNat_Int] at a
  rw [a, w64 (64 * (x : Int)) (by omega) (by omega), w64 _ (by omega) (by omega), w64 _ (by omega) (by omega)]
  congr 1
theorem guess_end (k : Nat) (s : ByteArray) (n x : Nat) : copperplateref02_guess.l0 (k + 1) s n x n = some (x : Int) := by
  rw [copperplateref02_guess.l0, if_neg (by omega)]
theorem guess_f (k : Nat) (s : ByteArray) (n : Nat) (h1 : 1 ≤ n) (h4 : n ≤ 4) (hn : n ≤ s.size) : copperplateref02_guess.f (k + 7) s n = some (G s.data.toList n : Int) := by
  unfold copperplateref02_guess.f
  have hb := bn_lt s.data.toList 0
  have hb1 := bn_lt s.data.toList 1
  have hb2 := bn_lt s.data.toList 2
  have hb3 := bn_lt s.data.toList 3
  have e0 : bt s 0 = (bn s.data.toList 0 : Int) := bt_bn s 0 (by omega)
  rw [e0, w64 ((bn s.data.toList 0 : Nat) : Int) (by omega) (by omega)]
  have t1 := tm (bn s.data.toList 0) 32
  have t2 := tm (bn s.data.toList 0) 16
  have t3 := tm (bn s.data.toList 0) 8
  simp only [Int.cast_ofNat_Int] at t1 t2 t3
  rw [t1, t2]
  obtain rfl | rfl | rfl | rfl : n = 1 ∨ n = 2 ∨ n = 3 ∨ n = 4 := by omega
  · rw [if_pos (by omega), if_pos (by omega)]; rfl
  · rw [if_neg (by omega), if_pos (by omega), if_neg (by omega), copperplateref02_guess.j0, if_neg (by omega), copperplateref02_guess.j1]
    rw [show (1 : Int) = ((1 : Nat) : Int) from rfl, guess_step _ _ _ _ _ (by omega) hn h4 (by omega), guess_end]; rfl
  · rw [if_neg (by omega), if_pos (by omega), if_pos (by omega), copperplateref02_guess.j0, if_neg (by omega), copperplateref02_guess.j1]
    rw [show (1 : Int) = ((1 : Nat) : Int) from rfl, guess_step _ _ _ _ _ (by omega) hn h4 (by omega), guess_step _ _ _ _ _ (by omega) hn h4 (by omega), guess_end]; rfl
  · rw [if_neg (by omega), if_pos (by omega), if_neg (by omega), copperplateref02_guess.j0, if_pos (by omega), if_pos (by omega), copperplateref02_guess.j1, e0, w64 ((bn s.data.toList 0 : Nat) : Int) (by omega) (by omega), t3]
    rw [show (1 : Int) = ((1 : Nat) : Int) from rfl, guess_step _ _ _ _ _ (by omega) hn h4 (by omega), guess_step _ _ _ _ _ (by omega) hn h4 (by omega), guess_step _ _ _ _ _ (by omega) hn h4 (by omega), guess_end]; rfl
theorem G_enc {c : Nat} (hc : isN c) (r : List UInt8) : G (encL c ++ r) (encL c).length = c := by
  have hb := isN_le hc
  rw [encL_len]
  unfold encL cL G
  by_cases h1 : c < 128
  · rw [if_pos h1, if_pos h1]; simp [bn, u8]; omega
  rw [if_neg h1, if_neg h1]
  by_cases h2 : c < 2048
  · rw [if_pos h2, if_pos h2]; simp [bn, u8]; omega
  rw [if_neg h2, if_neg h2]
  by_cases h3 : c < 65536
  · rw [if_pos h3, if_pos h3]; simp [bn, u8]; omega
  · rw [if_neg h3, if_neg h3]; simp [bn, u8]; omega
theorem match_next {l : List UInt8} {n : Nat} (h1 : 1 ≤ n) (hn : n ≤ l.length) (h : (putOf (G l n : Int)).data.toList = l.take n) : nextL l = ((G l n : Int), (n : Int)) := by
  rcases put_data (G l n : Int) with ⟨c, e1, hc, e2⟩ | ⟨-, e2⟩
  · rw [e2] at h
    have e3 : l = encL c ++ l.drop n := by rw [h, List.take_append_drop]
    have hl : (encL c).length = n := by rw [h, List.length_take]; omega
    have := nextL_enc hc (l.drop n)
    rw [← e3, hl, ← e1] at this
    exact this
  · rw [e2] at h
    have := congrArg List.length h
    rw [List.length_take] at this
    simp at this
    omega
theorem rnext_l (s : ByteArray) (i : Nat) (hi : i < s.size) (hs : s.size ≤ 140737488355328) : ∀ (d n k : Nat), n + d = 5 → 1 ≤ n →
    (∀ m, 1 ≤ m → m < n → m ≤ s.size - i → (putOf (G (s.data.toList.drop i) m : Int)).data.toList ≠ (s.data.toList.drop i).take m) →
    copperplateref02_Next.l0 (k + 9 + 2 * d) s i n = some (nextL (s.data.toList.drop i)) := by
  have hlen : (s.data.toList.drop i).length = s.size - i := by rw [List.length_drop, ← size_len]
  have hfin : ∀ n : Nat, (4 < n ∨ s.size - i < n) → (∀ m, 1 ≤ m → m < n → m ≤ s.size - i → (putOf (G (s.data.toList.drop i) m : Int)).data.toList ≠ (s.data.toList.drop i).take m) → nextL (s.data.toList.drop i) = (0, 0) := by
    intro n hn hno
    rcases nextL_cases (s.data.toList.drop i) with ⟨c, r, hc, e1, e2⟩ | ⟨e2, -⟩
    · exfalso
      have hl := encL_bd c
      have h2 := congrArg List.length e1
      rw [hlen, List.length_append] at h2
      refine hno (encL c).length hl.1 (by omega) (by omega) ?_
      rw [e1, G_enc hc, List.take_left, putOf, if_pos ((isB_iff c).2 ⟨c, rfl, hc⟩), encode_L hc]
    · exact e2
  intro d
  induction d with
  | zero =>
    intro n k hd h1 hno
    obtain rfl : n = 5 := by omega
    rw [show k + 9 + 2 * 0 = (k + 7) + 1 + 1 by omega, copperplateref02_Next.l0, if_neg (by omega), copperplateref02_Next.j2, if_neg (by decide), hfin 5 (by omega) hno]
  | succ d ih =>
    intro n k hd h1 hno
    rw [show k + 9 + 2 * (d + 1) = (k + 9 + 2 * d) + 1 + 1 by omega, copperplateref02_Next.l0, if_pos (by omega)]
    have w1 : wrap64 ((s.size : Int) - i) = s.size - i := by unfold wrap64; omega
    rw [w1, copperplateref02_Next.j2]
    by_cases h2 : n ≤ s.size - i
    · rw [decide_eq_true (by omega), if_pos rfl, if_pos (by omega), if_pos (by omega)]
      have hse : (s.extract (i : Int).toNat s.size).data.toList = s.data.toList.drop i := by
        rw [ext_data, Int.toNat_natCast, size_len, List.take_length]
      rw [show k + 9 + 2 * d = (k + 2 + 2 * d) + 7 by omega, guess_f _ _ _ h1 (by omega) (by rw [size_len, hse, hlen]; exact h2), Option.bind_some, hse]
      obtain ⟨p, hp1, hp2⟩ := rput_f (G (s.data.toList.drop i) n : Int)
      rw [hp1, Option.bind_some]
      have w2 : wrap64 ((i : Int) + n) = ((i + n : Nat) : Int) := by unfold wrap64; omega
      rw [w2, if_pos (by omega), if_pos (by omega)]
      have hsx : (s.extract (i : Int).toNat (((i + n : Nat) : Int)).toNat).toList = (s.data.toList.drop i).take n := by
        rw [ByteArray.toList_eq, ext_data, Int.toNat_natCast, Int.toNat_natCast, List.drop_take, Nat.add_sub_cancel_left]
      rw [hsx, ByteArray.toList_eq, hp2]
      by_cases hm : (putOf (G (s.data.toList.drop i) n : Int)).data.toList = (s.data.toList.drop i).take n
      · rw [if_pos hm, match_next h1 (by omega) hm]
      · rw [if_neg hm]
        have w3 : wrap64 ((n : Int) + 1) = ((n + 1 : Nat) : Int) := by unfold wrap64; omega
        rw [w3]
        have := ih (n + 1) k (by omega) (by omega) (by
          intro m hm1 hm2 hm3
          by_cases h5 : m = n
          · subst h5; exact hm
          · exact hno m hm1 (by omega) hm3)
        rw [show k + 2 + 2 * d + 7 = k + 9 + 2 * d by omega]
        exact this
    · rw [decide_eq_false (by omega), if_neg (by decide), hfin n (by omega) hno]
theorem rnext_f (k : Nat) (s : ByteArray) (i : Int) (hs : s.size ≤ 140737488355328) : copperplateref02_Next.f (k + 18) s i = some (if i < 0 ∨ (s.size : Int) ≤ i then (0, 0) else nextL (s.data.toList.drop i.toNat)) := by
  unfold copperplateref02_Next.f
  by_cases h1 : i < 0
  · rw [if_pos h1, if_pos (Or.inl h1), copperplateref02_Next.j0, if_pos rfl]
  rw [if_neg h1]
  by_cases h2 : (s.size : Int) ≤ i
  · rw [if_pos (Or.inr h2), decide_eq_true (by omega), copperplateref02_Next.j0, if_pos rfl]
  rw [decide_eq_false (by omega), if_neg (by omega), copperplateref02_Next.j0, if_neg (by decide)]
  obtain ⟨n, rfl⟩ := Int.eq_ofNat_of_zero_le (show 0 ≤ i by omega)
  have := rnext_l s n (by omega) hs 4 1 k (by omega) (by omega) (by intro m h3 h4; omega)
  simpa using this
end Go.Proofs.Ytkhlfdoeploddaa.PFlow.U
namespace Go.Proofs.Ytkhlfdoeploddaa.PFlow
open Go.RowKit Go.Proofs.YtkhlfdoeploddaaW.PrintWords Go.Proofs.YtkhlfdoeploddaaW.PrintMore
set_option linter.unusedVariables false
set_option linter.unusedSimpArgs false
theorem rcols_l (s : ByteArray) (hs : s.size ≤ 140737488355328) (d : Nat) : ∀ (K i n : Nat), s.size - i = d → d + 18 < K → i ≤ s.size + 4 → n + d ≤ 140737488355328 → copperplateref17_Cols.l0 K s n i = some ((n + colsFrom s i : Nat) : Int) := by
  induction d using Nat.strongRecOn with
  | ind d ih =>
    intro K i n hd hK hi hn
    obtain ⟨K, rfl⟩ : ∃ K', K = K' + 18 + 1 := ⟨K - 19, by omega⟩
    rw [copperplateref17_Cols.l0]
    by_cases hlt : i < s.size
    · rw [if_pos (by omega), U.rnext_f K s i hs, if_neg (by omega), Option.bind_some, Int.toNat_natCast, ← U.nextOf_L s i (by omega)]
      have h1 := stepOf_bd s i
      have h0 := next_le s i
      have e3 : colsFrom s i = 1 + colsFrom s (i + stepOf s i) := by rw [colsFrom, if_pos hlt]
      have est : stepOf s i = if (nextOf s i).2.toNat = 0 then 1 else (nextOf s i).2.toNat := rfl
      have W1 := Aside0.mk (wr_add n 1 (by omega))
      rw [e3]
      clear e3
      generalize (nextOf s i).2 = z at h0 est ⊢
      generalize stepOf s i = q at h1 est ⊢
      have W2 := Aside0.mk (wr_add i q (by omega))
      have hih := ih (s.size - (i + q)) (by omega) (K + 18) (i + q) (n + 1) rfl (by omega) (by omega) (by omega)
      by_cases hz : z = 0
      · rw [if_pos hz]
        rw [show z.toNat = 0 by omega, if_pos rfl] at est
        subst est
        have w2 := W2.out
        rw [show ((n : Int) + 1) = ((n : Int) + ((1 : Nat) : Int)) from rfl, show ((i : Int) + 1) = ((i : Int) + ((1 : Nat) : Int)) from rfl, W1.out, w2, hih, Nat.add_assoc]
      · rw [if_neg hz]
        rw [if_neg (by omega)] at est
        rw [show z = ((q : Nat) : Int) by omega, show ((n : Int) + 1) = ((n : Int) + ((1 : Nat) : Int)) from rfl, W1.out, W2.out, hih, Nat.add_assoc]
    · have e0 : colsFrom s i = 0 := by rw [colsFrom, if_neg hlt]
      rw [if_neg (by omega), e0, Nat.add_zero]
theorem rcols_f (s : ByteArray) (hs : s.size ≤ 140737488355328) (K : Nat) (hK : s.size + 18 < K) : copperplateref17_Cols.f K s = some (colsOf s) := by
  have := rcols_l s hs s.size K 0 0 (by omega) hK (by omega) (by omega)
  rw [Nat.zero_add] at this
  exact this
theorem rbreaks_f (m : Int) (s : ByteArray) : copperplateref17_Breaks.f m s = some (brB m) := by
  unfold copperplateref17_Breaks.f brB
  by_cases h2 : m = 2
  · subst h2; rfl
  by_cases h3 : m = 3
  · subst h3; rfl
  by_cases h4 : m = 4
  · subst h4; rfl
  rw [if_neg h2, if_neg h3, if_neg h4]
  simp [h2, h3, h4]
theorem rflat_f (K : Nat) (m : Int) (s : ByteArray) : copperplateref17_Flat.f (K + 1) m s = some (flatOf m s) := by
  unfold copperplateref17_Flat.f flatOf
  by_cases h0 : m = 0
  · rw [if_pos h0, if_pos h0]
  rw [if_neg h0, if_neg h0]
  by_cases h1 : m = 1
  · subst h1; rfl
  rw [if_neg h1, copperplateref17_Flat.j0]
  by_cases h2 : m = 2
  · subst h2; rfl
  rw [if_neg (by simpa using h2), if_neg (show ¬ (m = 1 ∨ m = 2) by omega)]
  by_cases h4 : m = 4
  · subst h4; rfl
  rw [if_neg h4, if_neg h4]
  by_cases h3 : m = 3
  · subst h3; rfl
  by_cases h6 : m = 6
  · subst h6; rfl
  by_cases h7 : m = 7
  · subst h7; rfl
  by_cases h8 : m = 8
  · subst h8; rfl
  by_cases h9 : m = 9
  · subst h9; rfl
  rw [if_neg h3, if_neg h6, if_neg h7, if_neg h8, if_neg h9, if_neg (by omega)]
theorem depB_bd (l : List S34) : ∀ k : Nat, -(k : Int) ≤ depB l k ∧ depB l k ≤ k
  | 0 => by rw [depB]; omega
  | k + 1 => by have := depB_bd l k; have := depB_step l k; omega
theorem rmatch_l {l : List S34} (hl : l.length ≤ 17592186044416) {i : Nat} (h6 : (gB l i).f0 = 6) : ∀ (d k K : Nat), k + d = l.length → 2 * d < K → i ≤ k → (∀ j, i < j → j ≤ k → depB l i < depB l j) → copperplateref17_Match.l0 K l (depB l k - depB l i) k = some (matchOf l i)
  | 0, k, K, hk, hK, hik, hg => by
    obtain ⟨K, rfl⟩ : ∃ K', K = K' + 1 := ⟨K - 1, by omega⟩
    obtain rfl : k = l.length := by omega
    rw [copperplateref17_Match.l0, if_neg (by omega), matchOf_neg]
    intro i' m e hm
    obtain rfl : i = i' := by omega
    have := hg (m + 1) (by have := hm.lt; omega) (by have := hm.len; omega)
    have := hm.eq
    omega
  | d + 1, k, K, hk, hK, hik, hg => by
    obtain ⟨K, rfl⟩ : ∃ K', K = K' + 2 := ⟨K - 2, by omega⟩
    have b1 := depB_bd l k
    have b2 := depB_bd l i
    have hs := depB_succ l k
    have WK := Aside0.mk (show wrap64 ((k : Int) + 1) = ((k + 1 : Nat) : Int) by rw [wrap_id (by omega) (by omega)]; omega)
    have next : ∀ (hne : depB l i < depB l (k + 1)), copperplateref17_Match.l0 K l (depB l (k + 1) - depB l i) ((k + 1 : Nat) : Int) = some (matchOf l i) := fun hne =>
      rmatch_l hl h6 d (k + 1) K (by omega) (by omega) (by omega) fun j h1 h2 => by
        by_cases e : j = k + 1
        · subst e; exact hne
        · exact hg j h1 (by omega)
    rw [copperplateref17_Match.l0, if_pos (by omega), if_pos (by omega), rd_gB]
    by_cases c6 : (gB l k).f0 = 6
    · rw [if_pos c6, copperplateref17_Match.j2, if_pos (by omega), if_pos (by omega), rd_gB, if_neg (by omega), wrap_id (by omega) (by omega)]
      rw [c6, show valB 6 = 1 from rfl] at hs
      have hgk : depB l i ≤ depB l k := by
        by_cases e : i = k
        · subst e; omega
        · have := hg k (by omega) (Nat.le_refl _); omega
      rw [if_neg (by omega), WK.out, show depB l k - depB l i + 1 = depB l (k + 1) - depB l i by omega]
      exact next (by omega)
    · have hik' : i < k := by
        by_cases e : i = k
        · subst e; exact absurd h6 c6
        · omega
      have hgk := hg k hik' (Nat.le_refl _)
      rw [if_neg c6, copperplateref17_Match.j2, if_pos (by omega), if_pos (by omega), rd_gB]
      by_cases c7 : (gB l k).f0 = 7
      · rw [c7, show valB 7 = -1 from rfl] at hs
        rw [if_pos c7, wrap_id (by omega) (by omega), WK.out]
        by_cases e0 : depB l k - depB l i - 1 = 0
        · rw [if_pos e0]
          have hm : IsM l i k := ⟨hik', by omega, h6, by omega, hg⟩
          rw [hm.mt]
        · rw [if_neg e0, show depB l k - depB l i - 1 = depB l (k + 1) - depB l i by omega]
          exact next (by omega)
      · have hv : valB (gB l k).f0 = 0 := by unfold valB; rw [if_neg c6, if_neg c7]
        rw [if_neg c7, if_neg (by omega), WK.out, show depB l k - depB l i = depB l (k + 1) - depB l i by omega]
        exact next (by omega)
theorem rmatch_f {l : List S34} (hl : l.length ≤ 17592186044416) (i : Int) (K : Nat) (hK : 2 * l.length + 2 < K) : copperplateref17_Match.f K l i = some (matchOf l i) := by
  obtain ⟨K, rfl⟩ : ∃ K', K = K' + 1 := ⟨K - 1, by omega⟩
  unfold copperplateref17_Match.f
  by_cases h0 : i < 0
  · rw [if_pos h0, matchOf_neg fun i' k e _ => by omega]; rfl
  rw [if_neg h0]
  by_cases h1 : i ≥ (l.length : Int)
  · rw [if_pos h1, matchOf_neg fun i' k e hm => by have := hm.lt; have := hm.len; omega]; rfl
  rw [if_neg h1, if_pos (by omega), if_pos (by omega)]
  obtain ⟨i, rfl⟩ := Int.eq_ofNat_of_zero_le (show 0 ≤ i by omega)
  rw [rd_gB]
  by_cases h6 : (gB l i).f0 = 6
  · rw [show ((gB l i).f0 != 6) = false by rw [h6]; rfl, copperplateref17_Match.j0, if_neg (by decide)]
    have := rmatch_l hl h6 (l.length - i) i K (by omega) (by omega) (Nat.le_refl _) (fun j h1 h2 => by omega)
    rw [Int.sub_self] at this
    exact this
  · rw [show ((gB l i).f0 != 6) = true from bne_iff_ne.2 h6, copperplateref17_Match.j0, if_pos rfl, matchOf_neg fun i' k e hm => ?_]
    obtain rfl : i = i' := by omega
    exact h6 hm.op
/-- So many rounds do for any text of the list. -/
def roundsB (l : List S34) (K : Nat) : Prop := ∀ k, (gB l k).f1.size + 24 < K
theorem rcolA_f {l : List S34} (hs : small33 l) {K : Nat} (hK : roundsB l K) (k : Nat) : copperplateref17_Cols.f K (flatOf (gB l k).f0 (gB l k).f1).1 = some (colA l k) := by
  have h1 := hK k
  have h2 : (flatOf (gB l k).f0 (gB l k).f1).1.size ≤ (gB l k).f1.size + 2 := by
    unfold flatOf
    (repeat' split) <;> (dsimp only; have : (⟨#[32]⟩ : ByteArray).size = 1 := rfl; have : (⟨#[44, 32]⟩ : ByteArray).size = 2 := rfl; have : (⟨#[]⟩ : ByteArray).size = 0 := rfl; omega)
  have h3 : (flatOf (gB l k).f0 (gB l k).f1).1.size ≤ 140737488355328 := by
    by_cases g : k < l.length
    · have := hs _ (gB_mem g)
      unfold flatOf
      (repeat' split) <;> first | (dsimp only; omega) | (show _ ≤ _; decide)
    · rw [gB_ge (by omega)]; decide
  exact rcols_f _ h3 _ (by omega)
theorem rbehind_l {l : List S34} (hs : small33 l) (hl : l.length ≤ 60000) {R : Nat} (hR : roundsB l R) : ∀ (d k K : Nat) (n : Int), k + d = l.length → 2 * d + R < K → 0 ≤ n → n + 140737488355328 * d ≤ 9223372036854775807 → copperplateref17_Behind.l0 K l n k = some (n + behB l d k)
  | 0, k, K, n, hk, hK, h0, h1 => by
    obtain ⟨K, rfl⟩ : ∃ K', K = K' + 1 := ⟨K - 1, by omega⟩
    rw [copperplateref17_Behind.l0, if_neg (by omega), behB, Int.add_zero]
  | d + 1, k, K, n, hk, hK, h0, h1 => by
    obtain ⟨K, rfl⟩ : ∃ K', K = K' + 3 := ⟨K - 3, by have := hR 0; omega⟩
    have b := tsB_bd hs k
    have WK := Aside0.mk (show wrap64 ((k : Int) + 1) = ((k + 1 : Nat) : Int) by rw [wrap_id (by omega) (by omega)]; omega)
    have hRK : roundsB l (K + 1) := fun j => by have := hR j; omega
    rw [copperplateref17_Behind.l0, if_pos (by omega), if_pos (by omega), rd_gB, rbreaks_f, Option.bind_some, behB]
    by_cases g : brB (gB l k).f0 = true
    · rw [if_pos g, if_pos g, Int.add_zero]
    rw [if_neg g, if_neg g]
    by_cases g0 : (gB l k).f0 = 0 ∨ (gB l k).f0 = 1
    · have e : (if (gB l k).f0 = 0 then copperplateref17_Behind.j1 (K + 2) l n k true else copperplateref17_Behind.j1 (K + 2) l n k ((gB l k).f0 == 1)) = copperplateref17_Behind.j1 (K + 2) l n k true := by
        rcases g0 with e | e
        · rw [if_pos e]
        · rw [if_neg (by omega), e]; rfl
      have et : tsB l k = colA l k := by unfold tsB; rw [if_pos g0]
      rw [et] at b ⊢
      rw [e, copperplateref17_Behind.j1, if_pos rfl, if_pos (by omega), if_pos (by omega), rd_gB, rflat_f, Option.bind_some, rcolA_f hs hRK, Option.bind_some, wrap_id (by omega) (by omega), WK.out, rbehind_l hs hl hR d (k + 1) (K + 1) _ (by omega) (by omega) (by omega) (by omega)]
      congr 1; omega
    · have et : tsB l k = 0 := by unfold tsB; rw [if_neg g0]
      rw [if_neg (by omega), show ((gB l k).f0 == 1) = false from beq_eq_false_iff_ne.2 (by omega), copperplateref17_Behind.j1, if_neg (by decide), WK.out, rbehind_l hs hl hR d (k + 1) (K + 1) _ (by omega) (by omega) (by omega) (by omega), et]
      congr 1; omega
theorem behB_close {l : List S34} {m : Nat} (h7 : (gB l m).f0 = 7) (hm : m < l.length) : behB l (l.length - m) m = behB l (l.length - (m + 1)) (m + 1) := by
  rw [show l.length - m = l.length - (m + 1) + 1 by omega, behB, h7, if_neg (by decide)]
  have : tsB l m = 0 := by unfold tsB; rw [h7]; rfl
  rw [this]; omega
end Go.Proofs.Ytkhlfdoeploddaa.PFlow
