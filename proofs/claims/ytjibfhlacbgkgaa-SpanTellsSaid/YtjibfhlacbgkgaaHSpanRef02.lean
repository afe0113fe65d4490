/- What the document's answer on characters comes to. -/
import Derived.Test.YtjibfhlacbgkgaaHSpanUtfL
import Derived.Test.YtjibfhlacbgkgaaPSpanx11
namespace Go.Proofs.Ytjibfhlacbgkgaa.PSpan.U
open Go.RowKit Go.Proofs.Ytjibfhlacbgkgaa.PSpan Go.Proofs.YtjibfhlacbgkgaaW.PrintWords
set_option linter.unusedVariables false
set_option linter.unusedSimpArgs false
theorem ris_f (r : Int) : copperplateref02_is.f r = some (isB r) := by
  unfold copperplateref02_is.f isB
  by_cases h1 : r = 9
  · subst h1; decide
  by_cases h2 : r = 10
  · subst h2; decide
  by_cases h3 : r = 13
  · subst h3; decide
  have e1 : (r == 9) = false := by simpa using h1
  have e2 : (r == 10) = false := by simpa using h2
  have e3 : (r == 13) = false := by simpa using h3
  rw [if_neg h1, if_neg h2, if_neg h3, e1, e2, e3]
  by_cases h4 : 32 ≤ r
  · by_cases h5 : r ≤ 1114111
    · by_cases h6 : r < 55296
      · have h6' : ¬ 55296 ≤ r := by omega
        simp [h4, h5, h6, h6']
      · have h6' : 55296 ≤ r := by omega
        by_cases h7 : 57343 < r
        · have h7' : ¬ r ≤ 57343 := by omega
          simp [h4, h5, h6, h6', h7, h7']
        · have h7' : r ≤ 57343 := by omega
          simp [h4, h5, h6, h6', h7, h7']
    · simp [h4, h5]
  · simp [h4]
theorem td (n k : Nat) : Int.tdiv (n : Int) (k : Int) = ((n / k : Nat) : Int) := (Int.ofNat_tdiv n k).symm
theorem tm (n k : Nat) : Int.tmod (n : Int) (k : Int) = ((n % k : Nat) : Int) := (Int.ofNat_tmod n k).symm
theorem w64 (n : Int) (h : 0 ≤ n) (h2 : n ≤ 9223372036854775807) : wrap64 n = n := by unfold wrap64; omega
theorem rput_f (r : Int) : ∃ s, copperplateref02_Put.f r = some s ∧ s.data.toList = (putOf r).data.toList := by
  unfold copperplateref02_Put.f
  rw [ris_f, Option.bind_some]
  rcases put_data r with ⟨n, rfl, hn, e⟩ | ⟨e1, e⟩
  rotate_left
  · rw [e1, if_neg (by decide), e]; exact ⟨_, rfl, rfl⟩
  rw [(isB_iff n).2 ⟨n, rfl, hn⟩, if_pos rfl, e]
  have hb := isN_le hn
  have a1 := td n 64
  have a2 := td n 4096
  have a3 := td n 262144
  have a4 := tm n 64
  simp only [Int.cast_ofNat_Int] at a1 a2 a3 a4
  rw [a1, a2, a3, a4]
  rw [w64 ((n / 64 : Nat) : Int) (by omega) (by omega), w64 ((n / 4096 : Nat) : Int) (by omega) (by omega), w64 ((n / 262144 : Nat) : Int) (by omega) (by omega)]
  have a5 := tm (n / 64) 64
  have a6 := tm (n / 4096) 64
  simp only [Int.cast_ofNat_Int] at a5 a6
  rw [a5, a6]
  rw [w64 (192 + ((n / 64 : Nat) : Int)) (by omega) (by omega), w64 (224 + ((n / 4096 : Nat) : Int)) (by omega) (by omega), w64 (240 + ((n / 262144 : Nat) : Int)) (by omega) (by omega), w64 (128 + ((n % 64 : Nat) : Int)) (by omega) (by omega), w64 (128 + ((n / 64 % 64 : Nat) : Int)) (by omega) (by omega), w64 (128 + ((n / 4096 % 64 : Nat) : Int)) (by omega) (by omega)]
  have hu : ∀ (x : Int) (m : Nat), x = (m : Int) → UInt8.ofNat (x % 256).toNat = UInt8.ofNat m := by
    rintro x m rfl
    rw [← UInt8.toNat_inj, u8, u8]; omega
  unfold encL cL
  by_cases h1 : n < 128
  · rw [if_pos (by omega), if_pos h1]
    refine ⟨_, rfl, ?_⟩
    rw [strOfNums_data]
    simp only [List.map_cons, List.map_nil]
    rw [hu _ _ rfl]
  rw [if_neg (by omega), if_neg h1]
  by_cases h2 : n < 2048
  · rw [if_pos (by omega), if_pos h2]
    refine ⟨_, rfl, ?_⟩
    rw [strOfNums_data]
    simp only [List.map_cons, List.map_nil]
    rw [hu _ (192 + n / 64) (by omega), hu _ (128 + n % 64) (by omega)]
  rw [if_neg (by omega), if_neg h2]
  by_cases h3 : n < 65536
  · rw [if_pos (by omega), if_pos h3]
    refine ⟨_, rfl, ?_⟩
    rw [strOfNums_data]
    simp only [List.map_cons, List.map_nil]
    rw [hu _ (224 + n / 4096) (by omega), hu _ (128 + n / 64 % 64) (by omega), hu _ (128 + n % 64) (by omega)]
  · rw [if_neg (by omega), if_neg h3]
    refine ⟨_, rfl, ?_⟩
    rw [strOfNums_data]
    simp only [List.map_cons, List.map_nil]
    rw [hu _ (240 + n / 262144) (by omega), hu _ (128 + n / 4096 % 64) (by omega), hu _ (128 + n / 64 % 64) (by omega), hu _ (128 + n % 64) (by omega)]
/-- A byte at a place, as a number. -/
def bn (l : List UInt8) (k : Nat) : Nat := (l.getD k 0).toNat
theorem bn_lt (l : List UInt8) (k : Nat) : bn l k < 256 := UInt8.toNat_lt _
theorem bt_bn (s : ByteArray) (k : Nat) (hk : k < s.size) : bt s (k : Int) = (bn s.data.toList k : Int) := by
  unfold bt bn
  rw [dif_pos (by simpa using hk)]
  have : (s[((k : Int).toNat)]'(by simpa using hk)) = s.data.toList.getD k 0 := by
    rw [List.getD_eq_getElem?_getD, List.getElem?_eq_getElem (by rw [← size_len]; exact hk)]
    simp [ByteArray.getElem_eq_getElem_data]
  rw [this]
def G (l : List UInt8) (n : Nat) : Nat :=
  if n = 1 then bn l 0 else if n = 2 then 64 * (bn l 0 % 32) + bn l 1 % 64 else if n = 3 then 64 * (64 * (bn l 0 % 16) + bn l 1 % 64) + bn l 2 % 64
  else 64 * (64 * (64 * (bn l 0 % 8) + bn l 1 % 64) + bn l 2 % 64) + bn l 3 % 64
theorem guess_step (k : Nat) (s : ByteArray) (n j x : Nat) (hj : j < n) (hn : n ≤ s.size) (hn4 : n ≤ 4) (hx : x ≤ 1000000) :
    copperplateref02_guess.l0 (k + 1) s n x j = copperplateref02_guess.l0 k s n ((64 * x + bn s.data.toList j % 64 : Nat) : Int) ((j + 1 : Nat) : Int) := by
  rw [copperplateref02_guess.l0, if_pos (by omega), if_pos (by omega), if_pos (by omega), bt_bn _ _ (by omega)]
  have h1 := bn_lt s.data.toList j
  rw [w64 ((bn s.data.toList j : Nat) : Int) (by omega) (by omega)]
  have a := tm (bn s.data.toList j) 64
  simp only [Int.cast_ofNat_Int] at a
  rw [a, w64 (64 * (x : Int)) (by omega) (by omega), w64 _ (by omega) (by omega), w64 _ (by omega) (by omega)]
  congr 1
theorem guess_end (k : Nat) (s : ByteArray) (n x : Nat) : copperplateref02_guess.l0 (k + 1) s n x n = some (x : Int) := by
  rw [copperplateref02_guess.l0, if_neg (by omega)]
theorem guess_f (k : Nat) (s : ByteArray) (n : Nat) (h1 : 1 ≤ n) (h4 : n ≤ 4) (hn : n ≤ s.size) : copperplateref02_guess.f (k + 7) s n = some (G s.data.toList n : Int) := by
  unfold copperplateref02_guess.f
  have hb := bn_lt s.data.toList 0
  have hb1 := bn_lt s.data.toList 1
  have hb2 := bn_lt s.data.toList 2
  have hb3 := bn_lt s.data.toList 3
  have e0 : bt s 0 = (bn s.data.toList 0 : Int) := bt_bn s 0 (by omega)
  rw [e0, w64 ((bn s.data.toList 0 : Nat) : Int) (by omega) (by omega)]
  have t1 := tm (bn s.data.toList 0) 32
  have t2 := tm (bn s.data.toList 0) 16
  have t3 := tm (bn s.data.toList 0) 8
  simp only [Int.cast_ofNat_Int] at t1 t2 t3
  rw [t1, t2]
  obtain rfl | rfl | rfl | rfl : n = 1 ∨ n = 2 ∨ n = 3 ∨ n = 4 := by omega
  · rw [if_pos (by omega), if_pos (by omega)]; rfl
  · rw [if_neg (by omega), if_pos (by omega), if_neg (by omega), copperplateref02_guess.j0, if_neg (by omega), copperplateref02_guess.j1]
    rw [show (1 : Int) = ((1 : Nat) : Int) from rfl, guess_step _ _ _ _ _ (by omega) hn h4 (by omega), guess_end]; rfl
  · rw [if_neg (by omega), if_pos (by omega), if_pos (by omega), copperplateref02_guess.j0, if_neg (by omega), copperplateref02_guess.j1]
    rw [show (1 : Int) = ((1 : Nat) : Int) from rfl, guess_step _ _ _ _ _ (by omega) hn h4 (by omega), guess_step _ _ _ _ _ (by omega) hn h4 (by omega), guess_end]; rfl
  · rw [if_neg (by omega), if_pos (by omega), if_neg (by omega), copperplateref02_guess.j0, if_pos (by omega), if_pos (by omega), copperplateref02_guess.j1, e0, w64 ((bn s.data.toList 0 : Nat) : Int) (by omega) (by omega), t3]
    rw [show (1 : Int) = ((1 : Nat) : Int) from rfl, guess_step _ _ _ _ _ (by omega) hn h4 (by omega), guess_step _ _ _ _ _ (by omega) hn h4 (by omega), guess_step _ _ _ _ _ (by omega) hn h4 (by omega), guess_end]; rfl
theorem G_enc {c : Nat} (hc : isN c) (r : List UInt8) : G (encL c ++ r) (encL c).length = c := by
  have hb := isN_le hc
  rw [encL_len]
  unfold encL cL G
  by_cases h1 : c < 128
  · rw [if_pos h1, if_pos h1]; simp [bn, u8]; omega
  rw [if_neg h1, if_neg h1]
  by_cases h2 : c < 2048
  · rw [if_pos h2, if_pos h2]; simp [bn, u8]; omega
  rw [if_neg h2, if_neg h2]
  by_cases h3 : c < 65536
  · rw [if_pos h3, if_pos h3]; simp [bn, u8]; omega
  · rw [if_neg h3, if_neg h3]; simp [bn, u8]; omega
theorem match_next {l : List UInt8} {n : Nat} (h1 : 1 ≤ n) (hn : n ≤ l.length) (h : (putOf (G l n : Int)).data.toList = l.take n) : nextL l = ((G l n : Int), (n : Int)) := by
  rcases put_data (G l n : Int) with ⟨c, e1, hc, e2⟩ | ⟨-, e2⟩
  · rw [e2] at h
    have e3 : l = encL c ++ l.drop n := by rw [h, List.take_append_drop]
    have hl : (encL c).length = n := by rw [h, List.length_take]; omega
    have := nextL_enc hc (l.drop n)
    rw [← e3, hl, ← e1] at this
    exact this
  · rw [e2] at h
    have := congrArg List.length h
    rw [List.length_take] at this
    simp at this
    omega
theorem rnext_l (s : ByteArray) (i : Nat) (hi : i < s.size) (hs : s.size ≤ 140737488355328) : ∀ (d n k : Nat), n + d = 5 → 1 ≤ n →
    (∀ m, 1 ≤ m → m < n → m ≤ s.size - i → (putOf (G (s.data.toList.drop i) m : Int)).data.toList ≠ (s.data.toList.drop i).take m) →
    copperplateref02_Next.l0 (k + 9 + 2 * d) s i n = some (nextL (s.data.toList.drop i)) := by
  have hlen : (s.data.toList.drop i).length = s.size - i := by rw [List.length_drop, ← size_len]
  have hfin : ∀ n : Nat, (4 < n ∨ s.size - i < n) → (∀ m, 1 ≤ m → m < n → m ≤ s.size - i → (putOf (G (s.data.toList.drop i) m : Int)).data.toList ≠ (s.data.toList.drop i).take m) → nextL (s.data.toList.drop i) = (0, 0) := by
    intro n hn hno
    rcases nextL_cases (s.data.toList.drop i) with ⟨c, r, hc, e1, e2⟩ | ⟨e2, -⟩
    · exfalso
      have hl := encL_bd c
      have h2 := congrArg List.length e1
      rw [hlen, List.length_append] at h2
      refine hno (encL c).length hl.1 (by omega) (by omega) ?_
      rw [e1, G_enc hc, List.take_left, putOf, if_pos ((isB_iff c).2 ⟨c, rfl, hc⟩), encode_L hc]
    · exact e2
  intro d
  induction d with
  | zero =>
    intro n k hd h1 hno
    obtain rfl : n = 5 := by omega
    rw [show k + 9 + 2 * 0 = (k + 7) + 1 + 1 by omega, copperplateref02_Next.l0, if_neg (by omega), copperplateref02_Next.j2, if_neg (by decide), hfin 5 (by omega) hno]
  | succ d ih =>
    intro n k hd h1 hno
    rw [show k + 9 + 2 * (d + 1) = (k + 9 + 2 * d) + 1 + 1 by omega, copperplateref02_Next.l0, if_pos (by omega)]
    have w1 : wrap64 ((s.size : Int) - i) = s.size - i := by unfold wrap64; omega
    rw [w1, copperplateref02_Next.j2]
    by_cases h2 : n ≤ s.size - i
    · rw [decide_eq_true (by omega), if_pos rfl, if_pos (by omega), if_pos (by omega)]
      have hse : (s.extract (i : Int).toNat s.size).data.toList = s.data.toList.drop i := by
        rw [ext_data, Int.toNat_natCast, size_len, List.take_length]
      rw [show k + 9 + 2 * d = (k + 2 + 2 * d) + 7 by omega, guess_f _ _ _ h1 (by omega) (by rw [size_len, hse, hlen]; exact h2), Option.bind_some, hse]
      obtain ⟨p, hp1, hp2⟩ := rput_f (G (s.data.toList.drop i) n : Int)
      rw [hp1, Option.bind_some]
      have w2 : wrap64 ((i : Int) + n) = ((i + n : Nat) : Int) := by unfold wrap64; omega
      rw [w2, if_pos (by omega), if_pos (by omega)]
      have hsx : (s.extract (i : Int).toNat (((i + n : Nat) : Int)).toNat).toList = (s.data.toList.drop i).take n := by
        rw [ByteArray.toList_eq, ext_data, Int.toNat_natCast, Int.toNat_natCast, List.drop_take, Nat.add_sub_cancel_left]
      rw [hsx, ByteArray.toList_eq, hp2]
      by_cases hm : (putOf (G (s.data.toList.drop i) n : Int)).data.toList = (s.data.toList.drop i).take n
      · rw [if_pos hm, match_next h1 (by omega) hm]
      · rw [if_neg hm]
        have w3 : wrap64 ((n : Int) + 1) = ((n + 1 : Nat) : Int) := by unfold wrap64; omega
        rw [w3]
        have := ih (n + 1) k (by omega) (by omega) (by
          intro m hm1 hm2 hm3
          by_cases h5 : m = n
          · subst h5; exact hm
          · exact hno m hm1 (by omega) hm3)
        rw [show k + 2 + 2 * d + 7 = k + 9 + 2 * d by omega]
        exact this
    · rw [decide_eq_false (by omega), if_neg (by decide), hfin n (by omega) hno]
theorem rnext_f (k : Nat) (s : ByteArray) (i : Int) (hs : s.size ≤ 140737488355328) : copperplateref02_Next.f (k + 18) s i = some (if i < 0 ∨ (s.size : Int) ≤ i then (0, 0) else nextL (s.data.toList.drop i.toNat)) := by
  unfold copperplateref02_Next.f
  by_cases h1 : i < 0
  · rw [if_pos h1, if_pos (Or.inl h1), copperplateref02_Next.j0, if_pos rfl]
  rw [if_neg h1]
  by_cases h2 : (s.size : Int) ≤ i
  · rw [if_pos (Or.inr h2), decide_eq_true (by omega), copperplateref02_Next.j0, if_pos rfl]
  rw [decide_eq_false (by omega), if_neg (by omega), copperplateref02_Next.j0, if_neg (by decide)]
  obtain ⟨n, rfl⟩ := Int.eq_ofNat_of_zero_le (show 0 ≤ i by omega)
  have := rnext_l s n (by omega) hs 4 1 k (by omega) (by omega) (by intro m h3 h4; omega)
  simpa using this
end Go.Proofs.Ytjibfhlacbgkgaa.PSpan.U
