/- The pure statement of UtfBack. -/
import Derived.Test.YtbboehjbfcajdaaPUtfx9
import Derived.Test.YtbboehjbfcajdaaPureUtfLib
namespace Go.Proofs.Ytbboehjbfcajdaa.Pure
open Go.RowKit Go.Proofs.Ytbboehjbfcajdaa.PUtf Go.Proofs.YtbboehjbfcajdaaW.PrintWords
set_option linter.unusedVariables false

theorem back_two (b : ByteArray) (i : Int) (hb : b.size ≤ 600) (hi : (Lit.int .i64 i).wf = true) : copperplatelaw02_UtfBack.j1 1 b i false = some true := by
  simp [Lit.wf, IntKind.min, IntKind.max, IntKind.signed, IntKind.bits] at hi
  simp only [copperplatelaw02_UtfBack.j1, Bool.false_eq_true, if_false]
  rw [next_f _ _ (by omega), Option.bind_some]
  by_cases hr : i < 0 ∨ (b.size : Int) ≤ i
  · rw [if_pos hr]; simp
  rw [if_neg hr]
  rcases nextL_cases (b.data.toList.drop i.toNat) with ⟨n, r, hn, e1, e2⟩ | ⟨e2, -⟩
  rotate_left
  · rw [e2]; simp
  rw [e2]
  have hl := encL_bd n
  have hle : i + (encL n).length ≤ b.size := by
    have := congrArg List.length e1
    rw [List.length_drop, ← size_len, List.length_append] at this
    omega
  have w1 : wrap64 ((b.size : Int) - i) = b.size - i := by unfold wrap64; omega
  have w2 : wrap64 (i + ((encL n).length : Int)) = i + (encL n).length := by unfold wrap64; omega
  have hB := (isB_iff n).2 ⟨n, rfl, hn⟩
  have e3 : (b.extract i.toNat (i + ((encL n).length : Int)).toNat).toList = encL n := by
    rw [ByteArray.toList_eq, ext_data, show (i + ((encL n).length : Int)).toNat = i.toNat + (encL n).length by omega, List.drop_take, Nat.add_sub_cancel_left, e1, List.take_left]
  have e4 : (putOf (n : Int)).toList = encL n := by rw [ByteArray.toList_eq, putOf, if_pos hB, encode_L hn]
  dsimp only
  rw [w1, w2]
  unfold utf_Put.f
  rw [if_neg (by omega), if_pos (by omega), if_pos (by omega), if_pos (by omega), Option.bind_some, if_pos (by omega), if_pos (by omega), if_pos (by omega), e3, e4]
  simp
theorem UtfBack : copperplatelaw02_UtfBack.Pure := by
  intro a r b i ha hr hb hi
  refine ⟨2, ?_⟩
  unfold copperplatelaw02_UtfBack.f copperplatelaw02_awake.f
  simp only [Option.bind_some, if_true, copperplatelaw02_UtfBack.j0]
  by_cases h1 : (a.size : Int) > 600
  · rw [if_pos h1]
  rw [if_neg h1]
  by_cases h2 : (b.size : Int) > 600
  · rw [decide_eq_true h2, if_pos rfl]
  rw [decide_eq_false h2, if_neg (by decide)]
  have hj := back_two b i (by omega) hi
  unfold utf_Put.f
  rw [Option.bind_some]
  rcases put_data r with ⟨n, rfl, hn, e⟩ | ⟨-, e⟩
  · have hl := encL_bd n
    have hsz : (putOf (n : Int)).size = (encL n).length := by rw [size_len, e]
    have hs2 : ((a ++ putOf (n : Int)) ++ b).size = a.size + (encL n).length + b.size := by rw [ByteArray.size_append, ByteArray.size_append, hsz]
    have e2 : ((a ++ putOf (n : Int)) ++ b).data.toList.drop ((a.size : Int)).toNat = encL n ++ b.data.toList := by
      rw [Int.toNat_natCast, ByteArray.data_append, ByteArray.data_append, Array.toList_append, Array.toList_append, e, List.append_assoc, size_len, List.drop_left]
    have e3 : utf_Next.f (a ++ putOf (n : Int) ++ b) (a.size : Int) = some ((n : Int), ((encL n).length : Int)) := by
      rw [next_f _ _ (by omega), if_neg (by omega), e2, nextL_enc hn]
    rw [if_pos (by omega), if_pos (by rw [ByteArray.size_append]; omega), e3, Option.bind_some]
    rw [if_neg (by rw [ByteArray.toList_eq, e]; intro h; rw [h] at hl; simp at hl)]
    dsimp only
    rw [if_pos rfl, if_pos (by rw [hsz]), decide_eq_false (by omega)]
    exact hj
  · have hsz : (putOf r).size = 0 := by rw [e]; rfl
    rw [if_pos (by omega), if_pos (by rw [ByteArray.size_append]; omega), next_f _ _ (by rw [ByteArray.size_append, ByteArray.size_append]; omega), Option.bind_some]
    rw [if_pos (by rw [e, ByteArray.toList_eq])]
    exact hj
end Go.Proofs.Ytbboehjbfcajdaa.Pure
