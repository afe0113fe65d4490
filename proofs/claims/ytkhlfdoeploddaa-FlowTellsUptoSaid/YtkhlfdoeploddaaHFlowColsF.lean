import Derived.Test.YtkhlfdoeploddaaHFlowNext
import Derived.Test.YtkhlfdoeploddaaPFlowx6
namespace Go.Proofs.Ytkhlfdoeploddaa.PFlow
open Go.RowKit Go.Proofs.YtkhlfdoeploddaaW.PrintWords Go.Proofs.YtkhlfdoeploddaaW.PrintLast Go.Proofs.YtkhlfdoeploddaaW.PrintMore
set_option linter.unusedVariables false
set_option linter.unusedSimpArgs false
theorem next_le (s : ByteArray) (k : Nat) : 0 ≤ (nextOf s k).2 ∧ (nextOf s k).2 ≤ 4 := by
  unfold nextOf
  dsimp only
  split
  · have h2 := encode_le (((Utf8.decode (s.extract k s.size) 0).1 : Nat) : Int)
    dsimp only
    omega
  · dsimp only; omega
/-- How far on. -/
def stepOf (s : ByteArray) (k : Nat) : Nat := if (nextOf s k).2.toNat = 0 then 1 else (nextOf s k).2.toNat
theorem stepOf_bd (s : ByteArray) (k : Nat) : 1 ≤ stepOf s k ∧ stepOf s k ≤ 4 := by
  have := next_le s k
  unfold stepOf
  split <;> omega
/-- A text's columns from a place on. -/
def colsFrom (s : ByteArray) (k : Nat) : Nat := if k < s.size then 1 + colsFrom s (k + stepOf s k) else 0
termination_by s.size - k
decreasing_by have := stepOf_bd s k; omega
theorem colsFrom_le (s : ByteArray) (d : Nat) : ∀ k, s.size - k = d → colsFrom s k ≤ d := by
  induction d using Nat.strongRecOn with
  | ind d ih =>
    intro k hk
    rw [colsFrom]
    split
    · have h1 := stepOf_bd s k
      have h2 := ih (s.size - (k + stepOf s k)) (by omega) (k + stepOf s k) rfl
      omega
    · omega
def colsOf (s : ByteArray) : Int := (colsFrom s 0 : Int)
theorem colsOf_bd (s : ByteArray) : 0 ≤ colsOf s ∧ colsOf s ≤ s.size := by
  have := colsFrom_le s s.size 0 (by omega)
  unfold colsOf
  omega
theorem mx_step (s : ByteArray) (k : Nat) : mx 1 (nextOf s k).2 = (stepOf s k : Int) := by
  have h0 := next_le s k
  unfold mx stepOf
  generalize (nextOf s k).2 = z at h0 ⊢
  split <;> split <;> omega
theorem wr_add (a b : Nat) (h : a + b ≤ 9223372036854775807) : wrap64 ((a : Int) + (b : Int)) = ((a + b : Nat) : Int) := by unfold wrap64; omega
theorem cols_l (s : ByteArray) (hs : s.size ≤ 4611686018427387904) (d : Nat) : ∀ (K i n : Nat), s.size - i = d → d < K → i ≤ s.size + 4 → n + d ≤ 4611686018427387904 → span_Cols.l0 K s n i = some ((n + colsFrom s i : Nat) : Int) := by
  induction d using Nat.strongRecOn with
  | ind d ih =>
    intro K i n hd hK hi hn
    obtain ⟨K, rfl⟩ : ∃ K', K = K' + 1 := ⟨K - 1, by omega⟩
    rw [span_Cols.l0]
    by_cases hlt : i < s.size
    · rw [if_pos (by omega)]
      unfold utf_Next.f
      rw [if_pos hs, if_neg (by omega), Option.bind_some, Int.toNat_natCast]
      have h1 := stepOf_bd s i
      have e1 := mx_step s i
      have e3 : colsFrom s i = 1 + colsFrom s (i + stepOf s i) := by rw [colsFrom, if_pos hlt]
      rw [e1, e3]
      clear e1 e3
      generalize stepOf s i = q at h1 ⊢
      have w1 := wr_add n 1 (by omega)
      have w2 := wr_add i q (by omega)
      have hih := ih (s.size - (i + q)) (by omega) K (i + q) (n + 1) rfl (by omega) (by omega) (by omega)
      rw [show ((n : Int) + 1) = ((n : Int) + ((1 : Nat) : Int)) from rfl, w1, w2, hih, Nat.add_assoc]
    · have e0 : colsFrom s i = 0 := by rw [colsFrom, if_neg hlt]
      rw [if_neg (by omega), e0, Nat.add_zero]
theorem cols_f (s : ByteArray) (hs : s.size ≤ 4611686018427387904) (K : Nat) (hK : s.size < K) : span_Cols.f K s = some (colsOf s) := by
  have := cols_l s hs s.size K 0 0 (by omega) hK (by omega) (by omega)
  unfold span_Cols.f colsOf
  rw [Nat.zero_add] at this
  exact this
theorem cols_calls (s : ByteArray) (hs : s.size ≤ 4611686018427387904) (w : World) :
    Calls Try.prog 19 #[.string s] w fun e w' => e = .returned (.int .i64 (colsOf s)) ∧ Below w.heap.size w w' :=
  span_Cols.calls (s.size + 1) s _ w (cols_f s hs _ (by omega))
end Go.Proofs.Ytkhlfdoeploddaa.PFlow
