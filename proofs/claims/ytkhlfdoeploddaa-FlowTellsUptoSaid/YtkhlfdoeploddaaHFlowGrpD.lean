import Derived.Test.YtkhlfdoeploddaaHFlowColsF
namespace Go.Proofs.Ytkhlfdoeploddaa.PFlow
open Go.RowKit Go.Proofs.YtkhlfdoeploddaaW.PrintWords Go.Proofs.YtkhlfdoeploddaaW.PrintMore
set_option linter.unusedVariables false
set_option linter.unusedSimpArgs false
/-! Closed forms of what the layer of groups reckons: plain definitions. -/
def valB (m : Int) : Int := if m = 6 then 1 else if m = 7 then -1 else 0
def cntB (l : List S34) (a : Nat) : Nat → Int
  | 0 => 1
  | m + 1 => cntB l a m + valB (rd_T34 l ((a + m : Nat) : Int)).f0
theorem valB_bd (m : Int) : -1 ≤ valB m ∧ valB m ≤ 1 := by unfold valB; (repeat' split) <;> omega
def matchOf (l : List S34) (i : Int) : Int :=
  if i < 0 ∨ (l.length : Int) ≤ i then -1 else if (rd_T34 l i).f0 ≠ 6 then -1 else
    (((List.range (l.length - (i.toNat + 1))).find? (fun m => cntB l (i.toNat + 1) (m + 1) == 0)).map (fun m => ((i.toNat + 1 + m : Nat) : Int))).getD (-1)
theorem match_none {l : List S34} {i : Nat} (hi : i < l.length) (h6 : (rd_T34 l (i : Int)).f0 = 6) (h : ∀ j, j < l.length - (i + 1) → cntB l (i + 1) (j + 1) ≠ 0) : matchOf l i = -1 := by
  unfold matchOf
  rw [if_neg (by omega), if_neg (by simpa using h6), Int.toNat_natCast, List.find?_eq_none.2]
  · rfl
  · intro j hj
    simpa using h j (List.mem_range.1 hj)
theorem match_some {l : List S34} {i m : Nat} (hm : i + 1 + m < l.length) (h6 : (rd_T34 l (i : Int)).f0 = 6) (h : ∀ j, j < m → cntB l (i + 1) (j + 1) ≠ 0) (h0 : cntB l (i + 1) (m + 1) = 0) : matchOf l i = ((i + 1 + m : Nat) : Int) := by
  unfold matchOf
  rw [if_neg (by omega), if_neg (by simpa using h6), Int.toNat_natCast]
  have : (List.range (l.length - (i + 1))).find? (fun m => cntB l (i + 1) (m + 1) == 0) = some m := by
    rw [show l.length - (i + 1) = m + 1 + (l.length - (i + 1) - (m + 1)) by omega, List.range_add, List.range_succ, List.append_assoc, List.find?_append, List.find?_eq_none.2]
    · simp [h0]
    · intro j hj
      simpa using h j (List.mem_range.1 hj)
  rw [this]
  rfl
def flatOf (m : Int) (s : ByteArray) : ByteArray × Bool :=
  if m = 0 then (s, true) else if m = 1 ∨ m = 2 then (⟨#[32]⟩, true) else if m = 4 then (⟨#[44, 32]⟩, true)
  else if m = 3 ∨ m = 6 ∨ m = 7 ∨ m = 8 ∨ m = 9 then (⟨#[]⟩, true) else (⟨#[]⟩, false)
def brB (m : Int) : Bool := m == 2 || m == 3 || m == 4 || m == 5
def addN (l : List S34) (M : Int) (k : Nat) : Int := if (k : Int) < M ∨ (rd_T34 l k).f0 = 0 ∨ (rd_T34 l k).f0 = 1 then colsOf (flatOf (rd_T34 l k).f0 (rd_T34 l k).f1).1 else 0
def brkN (l : List S34) (M : Int) (k : Nat) : Bool := decide (M < (k : Int)) && brB (rd_T34 l k).f0
def retN (l : List S34) (M : Int) (k : Nat) : Bool := decide ((k : Int) < M) && !(flatOf (rd_T34 l k).f0 (rd_T34 l k).f1).2
def needRun (l : List S34) (M : Int) : Nat → Nat → Int → Int
  | 0, _, n => n
  | d + 1, k, n => if brkN l M k = true then n else if retN l M k = true then -1 else needRun l M d (k + 1) (wrap64 (n + addN l M k))
def needOf (l : List S34) (i : Int) : Int := if matchOf l i < 0 then -1 else needRun l (matchOf l i) (l.length - (i.toNat + 1)) (i.toNat + 1) 0
def small33 (l : List S34) : Prop := ∀ x ∈ l, x.f1.size ≤ 140737488355328
instance (l : List S34) : Decidable (small33 l) := by unfold small33; infer_instance
end Go.Proofs.Ytkhlfdoeploddaa.PFlow
