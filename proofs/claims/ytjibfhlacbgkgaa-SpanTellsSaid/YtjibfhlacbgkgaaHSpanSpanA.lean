import Derived.Test.YtjibfhlacbgkgaaHSpanNeed
import Derived.Test.YtjibfhlacbgkgaaHSpanGrpL
import Derived.Test.YtjibfhlacbgkgaaPSpanx7
namespace Go.Proofs.Ytjibfhlacbgkgaa.PSpan
open Go.RowKit Go.Proofs.YtjibfhlacbgkgaaW.PrintWords Go.Proofs.YtjibfhlacbgkgaaW.PrintMore
set_option linter.unusedVariables false
set_option linter.unusedSimpArgs false
def copperplatelaw17_awake.f : Option Bool := some true
theorem colsFrom_end {s : ByteArray} {k : Nat} (h : ¬ k < s.size) : colsFrom s k = 0 := by rw [colsFrom, if_neg h]
theorem colsFrom_step {s : ByteArray} {k : Nat} (q : Nat) (h : k < s.size) (hq : stepOf s k = q) : colsFrom s k = 1 + colsFrom s (k + q) := by rw [colsFrom, if_pos h, hq]
theorem cols_one (c : UInt8) (h : stepOf ⟨#[c]⟩ 0 = 1) : colsOf ⟨#[c]⟩ = 1 := by
  unfold colsOf
  rw [colsFrom_step 1 (show 0 < 1 by decide) h, colsFrom_end (show ¬ 0 + 1 < 1 by decide)]; rfl
theorem cols_ab : colsOf ⟨#[97, 98]⟩ = 2 := by
  unfold colsOf
  rw [colsFrom_step 1 (by decide) (by decide +kernel), colsFrom_step 1 (by decide) (by decide +kernel), colsFrom_end (by decide)]; rfl
theorem cols_ea : colsOf ⟨#[195, 169, 97]⟩ = 2 := by
  unfold colsOf
  rw [colsFrom_step 2 (by decide) (by decide +kernel), colsFrom_step 1 (by decide) (by decide +kernel), colsFrom_end (by decide)]; rfl
def lA : List S23 := [⟨6, ⟨#[]⟩⟩, ⟨0, ⟨#[97, 98]⟩⟩, ⟨2, ⟨#[]⟩⟩, ⟨0, ⟨#[99]⟩⟩, ⟨7, ⟨#[]⟩⟩, ⟨0, ⟨#[100]⟩⟩, ⟨3, ⟨#[]⟩⟩, ⟨0, ⟨#[101]⟩⟩]
theorem lA_match : matchOf lA 0 = 4 := by decide +kernel
theorem lA_small : small33 lA := by
  intro x hx
  simp only [lA, List.mem_cons, List.not_mem_nil, or_false] at hx
  rcases hx with rfl | rfl | rfl | rfl | rfl | rfl | rfl | rfl <;> decide
theorem lA_need : needOf lA 0 = 5 := by
  rcases group_cases lA_small (by decide) 0 with ⟨h, _⟩ | ⟨i', k, e, h1, h2, h3⟩
  · rw [lA_match] at h; exact absurd h (by decide)
  · rw [lA_match] at h1
    obtain rfl : k = 4 := by omega
    obtain rfl : i' = 0 := by omega
    rw [h2]
    unfold needV
    rw [if_pos (by decide +kernel)]
    have a1 : colA lA 1 = 2 := (colA_flat (l := lA) (k := 1) (x := ⟨0, ⟨#[97, 98]⟩⟩) rfl).trans cols_ab
    have a2 : colA lA 2 = 1 := (colA_flat (l := lA) (k := 2) (x := ⟨2, ⟨#[]⟩⟩) rfl).trans (cols_one 32 (by decide +kernel))
    have a3 : colA lA 3 = 1 := (colA_flat (l := lA) (k := 3) (x := ⟨0, ⟨#[99]⟩⟩) rfl).trans (cols_one 99 (by decide +kernel))
    have a5 : colA lA 5 = 1 := (colA_flat (l := lA) (k := 5) (x := ⟨0, ⟨#[100]⟩⟩) rfl).trans (cols_one 100 (by decide +kernel))
    have s : sumC lA (0 + 1) (4 - (0 + 1)) = 4 := by
      show ((0 + colA lA 1) + colA lA 2) + colA lA 3 = 4
      rw [a1, a2, a3]; rfl
    have b : behB lA (lA.length - (4 + 1)) (4 + 1) = 1 := by
      show (if brB (gB lA 5).f0 = true then 0 else tsB lA 5 + (if brB (gB lA 6).f0 = true then 0 else tsB lA 6 + behB lA 1 7)) = 1
      rw [if_neg (by decide), if_pos (by decide)]
      have : tsB lA 5 = 1 := by unfold tsB; rw [if_pos (by decide), a5]
      rw [this]; rfl
    rw [s, b]; rfl
theorem awake_yes : copperplatelaw17_awake_p.f 10 = some true := by
  have e1 : span_Flat.f (rd_T23 lA 2).f0 (rd_T23 lA 2).f1 = some (⟨#[32]⟩, true) := rfl
  have e2 : span_Need.f lA 0 = some 5 := by unfold span_Need.f; rw [if_pos ⟨by decide, lA_small⟩, lA_need]
  have e3 : span_Match.f lA 0 = some 4 := by unfold span_Match.f; rw [if_pos (by decide), lA_match]
  have e4 : span_Cols.f 10 ⟨#[195, 169, 97]⟩ = some 2 := by rw [cols_f _ (by decide) _ (by decide), cols_ea]
  have e5 : span_Breaks.f (rd_T23 lA 6).f0 (rd_T23 lA 6).f1 = some true := by rw [breaks_f]; rfl
  have e6 : span_Breaks.f (rd_T23 lA 0).f0 (rd_T23 lA 0).f1 = some false := by rw [breaks_f]; rfl
  have hl : lA = [(⟨6, (⟨#[]⟩ : ByteArray)⟩ : S23), (⟨0, (⟨#[97, 98]⟩ : ByteArray)⟩ : S23), (⟨2, (⟨#[]⟩ : ByteArray)⟩ : S23), (⟨0, (⟨#[99]⟩ : ByteArray)⟩ : S23), (⟨7, (⟨#[]⟩ : ByteArray)⟩ : S23), (⟨0, (⟨#[100]⟩ : ByteArray)⟩ : S23), (⟨3, (⟨#[]⟩ : ByteArray)⟩ : S23), (⟨0, (⟨#[101]⟩ : ByteArray)⟩ : S23)] := rfl
  unfold copperplatelaw17_awake_p.f
  rw [← hl]
  simp only [Option.bind_some]
  rw [if_pos (by decide), e1]
  simp only [Option.bind_some]
  rw [e2]
  simp only [Option.bind_some, if_true]
  rw [e3]
  simp only [Option.bind_some, if_true]
  rw [e4]
  simp only [Option.bind_some, if_true]
  rw [if_pos (by decide +kernel), if_pos (by decide), e5]
  simp only [Option.bind_some, if_true]
  rw [if_pos (by decide), e6]
  rfl
theorem copperplatelaw17_awake.calls (r : Bool) (w : World) (h : copperplatelaw17_awake.f = some r) :
    Calls Try.prog 10 #[] w fun e w' => e = .returned (.bool r) ∧ Below w.heap.size w w' := by
  obtain rfl : true = r := Option.some.inj h
  exact copperplatelaw17_awake_p.calls 10 true w awake_yes rfl
end Go.Proofs.Ytjibfhlacbgkgaa.PSpan
