/- What the callees of the laws on pages answer, in closed forms. -/
import Derived.Test.YtipjfdamkpgecaaHWideWideA
import Derived.Test.YtipjfdamkpgecaaHWidePagL
namespace Go.Proofs.Ytipjfdamkpgecaa.PWide
open Go.RowKit Go.Proofs.YtipjfdamkpgecaaW.PrintWords Go.Proofs.YtipjfdamkpgecaaW.PrintMore
set_option linter.unusedVariables false
theorem small_of {l : List S31} (h : ∀ x ∈ l, (Lit.int .i64 x.f0).wf = true ∧ x.f1.size ≤ 140737488351232) : small33 l := fun x hx => by have := (h x hx).2; omega
theorem wf64 {x : Int} (h : (Lit.int .i64 x).wf = true) : -9223372036854775808 ≤ x ∧ x ≤ 9223372036854775807 := by
  simp [Lit.wf, IntKind.min, IntKind.max, IntKind.signed, IntKind.bits] at h
  omega
theorem flat_f (m : Int) (s : ByteArray) : span_Flat.f m s = some (flatOf m s) := rfl
theorem gB_cons (x : S31) (l : List S31) (k : Nat) : gB (x :: l) (k + 1) = gB l k := by
  unfold gB rd_T31
  rw [Int.toNat_natCast, Int.toNat_natCast, List.getD_cons_succ]
theorem bulk_cons (x : S31) (l : List S31) : ∀ k, bulkB (x :: l) (k + 1) = x.f1.size + bulkB l k
  | 0 => by rw [bulkB, bulkB, bulkB, Nat.zero_add, Nat.add_zero]; rfl
  | k + 1 => by
    rw [bulkB, bulk_cons x l k, bulkB]
    have : gB (x :: l) (k + 1) = gB l k := gB_cons x l k
    rw [this]; omega
theorem bulk_sum : ∀ l : List S31, bulkB l l.length = (l.map fun x => x.f1.size).sum
  | [] => rfl
  | x :: l => by rw [List.length_cons, bulk_cons, bulk_sum l, List.map_cons, List.sum_cons]
/-- May it be printed at a width? -/
def roomB (l : List S31) (w : Int) : Bool := mayOf l && decide (1 ≤ w) && decide (w ≤ 65535)
theorem roomB_true {l : List S31} {w : Int} : roomB l w = true ↔ MayB l ∧ 1 ≤ w ∧ w ≤ 65535 := by
  unfold roomB
  rw [Bool.and_eq_true, Bool.and_eq_true, mayOf_iff, decide_eq_true_iff, decide_eq_true_iff, and_assoc]
theorem roomB_len {l : List S31} {w : Int} (h : l.length ≤ 17592186044416) : wide_Room.f l w = some (roomB l w) := room_f h w
theorem laid_f {l : List S31} (h : MayB l) (hs : small33 l) (hb : bulkB l l.length ≤ 1099511627776) (w : Int) : wide_laid.f l w = some (⟨(uptoP l w l.length).out.toArray⟩, colsL l w) := by
  unfold wide_laid.f; rw [if_pos ⟨h, hs, hb⟩]
def outB (l : List S31) (w : Int) : ByteArray := ⟨(uptoP l w l.length).out.toArray⟩
theorem bl_out (l : List S31) (w : Int) : bl (outB l w) = (uptoP l w l.length).out := rfl
theorem lay_f {l : List S31} (hl : l.length ≤ 17592186044416) (hs : small33 l) (hb : bulkB l l.length ≤ 1099511627776) (w : Int) : wide_Lay.f l w = some (if roomB l w = true then (outB l w, true) else (⟨#[]⟩, false)) := by
  unfold wide_Lay.f
  rw [roomB_len hl, Option.bind_some]
  by_cases g : roomB l w = true
  · rw [if_pos g, if_pos g, laid_f (roomB_true.1 g).1 hs hb]; rfl
  · rw [if_neg g, if_neg g]
theorem col_f {l : List S31} (hl : l.length ≤ 17592186044416) (hs : small33 l) (hb : bulkB l l.length ≤ 1099511627776) (w k : Int) : wide_Col.f l w k = some (if roomB l w = true ∧ 0 ≤ k ∧ k ≤ l.length then (uptoP l w k.toNat).col else -1) := by
  unfold wide_Col.f
  rw [roomB_len hl, Option.bind_some]
  by_cases g : roomB l w = true
  · rw [if_pos g]
    by_cases h0 : k < 0
    · rw [if_pos h0, if_neg (fun h => by omega)]
    · rw [if_neg h0]
      by_cases h1 : k > (l.length : Int)
      · rw [if_pos h1, if_neg (fun h => by omega)]
      · have hlen : (colsL l w).length = l.length + 1 := tab_len _ _
        rw [if_neg h1, laid_f (roomB_true.1 g).1 hs hb, Option.bind_some]
        dsimp only
        rw [hlen, if_pos (show 0 ≤ k by omega), if_pos (show k < ((l.length + 1 : Nat) : Int) by omega), if_pos (show roomB l w = true ∧ 0 ≤ k ∧ k ≤ (l.length : Int) from ⟨g, by omega, by omega⟩)]
        obtain ⟨n, rfl⟩ := Int.eq_ofNat_of_zero_le (show 0 ≤ k by omega)
        exact congrArg some (tab_rd (fun j => (uptoP l w j).col) (by omega))
  · rw [if_neg g, if_neg (fun h => g h.1)]
theorem upto_bd {l : List S31} (h : MayB l) (hb : bulkB l l.length ≤ 1099511627776) (w : Int) {k : Nat} (hk : k ≤ l.length) : 0 ≤ (uptoP l w k).col ∧ (uptoP l w k).col ≤ 2199023255552 ∧ (uptoP l w k).out.length ≤ 2199023255552 ∧ 0 ≤ (uptoP l w k).due ∧ (uptoP l w k).due ≤ 8000 ∧ 0 ≤ (uptoP l w k).ind ∧ (uptoP l w k).ind ≤ 8000 := by
  have o := okP h w k hk
  have hl := h.len
  have h1 := o.col1; have h2 := o.col0; have h3 := o.out; have h4 := o.due0; have h5 := o.due1; have h6 := o.ind
  have h7 := indB_le l k
  have h8 := h.ind k hk
  have h9 : (2 * k + 2) * k ≤ 8002 * 4000 := Nat.mul_le_mul (by omega) (by omega)
  have h10 := bulkB_mono l k (l.length - k)
  rw [show k + (l.length - k) = l.length by omega] at h10
  refine ⟨by omega, by omega, by omega, by omega, by omega, by omega, by omega⟩
end Go.Proofs.Ytipjfdamkpgecaa.PWide
