/- The pure statement of SpanCols. -/
import Derived.Test.YtjibfhlacbgkgaaPSpanx20
import Derived.Test.YtjibfhlacbgkgaaPureSpanLib
import Derived.Test.YtjibfhlacbgkgaaHSpanUtfB
namespace Go.Proofs.Ytjibfhlacbgkgaa.PSpan
open Go.RowKit Go.Proofs.YtjibfhlacbgkgaaW.PrintWords Go.Proofs.YtjibfhlacbgkgaaW.PrintMore
set_option linter.unusedVariables false
set_option linter.unusedSimpArgs false
def stepL (l : List UInt8) : Nat := if (U.nextL l).2.toNat = 0 then 1 else (U.nextL l).2.toNat
theorem stepL_pos (l : List UInt8) : 1 ≤ stepL l := by unfold stepL; split <;> omega
/-- A text's columns, by its bytes. -/
def colsL (l : List UInt8) : Nat := if h : l = [] then 0 else 1 + colsL (l.drop (stepL l))
termination_by l.length
decreasing_by
  have := stepL_pos l
  have : 0 < l.length := List.length_pos_iff.2 h
  rw [List.length_drop]; omega
theorem colsL_nil : colsL [] = 0 := by rw [colsL, dif_pos rfl]
theorem colsFrom_L (s : ByteArray) (d : Nat) : ∀ k, s.size - k = d → colsFrom s k = colsL ((bl s).drop k) := by
  induction d using Nat.strongRecOn with
  | ind d ih =>
    intro k hk
    by_cases h : k < s.size
    · have hne : (bl s).drop k ≠ [] := by
        intro e
        have := congrArg List.length e
        rw [List.length_drop, bl_len] at this
        simp at this; omega
      have hst : stepOf s k = stepL ((bl s).drop k) := by
        unfold stepOf stepL
        rw [U.nextOf_L s k (by omega)]; rfl
      have h1 := stepOf_bd s k
      rw [colsFrom, if_pos h, colsL, dif_neg hne, ih (s.size - (k + stepOf s k)) (by omega) (k + stepOf s k) rfl, List.drop_drop, hst]
    · rw [colsFrom, if_neg h, List.drop_eq_nil_of_le (by rw [bl_len]; omega), colsL_nil]
theorem colsOf_L (s : ByteArray) : colsOf s = (colsL (bl s) : Int) := by
  unfold colsOf
  rw [colsFrom_L s _ 0 rfl, List.drop_zero]
theorem colsL_enc {n : Nat} (hn : U.isN n) (l : List UInt8) : colsL (U.encL n ++ l) = 1 + colsL l := by
  have h1 := U.encL_bd n
  have hne : U.encL n ++ l ≠ [] := by
    intro e
    have := congrArg List.length e
    rw [List.length_append, List.length_nil] at this
    omega
  have hst : stepL (U.encL n ++ l) = (U.encL n).length := by
    unfold stepL
    rw [U.nextL_enc hn]
    dsimp only
    rw [Int.toNat_natCast, if_neg (by omega)]
  rw [colsL, dif_neg hne, hst, List.drop_left]
theorem colsL_cat : ∀ (cs : List Nat) (h : ∀ c ∈ cs, U.isN c) (l : List UInt8), colsL (cs.flatMap U.encL ++ l) = cs.length + colsL l
  | [], _, l => by simp
  | c :: cs, h, l => by
    rw [List.flatMap_cons, List.append_assoc, colsL_enc (h c (List.mem_cons_self ..)), colsL_cat cs (fun x hx => h x (List.mem_cons_of_mem _ hx)) l, List.length_cons]; omega
theorem bl_app (a b : ByteArray) : bl (a ++ b) = bl a ++ bl b := by unfold bl; rw [ByteArray.data_append, Array.toList_append]
theorem toList_bl (a : ByteArray) : a.toList = bl a := ByteArray.toList_eq a
theorem emp_cs (cs : List Nat) : ((cs.flatMap U.encL == ([] : List UInt8)) == ((cs.length : Int) == 0)) = true := by
  cases cs with
  | nil => rfl
  | cons c cs =>
    have hb := U.encL_bd c
    have h1 : ((c :: cs).flatMap U.encL == ([] : List UInt8)) = false := by
      rw [beq_eq_false_iff_ne]
      intro e
      have := congrArg List.length e
      rw [List.flatMap_cons, List.length_append, List.length_nil] at this
      omega
    have h2 : (((c :: cs).length : Int) == 0) = false := by
      rw [beq_eq_false_iff_ne, List.length_cons]; omega
    rw [h1, h2]; rfl
theorem cols_cs {a : ByteArray} {cs : List Nat} (hcs : ∀ c ∈ cs, U.isN c) (ea : bl a = cs.flatMap U.encL) (b : ByteArray) : colsOf (a ++ b) = (cs.length : Int) + colsOf b := by
  rw [colsOf_L, bl_app, ea, colsL_cat cs hcs, colsOf_L]; omega
theorem cols_cs0 {a : ByteArray} {cs : List Nat} (hcs : ∀ c ∈ cs, U.isN c) (ea : bl a = cs.flatMap U.encL) : colsOf a = (cs.length : Int) := by
  rw [colsOf_L, ea]
  have := colsL_cat cs hcs []
  rw [List.append_nil, colsL_nil] at this
  rw [this]; omega
theorem cols_put {r : Int} (n : Nat) (e : r = n) (hn : U.isN n) (hp : (putOf r).data.toList = U.encL n) : colsOf (putOf r) = 1 := by
  rw [colsOf_L, show bl (putOf r) = U.encL n from hp]
  have e4 := colsL_enc hn []
  rw [List.append_nil, colsL_nil] at e4
  rw [e4]; rfl
theorem main_cs (K : Nat) (a b : ByteArray) (r : Int) {cs : List Nat} (hcs : ∀ c ∈ cs, U.isN c) (ea : bl a = cs.flatMap U.encL) (ha : a.size ≤ 300) (hb : b.size ≤ 300) (hK : a.size + b.size + 10 < K) :
    copperplatelaw17_SpanCols.j0 (K + 1) a b r true false = some true := by
  have na := cols_cs0 hcs ea
  have sab : (a ++ b).size = a.size + b.size := ByteArray.size_append
  have bd := (colsOf_bd a).2
  have bdb := colsOf_bd b
  have hemp := emp_cs cs
  rw [← ea, ← toList_bl] at hemp
  rw [copperplatelaw17_SpanCols.j0, if_neg (by decide), cols_f a (by omega) _ (by omega), Option.bind_some, show utf_Put.f r = some (putOf r) from rfl, Option.bind_some, if_pos (by omega), cols_f (a ++ b) (by omega) _ (by omega), cols_f b (by omega) _ (by omega)]
  rw [Option.bind_some, Option.bind_some]
  rw [cols_cs hcs ea b, na]
  rw [na] at bd
  rw [wrap_id (by omega) (by omega), if_pos rfl, if_pos bd, hemp]
  rcases U.put_data r with ⟨n, e, hn, hp⟩ | ⟨_, hp⟩
  · have hbn := U.encL_bd n
    have hl : (putOf r).size = (U.encL n).length := by rw [← hp, Array.length_toList]; rfl
    have hone : colsOf (a ++ putOf r) = (cs.length : Int) + 1 := by rw [cols_cs hcs ea (putOf r), cols_put n e hn hp]
    have hne : ¬ (putOf r).toList = ([] : List UInt8) := by
      rw [toList_bl]
      intro e
      have := congrArg List.length e
      rw [bl_len, hl, List.length_nil] at this
      omega
    have sap : (a ++ putOf r).size = a.size + (putOf r).size := ByteArray.size_append
    rw [if_neg hne, if_pos (by omega), cols_f _ (by omega) _ (by omega), Option.bind_some, hone, wrap_id (by omega) (by omega), if_pos rfl]
  · rw [hp, if_pos (show (⟨#[]⟩ : ByteArray).toList = [] by rw [toList_bl]; rfl)]
theorem _root_.Go.Proofs.Ytjibfhlacbgkgaa.Pure.SpanCols : copperplatelaw17_SpanCols.Pure := by
  intro a b r ha hb _
  refine ⟨a.size + b.size + 20 + 1, ?_⟩
  have J : copperplatelaw17_SpanCols.j0 (a.size + b.size + 20 + 1) a b r true true = some true := rfl
  unfold copperplatelaw17_SpanCols.f copperplatelaw17_awake.f
  rw [Option.bind_some, if_pos rfl]
  by_cases c1 : (a.size : Int) > 300
  · rw [if_pos c1]; exact J
  rw [if_neg c1]
  by_cases c2 : (b.size : Int) > 300
  · rw [if_pos c2]; exact J
  rw [if_neg c2, U.may_f a ha, Option.bind_some]
  obtain ⟨cs, q, hcs, ea, hq⟩ := U.bad_dec (bl a)
  have e1 := U.badL_cat cs hcs q
  rw [← ea] at e1
  have e1' : U.badL a.data.toList = (U.badL q).map (· + (cs.flatMap U.encL).length) := e1
  rcases hq with rfl | ⟨hne, h0, _⟩
  rotate_left
  · rw [U.badL_stop hne h0] at e1'
    rw [e1']; exact J
  rw [List.append_nil] at ea
  rw [U.badL_nil] at e1'
  rw [e1']
  exact main_cs (a.size + b.size + 20) a b r hcs ea (by omega) (by omega) (by omega)
end Go.Proofs.Ytjibfhlacbgkgaa.PSpan
