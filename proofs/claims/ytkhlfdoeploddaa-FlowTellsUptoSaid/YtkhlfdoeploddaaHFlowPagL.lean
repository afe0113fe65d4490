/- Plain facts of pages: no program in sight. -/
import Derived.Test.YtkhlfdoeploddaaHFlowGrpL
namespace Go.Proofs.Ytkhlfdoeploddaa.PFlow
open Go.RowKit Go.Proofs.YtkhlfdoeploddaaW.PrintWords Go.Proofs.YtkhlfdoeploddaaW.PrintMore
set_option linter.unusedVariables false
set_option linter.unusedSimpArgs false
/-! ### Pages -/
/-- A page: what is told, the indent, the column, the blanks that are due, and up to where it is flat. -/
structure PgB where
  out : List UInt8
  ind : Int
  col : Int
  due : Int
  flat : Int
def pg0 : PgB := ⟨[], 0, 0, 0, -1⟩
def bl (s : ByteArray) : List UInt8 := s.data.toList
theorem bl_len (s : ByteArray) : (bl s).length = s.size := by unfold bl; rw [Array.length_toList]; rfl
def putP (p : PgB) (s : ByteArray) : PgB := if s.size = 0 then p else { p with out := p.out ++ List.replicate p.due.toNat 32 ++ bl s, due := 0, col := p.col + colsOf s }
def lineP (p : PgB) : PgB := { p with out := p.out ++ [10], col := p.ind, due := p.ind }
/-- One bit; b: whether a group fits, M: where it ends. -/
def stepP (x : S34) (i : Int) (b : Bool) (M : Int) (p : PgB) : PgB :=
  if x.f0 = 6 then (if p.flat < 0 ∧ b = true then { p with flat := M } else p)
  else if x.f0 = 7 then (if p.flat = i then { p with flat := -1 } else p)
  else if x.f0 = 8 then { p with ind := p.ind + 2 }
  else if x.f0 = 9 then { p with ind := p.ind - 2 }
  else if brB x.f0 = true ∧ (p.flat < 0 ∨ x.f0 = 5) then lineP p
  else putP p (flatOf x.f0 x.f1).1
def fitP (l : List S34) (w : Int) (i : Nat) (col : Int) : Bool := decide (0 ≤ needOf l (i : Int) ∧ col + needOf l (i : Int) ≤ w)
def uptoP (l : List S34) (w : Int) : Nat → PgB
  | 0 => pg0
  | k + 1 => stepP (gB l k) k (fitP l w k (uptoP l w k).col) (matchOf l k) (uptoP l w k)
theorem uptoP_succ (l : List S34) (w : Int) (k : Nat) : uptoP l w (k + 1) = stepP (gB l k) k (fitP l w k (uptoP l w k).col) (matchOf l k) (uptoP l w k) := rfl
/-- Told by what stands ahead, and by what its groups need. -/
theorem uptoP_congr {a b : List S34} {w : Int} : ∀ (k : Nat), (∀ j, j < k → gB a j = gB b j) → (∀ j, j < k → (gB b j).f0 = 6 → matchOf a j = matchOf b j ∧ needOf a j = needOf b j) → uptoP a w k = uptoP b w k
  | 0, _, _ => rfl
  | k + 1, h1, h2 => by
    rw [uptoP_succ, uptoP_succ, uptoP_congr k (fun j hj => h1 j (by omega)) (fun j hj => h2 j (by omega)), h1 k (by omega)]
    by_cases g : (gB b k).f0 = 6
    · obtain ⟨e1, e2⟩ := h2 k (by omega) g
      unfold fitP; rw [e1, e2]
    · unfold stepP; rw [if_neg g, if_neg g]
/-- Seven kinds of bits. -/
theorem stepP_other {x : S34} {i : Int} {b b' : Bool} {M M' : Int} {p : PgB} (h : x.f0 ≠ 6) : stepP x i b M p = stepP x i b' M' p := by
  unfold stepP; rw [if_neg h, if_neg h]
/-! What stays true. -/
def bulkB (l : List S34) : Nat → Nat
  | 0 => 0
  | k + 1 => bulkB l k + (gB l k).f1.size
structure OkP (l : List S34) (k : Nat) (p : PgB) : Prop where
  ind : p.ind = 2 * indB l k
  due0 : 0 ≤ p.due
  due1 : p.due ≤ 2 * k
  due2 : p.due % 2 = 0
  col0 : 0 ≤ p.col
  col1 : p.col ≤ 2 * k + 2 * k + bulkB l k
  out : p.out.length ≤ (2 * k + 2) * k + bulkB l k
  flat : p.flat = -1 ∨ ∃ i m : Nat, p.flat = m ∧ IsM l i m ∧ i < k ∧ k ≤ m
theorem indB_le (l : List S34) : ∀ k, indB l k ≤ k
  | 0 => by rw [indB]; omega
  | k + 1 => by
    have := indB_le l k
    have : valI (gB l k).f0 ≤ 1 := by unfold valI; (repeat' split) <;> omega
    rw [indB]; omega
theorem flatOf_size2 (m : Int) (s : ByteArray) : (flatOf m s).1.size ≤ s.size + 2 := by
  unfold flatOf
  (repeat' split) <;> (dsimp only; have : (⟨#[32]⟩ : ByteArray).size = 1 := rfl; have : (⟨#[44, 32]⟩ : ByteArray).size = 2 := rfl; have : (⟨#[]⟩ : ByteArray).size = 0 := rfl; omega)
theorem okP {l : List S34} (h : MayB l) (w : Int) : ∀ k, k ≤ l.length → OkP l k (uptoP l w k)
  | 0, _ => ⟨rfl, Int.le_refl 0, Int.le_refl 0, rfl, Int.le_refl 0, Int.le_refl 0, Nat.le_refl 0, .inl rfl⟩
  | k + 1, hk => by
    have ih := okP h w k (by omega)
    obtain ⟨g1, g2, g3, g4, g5, g6, g7, g8⟩ := ih
    have hI := h.ind k (by omega)
    have hI1 := h.ind (k + 1) hk
    have hle := indB_le l k
    rw [uptoP_succ]
    generalize uptoP l w k = p at g1 g2 g3 g4 g5 g6 g7 g8 ⊢
    have mul : (2 * (k + 1) + 2) * (k + 1) = (2 * k + 2) * k + (4 * k + 4) := by
      rw [show 2 * (k + 1) + 2 = 2 * k + 2 + 2 by omega, Nat.mul_add, Nat.add_mul (2 * k + 2) 2 k]; omega
    have hb : bulkB l (k + 1) = bulkB l k + (gB l k).f1.size := rfl
    have hi : indB l (k + 1) = indB l k + valI (gB l k).f0 := rfl
    have keep : k ∈ [k] → ∀ f : Int, (f = -1 ∨ ∃ i m : Nat, f = m ∧ IsM l i m ∧ i < k ∧ k ≤ m) → (gB l k).f0 ≠ 7 → f = -1 ∨ ∃ i m : Nat, f = m ∧ IsM l i m ∧ i < k + 1 ∧ k + 1 ≤ m := by
      intro _ f hf h7
      rcases hf with hf | ⟨i, m, e, hm, a, b⟩
      · exact .inl hf
      · refine .inr ⟨i, m, e, hm, by omega, ?_⟩
        by_cases q : k = m
        · subst q; exact absurd hm.close h7
        · omega
    have keep := keep (List.mem_singleton.2 rfl)
    unfold stepP
    by_cases c6 : (gB l k).f0 = 6
    · rw [if_pos c6]
      have hv : valI (gB l k).f0 = 0 := by rw [c6]; rfl
      split
      · rename_i hc
        refine ⟨by dsimp only; rw [g1, hi, hv]; omega, g2, by dsimp only; omega, g4, g5, by dsimp only; omega, by dsimp only; omega, ?_⟩
        obtain ⟨m, hm⟩ := h.group (by omega) c6
        refine .inr ⟨k, m, hm.mt, hm, by omega, hm.lt⟩
      · exact ⟨by rw [g1, hi, hv]; omega, g2, by omega, g4, g5, by omega, by omega, keep _ g8 (by omega)⟩
    rw [if_neg c6]
    by_cases c7 : (gB l k).f0 = 7
    · rw [if_pos c7]
      have hv : valI (gB l k).f0 = 0 := by rw [c7]; rfl
      split
      · exact ⟨by dsimp only; rw [g1, hi, hv]; omega, g2, by dsimp only; omega, g4, g5, by dsimp only; omega, by dsimp only; omega, .inl rfl⟩
      · rename_i hc
        refine ⟨by rw [g1, hi, hv]; omega, g2, by omega, g4, g5, by omega, by omega, ?_⟩
        rcases g8 with hf | ⟨i, m, e, hm, a, b⟩
        · exact .inl hf
        · have hkm : k ≠ m := by intro q; subst q; exact hc e
          exact .inr ⟨i, m, e, hm, by omega, by omega⟩
    rw [if_neg c7]
    have kp := keep _ g8 c7
    by_cases c8 : (gB l k).f0 = 8
    · rw [if_pos c8]
      have hv : valI (gB l k).f0 = 1 := by rw [c8]; rfl
      exact ⟨by dsimp only; rw [g1, hi, hv]; omega, g2, by dsimp only; omega, g4, g5, by dsimp only; omega, by dsimp only; omega, kp⟩
    rw [if_neg c8]
    by_cases c9 : (gB l k).f0 = 9
    · rw [if_pos c9]
      have hv : valI (gB l k).f0 = -1 := by rw [c9]; rfl
      exact ⟨by dsimp only; rw [g1, hi, hv]; omega, g2, by dsimp only; omega, g4, g5, by dsimp only; omega, by dsimp only; omega, kp⟩
    rw [if_neg c9]
    have hv : valI (gB l k).f0 = 0 := by unfold valI; rw [if_neg c8, if_neg c9]
    rw [hv] at hi
    split
    · unfold lineP
      refine ⟨by dsimp only; rw [g1, hi]; omega, by dsimp only; omega, by dsimp only; omega, by dsimp only; omega, by dsimp only; omega, by dsimp only; omega, ?_, kp⟩
      dsimp only
      rw [List.length_append, List.length_singleton]; omega
    · unfold putP
      split
      · exact ⟨by rw [g1, hi]; omega, g2, by omega, g4, g5, by omega, by omega, kp⟩
      · have h1 := flatOf_size2 (gB l k).f0 (gB l k).f1
        have h2 := colsOf_bd (flatOf (gB l k).f0 (gB l k).f1).1
        refine ⟨by dsimp only; rw [g1, hi]; omega, by dsimp only; omega, by dsimp only; omega, by dsimp only; omega, by dsimp only; omega, by dsimp only; omega, ?_, kp⟩
        dsimp only
        rw [List.length_append, List.length_append, List.length_replicate, bl_len]
        have : p.due.toNat ≤ 2 * k := by omega
        omega
/-! ### Laws on pages -/
def keepC (c : UInt8) : Bool := c != 32 && c != 44 && c != 10
def textsB (l : List S34) : Nat → List UInt8
  | 0 => []
  | k + 1 => textsB l k ++ bl (gB l k).f1
theorem bl_nil {s : ByteArray} (h : s.size = 0) : bl s = [] := List.eq_nil_of_length_eq_zero (by rw [bl_len]; exact h)
theorem keep_blanks (n : Nat) : (List.replicate n (32 : UInt8)).filter keepC = [] := by
  rw [List.filter_eq_nil_iff]
  intro a ha
  rw [(List.mem_replicate.1 ha).2]; decide
theorem wide_texts {l : List S34} (h : MayB l) (w : Int) : ∀ k, k ≤ l.length → (∀ j, j < k → ∀ c ∈ bl (gB l j).f1, keepC c = true) → (uptoP l w k).out.filter keepC = textsB l k
  | 0, _, _ => rfl
  | k + 1, hk, hc => by
    have ih := wide_texts h w k (by omega) (fun j hj => hc j (by omega))
    have hb := h.bit k (by omega)
    have hck := hc k (by omega)
    rw [uptoP_succ, textsB, ← ih]
    generalize uptoP l w k = p
    have e0 : (gB l k).f0 ≠ 0 → bl (gB l k).f1 = [] := fun g => bl_nil (hb.2.2 g)
    unfold stepP
    by_cases c6 : (gB l k).f0 = 6
    · rw [if_pos c6, e0 (by omega), List.append_nil]; split <;> rfl
    rw [if_neg c6]
    by_cases c7 : (gB l k).f0 = 7
    · rw [if_pos c7, e0 (by omega), List.append_nil]; split <;> rfl
    rw [if_neg c7]
    by_cases c8 : (gB l k).f0 = 8
    · rw [if_pos c8, e0 (by omega), List.append_nil]
    rw [if_neg c8]
    by_cases c9 : (gB l k).f0 = 9
    · rw [if_pos c9, e0 (by omega), List.append_nil]
    rw [if_neg c9]
    split
    · rename_i hbr
      rw [e0 (by intro e; rw [e] at hbr; exact absurd hbr.1 (by decide)), List.append_nil]
      unfold lineP
      dsimp only
      rw [List.filter_append]
      show _ ++ [] = _
      rw [List.append_nil]
    · unfold putP
      split
      · rename_i hz
        by_cases g0 : (gB l k).f0 = 0
        · rw [g0] at hz
          have : (gB l k).f1.size = 0 := hz
          rw [bl_nil this, List.append_nil]
        · rw [e0 g0, List.append_nil]
      · dsimp only
        rw [List.filter_append, List.filter_append, keep_blanks, List.append_nil]
        congr 1
        by_cases g0 : (gB l k).f0 = 0
        · rw [g0]
          show (bl (gB l k).f1).filter keepC = _
          exact List.filter_eq_self.2 hck
        · rw [e0 g0]
          unfold flatOf
          rw [if_neg g0]
          (repeat' split) <;> rfl
/-! What is told only grows. -/
theorem step_out (x : S34) (i : Int) (b : Bool) (M : Int) (p : PgB) : ∃ t, (stepP x i b M p).out = p.out ++ t := by
  unfold stepP
  (repeat' split) <;> first | exact ⟨[], (List.append_nil _).symm⟩ | exact ⟨[10], rfl⟩ | (unfold putP; split <;> first | exact ⟨[], (List.append_nil _).symm⟩ | exact ⟨_, List.append_assoc _ _ _⟩)
theorem upto_out (l : List S34) (w : Int) (k : Nat) : ∀ d, ∃ t, (uptoP l w (k + d)).out = (uptoP l w k).out ++ t
  | 0 => ⟨[], (List.append_nil _).symm⟩
  | d + 1 => by
    obtain ⟨t, ht⟩ := upto_out l w k d
    obtain ⟨s, hs⟩ := step_out (gB l (k + d)) ((k + d : Nat) : Int) (fitP l w (k + d) (uptoP l w (k + d)).col) (matchOf l ((k + d : Nat) : Int)) (uptoP l w (k + d))
    exact ⟨t ++ s, by rw [← Nat.add_assoc, uptoP_succ, hs, ht, List.append_assoc]⟩
theorem tsB_col2 {l : List S34} (h : MayB l) {k : Nat} (hk : k < l.length) (hb : brB (gB l k).f0 = false) : tsB l k = colA l k := by
  have h1 := h.bit k hk
  unfold tsB
  by_cases g : (gB l k).f0 = 0 ∨ (gB l k).f0 = 1
  · rw [if_pos g]
  · rw [if_neg g]
    have : (gB l k).f0 = 6 ∨ (gB l k).f0 = 7 ∨ (gB l k).f0 = 8 ∨ (gB l k).f0 = 9 := by
      unfold brB at hb
      simp only [Bool.or_eq_false_iff, beq_eq_false_iff_ne] at hb
      omega
    unfold colA
    rcases this with e | e | e | e <;> (rw [e]; exact cols_none.symm)
/-! Lists of bits that may be printed. -/
theorem depB_left (a b : List S34) {k : Nat} (h : k ≤ a.length) : depB (a ++ b) k = depB a k := depB_congr k fun j hj => by rw [gB_left (by omega)]
theorem depB_app (a b : List S34) : ∀ k, depB (a ++ b) (a.length + k) = depB a a.length + depB b k
  | 0 => by rw [Nat.add_zero, depB_left a b (Nat.le_refl _), depB_zero, Int.add_zero]
  | k + 1 => by rw [← Nat.add_assoc, depB_succ, depB_app a b k, gB_right, depB_succ]; omega
theorem indB_congr {a b : List S34} : ∀ (k : Nat), (∀ j, j < k → (gB a j).f0 = (gB b j).f0) → indB a k = indB b k
  | 0, _ => rfl
  | k + 1, h => by rw [indB, indB, indB_congr k (fun j hj => h j (by omega)), h k (by omega)]
theorem indB_left (a b : List S34) {k : Nat} (h : k ≤ a.length) : indB (a ++ b) k = indB a k := indB_congr k fun j hj => by rw [gB_left (by omega)]
theorem indB_app (a b : List S34) : ∀ k, indB (a ++ b) (a.length + k) = indB a a.length + indB b k
  | 0 => by rw [Nat.add_zero, indB_left a b (Nat.le_refl _), indB_zero, Int.add_zero]
  | k + 1 => by rw [← Nat.add_assoc, indB_succ, indB_app a b k, gB_right, indB_succ]; omega
theorem MayB.app {a b : List S34} (ha : MayB a) (hb : MayB b) (hl : a.length + b.length ≤ 4000) : MayB (a ++ b) := by
  refine ⟨by rw [List.length_append]; exact hl, fun k hk => ?_, fun k hk => ?_, fun k hk => ?_, ?_, ?_⟩
  · by_cases g : k < a.length
    · rw [gB_left g]; exact ha.bit k g
    · obtain ⟨d, rfl⟩ : ∃ d, k = a.length + d := ⟨k - a.length, by omega⟩
      rw [gB_right]; exact hb.bit d (by rw [List.length_append] at hk; omega)
  · by_cases g : k ≤ a.length
    · rw [depB_left _ _ g]; exact ha.dep k g
    · obtain ⟨d, rfl⟩ : ∃ d, k = a.length + d := ⟨k - a.length, by omega⟩
      rw [depB_app, ha.dep0]; have := hb.dep d (by rw [List.length_append] at hk; omega); omega
  · by_cases g : k ≤ a.length
    · rw [indB_left _ _ g]; exact ha.ind k g
    · obtain ⟨d, rfl⟩ : ∃ d, k = a.length + d := ⟨k - a.length, by omega⟩
      rw [indB_app, ha.ind0]; have := hb.ind d (by rw [List.length_append] at hk; omega); omega
  · rw [List.length_append, depB_app, ha.dep0, hb.dep0]; rfl
  · rw [List.length_append, indB_app, ha.ind0, hb.ind0]; rfl
theorem one_bit {x : S34} {k : Nat} (h : k < [x].length) : gB [x] k = x := by
  have : k = 0 := by simp at h; exact h
  subst this; exact gB_zero _ _
theorem mayB_hard : MayB [⟨5, ⟨#[]⟩⟩] := by
  refine ⟨by decide, fun k hk => ?_, fun k hk => ?_, fun k hk => ?_, ?_, ?_⟩
  · rw [one_bit hk]; exact ⟨by decide, by decide, fun _ => rfl⟩
  · have : k = 0 ∨ k = 1 := by simp at hk; omega
    rcases this with rfl | rfl
    · exact Int.le_refl 0
    · rw [depB, gB_zero]; decide
  · have : k = 0 ∨ k = 1 := by simp at hk; omega
    rcases this with rfl | rfl
    · exact Int.le_refl 0
    · rw [indB, gB_zero]; decide
  · show depB _ 1 = 0
    rw [depB, gB_zero]; rfl
  · show indB _ 1 = 0
    rw [indB, gB_zero]; rfl
/-- In a group, or moved in. -/
theorem mayB_wrap {l : List S34} (h : MayB l) (hl : l.length + 2 ≤ 4000) (a b : Int) (hab : (a = 6 ∧ b = 7) ∨ (a = 8 ∧ b = 9)) : MayB ([⟨a, ⟨#[]⟩⟩] ++ l ++ [⟨b, ⟨#[]⟩⟩]) := by
  have z : ∀ x : Int, depB [(⟨x, ⟨#[]⟩⟩ : S34)] [(⟨x, ⟨#[]⟩⟩ : S34)].length = valB x := fun x => by show (0 : Int) + valB (gB [(⟨x, ⟨#[]⟩⟩ : S34)] 0).f0 = _; rw [gB_zero, Int.zero_add]
  have zi : ∀ x : Int, indB [(⟨x, ⟨#[]⟩⟩ : S34)] [(⟨x, ⟨#[]⟩⟩ : S34)].length = valI x := fun x => by show (0 : Int) + valI (gB [(⟨x, ⟨#[]⟩⟩ : S34)] 0).f0 = _; rw [gB_zero, Int.zero_add]
  have hv : 0 ≤ valB a ∧ valB a + valB b = 0 ∧ 0 ≤ valI a ∧ valI a + valI b = 0 := by rcases hab with ⟨rfl, rfl⟩ | ⟨rfl, rfl⟩ <;> decide
  have d0 : ∀ x : Int, ∀ k, k ≤ 1 → depB [(⟨x, ⟨#[]⟩⟩ : S34)] k = if k = 0 then 0 else valB x := fun x k hk => by
    have : k = 0 ∨ k = 1 := by omega
    rcases this with rfl | rfl
    · rfl
    · exact z x
  have i0 : ∀ x : Int, ∀ k, k ≤ 1 → indB [(⟨x, ⟨#[]⟩⟩ : S34)] k = if k = 0 then 0 else valI x := fun x k hk => by
    have : k = 0 ∨ k = 1 := by omega
    rcases this with rfl | rfl
    · rfl
    · exact zi x
  have l1 : ∀ x : Int, [(⟨x, ⟨#[]⟩⟩ : S34)].length = 1 := fun _ => rfl
  rw [List.append_assoc]
  refine ⟨by simp; omega, fun k hk => ?_, fun k hk => ?_, fun k hk => ?_, ?_, ?_⟩
  · by_cases g : k < 1
    · rw [gB_left (by rw [l1]; exact g), one_bit (by rw [l1]; exact g)]
      rcases hab with ⟨rfl, rfl⟩ | ⟨rfl, rfl⟩ <;> exact ⟨by decide, by decide, fun _ => rfl⟩
    · obtain ⟨d, rfl⟩ : ∃ d, k = 1 + d := ⟨k - 1, by omega⟩
      have := gB_right [(⟨a, ⟨#[]⟩⟩ : S34)] (l ++ [⟨b, ⟨#[]⟩⟩]) d
      rw [l1] at this
      rw [this]
      by_cases g2 : d < l.length
      · rw [gB_left g2]; exact h.bit d g2
      · obtain ⟨e, rfl⟩ : ∃ e, d = l.length + e := ⟨d - l.length, by omega⟩
        rw [gB_right, one_bit (by simp at hk ⊢; omega)]
        rcases hab with ⟨rfl, rfl⟩ | ⟨rfl, rfl⟩ <;> exact ⟨by decide, by decide, fun _ => rfl⟩
  · by_cases g : k ≤ 1
    · rw [depB_left _ _ (by rw [l1]; exact g), d0 a k g]; split <;> omega
    · obtain ⟨d, rfl⟩ : ∃ d, k = 1 + d := ⟨k - 1, by omega⟩
      have := depB_app [(⟨a, ⟨#[]⟩⟩ : S34)] (l ++ [⟨b, ⟨#[]⟩⟩]) d
      rw [z] at this
      rw [l1] at this
      rw [this]
      by_cases g2 : d ≤ l.length
      · rw [depB_left _ _ g2]; have := h.dep d g2; omega
      · obtain ⟨e, rfl⟩ : ∃ e, d = l.length + e := ⟨d - l.length, by omega⟩
        have he : e = 1 := by simp at hk; omega
        subst he
        rw [depB_app, h.dep0, d0 b 1 (by omega)]; simp; omega
  · by_cases g : k ≤ 1
    · rw [indB_left _ _ (by rw [l1]; exact g), i0 a k g]; split <;> omega
    · obtain ⟨d, rfl⟩ : ∃ d, k = 1 + d := ⟨k - 1, by omega⟩
      have := indB_app [(⟨a, ⟨#[]⟩⟩ : S34)] (l ++ [⟨b, ⟨#[]⟩⟩]) d
      rw [zi] at this
      rw [l1] at this
      rw [this]
      by_cases g2 : d ≤ l.length
      · rw [indB_left _ _ g2]; have := h.ind d g2; omega
      · obtain ⟨e, rfl⟩ : ∃ e, d = l.length + e := ⟨d - l.length, by omega⟩
        have he : e = 1 := by simp at hk; omega
        subst he
        rw [indB_app, h.ind0, i0 b 1 (by omega)]; simp; omega
  · rw [List.length_append, depB_app, z, List.length_append, depB_app, h.dep0, z]; omega
  · rw [List.length_append, indB_app, zi, List.length_append, indB_app, h.ind0, zi]; omega
/-! A group on one line. -/
def flatcat (l : List S34) : Nat → List UInt8
  | 0 => []
  | k + 1 => flatcat l k ++ bl (flatOf (gB l k).f0 (gB l k).f1).1
def grp (l : List S34) : List S34 := [⟨6, ⟨#[]⟩⟩] ++ l ++ [⟨7, ⟨#[]⟩⟩]
theorem grp_len (l : List S34) : (grp l).length = l.length + 2 := by unfold grp; simp
theorem grp_zero (l : List S34) : gB (grp l) 0 = ⟨6, ⟨#[]⟩⟩ := by unfold grp; rw [List.append_assoc]; exact gB_zero _ _
theorem grp_in {l : List S34} {k : Nat} (h : k < l.length) : gB (grp l) (k + 1) = gB l k := by
  unfold grp; rw [List.append_assoc]
  show gB (⟨6, ⟨#[]⟩⟩ :: (l ++ _)) (k + 1) = _
  rw [gB_succ, gB_left h]
theorem grp_last (l : List S34) : gB (grp l) (l.length + 1) = ⟨7, ⟨#[]⟩⟩ := by
  unfold grp; rw [List.append_assoc]
  show gB (⟨6, ⟨#[]⟩⟩ :: (l ++ _)) (l.length + 1) = _
  rw [gB_succ]
  have := gB_right l [(⟨7, ⟨#[]⟩⟩ : S34)] 0
  rw [Nat.add_zero] at this
  exact this.trans (gB_zero _ _)
theorem grp_dep {l : List S34} : ∀ k, k ≤ l.length → depB (grp l) (k + 1) = 1 + depB l k
  | 0, _ => by rw [depB_succ, grp_zero]; rfl
  | k + 1, h => by rw [depB_succ, grp_dep k (by omega), grp_in (by omega), depB_succ]; omega
theorem grp_isM {l : List S34} (h : MayB l) : IsM (grp l) 0 (l.length + 1) := by
  refine ⟨by omega, by rw [grp_len]; omega, by rw [grp_zero], ?_, fun j h1 h2 => ?_⟩
  · rw [depB_succ, grp_dep _ (Nat.le_refl _), h.dep0, grp_last]; rfl
  · obtain ⟨j, rfl⟩ : ∃ d, j = d + 1 := ⟨j - 1, by omega⟩
    rw [grp_dep j (by omega)]
    have := h.dep j (by omega)
    show (0 : Int) < _
    omega
theorem grp_flat {l : List S34} (h : MayB l) (hs : small33 l) (hl : l.length + 2 ≤ 4000) (w : Int) (hf : ∀ j, j < l.length → flA l j = true) (hw : sumC l 0 l.length ≤ w) :
    ∀ k, k ≤ l.length → (uptoP (grp l) w (k + 1)).out = flatcat l k ∧ (uptoP (grp l) w (k + 1)).due = 0 ∧ (uptoP (grp l) w (k + 1)).flat = (l.length : Int) + 1
  | 0, _ => by
    have hm := grp_isM h
    have hs' : small33 (grp l) := small_app (small_app (small_one (by decide)) hs) (small_one (by decide))
    have hn : needOf (grp l) ((0 : Nat) : Int) = sumC l 0 l.length := by
      rw [hm.need hs' (by rw [grp_len]; omega)]
      unfold needV
      rw [show l.length + 1 - (0 + 1) = l.length by omega, grp_len, show l.length + 2 - (l.length + 1 + 1) = 0 by omega, behB]
      have e : ∀ j, j < l.length → gB (grp l) (0 + 1 + j) = gB l (0 + j) := fun j hj => by rw [show 0 + 1 + j = j + 1 by omega, grp_in hj, Nat.zero_add]
      rw [if_pos ((allF_congr e).2 fun j hj => by rw [Nat.zero_add]; exact hf j hj), sumC_congr _ e]; omega
    have hfit : fitP (grp l) w 0 (uptoP (grp l) w 0).col = true := by
      unfold fitP
      rw [hn]
      have := sumC_nn l 0 l.length
      exact decide_eq_true ⟨this, by show (0 : Int) + _ ≤ _; omega⟩
    rw [uptoP_succ, hfit, hm.mt, grp_zero]
    exact ⟨rfl, rfl, by show ((l.length + 1 : Nat) : Int) = _; omega⟩
  | k + 1, hk => by
    obtain ⟨h1, h2, h3⟩ := grp_flat h hs hl w hf hw k (by omega)
    rw [uptoP_succ, grp_in (by omega), flatcat, ← h1]
    have hfk := hf k (by omega)
    unfold flA at hfk
    generalize uptoP (grp l) w (k + 1) = p at h1 h2 h3 ⊢
    generalize gB l k = x at hfk ⊢
    unfold stepP
    have nn : ¬ p.flat < 0 := by omega
    by_cases c6 : x.f0 = 6
    · rw [if_pos c6, if_neg (fun h => nn h.1), c6]
      exact ⟨(List.append_nil _).symm, h2, h3⟩
    rw [if_neg c6]
    by_cases c7 : x.f0 = 7
    · rw [if_pos c7, if_neg (by omega), c7]
      exact ⟨(List.append_nil _).symm, h2, h3⟩
    rw [if_neg c7]
    by_cases c8 : x.f0 = 8
    · rw [if_pos c8, c8]
      exact ⟨(List.append_nil _).symm, h2, h3⟩
    rw [if_neg c8]
    by_cases c9 : x.f0 = 9
    · rw [if_pos c9, c9]
      exact ⟨(List.append_nil _).symm, h2, h3⟩
    rw [if_neg c9, if_neg (fun h => h.2.elim nn (fun e => by rw [e] at hfk; exact nomatch (show false = true from hfk)))]
    unfold putP
    split
    · rename_i hz
      rw [bl_nil hz]
      exact ⟨(List.append_nil _).symm, h2, h3⟩
    · dsimp only
      rw [h2]
      exact ⟨by simp, rfl, h3⟩
theorem grp_out {l : List S34} (h : MayB l) (hs : small33 l) (hl : l.length + 2 ≤ 4000) (w : Int) (hf : ∀ j, j < l.length → flA l j = true) (hw : sumC l 0 l.length ≤ w) : (uptoP (grp l) w (grp l).length).out = flatcat l l.length := by
  obtain ⟨h1, h2, h3⟩ := grp_flat h hs hl w hf hw l.length (Nat.le_refl _)
  rw [grp_len, uptoP_succ, grp_last, ← h1]
  unfold stepP
  rw [if_neg (by decide), if_pos rfl]
  split <;> rfl
/-- A new line is told. -/
theorem hard_line {l : List S34} (w : Int) {j : Nat} (h : (gB l j).f0 = 5) : (uptoP l w (j + 1)).out = (uptoP l w j).out ++ [10] := by
  rw [uptoP_succ]
  unfold stepP
  rw [if_neg (by omega), if_neg (by omega), if_neg (by omega), if_neg (by omega), if_pos ⟨by rw [h]; decide, .inr h⟩]
  rfl
theorem hard_in {l : List S34} (w : Int) {j : Nat} (hj : j < l.length) (h : (gB l j).f0 = 5) : (10 : UInt8) ∈ (uptoP l w l.length).out := by
  obtain ⟨t, ht⟩ := upto_out l w (j + 1) (l.length - (j + 1))
  rw [show j + 1 + (l.length - (j + 1)) = l.length by omega] at ht
  rw [ht, hard_line w h]
  simp
theorem flA_hard {l : List S34} (h : MayB l) {j : Nat} (hj : j < l.length) : flA l j = false ↔ (gB l j).f0 = 5 := by
  have := h.bit j hj
  unfold flA flatOf
  constructor
  · intro hf
    (repeat' split at hf) <;> first | omega | simp at hf
  · intro e; rw [e]; rfl
/-! Moved in. -/
def insB (p : Bool) : List UInt8 → List UInt8
  | [] => []
  | c :: r => (if p = true ∧ c ≠ 10 then [32, 32, c] else [c]) ++ insB (c == 10) r
def lastB (p : Bool) : List UInt8 → Bool
  | [] => p
  | c :: r => lastB (c == 10) r
theorem insB_app : ∀ (a b : List UInt8) (p : Bool), insB p (a ++ b) = insB p a ++ insB (lastB p a) b
  | [], b, p => rfl
  | c :: a, b, p => by rw [List.cons_append, insB, insB, lastB, insB_app a b, List.append_assoc]
theorem lastB_app : ∀ (a b : List UInt8) (p : Bool), lastB p (a ++ b) = lastB (lastB p a) b
  | [], b, p => rfl
  | c :: a, b, p => by rw [List.cons_append, lastB, lastB, lastB_app a b]
theorem insB_no : ∀ (a : List UInt8), (∀ c ∈ a, c ≠ 10) → insB false a = a
  | [], _ => rfl
  | c :: a, h => by
    have h0 : (c == 10) = false := beq_eq_false_iff_ne.2 (h c (List.mem_cons_self ..))
    rw [insB, h0, insB_no a (fun x hx => h x (List.mem_cons_of_mem _ hx)), if_neg (by simp)]; rfl
theorem insB_new {a : List UInt8} (h : ∀ c ∈ a, c ≠ 10) (ha : a ≠ []) (p : Bool) : insB p a = (if p = true then [32, 32] else []) ++ a := by
  cases a with
  | nil => exact absurd rfl ha
  | cons c a =>
    have h1 := h c (List.mem_cons_self ..)
    have h0 : (c == 10) = false := beq_eq_false_iff_ne.2 h1
    rw [insB, h0, insB_no a (fun x hx => h x (List.mem_cons_of_mem _ hx))]
    cases p with
    | true => rw [if_pos ⟨rfl, h1⟩, if_pos rfl]; rfl
    | false => rw [if_neg (by simp), if_neg (by simp)]; rfl
theorem lastB_no {a : List UInt8} (h : ∀ c ∈ a, c ≠ 10) (ha : a ≠ []) (p : Bool) : lastB p a = false := by
  induction a generalizing p with
  | nil => exact absurd rfl ha
  | cons c a ih =>
    have h0 : (c == 10) = false := beq_eq_false_iff_ne.2 (h c (List.mem_cons_self ..))
    rw [lastB, h0]
    cases a with
    | nil => rfl
    | cons d a => exact ih (fun x hx => h x (List.mem_cons_of_mem _ hx)) (by simp) false
def movd (l : List S34) : List S34 := [⟨8, ⟨#[]⟩⟩] ++ l ++ [⟨9, ⟨#[]⟩⟩]
theorem movd_len (l : List S34) : (movd l).length = l.length + 2 := by unfold movd; simp
theorem movd_zero (l : List S34) : gB (movd l) 0 = ⟨8, ⟨#[]⟩⟩ := by unfold movd; rw [List.append_assoc]; exact gB_zero _ _
theorem movd_in {l : List S34} {k : Nat} (h : k < l.length) : gB (movd l) (k + 1) = gB l k := by
  unfold movd; rw [List.append_assoc]
  show gB (⟨8, ⟨#[]⟩⟩ :: (l ++ _)) (k + 1) = _
  rw [gB_succ, gB_left h]
theorem movd_last (l : List S34) : gB (movd l) (l.length + 1) = ⟨9, ⟨#[]⟩⟩ := by
  unfold movd; rw [List.append_assoc]
  show gB (⟨8, ⟨#[]⟩⟩ :: (l ++ _)) (l.length + 1) = _
  rw [gB_succ]
  have := gB_right l [(⟨9, ⟨#[]⟩⟩ : S34)] 0
  rw [Nat.add_zero] at this
  exact this.trans (gB_zero _ _)
structure MvR (p q : PgB) : Prop where
  out : q.out = insB false p.out
  ind : q.ind = p.ind + 2
  due : q.due = p.due + (if lastB false p.out = true then 2 else 0)
  due0 : 0 ≤ p.due
  ind0 : 0 ≤ p.ind
  f1 : p.flat = -1
  f2 : q.flat = -1
theorem flat_no10 {x : S34} (h : ∀ c ∈ bl x.f1, c ≠ 10) : ∀ c ∈ bl (flatOf x.f0 x.f1).1, c ≠ (10 : UInt8) := by
  unfold flatOf
  (repeat' split) <;> first | exact h | (intro c hc; revert c; decide)
theorem moved {l : List S34} (h : MayB l) (w : Int) (ho : ∀ j, j < l.length → (gB l j).f0 ≠ 6) (hn : ∀ j, j < l.length → ∀ c ∈ bl (gB l j).f1, c ≠ 10) :
    ∀ k, k ≤ l.length → MvR (uptoP l w k) (uptoP (movd l) w (k + 1))
  | 0, _ => by
    rw [uptoP_succ, movd_zero]
    exact ⟨rfl, rfl, rfl, Int.le_refl 0, Int.le_refl 0, rfl, rfl⟩
  | k + 1, hk => by
    obtain ⟨h1, h2, h3, h4, h4', h5, h6⟩ := moved h w ho hn k (by omega)
    have okk := (okP h w (k + 1) hk).ind
    have hind := h.ind (k + 1) hk
    have no := ho k (by omega)
    have nn := flat_no10 (hn k (by omega))
    rw [uptoP_succ (movd l), movd_in (by omega)]
    rw [uptoP_succ] at okk ⊢
    rw [stepP_other no (b' := false) (M' := 0)] at okk ⊢
    rw [stepP_other (i := ((k + 1 : Nat) : Int)) no (b' := false) (M' := 0)]
    generalize uptoP (movd l) w (k + 1) = q at h1 h2 h3 h6 ⊢
    generalize uptoP l w k = p at h1 h2 h3 h4 h4' h5 okk ⊢
    generalize gB l k = x at no nn okk ⊢
    unfold stepP at okk ⊢
    rw [if_neg no] at okk
    rw [if_neg no, if_neg no]
    by_cases c7 : x.f0 = 7
    · rw [if_pos c7, if_neg (by omega), if_pos c7, if_neg (by omega)]
      exact ⟨h1, h2, h3, h4, h4', h5, h6⟩
    rw [if_neg c7] at okk
    rw [if_neg c7, if_neg c7]
    by_cases c8 : x.f0 = 8
    · rw [if_pos c8, if_pos c8]
      exact ⟨h1, by show q.ind + 2 = p.ind + 2 + 2; omega, h3, h4, by show 0 ≤ p.ind + 2; omega, h5, h6⟩
    rw [if_neg c8] at okk
    rw [if_neg c8, if_neg c8]
    by_cases c9 : x.f0 = 9
    · rw [if_pos c9] at okk
      rw [if_pos c9, if_pos c9]
      dsimp only at okk
      exact ⟨h1, by show q.ind - 2 = p.ind - 2 + 2; omega, h3, h4, by show 0 ≤ p.ind - 2; omega, h5, h6⟩
    rw [if_neg c9, if_neg c9]
    by_cases cb : brB x.f0 = true
    · rw [if_pos ⟨cb, .inl (by omega)⟩, if_pos ⟨cb, .inl (by omega)⟩]
      unfold lineP
      refine ⟨?_, h2, ?_, h4', h4', h5, h6⟩
      · show q.out ++ [10] = insB false (p.out ++ [10])
        rw [insB_app, h1]
        congr 1
        show _ = (if lastB false p.out = true ∧ (10 : UInt8) ≠ 10 then [32, 32, 10] else [10]) ++ []
        rw [if_neg (by simp)]; rfl
      · show q.ind = p.ind + (if lastB false (p.out ++ [10]) = true then 2 else 0)
        rw [lastB_app]
        show _ = p.ind + (if true = true then 2 else 0)
        rw [if_pos rfl]; omega
    · rw [if_neg (fun hc => cb hc.1), if_neg (fun hc => cb hc.1)]
      unfold putP
      split
      · exact ⟨h1, h2, h3, h4, h4', h5, h6⟩
      · rename_i hz
        have hne : List.replicate p.due.toNat 32 ++ bl (flatOf x.f0 x.f1).1 ≠ [] := by
          intro e
          have := congrArg List.length e
          rw [List.length_append, List.length_replicate, bl_len, List.length_nil] at this
          omega
        have hno : ∀ c ∈ List.replicate p.due.toNat 32 ++ bl (flatOf x.f0 x.f1).1, c ≠ (10 : UInt8) := by
          intro c hc
          rcases List.mem_append.1 hc with g | g
          · rw [(List.mem_replicate.1 g).2]; decide
          · exact nn c g
        refine ⟨?_, h2, ?_, Int.le_refl 0, h4', h5, h6⟩
        · show q.out ++ List.replicate q.due.toNat 32 ++ bl (flatOf x.f0 x.f1).1 = insB false (p.out ++ List.replicate p.due.toNat 32 ++ bl (flatOf x.f0 x.f1).1)
          rw [List.append_assoc, List.append_assoc, insB_app, insB_new hno hne, h1, h3]
          congr 1
          rw [← List.append_assoc]
          congr 1
          by_cases g : lastB false p.out = true
          · rw [if_pos g, if_pos g, show (p.due + 2).toNat = 2 + p.due.toNat by omega, ← List.replicate_append_replicate]; rfl
          · rw [if_neg g, if_neg g, Int.add_zero]; rfl
        · show (0 : Int) = 0 + (if lastB false (p.out ++ List.replicate p.due.toNat 32 ++ bl (flatOf x.f0 x.f1).1) = true then 2 else 0)
          rw [List.append_assoc, lastB_app, lastB_no hno hne, if_neg (by decide)]; rfl
theorem moved_out {l : List S34} (h : MayB l) (w : Int) (ho : ∀ j, j < l.length → (gB l j).f0 ≠ 6) (hn : ∀ j, j < l.length → ∀ c ∈ bl (gB l j).f1, c ≠ 10) :
    (uptoP (movd l) w (movd l).length).out = insB false (uptoP l w l.length).out := by
  rw [movd_len, uptoP_succ, movd_last, ← (moved h w ho hn l.length (Nat.le_refl _)).out]
  unfold stepP
  rw [if_neg (by decide), if_neg (by decide), if_neg (by decide), if_pos rfl]
/-! A greater width. -/
structure WdR (l : List S34) (k : Nat) (p q : PgB) : Prop where
  out : q.out = p.out
  ind : q.ind = p.ind
  col : q.col = p.col
  due : q.due = p.due
  flat : p.flat < 0 ∨ p.flat ≤ q.flat
theorem wider {l : List S34} (h : MayB l) {w v : Int} (hwv : w ≤ v) : ∀ k, k ≤ l.length → (10 : UInt8) ∉ (uptoP l w k).out → WdR l k (uptoP l w k) (uptoP l v k)
  | 0, _, _ => ⟨rfl, rfl, rfl, rfl, .inl (show (-1 : Int) < 0 by decide)⟩
  | k + 1, hk, hno => by
    have hno' : (10 : UInt8) ∉ (uptoP l w k).out := by
      obtain ⟨t, ht⟩ := upto_out l w k 1
      rw [ht] at hno
      exact fun hc => hno (List.mem_append.2 (.inl hc))
    obtain ⟨h1, h2, h3, h4, h5⟩ := wider h hwv k (by omega) hno'
    have op := (okP h w k (by omega)).flat
    have oq := (okP h v k (by omega)).flat
    rw [uptoP_succ] at hno
    rw [uptoP_succ, uptoP_succ l v]
    have hfit : fitP l w k (uptoP l w k).col = true → fitP l v k (uptoP l v k).col = true := by
      unfold fitP
      intro g
      have g := of_decide_eq_true g
      exact decide_eq_true (by omega)
    generalize fitP l w k (uptoP l w k).col = bw at hfit hno ⊢
    generalize fitP l v k (uptoP l v k).col = bv at hfit ⊢
    generalize uptoP l w k = p at h1 h2 h3 h4 h5 op hno ⊢
    generalize uptoP l v k = q at h1 h2 h3 h4 h5 oq ⊢
    unfold stepP at hno ⊢
    by_cases c6 : (gB l k).f0 = 6
    · rw [if_pos c6, if_pos c6]
      obtain ⟨m, hm⟩ := h.group (by omega) c6
      have hmm := hm.lt
      rw [hm.mt]
      by_cases g1 : p.flat < 0 ∧ bw = true
      · rw [if_pos g1]
        by_cases g2 : q.flat < 0
        · rw [if_pos ⟨g2, hfit g1.2⟩]
          exact ⟨h1, h2, h3, h4, .inr (Int.le_refl _)⟩
        · rw [if_neg (fun hc => g2 hc.1)]
          refine ⟨h1, h2, h3, h4, .inr ?_⟩
          show (m : Int) ≤ q.flat
          rcases oq with e | ⟨i, n, e, hn, a, b⟩
          · exact absurd (show q.flat < 0 by rw [e]; decide) g2
          · have := (hn.facts hm).2.1 a
            have hkn : k ≠ n := by intro e2; subst e2; have := hn.close; omega
            have := this (by omega)
            omega
      · rw [if_neg g1]
        split
        · rename_i g2
          exact ⟨h1, h2, h3, h4, .inl (by clear op oq; have := g2.1; omega)⟩
        · exact ⟨h1, h2, h3, h4, h5⟩
    rw [if_neg c6] at hno
    rw [if_neg c6, if_neg c6]
    by_cases c7 : (gB l k).f0 = 7
    · rw [if_pos c7, if_pos c7]
      split
      · split
        · exact ⟨h1, h2, h3, h4, .inl (show (-1 : Int) < 0 by decide)⟩
        · exact ⟨h1, h2, h3, h4, .inl (show (-1 : Int) < 0 by decide)⟩
      · rename_i g1
        split
        · rename_i g2
          refine ⟨h1, h2, h3, h4, .inl ?_⟩
          rcases op with e | ⟨i, n, e, hn, a, b⟩
          · show p.flat < 0; omega
          · exfalso; rcases h5 with h5 | h5 <;> omega
        · exact ⟨h1, h2, h3, h4, h5⟩
    rw [if_neg c7] at hno
    rw [if_neg c7, if_neg c7]
    by_cases c8 : (gB l k).f0 = 8
    · rw [if_pos c8, if_pos c8]
      exact ⟨h1, by show q.ind + 2 = p.ind + 2; omega, h3, h4, h5⟩
    rw [if_neg c8] at hno
    rw [if_neg c8, if_neg c8]
    by_cases c9 : (gB l k).f0 = 9
    · rw [if_pos c9, if_pos c9]
      exact ⟨h1, by show q.ind - 2 = p.ind - 2; omega, h3, h4, h5⟩
    rw [if_neg c9] at hno
    rw [if_neg c9, if_neg c9]
    by_cases g1 : brB (gB l k).f0 = true ∧ (p.flat < 0 ∨ (gB l k).f0 = 5)
    · rw [if_pos g1] at hno
      exact absurd (List.mem_append.2 (.inr (List.mem_singleton.2 rfl))) hno
    · have g2 : ¬ (brB (gB l k).f0 = true ∧ (q.flat < 0 ∨ (gB l k).f0 = 5)) := by
        rintro ⟨g3, g4⟩
        refine g1 ⟨g3, ?_⟩
        rcases g4 with g4 | g4
        · rcases h5 with h5 | h5
          · exact .inl h5
          · exact .inl (by omega)
        · exact .inr g4
      rw [if_neg g1, if_neg g2]
      unfold putP
      split
      · exact ⟨h1, h2, h3, h4, h5⟩
      · exact ⟨by show q.out ++ _ ++ _ = p.out ++ _ ++ _; rw [h1, h4], h2, by show q.col + _ = p.col + _; rw [h3], rfl, h5⟩
/-! A new line behind, others behind that. -/
theorem behB_hard (a : List S34) (c : ByteArray) (r : List S34) : ∀ (d k : Nat), k + d = a.length → behB (a ++ [(⟨5, c⟩ : S34)] ++ r) (d + 1 + r.length) k = behB a d k
  | 0, k, h => by
    have e : gB (a ++ [(⟨5, c⟩ : S34)] ++ r) k = ⟨5, c⟩ := by
      rw [gB_left (by simp; omega)]
      have := gB_right a [(⟨5, c⟩ : S34)] 0
      rw [show a.length + 0 = k by omega] at this
      rw [this]; exact gB_zero _ _
    rw [show 0 + 1 + r.length = r.length + 1 by omega, behB, behB, e, if_pos (show brB 5 = true by decide)]
  | d + 1, k, h => by
    have e : gB (a ++ [(⟨5, c⟩ : S34)] ++ r) k = gB a k := by rw [gB_left (by simp; omega), gB_left (by omega)]
    have et : tsB (a ++ [(⟨5, c⟩ : S34)] ++ r) k = tsB a k := by unfold tsB colA; rw [e]
    rw [show d + 1 + 1 + r.length = d + 1 + r.length + 1 by omega, behB, behB, e, et, behB_hard a c r d (k + 1) (by omega)]
theorem first_need {a : List S34} (c : ByteArray) (r : List S34) (hs : small33 (a ++ [(⟨5, c⟩ : S34)] ++ r)) (hl : (a ++ [(⟨5, c⟩ : S34)] ++ r).length ≤ 60000) {i k : Nat} (h : IsM a i k) :
    matchOf (a ++ [(⟨5, c⟩ : S34)] ++ r) (i : Int) = matchOf a (i : Int) ∧ needOf (a ++ [(⟨5, c⟩ : S34)] ++ r) (i : Int) = needOf a (i : Int) := by
  have hlen := h.len
  have ha : small33 a := fun x hx => hs x (List.mem_append.2 (.inl (List.mem_append.2 (.inl hx))))
  have hla : a.length ≤ 60000 := by rw [List.length_append, List.length_append] at hl; omega
  have hb : IsM (a ++ [(⟨5, c⟩ : S34)] ++ r) i k := h.app.app
  refine ⟨by rw [hb.mt, h.mt], ?_⟩
  rw [hb.need hs hl, h.need ha hla]
  rw [List.append_assoc, needV_app h, ← List.append_assoc]
  have e := behB_hard a c r (a.length - (k + 1)) (k + 1) (by omega)
  rw [show a.length - (k + 1) + 1 + r.length = (a ++ [(⟨5, c⟩ : S34)] ++ r).length - (k + 1) by rw [List.length_append, List.length_append, List.length_singleton]; omega] at e
  rw [e]
  rfl
theorem first_same {a : List S34} (h : MayB a) (c : ByteArray) (r : List S34) (hs : small33 (a ++ [(⟨5, c⟩ : S34)] ++ r)) (hl : (a ++ [(⟨5, c⟩ : S34)] ++ r).length ≤ 60000) (w : Int) {k : Nat} (hk : k ≤ a.length) :
    uptoP (a ++ [(⟨5, c⟩ : S34)] ++ r) w k = uptoP a w k := by
  refine uptoP_congr k (fun j hj => by rw [gB_left (by simp; omega), gB_left (by omega)]) fun j hj h6 => ?_
  obtain ⟨m, hm⟩ := h.group (by omega) h6
  exact first_need c r hs hl hm
def shP (x : List UInt8) (n : Nat) (p : PgB) : PgB := { p with out := x ++ p.out, flat := if p.flat < 0 then p.flat else n + p.flat }
theorem step_sh (x : S34) (y : List UInt8) (n : Nat) (i : Nat) (b : Bool) (M M' : Int) (p : PgB) (hf : p.flat = -1 ∨ 0 ≤ p.flat) (hM : x.f0 = 6 → M' = if M < 0 then M else n + M) : stepP x ((n + i : Nat) : Int) b M' (shP y n p) = shP y n (stepP x i b M p) := by
  have e1 : (shP y n p).flat < 0 ↔ p.flat < 0 := by unfold shP; dsimp only; split <;> omega
  unfold stepP
  by_cases c6 : x.f0 = 6
  · rw [if_pos c6, if_pos c6, hM c6]
    by_cases g : p.flat < 0 ∧ b = true
    · rw [if_pos g, if_pos ⟨e1.2 g.1, g.2⟩]; rfl
    · rw [if_neg g, if_neg (fun h => g ⟨e1.1 h.1, h.2⟩)]
  rw [if_neg c6, if_neg c6]
  by_cases c7 : x.f0 = 7
  · rw [if_pos c7, if_pos c7]
    have e2 : (shP y n p).flat = ((n + i : Nat) : Int) ↔ p.flat = i := by unfold shP; dsimp only; split <;> omega
    by_cases g : p.flat = i
    · rw [if_pos g, if_pos (e2.2 g)]; rfl
    · rw [if_neg g, if_neg (fun h => g (e2.1 h))]
  rw [if_neg c7, if_neg c7]
  by_cases c8 : x.f0 = 8
  · rw [if_pos c8, if_pos c8]; rfl
  rw [if_neg c8, if_neg c8]
  by_cases c9 : x.f0 = 9
  · rw [if_pos c9, if_pos c9]; rfl
  rw [if_neg c9, if_neg c9]
  by_cases g : brB x.f0 = true ∧ (p.flat < 0 ∨ x.f0 = 5)
  · rw [if_pos g, if_pos ⟨g.1, g.2.imp e1.2 id⟩]
    unfold lineP shP
    dsimp only
    rw [List.append_assoc]
  · rw [if_neg g, if_neg (fun h => g ⟨h.1, h.2.imp e1.1 id⟩)]
    unfold putP
    split
    · rfl
    · unfold shP
      dsimp only
      rw [List.append_assoc, List.append_assoc, List.append_assoc]
/-- What is told of bits does not hang on what stands ahead, if that ends by a new line. -/
theorem upto_pre (p : List S34) {b : List S34} (hb : MayB b) (hs : small33 (p ++ b)) (hl : (p ++ b).length ≤ 60000) (w : Int) (x : List UInt8) (h0 : uptoP (p ++ b) w p.length = { pg0 with out := x }) :
    ∀ k, k ≤ b.length → uptoP (p ++ b) w (p.length + k) = shP x p.length (uptoP b w k)
  | 0, _ => by rw [Nat.add_zero, h0]; unfold shP uptoP pg0; simp
  | k + 1, hk => by
    have ih := upto_pre p hb hs hl w x h0 k (by omega)
    have ok := (okP hb w k (by omega)).flat
    rw [← Nat.add_assoc, uptoP_succ, uptoP_succ, gB_right, ih]
    have ec : (shP x p.length (uptoP b w k)).col = (uptoP b w k).col := rfl
    have ef : fitP (p ++ b) w (p.length + k) (shP x p.length (uptoP b w k)).col = fitP b w k (uptoP b w k).col := by
      rw [ec]; unfold fitP; rw [pre_need p b hs hl k]
    rw [ef]
    refine step_sh _ _ _ _ _ _ _ _ (ok.imp id fun ⟨i, m, e, _⟩ => by omega) fun _ => ?_
    rw [pre_match]
    rcases matchOf_cases b (k : Int) with ⟨h1, _⟩ | ⟨i', m, e, h1, h2⟩
    · rw [h1]
    · rw [h1, if_neg (by omega), if_neg (by omega)]
theorem first_upto {a b : List S34} (ha : MayB a) (hb : MayB b) (hs : small33 (a ++ [(⟨5, ⟨#[]⟩⟩ : S34)] ++ b)) (hl : (a ++ [(⟨5, ⟨#[]⟩⟩ : S34)] ++ b).length ≤ 60000) (w : Int) :
    (uptoP (a ++ [(⟨5, ⟨#[]⟩⟩ : S34)] ++ b) w (a ++ [(⟨5, ⟨#[]⟩⟩ : S34)] ++ b).length).out = (uptoP (a ++ [(⟨5, ⟨#[]⟩⟩ : S34)]) w (a ++ [(⟨5, ⟨#[]⟩⟩ : S34)]).length).out ++ (uptoP b w b.length).out := by
  have hs1 : small33 (a ++ [(⟨5, ⟨#[]⟩⟩ : S34)] ++ []) := by rw [List.append_nil]; exact fun x hx => hs x (List.mem_append.2 (.inl hx))
  have hl1 : (a ++ [(⟨5, ⟨#[]⟩⟩ : S34)] ++ []).length ≤ 60000 := by rw [List.append_nil]; rw [List.length_append] at hl; omega
  have l1 : (a ++ [(⟨5, ⟨#[]⟩⟩ : S34)]).length = a.length + 1 := by simp
  have g1 : gB (a ++ [(⟨5, ⟨#[]⟩⟩ : S34)]) a.length = ⟨5, ⟨#[]⟩⟩ := by have := gB_right a [(⟨5, ⟨#[]⟩⟩ : S34)] 0; rw [Nat.add_zero] at this; rw [this]; exact gB_zero _ _
  have e1 : uptoP (a ++ [(⟨5, ⟨#[]⟩⟩ : S34)]) w a.length = uptoP a w a.length := by have := first_same ha ⟨#[]⟩ [] hs1 hl1 w (Nat.le_refl _); rwa [List.append_nil] at this
  have e2 : uptoP (a ++ [(⟨5, ⟨#[]⟩⟩ : S34)] ++ b) w a.length = uptoP a w a.length := first_same ha ⟨#[]⟩ b hs hl w (Nat.le_refl _)
  have ok := okP ha w a.length (Nat.le_refl _)
  have f : (uptoP a w a.length).flat = -1 := by
    rcases ok.flat with e | ⟨i, m, e, hm, _, _⟩
    · exact e
    · have := hm.len; omega
  have hi : (uptoP a w a.length).ind = 0 := by rw [ok.ind, ha.ind0]; rfl
  have st : ∀ b M i, stepP ⟨5, ⟨#[]⟩⟩ i b M (uptoP a w a.length) = { pg0 with out := (uptoP a w a.length).out ++ [10] } := by
    intro b M i
    unfold stepP
    rw [if_neg (by decide), if_neg (by decide), if_neg (by decide), if_neg (by decide), if_pos ⟨by decide, .inr rfl⟩]
    unfold lineP pg0
    rw [f, hi]
  have x1 : uptoP (a ++ [(⟨5, ⟨#[]⟩⟩ : S34)]) w (a.length + 1) = { pg0 with out := (uptoP a w a.length).out ++ [10] } := by rw [uptoP_succ, g1, e1, st]
  have x2 : uptoP (a ++ [(⟨5, ⟨#[]⟩⟩ : S34)] ++ b) w (a.length + 1) = { pg0 with out := (uptoP a w a.length).out ++ [10] } := by rw [uptoP_succ, gB_left (by rw [l1]; omega), g1, e2, st]
  have x3 := upto_pre (a ++ [(⟨5, ⟨#[]⟩⟩ : S34)]) hb hs hl w _ (by rw [l1]; exact x2) b.length (Nat.le_refl _)
  rw [List.length_append, x3, l1, x1]
  rfl
/-! The column. -/
theorem col_text {l : List S34} (w : Int) {k : Nat} (h : (gB l k).f0 = 0 ∨ (gB l k).f0 = 1) : (uptoP l w (k + 1)).col = (uptoP l w k).col + colA l k := by
  rw [uptoP_succ]
  unfold stepP colA
  generalize gB l k = x at h ⊢
  rw [if_neg (by omega), if_neg (by omega), if_neg (by omega), if_neg (by omega), if_neg (by rintro ⟨hb, _⟩; rcases h with h | h <;> rw [h] at hb <;> exact absurd hb (by decide))]
  unfold putP
  split
  · rename_i hz
    have := colsOf_bd (flatOf x.f0 x.f1).1
    omega
  · rfl
theorem col_hard {l : List S34} (h : MayB l) (w : Int) {k : Nat} (hk : k < l.length) (h5 : (gB l k).f0 = 5) : (uptoP l w (k + 1)).col = 2 * indB l k := by
  rw [uptoP_succ]
  unfold stepP
  rw [if_neg (by omega), if_neg (by omega), if_neg (by omega), if_neg (by omega), if_pos ⟨by rw [h5]; decide, .inr h5⟩]
  exact (okP h w k (by omega)).ind
theorem col_any {l : List S34} (h : MayB l) (w : Int) {k : Nat} (hk : k < l.length) : (uptoP l w (k + 1)).col = (uptoP l w k).col ∨ (uptoP l w (k + 1)).col = 2 * indB l k ∨ (uptoP l w (k + 1)).col = (uptoP l w k).col + colA l k := by
  rw [uptoP_succ]
  have := (okP h w k (by omega)).ind
  unfold stepP colA
  (repeat' split) <;> first | exact .inl rfl | exact .inr (.inl this) | (unfold putP; split <;> first | exact .inl rfl | exact .inr (.inr rfl))
end Go.Proofs.Ytkhlfdoeploddaa.PFlow
