/- The document's answer on what may be printed: the same closed form. -/
import Derived.Test.YtkhlfdoeploddaaHFlowMarkMay
import Derived.Test.YtkhlfdoeploddaaHFlowPagL
import Derived.Test.YtkhlfdoeploddaaPFlowx14
import Derived.Test.YtkhlfdoeploddaaHFlowRefA
import Derived.Test.YtkhlfdoeploddaaPFlowx20
import Derived.Test.YtkhlfdoeploddaaPFlowx19
import Derived.Test.YtkhlfdoeploddaaPFlowx15
import Derived.Test.YtkhlfdoeploddaaPFlowx17
import Derived.Test.YtkhlfdoeploddaaPFlowx15
import Derived.Test.YtkhlfdoeploddaaHFlowRF
import Derived.Lib.Builder
namespace Go.Proofs.Ytkhlfdoeploddaa.PFlow
open Go.RowKit Go.Proofs.YtkhlfdoeploddaaW.PrintWords Go.Proofs.YtkhlfdoeploddaaW.PrintMore
set_option linter.unusedVariables false
set_option linter.unusedSimpArgs false
theorem rmay_l {l : List S34} (hl : l.length ≤ 4000) : ∀ (d i K : Nat), i + d = l.length → 2 * d + 1 ≤ K → MayTo l i → copperplateref16_May.l0 K l (depB l i) (indB l i) (i : Int) = some (mayOf l)
  | 0, i, K, hi, hK, hM => by
    obtain ⟨K, rfl⟩ : ∃ K', K = K' + 1 := ⟨K - 1, by omega⟩
    obtain rfl : i = l.length := by omega
    rw [copperplateref16_May.l0, if_neg (by omega)]
    by_cases h1 : depB l l.length = 0
    · rw [if_pos h1]
      by_cases h2 : indB l l.length = 0
      · rw [h2, mayOf_true ⟨hl, hM.bit, hM.dep, hM.ind, h1, h2⟩]; rfl
      · rw [mayOf_false (fun h => h2 h.ind0)]
        exact congrArg some (beq_eq_false_iff_ne.2 h2)
    · rw [if_neg h1, mayOf_false (fun h => h1 h.dep0)]
  | d + 1, i, K, hi, hK, hM => by
    obtain ⟨K, rfl⟩ : ∃ K', K = K' + 1 + 1 := ⟨K - 2, by omega⟩
    have hlt : i < l.length := by omega
    have E : wrap64 ((i : Int) + 1) = ((i + 1 : Nat) : Int) := by rw [wrap_id (by omega) (by omega)]; omega
    have ih := rmay_l hl d (i + 1) K (by omega) (by omega)
    have hd := depB_succ l i
    have hn := indB_succ l i
    have d0 := hM.dep i (Nat.le_refl _)
    have n0 := hM.ind i (Nat.le_refl _)
    have d9 : depB l i ≤ 4000 := by rw [cM_dep]; have := cM_bd l 6 i; have := cM_bd l 7 i; omega
    have n9 : indB l i ≤ 4000 := by have := indB_le l i; omega
    have S := fun ho h1 h2 => hM.succ (k := i) ho h1 h2
    have F1 : ¬ bitOk (gB l i) → mayOf l = false := fun h => mayOf_false fun hm => h (hm.bit i hlt)
    have F2 : ¬ (0 ≤ depB l (i + 1) ∧ 0 ≤ indB l (i + 1)) → mayOf l = false := fun h => mayOf_false fun hm => h ⟨hm.dep _ (by omega), hm.ind _ (by omega)⟩
    generalize depB l (i + 1) = D at ih hd S F2
    generalize indB l (i + 1) = N at ih hn S F2
    generalize depB l i = D0 at hd d0 d9 ⊢
    generalize indB l i = N0 at hn n0 n9 ⊢
    have J : bitOk (gB l i) → copperplateref16_May.j1 (K + 1) l D0 N0 (i : Int) false = some (mayOf l) := by
      intro ho
      rw [copperplateref16_May.j1, if_neg (by decide), if_pos (by omega), if_pos (by omega), rd_gB, E]
      unfold valB at hd
      unfold valI at hn
      by_cases c6 : (gB l i).f0 = 6
      · rw [if_pos c6] at hd
        rw [if_neg (by omega), if_neg (by omega)] at hn
        rw [if_pos c6, wrap_id (by omega) (by omega), if_neg (by omega), if_neg (by omega), show D0 + 1 = D by omega, show N0 = N by omega]
        exact ih (S ho (by omega) (by omega))
      rw [if_neg c6] at hd ⊢
      by_cases c7 : (gB l i).f0 = 7
      · rw [if_pos c7] at hd
        rw [if_neg (by omega), if_neg (by omega)] at hn
        rw [if_pos c7, wrap_id (by omega) (by omega)]
        by_cases g : D0 - 1 < 0
        · rw [if_pos g, F2 (fun h => by omega)]
        · rw [if_neg g, if_neg (by omega), show D0 - 1 = D by omega, show N0 = N by omega]
          exact ih (S ho (by omega) (by omega))
      rw [if_neg c7] at hd ⊢
      by_cases c8 : (gB l i).f0 = 8
      · rw [if_pos c8] at hn
        rw [if_pos c8, if_neg (by omega), wrap_id (by omega) (by omega), if_neg (by omega), show D0 = D by omega, show N0 + 1 = N by omega]
        exact ih (S ho (by omega) (by omega))
      rw [if_neg c8] at hn ⊢
      by_cases c9 : (gB l i).f0 = 9
      · rw [if_pos c9] at hn
        rw [if_pos c9, if_neg (by omega), wrap_id (by omega) (by omega)]
        by_cases g : N0 - 1 < 0
        · rw [if_pos g, F2 (fun h => by omega)]
        · rw [if_neg g, show D0 = D by omega, show N0 - 1 = N by omega]
          exact ih (S ho (by omega) (by omega))
      rw [if_neg c9] at hn ⊢
      rw [if_neg (by omega), if_neg (by omega), show D0 = D by omega, show N0 = N by omega]
      exact ih (S ho (by omega) (by omega))
    have JT : ¬ bitOk (gB l i) → copperplateref16_May.j1 (K + 1) l D0 N0 (i : Int) true = some (mayOf l) := by
      intro ho
      rw [copperplateref16_May.j1, if_pos rfl, F1 ho]
    rw [copperplateref16_May.l0, if_pos (by omega), if_pos (by omega), rd_gB]
    by_cases a0 : (gB l i).f0 < 0
    · rw [if_pos a0]; exact JT (fun h => by have := h.1; omega)
    rw [if_neg a0]
    by_cases a9 : (gB l i).f0 > 9
    · rw [if_pos a9]; exact JT (fun h => by have := h.2.1; omega)
    rw [if_neg a9]
    by_cases z : (gB l i).f0 = 0
    · rw [if_pos z]; exact J ⟨by omega, by omega, fun h => absurd z h⟩
    rw [if_neg z]
    by_cases q : (gB l i).f1.size = 0
    · have e : (gB l i).f1.toList = [] := by
        have : (gB l i).f1 = ⟨#[]⟩ := by apply ByteArray.ext; exact Array.eq_empty_of_size_eq_zero q
        rw [this]; exact (ByteArray.toList_eq _).trans rfl
      rw [e]
      exact J ⟨by omega, by omega, fun _ => q⟩
    · rw [show ((gB l i).f1.toList != ([] : List UInt8)) = true from bne_iff_ne.2 fun e => q (size0 e)]
      exact JT (fun h => q (h.2.2 z))
theorem rmay_f (l : List S34) {K : Nat} (hK : 2 * l.length + 1 ≤ K) : copperplateref16_May.f K l = some (mayOf l) := by
  unfold copperplateref16_May.f
  by_cases c : (l.length : Int) > 4000
  · rw [if_pos c, mayOf_false (fun h => by have := h.len; omega)]
  · rw [if_neg c]
    exact rmay_l (by omega) l.length 0 K (by omega) hK (MayTo.zero l)
end Go.Proofs.Ytkhlfdoeploddaa.PFlow
namespace Go.Proofs.Ytkhlfdoeploddaa.PFlow
open Go.RowKit Go.Shelf Go.Proofs.YtkhlfdoeploddaaW.PrintWords Go.Proofs.YtkhlfdoeploddaaW.PrintLast Go.Proofs.YtkhlfdoeploddaaW.PrintMore
set_option linter.unusedVariables false
set_option linter.unusedSimpArgs false
theorem rblanks_l (n : Nat) (hn : n ≤ 1048576) : ∀ (d i K : Nat) (s : ByteArray), i + d = n → d < K → bl s = List.replicate i 32 → copperplateref18_blanks.l0 K (n : Int) s (i : Int) = some ⟨(List.replicate n (32 : UInt8)).toArray⟩
  | 0, i, K, s, hi, hK, hs => by
    obtain ⟨K, rfl⟩ : ∃ K', K = K' + 1 := ⟨K - 1, by omega⟩
    obtain rfl : i = n := by omega
    rw [copperplateref18_blanks.l0, if_neg (by omega)]
    rw [← hs]; rfl
  | d + 1, i, K, s, hi, hK, hs => by
    obtain ⟨K, rfl⟩ : ∃ K', K = K' + 1 := ⟨K - 1, by omega⟩
    have E : wrap64 ((i : Int) + 1) = ((i + 1 : Nat) : Int) := by rw [wrap_id (by omega) (by omega)]; omega
    have hz : s.size = i := by rw [← bl_len, hs, List.length_replicate]
    have ha : bl (s ++ (⟨#[32]⟩ : ByteArray)) = bl s ++ [32] := by unfold bl; rw [ByteArray.data_append, Array.toList_append]
    rw [copperplateref18_blanks.l0, if_pos (by omega), if_pos (by omega), E]
    exact rblanks_l n hn d (i + 1) K _ (by omega) (by omega) (by rw [ha, hs, List.replicate_succ'])
theorem rblanks_f {n : Int} (h0 : 0 ≤ n) (hn : n ≤ 1048576) {K : Nat} (hK : n.toNat < K) : copperplateref18_blanks.f K n = some ⟨(List.replicate n.toNat (32 : UInt8)).toArray⟩ := by
  obtain ⟨m, rfl⟩ := Int.eq_ofNat_of_zero_le h0
  rw [Int.toNat_natCast] at hK ⊢
  exact rblanks_l m (by omega) m 0 K ⟨#[]⟩ (by omega) hK rfl
/-- A page as five values. -/
def pgT (p : PgB) : ByteArray × Int × Int × Int × Int := (⟨p.out.toArray⟩, p.ind, p.col, p.due, p.flat)
theorem rline_f (p : PgB) (h : p.out.length + 1 ≤ 9223372036854775807) : copperplateref18_Line.f ⟨p.out.toArray⟩ p.ind p.col p.due p.flat = some (pgT (lineP p)) := by
  unfold copperplateref18_Line.f
  have hz : (⟨p.out.toArray⟩ : ByteArray).size = p.out.length := by rw [← bl_len]; rfl
  rw [hz, if_pos h]
  have e : (⟨p.out.toArray⟩ : ByteArray) ++ (⟨#[10]⟩ : ByteArray) = ⟨(p.out ++ [10]).toArray⟩ := by
    apply ByteArray.ext
    rw [ByteArray.data_append]
    apply Array.ext'
    simp
  rw [e]; rfl
theorem rput_f (p : PgB) (s : ByteArray) (h0 : 0 ≤ p.due) (h1 : p.due ≤ 1048576) (hc0 : 0 ≤ p.col) (hc1 : p.col ≤ 1152921504606846976) (hs : s.size ≤ 140737488355328) (ho : p.out.length ≤ 140737488355328) {K : Nat} (hK : s.size + 18 < K) (hK2 : p.due.toNat < K) :
    copperplateref18_Put.f K ⟨p.out.toArray⟩ p.ind p.col p.due p.flat s = some (pgT (putP p s)) := by
  unfold copperplateref18_Put.f putP
  have hcb := colsOf_bd s
  by_cases g : s.size = 0
  · have : s.toList = [] := by
      have : s = ⟨#[]⟩ := by apply ByteArray.ext; exact Array.eq_empty_of_size_eq_zero g
      rw [this]; exact (ByteArray.toList_eq _).trans rfl
    rw [if_pos this, if_pos g]; rfl
  · rw [if_neg (fun e => g (size0 e)), if_neg g, rblanks_f h0 h1 hK2, Option.bind_some]
    have hz : (⟨p.out.toArray⟩ : ByteArray).size = p.out.length := by rw [← bl_len]; rfl
    have hb : (⟨(List.replicate p.due.toNat (32 : UInt8)).toArray⟩ : ByteArray).size = p.due.toNat := by rw [← bl_len]; show (List.replicate _ _).length = _; rw [List.length_replicate]
    rw [ByteArray.size_append, hz, hb, if_pos (by omega), if_pos (by omega), rcols_f s hs K hK, Option.bind_some, wrap_id (by omega) (by omega)]
    have e : ((⟨p.out.toArray⟩ : ByteArray) ++ (⟨(List.replicate p.due.toNat (32 : UInt8)).toArray⟩ : ByteArray)) ++ s = ⟨(p.out ++ List.replicate p.due.toNat 32 ++ bl s).toArray⟩ := by
      apply ByteArray.ext
      rw [ByteArray.data_append, ByteArray.data_append]
      apply Array.ext'
      simp [bl]
    rw [e]; rfl
/-- Where the contract of Print speaks. -/
structure PrD (a0 : ByteArray) (a1 a2 a3 : Int) (l : List S34) (i : Int) : Prop where
  i0 : 0 ≤ i
  i1 : i < (l.length : Int)
  len : l.length ≤ 4000
  txt : (gB l i.toNat).f1.size ≤ 1099511627776
  ind : 0 ≤ a1 ∧ a1 ≤ 8000
  col : 0 ≤ a2 ∧ a2 ≤ 1152921504606846976
  due : 0 ≤ a3 ∧ a3 ≤ 8000
  out : a0.size ≤ 70368744177664
instance (a0 : ByteArray) (a1 a2 a3 : Int) (l : List S34) (i : Int) : Decidable (PrD a0 a1 a2 a3 l i) :=
  decidable_of_iff (0 ≤ i ∧ i < (l.length : Int) ∧ l.length ≤ 4000 ∧ (gB l i.toNat).f1.size ≤ 1099511627776 ∧ (0 ≤ a1 ∧ a1 ≤ 8000) ∧ (0 ≤ a2 ∧ a2 ≤ 1152921504606846976) ∧ (0 ≤ a3 ∧ a3 ≤ 8000) ∧ a0.size ≤ 70368744177664)
    ⟨fun ⟨a, b, c, d, e, f, g, h⟩ => ⟨a, b, c, d, e, f, g, h⟩, fun ⟨a, b, c, d, e, f, g, h⟩ => ⟨a, b, c, d, e, f, g, h⟩⟩
def copperplateref18_Print.f (a0_0 : ByteArray) (a0_1 : Int) (a0_2 : Int) (a0_3 : Int) (a0_4 : Int) (l1 : List S34) (a2 : Int) (a3 : Bool) : Option (ByteArray × Int × Int × Int × Int) :=
  if PrD a0_0 a0_1 a0_2 a0_3 l1 a2 then some (pgT (stepP (gB l1 a2.toNat) a2 a3 (matchOf l1 a2) ⟨bl a0_0, a0_1, a0_2, a0_3, a0_4⟩)) else none
theorem page5 {W : World} {Q : Nat} {t : TypeId} {c0 c1 c2 c3 c4 : Value} (h : W.heap[Q]? = some (.cells #[c0, c1, c2, c3, c4] t (0, 0))) (a b c d e : Value) :
    (((((W.setCell ⟨Q, 0, none⟩ a).setCell ⟨Q, 1, none⟩ b).setCell ⟨Q, 2, none⟩ c).setCell ⟨Q, 3, none⟩ d).setCell ⟨Q, 4, none⟩ e).heap[Q]? = some (.cells #[a, b, c, d, e] t (0, 0)) :=
  blk_put (blk_put (blk_put (blk_put (blk_put h 0 a rfl) 1 b rfl) 2 c rfl) 3 d rfl) 4 e rfl
theorem page5_below {B : Nat} {w W : World} {Q : Nat} (h : Below B w W) (hQ : B ≤ Q) (a b c d e : Value) :
    Below B w (((((W.setCell ⟨Q, 0, none⟩ a).setCell ⟨Q, 1, none⟩ b).setCell ⟨Q, 2, none⟩ c).setCell ⟨Q, 3, none⟩ d).setCell ⟨Q, 4, none⟩ e) :=
  ((((h.setCell (p := ⟨Q, 0, none⟩) hQ a).setCell (p := ⟨Q, 1, none⟩) hQ b).setCell (p := ⟨Q, 2, none⟩) hQ c).setCell (p := ⟨Q, 3, none⟩) hQ d).setCell (p := ⟨Q, 4, none⟩) hQ e
theorem bl_back (s : ByteArray) : (⟨(bl s).toArray⟩ : ByteArray) = s := by apply ByteArray.ext; unfold bl; simp
set_option maxRecDepth 100000 in
set_option maxHeartbeats 4000000 in
theorem copperplateref18_Print.calls (a0_0 : ByteArray) (a0_1 : Int) (a0_2 : Int) (a0_3 : Int) (a0_4 : Int) (A1 : Option Addr) (c1 : Nat) (l1 : List S34) (a2 : Int) (a3 : Bool) (r1 : ByteArray) (r2 : Int) (r3 : Int) (r4 : Int) (r5 : Int) (w : World) (hr1 : Kd.C k34 w A1 l1.length l1) (hc1 : l1.length ≤ c1) (h : copperplateref18_Print.f a0_0 a0_1 a0_2 a0_3 a0_4 l1 a2 a3 = some (r1, r2, r3, r4, r5)) :
    Calls Try.prog 31 #[.agg #[.string a0_0, .int .i64 a0_1, .int .i64 a0_2, .int .i64 a0_3, .int .i64 a0_4], .slice A1 l1.length c1, .int .i64 a2, .bool a3] w fun e w' => e = .returned (.agg #[.string r1, .int .i64 r2, .int .i64 r3, .int .i64 r4, .int .i64 r5]) ∧ Below w.heap.size w w' := by
  unfold copperplateref18_Print.f at h
  by_cases hD : PrD a0_0 a0_1 a0_2 a0_3 l1 a2
  rotate_left
  · rw [if_neg hD] at h; exact absurd h (by simp)
  rw [if_pos hD] at h
  have hE := Option.some.inj h
  clear h
  obtain ⟨i, rfl⟩ := Int.eq_ofNat_of_zero_le hD.i0
  have hi : i < l1.length := by have := hD.i1; omega
  rw [Int.toNat_natCast] at hE
  have HD := Aside0.mk hD
  have htx := hD.txt
  rw [Int.toNat_natCast] at htx
  obtain ⟨X, hX⟩ : ∃ X, w.heap.size = X := ⟨_, rfl⟩
  obtain ⟨ad, rfl, hx0, hx1⟩ := at_T34 hr1 (i : Int) (by omega) (by omega)
  have hb0 : (ad.add ((i : Int).toNat * 2)).block < X := by have := World.block_lt_of_cell? w _ hx0; rw [hX] at this; exact this
  rw [Int.toNat_natCast] at hx0 hx1 hb0
  rw [rd_gB] at hx0 hx1
  obtain ⟨s, is, hfl⟩ : ∃ s is, flatOf (gB l1 i).f0 (gB l1 i).f1 = (s, is) := ⟨_, _, rfl⟩
  have hss : s.size ≤ 1099511627778 := by have := flatOf_size2 (gB l1 i).f0 (gB l1 i).f1; rw [hfl] at this; dsimp only at this; omega
  have hst : stepP (gB l1 i) (i : Int) a3 (matchOf l1 (i : Int)) ⟨bl a0_0, a0_1, a0_2, a0_3, a0_4⟩ = stepP (gB l1 i) (i : Int) a3 (matchOf l1 (i : Int)) ⟨bl a0_0, a0_1, a0_2, a0_3, a0_4⟩ := rfl
  obtain ⟨x, hx⟩ : ∃ x, gB l1 i = x := ⟨_, rfl⟩
  rw [hx] at hx0 hx1 hfl hE htx
  obtain ⟨u, t⟩ := x
  dsimp only at hx0 hx1 hfl htx
  have HFl := Aside0.mk hfl
  have HE := Aside0.mk hE
  have HR1 := Aside0.mk hr1
  have hu31 := Try.underlying34
  have hu39 := Try.underlying56
  have hq1 := World.alloc_heap_new w (.cells #[.string a0_0, .int .i64 a0_1, .int .i64 a0_2, .int .i64 a0_3, .int .i64 a0_4] 56)
  have hz1 : (w.alloc (.cells #[.string a0_0, .int .i64 a0_1, .int .i64 a0_2, .int .i64 a0_3, .int .i64 a0_4] 56)).heap.size = X + 1 := by rw [World.size_alloc, hX]
  obtain ⟨w1, hw1⟩ : ∃ w1, w.alloc (.cells #[.string a0_0, .int .i64 a0_1, .int .i64 a0_2, .int .i64 a0_3, .int .i64 a0_4] 56) = w1 := ⟨_, rfl⟩
  have hA1 : Below X w w1 := by rw [← hw1, ← hX]; exact (Below.refl _ w).alloc (Nat.le_refl _) _
  have hq2 := World.alloc_heap_new w1 (.cells #[.string (⟨#[]⟩ : ByteArray), .int .i64 0, .int .i64 0, .int .i64 0, .int .i64 0] 56)
  rw [hw1] at hz1 hq1
  rw [hz1] at hq2
  rw [hX] at hq1
  have hA2 : Below X w (w1.alloc (.cells #[.string (⟨#[]⟩ : ByteArray), .int .i64 0, .int .i64 0, .int .i64 0, .int .i64 0] 56)) := hA1.alloc (by omega) _
  have hq1' : (w1.alloc (.cells #[.string (⟨#[]⟩ : ByteArray), .int .i64 0, .int .i64 0, .int .i64 0, .int .i64 0] 56)).heap[X]? = _ := (((Below.refl w1.heap.size w1).alloc (Nat.le_refl _) _).block X (by omega)).trans hq1
  have hz2 : (w1.alloc (.cells #[.string (⟨#[]⟩ : ByteArray), .int .i64 0, .int .i64 0, .int .i64 0, .int .i64 0] 56)).heap.size = X + 1 + 1 := by rw [World.size_alloc, hz1]
  obtain ⟨Q, hQ⟩ : ∃ Q, X + 1 = Q := ⟨_, rfl⟩
  have hy0 := (hA2.cell hb0).trans hx0
  have hy1 := (hA2.cell (p := ⟨(ad.add (i * 2)).block, (ad.add (i * 2)).off + 1, none⟩) hb0).trans hx1
  rw [hQ] at hz1 hq2 hz2
  have a1_ : decide ((i : Int) < (l1.length : Int)) = true := decide_eq_true (by omega)
  have a2_ : decide (i < l1.length) = true := decide_eq_true hi
  have a3_ : decide ((0 : Int) ≤ (i : Int)) = true := decide_eq_true (by omega)
  have HIn := Aside0.mk hD.ind
  have hind := hD.ind
  clear hr1 hfl hE hD hst htx
  rw [hX]
  go_enter Try.func31, Try.ntmps31
  go_wp2_with fail
  refine (copperplateref17_Flat.calls 1 u t s is _ ((rflat_f 0 u t).trans (congrArg some HFl.out))).mono ?_
  rintro e w3 ⟨rfl, hb3⟩
  have hP3 := (hb3.block X (by rw [hz2]; omega)).trans hq1'
  have hQ3 := (hb3.block Q (by rw [hz2]; omega)).trans hq2
  have HB3 := Aside0.mk (hA2.trans (hb3.mono (by rw [hz2]; omega)))
  have hs3 := hb3.size
  rw [hz2] at hs3
  have hy0 := (HB3.out.cell hb0).trans hx0
  have hy1 := (HB3.out.cell (p := ⟨(ad.add (i * 2)).block, (ad.add (i * 2)).off + 1, none⟩) hb0).trans hx1
  clear hb3 hq1' hq2 hz2 hz1 hA2 hA1 hq1 hw1
  go_wp2_with fail
  refine (copperplateref17_Breaks.calls u t (brB u) _ (rbreaks_f u t)).mono ?_
  rintro e w4 ⟨rfl, hb4⟩
  dsimp only
  have hP4 := (hb4.block X (by omega)).trans hP3
  have hQ4 := (hb4.block Q (by omega)).trans hQ3
  have HB4 := Aside0.mk (HB3.out.trans (hb4.mono (by omega)))
  have hs4 := hb4.size
  have hy0 := (HB4.out.cell hb0).trans hx0
  have hy1 := (HB4.out.cell (p := ⟨(ad.add (i * 2)).block, (ad.add (i * 2)).off + 1, none⟩) hb0).trans hx1
  have hXQ : X ≠ Q := by omega
  have hQX : Q ≠ X := by omega
  clear hb4 hP3 hQ3 HB3
  have p0 : w4.cell? ⟨X, 0, none⟩ = some (.string a0_0) := Lib.cell_of_heap hP4 0
  have p1 : w4.cell? ⟨X, 1, none⟩ = some (.int .i64 a0_1) := Lib.cell_of_heap hP4 1
  have p2 : w4.cell? ⟨X, 2, none⟩ = some (.int .i64 a0_2) := Lib.cell_of_heap hP4 2
  have p3 : w4.cell? ⟨X, 3, none⟩ = some (.int .i64 a0_3) := Lib.cell_of_heap hP4 3
  have p4 : w4.cell? ⟨X, 4, none⟩ = some (.int .i64 a0_4) := Lib.cell_of_heap hP4 4
  have f1 : w4.frozen? ⟨X, 1, none⟩ = false := Lib.frozen_of_heap hP4 1
  have f4 : w4.frozen? ⟨X, 4, none⟩ = false := Lib.frozen_of_heap hP4 4
  have q0 : w4.cell? ⟨Q, 0, none⟩ = some (.string (⟨#[]⟩ : ByteArray)) := Lib.cell_of_heap hQ4 0
  have q1 : w4.cell? ⟨Q, 1, none⟩ = some (.int .i64 0) := Lib.cell_of_heap hQ4 1
  have q2 : w4.cell? ⟨Q, 2, none⟩ = some (.int .i64 0) := Lib.cell_of_heap hQ4 2
  have q3 : w4.cell? ⟨Q, 3, none⟩ = some (.int .i64 0) := Lib.cell_of_heap hQ4 3
  have q4 : w4.cell? ⟨Q, 4, none⟩ = some (.int .i64 0) := Lib.cell_of_heap hQ4 4
  have g0 : w4.frozen? ⟨Q, 0, none⟩ = false := Lib.frozen_of_heap hQ4 0
  have g1 : w4.frozen? ⟨Q, 1, none⟩ = false := Lib.frozen_of_heap hQ4 1
  have g2 : w4.frozen? ⟨Q, 2, none⟩ = false := Lib.frozen_of_heap hQ4 2
  have g3 : w4.frozen? ⟨Q, 3, none⟩ = false := Lib.frozen_of_heap hQ4 3
  have g4 : w4.frozen? ⟨Q, 4, none⟩ = false := Lib.frozen_of_heap hQ4 4
  have HP4 := Aside0.mk hP4
  have HQ4 := Aside0.mk hQ4
  clear hP4 hQ4 hx
  by_cases u6 : u = 6
  · subst u6
    by_cases n1 : a0_4 < 0
    · have d1 : decide (a0_4 < 0) = true := decide_eq_true n1
      cases a3 with
      | true =>
        have hE := HE.out
        unfold stepP at hE
        rw [if_pos rfl, if_pos ⟨n1, rfl⟩] at hE
        simp only [pgT, Prod.mk.injEq] at hE
        obtain ⟨rfl, rfl, rfl, rfl, rfl⟩ := hE
        clear HE
        have HMt := Aside0.mk (rmatch_f (l := l1) (by have := HD.out.len; omega) (i : Int) (2 * l1.length + 3) (by omega))
        go_wp2_with fail
        refine (copperplateref17_Match.calls (2 * l1.length + 3) _ c1 l1 (i : Int) _ _ (Kd.C_below HR1.out (by rw [hX]; exact HB4.out)) hc1 HMt.out).mono ?_
        rintro e w5 ⟨rfl, n, rfl⟩
        go_wp2_with fail
        refine bodyPost_ret (results_cell_row rfl _ _ Q 56 #[_, _, _, _, _] (0, 0) _ rfl (page5 ((Below.heap_setCell _ _ _ _ (by show Q ≠ X; omega)).trans (show (w4.drewN n).heap[Q]? = _ from HQ4.out)) _ _ _ _ _) Try.underlying56 rfl (by kernel_rfl)) rfl ⟨by rw [bl_back], page5_below ((pw_below_drewN HB4.out n).setCell (p := ⟨X, 4, none⟩) (Nat.le_refl X) _) (by omega) _ _ _ _ _⟩
      | false =>
        have hE := HE.out
        unfold stepP at hE
        rw [if_pos rfl, if_neg (fun h => absurd h.2 (by decide))] at hE
        simp only [pgT, Prod.mk.injEq] at hE
        obtain ⟨rfl, rfl, rfl, rfl, rfl⟩ := hE
        clear HE
        go_wp2_with fail
        refine bodyPost_ret (results_cell_row rfl _ _ Q 56 #[_, _, _, _, _] (0, 0) _ rfl (page5 HQ4.out _ _ _ _ _) Try.underlying56 rfl (by kernel_rfl)) rfl ⟨by rw [bl_back], page5_below HB4.out (by omega) _ _ _ _ _⟩
    · have d1 : decide (a0_4 < 0) = false := decide_eq_false n1
      have hE := HE.out
      unfold stepP at hE
      rw [if_pos rfl, if_neg (fun h => n1 h.1)] at hE
      simp only [pgT, Prod.mk.injEq] at hE
      obtain ⟨rfl, rfl, rfl, rfl, rfl⟩ := hE
      clear HE
      go_wp2_with fail
      refine bodyPost_ret (results_cell_row rfl _ _ Q 56 #[_, _, _, _, _] (0, 0) _ rfl (page5 HQ4.out _ _ _ _ _) Try.underlying56 rfl (by kernel_rfl)) rfl ⟨by rw [bl_back], page5_below HB4.out (by omega) _ _ _ _ _⟩
  have u6b : (u == 6) = false := beq_eq_false_iff_ne.2 u6
  by_cases u7 : u = 7
  · subst u7
    by_cases n1 : a0_4 = (i : Int)
    · have d1 : (a0_4 == (i : Int)) = true := by rw [n1]; exact beq_self_eq_true _
      have hE := HE.out
      unfold stepP at hE
      dsimp only at hE
      rw [if_neg (show ¬ (7 : Int) = 6 by decide), if_pos rfl, if_pos n1] at hE
      simp only [pgT, Prod.mk.injEq] at hE
      obtain ⟨rfl, rfl, rfl, rfl, rfl⟩ := hE
      clear HE
      clear n1
      go_wp2_with fail
      refine bodyPost_ret (results_cell_row rfl _ _ Q 56 #[_, _, _, _, _] (0, 0) _ rfl (page5 ((Below.heap_setCell _ _ _ _ (by show Q ≠ X; omega)).trans HQ4.out) _ _ _ _ _) Try.underlying56 rfl (by kernel_rfl)) rfl ⟨by rw [bl_back], page5_below (HB4.out.setCell (p := ⟨X, 4, none⟩) (Nat.le_refl X) _) (by omega) _ _ _ _ _⟩
    · have d1 : (a0_4 == (i : Int)) = false := beq_eq_false_iff_ne.2 n1
      have hE := HE.out
      unfold stepP at hE
      dsimp only at hE
      rw [if_neg (show ¬ (7 : Int) = 6 by decide), if_pos rfl, if_neg n1] at hE
      simp only [pgT, Prod.mk.injEq] at hE
      obtain ⟨rfl, rfl, rfl, rfl, rfl⟩ := hE
      clear HE
      clear n1
      go_wp2_with fail
      refine bodyPost_ret (results_cell_row rfl _ _ Q 56 #[_, _, _, _, _] (0, 0) _ rfl (page5 HQ4.out _ _ _ _ _) Try.underlying56 rfl (by kernel_rfl)) rfl ⟨by rw [bl_back], page5_below HB4.out (by omega) _ _ _ _ _⟩
  have u7b : (u == 7) = false := beq_eq_false_iff_ne.2 u7
  by_cases u8 : u = 8
  · subst u8
    have hE := HE.out
    unfold stepP at hE
    dsimp only at hE
    rw [if_neg (show ¬ (8 : Int) = 6 by decide), if_neg (show ¬ (8 : Int) = 7 by decide), if_pos rfl] at hE
    simp only [pgT, Prod.mk.injEq] at hE
    obtain ⟨rfl, rfl, rfl, rfl, rfl⟩ := hE
    clear HE
    go_wp2_with fail
    refine bodyPost_ret (results_cell_row rfl _ _ Q 56 #[_, _, _, _, _] (0, 0) _ rfl (page5 ((Below.heap_setCell _ _ _ _ (by show Q ≠ X; omega)).trans HQ4.out) _ _ _ _ _) Try.underlying56 rfl (by kernel_rfl)) rfl ⟨by rw [bl_back], page5_below (HB4.out.setCell (p := ⟨X, 1, none⟩) (Nat.le_refl X) _) (by omega) _ _ _ _ _⟩
  have u8b : (u == 8) = false := beq_eq_false_iff_ne.2 u8
  by_cases u9 : u = 9
  · subst u9
    have hE := HE.out
    unfold stepP at hE
    dsimp only at hE
    rw [if_neg (show ¬ (9 : Int) = 6 by decide), if_neg (show ¬ (9 : Int) = 7 by decide), if_neg (show ¬ (9 : Int) = 8 by decide), if_pos rfl] at hE
    simp only [pgT, Prod.mk.injEq] at hE
    obtain ⟨rfl, rfl, rfl, rfl, rfl⟩ := hE
    clear HE
    go_wp2_with fail
    refine bodyPost_ret (results_cell_row rfl _ _ Q 56 #[_, _, _, _, _] (0, 0) _ rfl (page5 ((Below.heap_setCell _ _ _ _ (by show Q ≠ X; omega)).trans HQ4.out) _ _ _ _ _) Try.underlying56 rfl (by kernel_rfl)) rfl ⟨by rw [bl_back], page5_below (HB4.out.setCell (p := ⟨X, 1, none⟩) (Nat.le_refl X) _) (by omega) _ _ _ _ _⟩
  have u9b : (u == 9) = false := beq_eq_false_iff_ne.2 u9
  have hst := HE.out
  unfold stepP at hst
  dsimp only at hst
  rw [if_neg u6, if_neg u7, if_neg u8, if_neg u9, HFl.out] at hst
  have HST := Aside0.mk hst
  clear hst HE
  cases hbu : brB u with
  | false =>
    have hE := HST.out
    rw [if_neg (fun h => absurd (hbu.symm.trans h.1) (by decide))] at hE
    have hL := rput_f ⟨bl a0_0, a0_1, a0_2, a0_3, a0_4⟩ s HD.out.due.1 (by have := HD.out.due.2; show a0_3 ≤ _; omega) HD.out.col.1 HD.out.col.2 (by omega) (by show (bl a0_0).length ≤ _; rw [bl_len]; have := HD.out.out; omega) (K := s.size + 1048600) (by omega) (by have := HD.out.due.2; show a0_3.toNat < _; omega)
    rw [hE] at hL
    dsimp only at hL
    rw [bl_back] at hL
    have HL := Aside0.mk hL
    clear hE hL HST
    go_wp2_with fail
    refine (copperplateref18_Put.calls (s.size + 1048600) a0_0 a0_1 a0_2 a0_3 a0_4 s r1 r2 r3 r4 r5 _ HL.out).mono ?_
    rintro e w5 ⟨rfl, hb5⟩
    have HQ5 := Aside0.mk ((hb5.block Q (by omega)).trans HQ4.out)
    have HB5 := Aside0.mk (HB4.out.trans (hb5.mono (by omega)))
    have q0 : w5.cell? ⟨Q, 0, none⟩ = some (.string (⟨#[]⟩ : ByteArray)) := Lib.cell_of_heap HQ5.out 0
    have q1 : w5.cell? ⟨Q, 1, none⟩ = some (.int .i64 0) := Lib.cell_of_heap HQ5.out 1
    have q2 : w5.cell? ⟨Q, 2, none⟩ = some (.int .i64 0) := Lib.cell_of_heap HQ5.out 2
    have q3 : w5.cell? ⟨Q, 3, none⟩ = some (.int .i64 0) := Lib.cell_of_heap HQ5.out 3
    have q4 : w5.cell? ⟨Q, 4, none⟩ = some (.int .i64 0) := Lib.cell_of_heap HQ5.out 4
    have g0 : w5.frozen? ⟨Q, 0, none⟩ = false := Lib.frozen_of_heap HQ5.out 0
    have g1 : w5.frozen? ⟨Q, 1, none⟩ = false := Lib.frozen_of_heap HQ5.out 1
    have g2 : w5.frozen? ⟨Q, 2, none⟩ = false := Lib.frozen_of_heap HQ5.out 2
    have g3 : w5.frozen? ⟨Q, 3, none⟩ = false := Lib.frozen_of_heap HQ5.out 3
    have g4 : w5.frozen? ⟨Q, 4, none⟩ = false := Lib.frozen_of_heap HQ5.out 4
    clear hb5
    go_wp2_with fail
    refine bodyPost_ret (results_cell_row rfl _ _ Q 56 #[_, _, _, _, _] (0, 0) _ rfl (page5 HQ5.out _ _ _ _ _) Try.underlying56 rfl (by kernel_rfl)) rfl ⟨rfl, page5_below HB5.out (by omega) _ _ _ _ _⟩
  | true =>
    by_cases n1 : a0_4 < 0
    · have d1 : decide (a0_4 < 0) = true := decide_eq_true n1
      have hE := HST.out
      rw [if_pos ⟨hbu, .inl n1⟩] at hE
      have hL := rline_f ⟨bl a0_0, a0_1, a0_2, a0_3, a0_4⟩ (by show (bl a0_0).length + 1 ≤ _; rw [bl_len]; have := HD.out.out; omega)
      rw [hE] at hL
      dsimp only at hL
      rw [bl_back] at hL
      have HL := Aside0.mk hL
      clear hE hL HST
      go_wp2_with fail
      refine (copperplateref18_Line.calls a0_0 a0_1 a0_2 a0_3 a0_4 r1 r2 r3 r4 r5 _ HL.out).mono ?_
      rintro e w5 ⟨rfl, hb5⟩
      have HQ5 := Aside0.mk ((hb5.block Q (by omega)).trans HQ4.out)
      have HB5 := Aside0.mk (HB4.out.trans (hb5.mono (by omega)))
      have q0 : w5.cell? ⟨Q, 0, none⟩ = some (.string (⟨#[]⟩ : ByteArray)) := Lib.cell_of_heap HQ5.out 0
      have q1 : w5.cell? ⟨Q, 1, none⟩ = some (.int .i64 0) := Lib.cell_of_heap HQ5.out 1
      have q2 : w5.cell? ⟨Q, 2, none⟩ = some (.int .i64 0) := Lib.cell_of_heap HQ5.out 2
      have q3 : w5.cell? ⟨Q, 3, none⟩ = some (.int .i64 0) := Lib.cell_of_heap HQ5.out 3
      have q4 : w5.cell? ⟨Q, 4, none⟩ = some (.int .i64 0) := Lib.cell_of_heap HQ5.out 4
      have g0 : w5.frozen? ⟨Q, 0, none⟩ = false := Lib.frozen_of_heap HQ5.out 0
      have g1 : w5.frozen? ⟨Q, 1, none⟩ = false := Lib.frozen_of_heap HQ5.out 1
      have g2 : w5.frozen? ⟨Q, 2, none⟩ = false := Lib.frozen_of_heap HQ5.out 2
      have g3 : w5.frozen? ⟨Q, 3, none⟩ = false := Lib.frozen_of_heap HQ5.out 3
      have g4 : w5.frozen? ⟨Q, 4, none⟩ = false := Lib.frozen_of_heap HQ5.out 4
      clear hb5
      go_wp2_with fail
      refine bodyPost_ret (results_cell_row rfl _ _ Q 56 #[_, _, _, _, _] (0, 0) _ rfl (page5 HQ5.out _ _ _ _ _) Try.underlying56 rfl (by kernel_rfl)) rfl ⟨rfl, page5_below HB5.out (by omega) _ _ _ _ _⟩
    · have d1 : decide (a0_4 < 0) = false := decide_eq_false n1
      by_cases u5 : u = 5
      · subst u5
        have hE := HST.out
        rw [if_pos (show brB 5 = true ∧ (a0_4 < 0 ∨ (5 : Int) = 5) from ⟨hbu, .inr rfl⟩)] at hE
        have hL := rline_f ⟨bl a0_0, a0_1, a0_2, a0_3, a0_4⟩ (by show (bl a0_0).length + 1 ≤ _; rw [bl_len]; have := HD.out.out; omega)
        rw [hE] at hL
        dsimp only at hL
        rw [bl_back] at hL
        have HL := Aside0.mk hL
        clear hE hL HST
        go_wp2_with fail
        refine (copperplateref18_Line.calls a0_0 a0_1 a0_2 a0_3 a0_4 r1 r2 r3 r4 r5 _ HL.out).mono ?_
        rintro e w5 ⟨rfl, hb5⟩
        have HQ5 := Aside0.mk ((hb5.block Q (by omega)).trans HQ4.out)
        have HB5 := Aside0.mk (HB4.out.trans (hb5.mono (by omega)))
        have q0 : w5.cell? ⟨Q, 0, none⟩ = some (.string (⟨#[]⟩ : ByteArray)) := Lib.cell_of_heap HQ5.out 0
        have q1 : w5.cell? ⟨Q, 1, none⟩ = some (.int .i64 0) := Lib.cell_of_heap HQ5.out 1
        have q2 : w5.cell? ⟨Q, 2, none⟩ = some (.int .i64 0) := Lib.cell_of_heap HQ5.out 2
        have q3 : w5.cell? ⟨Q, 3, none⟩ = some (.int .i64 0) := Lib.cell_of_heap HQ5.out 3
        have q4 : w5.cell? ⟨Q, 4, none⟩ = some (.int .i64 0) := Lib.cell_of_heap HQ5.out 4
        have g0 : w5.frozen? ⟨Q, 0, none⟩ = false := Lib.frozen_of_heap HQ5.out 0
        have g1 : w5.frozen? ⟨Q, 1, none⟩ = false := Lib.frozen_of_heap HQ5.out 1
        have g2 : w5.frozen? ⟨Q, 2, none⟩ = false := Lib.frozen_of_heap HQ5.out 2
        have g3 : w5.frozen? ⟨Q, 3, none⟩ = false := Lib.frozen_of_heap HQ5.out 3
        have g4 : w5.frozen? ⟨Q, 4, none⟩ = false := Lib.frozen_of_heap HQ5.out 4
        clear hb5
        go_wp2_with fail
        refine bodyPost_ret (results_cell_row rfl _ _ Q 56 #[_, _, _, _, _] (0, 0) _ rfl (page5 HQ5.out _ _ _ _ _) Try.underlying56 rfl (by kernel_rfl)) rfl ⟨rfl, page5_below HB5.out (by omega) _ _ _ _ _⟩
      · have u5b : (u == 5) = false := beq_eq_false_iff_ne.2 u5
        have hE := HST.out
        rw [if_neg (fun h => h.2.elim (fun h_ => by omega) u5)] at hE
        have hL := rput_f ⟨bl a0_0, a0_1, a0_2, a0_3, a0_4⟩ s HD.out.due.1 (by have := HD.out.due.2; show a0_3 ≤ _; omega) HD.out.col.1 HD.out.col.2 (by omega) (by show (bl a0_0).length ≤ _; rw [bl_len]; have := HD.out.out; omega) (K := s.size + 1048600) (by omega) (by have := HD.out.due.2; show a0_3.toNat < _; omega)
        rw [hE] at hL
        dsimp only at hL
        rw [bl_back] at hL
        have HL := Aside0.mk hL
        clear hE hL HST
        go_wp2_with fail
        refine (copperplateref18_Put.calls (s.size + 1048600) a0_0 a0_1 a0_2 a0_3 a0_4 s r1 r2 r3 r4 r5 _ HL.out).mono ?_
        rintro e w5 ⟨rfl, hb5⟩
        have HQ5 := Aside0.mk ((hb5.block Q (by omega)).trans HQ4.out)
        have HB5 := Aside0.mk (HB4.out.trans (hb5.mono (by omega)))
        have q0 : w5.cell? ⟨Q, 0, none⟩ = some (.string (⟨#[]⟩ : ByteArray)) := Lib.cell_of_heap HQ5.out 0
        have q1 : w5.cell? ⟨Q, 1, none⟩ = some (.int .i64 0) := Lib.cell_of_heap HQ5.out 1
        have q2 : w5.cell? ⟨Q, 2, none⟩ = some (.int .i64 0) := Lib.cell_of_heap HQ5.out 2
        have q3 : w5.cell? ⟨Q, 3, none⟩ = some (.int .i64 0) := Lib.cell_of_heap HQ5.out 3
        have q4 : w5.cell? ⟨Q, 4, none⟩ = some (.int .i64 0) := Lib.cell_of_heap HQ5.out 4
        have g0 : w5.frozen? ⟨Q, 0, none⟩ = false := Lib.frozen_of_heap HQ5.out 0
        have g1 : w5.frozen? ⟨Q, 1, none⟩ = false := Lib.frozen_of_heap HQ5.out 1
        have g2 : w5.frozen? ⟨Q, 2, none⟩ = false := Lib.frozen_of_heap HQ5.out 2
        have g3 : w5.frozen? ⟨Q, 3, none⟩ = false := Lib.frozen_of_heap HQ5.out 3
        have g4 : w5.frozen? ⟨Q, 4, none⟩ = false := Lib.frozen_of_heap HQ5.out 4
        clear hb5
        go_wp2_with fail
        refine bodyPost_ret (results_cell_row rfl _ _ Q 56 #[_, _, _, _, _] (0, 0) _ rfl (page5 HQ5.out _ _ _ _ _) Try.underlying56 rfl (by kernel_rfl)) rfl ⟨rfl, page5_below HB5.out (by omega) _ _ _ _ _⟩
theorem rprint_f {l : List S34} (hl : l.length ≤ 4000) {i : Nat} (hi : i < l.length) (p : PgB) (b : Bool) (hs : (gB l i).f1.size ≤ 1099511627776) (h0 : 0 ≤ p.due) (h1 : p.due ≤ 8000) (hc0 : 0 ≤ p.col) (hc1 : p.col ≤ 2199023255552) (hi0 : 0 ≤ p.ind) (hi1 : p.ind ≤ 8000) (ho : p.out.length ≤ 70368744177664) :
    copperplateref18_Print.f ⟨p.out.toArray⟩ p.ind p.col p.due p.flat l (i : Int) b = some (pgT (stepP (gB l i) i b (matchOf l i) p)) := by
  unfold copperplateref18_Print.f
  rw [if_pos ⟨by omega, by omega, hl, by rw [Int.toNat_natCast]; exact hs, ⟨hi0, hi1⟩, ⟨hc0, by omega⟩, ⟨h0, h1⟩, by rw [← bl_len]; exact ho⟩, Int.toNat_natCast]
  rfl
end Go.Proofs.Ytkhlfdoeploddaa.PFlow
