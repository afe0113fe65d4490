/- What prints a bit into a page. -/
import Derived.Test.YtkhlfdoeploddaaHFlowPgP
namespace Go.Proofs.Ytkhlfdoeploddaa.PFlow
open Go.RowKit Go.Shelf Go.Proofs.YtkhlfdoeploddaaW.PrintWords Go.Proofs.YtkhlfdoeploddaaW.PrintMore
set_option linter.unusedVariables false
set_option linter.unusedSimpArgs false
theorem oth_below {P : Nat} {w w' : World} (hb : Below w.heap.size w w') : Lib.OthersKept 5 (some P) w w' := fun k o hk _ _ => (hb.block k (Array.getElem?_eq_some_iff.1 hk).1).trans hk
theorem flatOf_is {u : Int} (t : ByteArray) (h0 : 0 ≤ u) (h1 : u < 10) : (flatOf u t).2 = decide (u ≠ 5) := by
  have : u = 0 ∨ u = 1 ∨ u = 2 ∨ u = 3 ∨ u = 4 ∨ u = 5 ∨ u = 6 ∨ u = 7 ∨ u = 8 ∨ u = 9 := by omega
  rcases this with e | e | e | e | e | e | e | e | e | e <;> (subst e; rfl)
theorem breaks_q (m : Int) (s : ByteArray) : span_Breaks.f m s = some (brB m) := by
  unfold span_Breaks.f brB
  by_cases h2 : m = 2
  · subst h2; rfl
  by_cases h3 : m = 3
  · subst h3; rfl
  by_cases h4 : m = 4
  · subst h4; rfl
  rw [if_neg h2, if_neg h3, if_neg h4]
  simp [h2, h3, h4]
set_option maxRecDepth 100000 in
set_option maxHeartbeats 4000000 in
theorem pprint_calls {B P : Nat} {p : PgB} {w : World} (u : Int) (t : ByteArray) (i : Int) (b : Bool) (M : Int) (hu0 : 0 ≤ u) (hu1 : u < 10) (h6 : u ≠ 6) (h7 : u ≠ 7) (hp : PgA B P p w) (hind : 0 ≤ p.ind ∧ p.ind ≤ 8000)
    (h0 : 0 ≤ p.due) (hd1 : p.due ≤ 1048576) (hc0 : 0 ≤ p.col) (hcs : p.col ≤ 1152921504606846976) (hlen : p.out.length + p.due.toNat + t.size + 2 ≤ 140737488355328) (hBw : B ≤ w.heap.size) :
    Calls Try.prog 24 #[.pointer (some ⟨P, 0, none⟩), .agg #[.int .i64 u, .string t]] w fun e w' => e = .returned (.tuple #[]) ∧ PgA B P (stepP ⟨u, t⟩ i b M p) w' ∧ Below B w w' ∧ Lib.OthersKept 5 (some P) w w' := by
  obtain ⟨q, v, hq, hp⟩ := hp
  have hB := hp.hB
  have hbA : Below w.heap.size w (w.alloc (.cells #[.int .i64 u, .string t] 34)) := (Below.refl _ w).alloc (Nat.le_refl _) _
  have hbx := World.alloc_heap_new w (.cells #[.int .i64 u, .string t] 34)
  obtain ⟨s, is, hfl⟩ : ∃ s is, flatOf u t = (s, is) := ⟨_, _, rfl⟩
  have his : is = decide (u ≠ 5) := by have := flatOf_is t hu0 hu1; rw [hfl] at this; exact this
  have hss : s.size ≤ t.size + 2 := by have := flatOf_size2 u t; rw [hfl] at this; exact this
  have HP := Aside0.mk hp
  have HQ := Aside0.mk hq
  have HF := Aside0.mk hfl
  have HL := Aside0.mk hlen
  have hmx : Try.prog.follows .mixedOrders = true := by kernel_rfl
  have hu31 := Try.underlying34
  obtain ⟨X, hX⟩ : ∃ X, w.heap.size = X := ⟨_, rfl⟩
  rw [hX] at hbx
  have HBx := Aside0.mk hbx
  have HBA := Aside0.mk hbA
  have hz : (w.alloc (.cells #[.int .i64 u, .string t] 34)).heap.size = X + 1 := by rw [World.size_alloc, hX]
  have hPX : P < X := by rw [← hX]; exact hp.lt
  have ex0 : (w.alloc (.cells #[.int .i64 u, .string t] 34)).cell? ⟨X, 0, none⟩ = some (.int .i64 u) := Lib.cell_of_heap hbx 0
  have ex1 : (w.alloc (.cells #[.int .i64 u, .string t] 34)).cell? ⟨X, 1, none⟩ = some (.string t) := Lib.cell_of_heap hbx 1
  rw [hX] at hBw
  clear hp hq hfl hlen hbx hbA
  go_enter Try.func24, Try.ntmps24
  go_wp2_with fail
  refine (span_Flat.calls u t s is _ (congrArg some HF.out)).mono ?_
  rintro e w1 ⟨rfl, hb1⟩
  have HP1 := Aside0.mk ((HP.out.below HBA.out).below hb1)
  have HB1 := Aside0.mk ((HBA.out.mono (by rw [hX]; exact hBw)).trans (hb1.mono (by rw [hz]; omega)))
  have HO1 := Aside0.mk ((oth_below (P := P) HBA.out).trans (oth_below hb1))
  have hBx := (hb1.block X (by rw [hz]; omega)).trans HBx.out
  have e0 : w1.cell? ⟨X, 0, none⟩ = some (.int .i64 u) := Lib.cell_of_heap hBx 0
  have e1 : w1.cell? ⟨X, 1, none⟩ = some (.string t) := Lib.cell_of_heap hBx 1
  have hs1 : X + 1 ≤ w1.heap.size := by have := hb1.size; rw [hz] at this; exact this
  have HX1 := Aside0.mk (show B ≤ w1.heap.size by omega)
  have k2 := HP1.out.c2
  have k3 := HP1.out.c3
  have k4 := HP1.out.c4
  have k5 := HP1.out.c5
  have f2 := HP1.out.fz 2
  have f3 := HP1.out.fz 3
  have f4 := HP1.out.fz 4
  clear ex0 ex1 hz HBA HBx hb1 hBx HP
  by_cases u8 : u = 8
  · subst u8
    go_wp2_with fail
    go_end0
    refine ⟨rfl, ⟨q, v, HQ.out, ?_⟩, HB1.out.setCell (p := ⟨P, 2, none⟩) hB _, HO1.out.setCell ⟨P, 2, none⟩ rfl _⟩
    exact HP1.out.setInd (p.ind + 2)
  have u8b : (u == 8) = false := beq_eq_false_iff_ne.2 u8
  by_cases u9 : u = 9
  · subst u9
    go_wp2_with fail
    go_end0
    refine ⟨rfl, ⟨q, v, HQ.out, ?_⟩, HB1.out.setCell (p := ⟨P, 2, none⟩) hB _, HO1.out.setCell ⟨P, 2, none⟩ rfl _⟩
    exact HP1.out.setInd (p.ind - 2)
  have u9b : (u == 9) = false := beq_eq_false_iff_ne.2 u9
  have hst : stepP ⟨u, t⟩ i b M p = if brB u = true ∧ (p.flat < 0 ∨ u = 5) then lineP p else putP p s := by
    unfold stepP
    dsimp only
    rw [if_neg h6, if_neg h7, if_neg u8, if_neg u9, HF.out]
  have HST := Aside0.mk hst
  clear hst
  by_cases u5 : u = 5
  · subst u5
    obtain rfl : is = false := his
    clear k2 k3 k4 k5 f2 f3 f4
    go_wp2_with fail
    refine (writeB_calls (B := B) ⟨q, v, HQ.out, HP1.out⟩ (by have := HL.out; omega) HX1.out).mono ?_
    rintro e w2 ⟨rfl, ⟨q2, v2, hq2, hp2⟩, hb2, ho2⟩
    have HP2 := Aside0.mk hp2
    have HQ2 := Aside0.mk hq2
    have HB2 := Aside0.mk (HB1.out.trans hb2)
    have HO2 := Aside0.mk (HO1.out.trans ho2)
    have k2 := hp2.c2
    have k3 := hp2.c3
    have k4 := hp2.c4
    have f3 := hp2.fz 3
    have f4 := hp2.fz 4
    dsimp only at k2 k3 k4
    clear hp2 hq2 hb2 ho2
    go_wp2_with fail
    go_region
    all_goals
      go_end0
      refine ⟨rfl, ⟨q2, v2, HQ2.out, ?_⟩, ((HB2.out.setCell (p := ⟨P, 3, none⟩) hB _).setCell (p := ⟨P, 4, none⟩) hB _).drew, ((HO2.out.setCell ⟨P, 3, none⟩ rfl _).setCell ⟨P, 4, none⟩ rfl _).drew⟩
      rw [HST.out, if_pos (show brB 5 = true ∧ (p.flat < 0 ∨ True) from ⟨by decide, .inr trivial⟩)]
      exact ((HP2.out.setCol p.ind).setDue p.ind).drew
  · obtain rfl : is = true := by rw [his]; exact decide_eq_true u5
    have HBR := Aside0.mk (breaks_q u t)
    clear his k2 k3 k4 k5 f2 f3 f4
    cases hbu : brB u with
    | true =>
      rw [hbu] at HBR
      by_cases n1 : p.flat < 0
      · have d1 : decide (p.flat < 0) = true := decide_eq_true n1
        go_wp2_with fail
        refine (span_Breaks.calls u t true _ HBR.out).mono ?_
        rintro e wx ⟨rfl, hbx⟩
        have HPx := Aside0.mk (HP1.out.below hbx)
        have HBx := Aside0.mk (HB1.out.trans (hbx.mono HX1.out))
        have HOx := Aside0.mk (HO1.out.trans (oth_below hbx))
        have HXx := Aside0.mk (Nat.le_trans HX1.out hbx.size)
        have k5 := HPx.out.c5
        clear hbx
        go_wp2_with fail
        refine (writeB_calls (B := B) ⟨q, v, HQ.out, HPx.out⟩ (by have := HL.out; omega) HXx.out).mono ?_
        rintro e w2 ⟨rfl, ⟨q2, v2, hq2, hp2⟩, hb2, ho2⟩
        have HP2 := Aside0.mk hp2
        have HQ2 := Aside0.mk hq2
        have HB2 := Aside0.mk (HBx.out.trans hb2)
        have HO2 := Aside0.mk (HOx.out.trans ho2)
        have k2 := hp2.c2
        have k3 := hp2.c3
        have k4 := hp2.c4
        have f3 := hp2.fz 3
        have f4 := hp2.fz 4
        dsimp only at k2 k3 k4
        clear hp2 hq2 hb2 ho2
        go_wp2_with fail
        go_region
        all_goals
          go_end0
          refine ⟨rfl, ⟨q2, v2, HQ2.out, ?_⟩, ((HB2.out.setCell (p := ⟨P, 3, none⟩) hB _).setCell (p := ⟨P, 4, none⟩) hB _).drew, ((HO2.out.setCell ⟨P, 3, none⟩ rfl _).setCell ⟨P, 4, none⟩ rfl _).drew⟩
          rw [HST.out, if_pos ⟨hbu, .inl n1⟩]
          exact ((HP2.out.setCol p.ind).setDue p.ind).drew
      · have d1 : decide (p.flat < 0) = false := decide_eq_false n1
        go_wp2_with fail
        refine (span_Breaks.calls u t true _ HBR.out).mono ?_
        rintro e wx ⟨rfl, hbx⟩
        have HPx := Aside0.mk (HP1.out.below hbx)
        have HBx := Aside0.mk (HB1.out.trans (hbx.mono HX1.out))
        have HOx := Aside0.mk (HO1.out.trans (oth_below hbx))
        have HXx := Aside0.mk (Nat.le_trans HX1.out hbx.size)
        have k5 := HPx.out.c5
        clear hbx
        go_wp2_with fail
        refine (pput_calls (B := B) s ⟨q, v, HQ.out, HPx.out⟩ h0 hd1 hc0 hcs (by have := HL.out; omega) HXx.out).mono ?_
        rintro e w2 ⟨rfl, hp2, hb2, ho2⟩
        have HP2 := Aside0.mk hp2
        have HB2 := Aside0.mk (HBx.out.trans hb2)
        have HO2 := Aside0.mk (HOx.out.trans ho2)
        clear hp2 hb2 ho2
        go_wp2_with fail
        go_end0
        refine ⟨rfl, ?_, HB2.out, HO2.out⟩
        rw [HST.out, if_neg (fun h => h.2.elim (fun h_ => by omega) u5)]
        exact HP2.out
    | false =>
      rw [hbu] at HBR
      go_wp2_with fail
      refine (span_Breaks.calls u t false _ HBR.out).mono ?_
      rintro e wx ⟨rfl, hbx⟩
      have HPx := Aside0.mk (HP1.out.below hbx)
      have HBx := Aside0.mk (HB1.out.trans (hbx.mono HX1.out))
      have HOx := Aside0.mk (HO1.out.trans (oth_below hbx))
      have HXx := Aside0.mk (Nat.le_trans HX1.out hbx.size)
      have k5 := HPx.out.c5
      clear hbx
      go_wp2_with fail
      refine (pput_calls (B := B) s ⟨q, v, HQ.out, HPx.out⟩ h0 hd1 hc0 hcs (by have := HL.out; omega) HXx.out).mono ?_
      rintro e w2 ⟨rfl, hp2, hb2, ho2⟩
      have HP2 := Aside0.mk hp2
      have HB2 := Aside0.mk (HBx.out.trans hb2)
      have HO2 := Aside0.mk (HOx.out.trans ho2)
      clear hp2 hb2 ho2
      go_wp2_with fail
      go_end0
      refine ⟨rfl, ?_, HB2.out, HO2.out⟩
      rw [HST.out, if_neg (fun h => absurd (hbu.symm.trans h.1) (by decide))]
      exact HP2.out
end Go.Proofs.Ytkhlfdoeploddaa.PFlow
