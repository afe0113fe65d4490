/- What a page gives, what puts a text into it, what prints a bit. -/
import Derived.Test.YtkhlfdoeploddaaHFlowPgF
import Derived.BigQuiet
import Derived.Deep.QuietTactic
namespace Go.Proofs.Ytkhlfdoeploddaa.PFlow
open Go.RowKit Go.Shelf Go.Proofs.YtkhlfdoeploddaaW.PrintWords Go.Proofs.YtkhlfdoeploddaaW.PrintMore
set_option linter.unusedVariables false
set_option linter.unusedSimpArgs false
set_option maxRecDepth 100000 in
set_option maxHeartbeats 2000000 in
theorem string_calls {B P : Nat} {p : PgB} {w : World} (h : PgA B P p w) (hBw : B ≤ w.heap.size) :
    Calls Try.prog 25 #[.pointer (some ⟨P, 0, none⟩)] w fun e w' => e = .returned (.string ⟨p.out.toArray⟩) ∧ Below B w w' := by
  obtain ⟨q, v, hq, h⟩ := h
  have hmx : Try.prog.follows .mixedOrders = true := by kernel_rfl
  have hlt := h.lt
  have c1 : w.drew.cell? ⟨P, 1, none⟩ = some v := h.drew.c1
  rcases h.own.2 with ⟨rfl, h0⟩ | ⟨g, cap, cur, fz, rfl, hbg, hg, hfz, hnc, hcm, hcs, htake⟩
  · have e0 : p.out = [] := List.eq_nil_of_length_eq_zero h0
    rw [e0]
    have hUS : ∀ (W : World) (x : Option Addr), (Builtin.unsafeString_ #[70, 3] 9 #[.pointer x, .int .i64 0]).run Try.prog W = .ok (.string .empty) W := fun W x => Lib.run_unsafeString_none W _ _ _ x
    have hSD : (Builtin.unsafeSliceData_ #[41] 70 #[.slice none 0 0]).run Try.prog w.drew = .ok (.pointer none) w.drew := rfl
    clear h h0 e0
    go_enter Try.func25, Try.ntmps25
    go_wp2
    go_region_o
    all_goals (go_wp2; go_ret; exact ⟨rfl, Below.drew (Below.refl B w)⟩)
  · by_cases hl0 : p.out.length = 0
    · have e0 : p.out = [] := List.eq_nil_of_length_eq_zero hl0
      rw [hl0] at c1
      have hUS : ∀ (W : World) (x : Option Addr), (Builtin.unsafeString_ #[70, 3] 9 #[.pointer x, .int .i64 0]).run Try.prog W = .ok (.string .empty) W := fun W x => Lib.run_unsafeString_none W _ _ _ x
      rw [e0]
      by_cases hc0 : cap = 0
      · subst hc0
        have hSD : (Builtin.unsafeSliceData_ #[41] 70 #[.slice (some ⟨g, 0, none⟩) 0 0]).run Try.prog w.drew = .ok (.pointer (some ⟨w.drew.heap.size, 0, none⟩)) (w.drew.alloc (.view ⟨g, 0, none⟩ 5)) :=
          Lib.run_unsafeSliceData_zero w.drew _ _ 5 Try.underlying70 ⟨g, 0, none⟩ 0 (5, cur.size) (by have hg' : w.drew.heap[g]? = some (.cells cur 5 fz) := hg; simp [World.shape?, hg'])
        have c2 : (w.drew.alloc (.view ⟨g, 0, none⟩ 5)).cell? ⟨P, 1, none⟩ = some (.slice (some ⟨g, 0, none⟩) 0 0) := (World.cell?_alloc_lt _ _ _ hlt).trans c1
        have c3 : (w.alloc (.view ⟨g, 0, none⟩ 5)).drew.cell? ⟨P, 1, none⟩ = some (.slice (some ⟨g, 0, none⟩) 0 0) := c2
        have c0 : w.cell? ⟨P, 1, none⟩ = some (.slice (some ⟨g, 0, none⟩) 0 0) := c1
        clear h e0 hl0 hnc hcm hcs htake hfz
        go_enter Try.func25, Try.ntmps25
        go_wp2
        go_region_o
        all_goals (go_wp2; go_ret; exact ⟨rfl, (Below.drew (Below.refl B w)).alloc hBw _⟩)
      · have hSD : (Builtin.unsafeSliceData_ #[41] 70 #[.slice (some ⟨g, 0, none⟩) 0 cap]).run Try.prog w.drew = .ok (.pointer (some ⟨g, 0, none⟩)) w.drew :=
          Lib.run_unsafeSliceData_row _ _ _ _ _ _ hc0
        clear h e0 hl0 hnc hcm hcs htake hfz hc0
        go_enter Try.func25, Try.ntmps25
        go_wp2
        go_region_o
        all_goals (go_wp2; go_ret; exact ⟨rfl, Below.drew (Below.refl B w)⟩)
    · have hSD : (Builtin.unsafeSliceData_ #[41] 70 #[.slice (some ⟨g, 0, none⟩) p.out.length cap]).run Try.prog w.drew = .ok (.pointer (some ⟨g, 0, none⟩)) w.drew :=
        Lib.run_unsafeSliceData_row _ _ _ _ _ _ (by omega)
      have hUS : (Builtin.unsafeString_ #[70, 3] 9 #[.pointer (some ⟨g, 0, none⟩), .int .i64 p.out.length]).run Try.prog w.drew = .ok (.string ⟨p.out.toArray⟩) (w.drew.freeze ⟨g, 0, none⟩ p.out.length) := by
        refine Lib.run_unsafeString_row w.drew 70 3 9 5 Try.underlying70 (by kernel_rfl) g cur.size (by have hg' : w.drew.heap[g]? = some (.cells cur 5 fz) := hg; simp [World.shape?, hg']) p.out (fun e => hl0 (by rw [e]; rfl)) (by omega) (by unfold maxLen at hcm; omega) ?_
        intro j x hx
        have := h.own.cells (g := g) rfl j (.int .u8 x.toNat) (by simp [Lib.byteCells, hx])
        exact this
      have HG := Aside0.mk hg
      clear h hl0 hnc hcm hcs htake hfz hg
      go_enter Try.func25, Try.ntmps25
      go_wp2
      go_region_o
      all_goals (go_wp2; go_ret; exact ⟨rfl, Lib.below_freeze (Below.drew (Below.refl B w)) (p := ⟨g, 0, none⟩) hbg _⟩)
theorem bl_app (a b : ByteArray) : bl (a ++ b) = bl a ++ bl b := by
  unfold bl
  rw [ByteArray.data_append, Array.toList_append]
set_option maxRecDepth 100000 in
set_option maxHeartbeats 4000000 in
theorem pput_calls {B P : Nat} {p : PgB} {w : World} (s : ByteArray) (hp : PgA B P p w) (h0 : 0 ≤ p.due) (hd1 : p.due ≤ 1048576) (hc0 : 0 ≤ p.col) (hcs : p.col ≤ 1152921504606846976) (hlen : p.out.length + p.due.toNat + s.size ≤ 140737488355328) (hBw : B ≤ w.heap.size) :
    Calls Try.prog 36 #[.pointer (some ⟨P, 0, none⟩), .string s] w fun e w' => e = .returned (.tuple #[]) ∧ PgA B P (putP p s) w' ∧ Below B w w' ∧ Lib.OthersKept 5 (some P) w w' := by
  by_cases hz : s.size = 0
  · obtain rfl := size0' hz
    go_enter Try.func36, Try.ntmps36
    go_wp2
    go_end0
    exact ⟨rfl, hp, Below.refl _ _, Lib.OthersKept.refl _ _ _⟩
  · have b5 : s.toList.isEmpty = false := by
      cases h : s.toList with
      | nil => exact absurd (size0 h) hz
      | cons _ _ => rfl
    obtain ⟨d, hd⟩ := Int.eq_ofNat_of_zero_le h0
    obtain ⟨q, v, hq, hp⟩ := hp
    have hB := hp.hB
    have HP := Aside0.mk hp
    have HQ := Aside0.mk hq
    have cd := hp.c4
    have HL := Aside0.mk hlen
    have HZ := Aside0.mk hz
    rw [hd] at cd
    have HD := Aside0.mk hd
    have hPl := hp.lt
    have hmx : Try.prog.follows .mixedOrders = true := by kernel_rfl
    obtain ⟨A, hA⟩ : ∃ A, (⟨(Lib.repeatL (⟨#[32]⟩ : ByteArray).data.toList d).toArray⟩ : ByteArray) = A := ⟨_, rfl⟩
    have HA := Aside0.mk (show bl A = List.replicate d 32 by rw [← hA]; show Lib.repeatL [32] d = _; rw [rep32])
    have HRs := Aside0.mk (show A.size = d by rw [← bl_len, HA.out, List.length_replicate])
    have HRep := Aside0.mk (fun W => (hA ▸ Try.strings_Repeat ⟨#[32]⟩ d W (by omega) (by show 1 * d ≤ _; omega) : Calls Try.prog 41 #[.string ⟨#[32]⟩, .int .i64 d] W fun e w' => e = .returned (.string A) ∧ Below W.heap.size W w'))
    clear hA
    have hadd : (9223372036854775807 < A.size + s.size) = False := eq_false (by rw [HRs.out]; have := HL.out; have := HD.out; omega)
    clear hp hd hlen hz h0 hq
    go_enter Try.func36, Try.ntmps36
    go_wp2_with fail
    go_region_with (first
      | (go_at_call 41; refine (HRep.out _).mono ?_; rintro e w1 ⟨rfl, hb1⟩; have HP1 := Aside0.mk (HP.out.drew.below hb1); have HS1 := Aside0.mk (Nat.le_trans hBw hb1.size); have HX1 := Aside0.mk (((Below.refl B w).drew).trans (hb1.mono hBw)); have HO1 := Aside0.mk (show Lib.OthersKept 5 (some P) w w1 from fun k o hk _ _ => (hb1.block k (Array.getElem?_eq_some_iff.1 hk).1).trans hk); clear hb1)
      | (go_at_call 40; refine (writeS_calls (B := B) (p := p) _ ⟨_, _, HQ.out, HP1.out⟩ (by rw [ByteArray.size_append, HRs.out]; have := HL.out; have := HD.out; omega) HS1.out).mono ?_; rintro e w2 ⟨rfl, ⟨q2, v2, hq2, hp2⟩, hb2, ho2⟩; have HQ2 := Aside0.mk hq2; have HP2 := Aside0.mk hp2; have HB2 := Aside0.mk (HX1.out.trans hb2); have HO2 := Aside0.mk (HO1.out.trans ho2); have k1 := hp2.c3; have k2 := hp2.c4; have k3 := hp2.fz 3; have k4 := hp2.fz 4; dsimp only at k1 k2; clear hq2 hp2 hb2 ho2))
    all_goals
      go_wp2_with fail
      have hcl : s.size ≤ 4611686018427387904 := by have := HL.out; omega
      have HCl := Aside0.mk hcl
      clear hcl
      have HCu := Aside0.mk (wrap_id (x := p.col + colsOf s) (by have := colsOf_bd s; omega) (by have := colsOf_bd s; have := HL.out; omega))
      have HBs := Aside0.mk (Nat.le_trans hBw HB2.out.size)
      clear cd
      go_region_with ((go_at_call 19; refine (cols_calls s HCl.out _).mono ?_; rintro e w4 ⟨rfl, hb4⟩; have HP4 := Aside0.mk (HP2.out.drew.below hb4); have k1 := HP4.out.c3; have k2 := HP4.out.c4; have k3 := HP4.out.fz 3; have k4 := HP4.out.fz 4; dsimp only at k1 k2; have HB4 := Aside0.mk hb4; clear hb4))
      all_goals
        rw [wsq64, HCu.out]
        go_end0
        refine ⟨rfl, ⟨q2, v2, HQ2.out, ?_⟩, ((HB2.out.trans ((Below.refl _ _).drew.trans HB4.out |>.mono HBs.out)).setCell (p := ⟨P, 4, none⟩) hB _).setCell (p := ⟨P, 3, none⟩) hB _, (((HO2.out.drew).trans (fun k o hk _ _ => (HB4.out.block k (Array.getElem?_eq_some_iff.1 hk).1).trans hk)).setCell ⟨P, 4, none⟩ rfl _).setCell ⟨P, 3, none⟩ rfl _⟩
        have h := (HP4.out.setDue 0).setCol (p.col + colsOf s)
        unfold putP
        rw [if_neg HZ.out, show p.due.toNat = d by have := HD.out; omega]
        rw [show p.out ++ List.replicate d 32 ++ bl s = p.out ++ bl (A ++ s) by rw [bl_app, List.append_assoc, HA.out]]
        exact h
end Go.Proofs.Ytkhlfdoeploddaa.PFlow
