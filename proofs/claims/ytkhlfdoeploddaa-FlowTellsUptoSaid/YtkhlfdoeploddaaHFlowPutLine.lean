import Derived.Test.YtkhlfdoeploddaaHFlowPagL
import Derived.Test.YtkhlfdoeploddaaHFlowMarkMay
import Derived.Test.YtkhlfdoeploddaaHFlowFlat
import Derived.Test.YtkhlfdoeploddaaHFlowBld
import Derived.Test.YtkhlfdoeploddaaPFlowx6
namespace Go.Proofs.Ytkhlfdoeploddaa.PFlow
open Go.RowKit Go.Shelf Go.Proofs.YtkhlfdoeploddaaW.PrintWords Go.Proofs.YtkhlfdoeploddaaW.PrintMore
set_option linter.unusedVariables false
set_option linter.unusedSimpArgs false
/-- The builder's type. -/
abbrev tyB : Nat := 43
theorem bld_below {T e B b : Nat} {bs : List Value} {w w' : World} (h : Lib.IsBuilderF T e B b bs w) (hb : Below w.heap.size w w') : Lib.IsBuilderF T e B b bs w' := by
  rcases h with h | h
  · have hlt := h.lt
    obtain ⟨hB, v, hbk, hown, hne⟩ := h
    exact .inl ⟨hB, v, (hb.block b hlt).trans hbk, hown.kept (grown_of_below hb none) (by cases hv : v.ownBlock <;> simp), hne⟩
  · have hlt := h.lt
    obtain ⟨hB, v, hbk, hown, hne⟩ := h
    exact .inr ⟨hB, v, (hb.block b hlt).trans hbk, hown.kept (grown_of_below hb none) (by cases hv : v.ownBlock <;> simp), hne⟩
theorem row_set {e B n : Nat} {v : Value} {xs : List Value} {w : World} (h : w.ownsRowF B e 1 v n xs) {k t : Nat} {c : Array Value} (hk : w.heap[k]? = some (.cells c t (0, 0))) (ht : t ≠ e) (j : Nat) (x : Value) : (w.setCell ⟨k, j, none⟩ x).ownsRowF B e 1 v n xs := by
  obtain ⟨h1, h2⟩ := h
  refine ⟨h1, ?_⟩
  rcases h2 with h2 | ⟨g, cap, cur, fz, rfl, hg, hh, r⟩
  · exact .inl h2
  · refine .inr ⟨g, cap, cur, fz, rfl, hg, ?_, r⟩
    rw [Below.heap_setCell _ _ _ _ (by
      intro e1
      subst e1
      rw [hk] at hh
      injection hh with hh
      injection hh with _ hh _
      exact ht hh)]
    exact hh
theorem bld_set {T e B b : Nat} {bs : List Value} {w : World} (h : Lib.IsBuilderF T e B b bs w) {k t : Nat} {c : Array Value} (hk : w.heap[k]? = some (.cells c t (0, 0))) (ht : t ≠ e) (hkb : b ≠ k) (j : Nat) (x : Value) : Lib.IsBuilderF T e B b bs (w.setCell ⟨k, j, none⟩ x) := by
  rcases h with h | h
  · obtain ⟨hB, v, hbk, hown, hne⟩ := h
    exact .inl ⟨hB, v, (Below.heap_setCell _ _ _ _ hkb).trans hbk, row_set hown hk ht j x, hne⟩
  · obtain ⟨hB, v, hbk, hown, hne⟩ := h
    exact .inr ⟨hB, v, (Below.heap_setCell _ _ _ _ hkb).trans hbk, row_set hown hk ht j x, hne⟩
/-- Where a page lies: the builder, and the boxes of the indent, the column, the blanks that are due. -/
structure PgW (B Bo Bi Bc Bd : Nat) (p : PgB) (W : World) : Prop where
  out : Lib.IsBuilderF tyB 5 B Bo (Lib.byteCells p.out) W
  ind : W.heap[Bi]? = some (.cells #[.int .i64 p.ind] 3 (0, 0))
  col : W.heap[Bc]? = some (.cells #[.int .i64 p.col] 3 (0, 0))
  due : W.heap[Bd]? = some (.cells #[.int .i64 p.due] 3 (0, 0))
structure PgN (B Bo Bi Bc Bd : Nat) : Prop where
  o : B ≤ Bo
  i : B ≤ Bi
  c : B ≤ Bc
  d : B ≤ Bd
  oi : Bo ≠ Bi
  oc : Bo ≠ Bc
  od : Bo ≠ Bd
  ic : Bi ≠ Bc
  id : Bi ≠ Bd
  cd : Bc ≠ Bd
theorem PgW.below {B Bo Bi Bc Bd : Nat} {p : PgB} {W W' : World} (h : PgW B Bo Bi Bc Bd p W) (hb : Below W.heap.size W W') : PgW B Bo Bi Bc Bd p W' := by
  have lt : ∀ {k : Nat} {o : Obj}, W.heap[k]? = some o → k < W.heap.size := fun hk => (Array.getElem?_eq_some_iff.1 hk).1
  exact ⟨bld_below h.out hb, (hb.block _ (lt h.ind)).trans h.ind, (hb.block _ (lt h.col)).trans h.col, (hb.block _ (lt h.due)).trans h.due⟩
theorem PgW.drew {B Bo Bi Bc Bd : Nat} {p : PgB} {W : World} (h : PgW B Bo Bi Bc Bd p W) : PgW B Bo Bi Bc Bd p W.drew := ⟨h.out, h.ind, h.col, h.due⟩
theorem PgW.setCol {B Bo Bi Bc Bd : Nat} {p : PgB} {W : World} (h : PgW B Bo Bi Bc Bd p W) (n : PgN B Bo Bi Bc Bd) (x : Int) : PgW B Bo Bi Bc Bd { p with col := x } (W.setCell ⟨Bc, 0, none⟩ (.int .i64 x)) :=
  ⟨bld_set h.out h.col (by decide) n.oc 0 _, (Below.heap_setCell _ _ _ _ n.ic).trans h.ind, one_setCell h.col, (Below.heap_setCell _ _ _ _ (Ne.symm n.cd)).trans h.due⟩
theorem PgW.setDue {B Bo Bi Bc Bd : Nat} {p : PgB} {W : World} (h : PgW B Bo Bi Bc Bd p W) (n : PgN B Bo Bi Bc Bd) (x : Int) : PgW B Bo Bi Bc Bd { p with due := x } (W.setCell ⟨Bd, 0, none⟩ (.int .i64 x)) :=
  ⟨bld_set h.out h.due (by decide) n.od 0 _, (Below.heap_setCell _ _ _ _ n.id).trans h.ind, (Below.heap_setCell _ _ _ _ n.cd).trans h.col, one_setCell h.due⟩
theorem PgW.setInd {B Bo Bi Bc Bd : Nat} {p : PgB} {W : World} (h : PgW B Bo Bi Bc Bd p W) (n : PgN B Bo Bi Bc Bd) (x : Int) : PgW B Bo Bi Bc Bd { p with ind := x } (W.setCell ⟨Bi, 0, none⟩ (.int .i64 x)) :=
  ⟨bld_set h.out h.ind (by decide) n.oi 0 _, one_setCell h.ind, (Below.heap_setCell _ _ _ _ (Ne.symm n.ic)).trans h.col, (Below.heap_setCell _ _ _ _ (Ne.symm n.id)).trans h.due⟩
/-- Behind a writer of the builder. -/
theorem PgW.wrote {B Bo Bi Bc Bd : Nat} {p : PgB} {W W' : World} (h : PgW B Bo Bi Bc Bd p W) (n : PgN B Bo Bi Bc Bd) {l : List UInt8} (hb : Lib.IsBuilderF tyB 5 B Bo (Lib.byteCells l) W') (ho : Lib.OthersKept 5 (some Bo) W W') : PgW B Bo Bi Bc Bd { p with out := l } W' := by
  refine ⟨hb, ho _ _ h.ind ?_ ?_, ho _ _ h.col ?_ ?_, ho _ _ h.due ?_ ?_⟩
  all_goals first
    | (intro e; injection e with e; first | exact n.oi e.symm | exact n.oc e.symm | exact n.od e.symm)
    | (intro c fz e; injection e with _ e _; exact absurd e (by decide))
/-- What else there is stays. -/
def Oth (Bo Bi Bc Bd : Nat) (W W' : World) : Prop := ∀ k o, W.heap[k]? = some o → k ≠ Bo → k ≠ Bi → k ≠ Bc → k ≠ Bd → (∀ c fz, o ≠ .cells c 5 fz) → W'.heap[k]? = some o
theorem Oth.refl (Bo Bi Bc Bd : Nat) (W : World) : Oth Bo Bi Bc Bd W W := fun _ _ h _ _ _ _ _ => h
theorem Oth.trans {Bo Bi Bc Bd : Nat} {A B C : World} (h : Oth Bo Bi Bc Bd A B) (k : Oth Bo Bi Bc Bd B C) : Oth Bo Bi Bc Bd A C := fun i o hi h1 h2 h3 h4 h5 => k i o (h i o hi h1 h2 h3 h4 h5) h1 h2 h3 h4 h5
theorem Oth.below {Bo Bi Bc Bd : Nat} {W W' : World} (hb : Below W.heap.size W W') : Oth Bo Bi Bc Bd W W' := fun k o hk _ _ _ _ _ => (hb.block k (Array.getElem?_eq_some_iff.1 hk).1).trans hk
theorem Oth.kept {Bo Bi Bc Bd : Nat} {W W' : World} (ho : Lib.OthersKept 5 (some Bo) W W') : Oth Bo Bi Bc Bd W W' := fun k o hk h1 _ _ _ h5 => ho k o hk (by intro e; injection e with e; exact h1 e) h5
theorem Oth.set {Bo Bi Bc Bd : Nat} (W : World) (k : Nat) (hk : k = Bi ∨ k = Bc ∨ k = Bd) (x : Value) : Oth Bo Bi Bc Bd W (W.setCell ⟨k, 0, none⟩ x) := fun j o hj h1 h2 h3 h4 _ => (Below.heap_setCell _ _ _ _ (by rcases hk with rfl | rfl | rfl <;> assumption)).trans hj
theorem Oth.drew {Bo Bi Bc Bd : Nat} (W : World) : Oth Bo Bi Bc Bd W W.drew := fun _ _ h _ _ _ _ _ => h
theorem wsq64 (n : Int) : IntKind.i64.wrap n = wrap64 n := by unfold wrap64; exact IntKind.wrap_i64 n
theorem rep32 (n : Nat) : Lib.repeatL [32] n = List.replicate n 32 := by
  induction n with
  | zero => rfl
  | succ n ih => rw [Lib.repeatL, ih, List.replicate_succ]; rfl

set_option maxRecDepth 100000 in
set_option maxHeartbeats 4000000 in
theorem put_calls {B Bo Bi Bc Bd : Nat} {p : PgB} {w : World} (s : ByteArray) (hp : PgW B Bo Bi Bc Bd p w) (n : PgN B Bo Bi Bc Bd) (h0 : 0 ≤ p.due) (hd1 : p.due ≤ 1048576) (hc0 : 0 ≤ p.col) (hcs : p.col ≤ 1152921504606846976) (hlen : p.out.length + p.due.toNat + s.size ≤ 140737488355328) (hBw : B ≤ w.heap.size) :
    Calls Try.prog 39 #[.string s, .pointer (some ⟨Bo, 0, none⟩), .pointer (some ⟨Bd, 0, none⟩), .pointer (some ⟨Bc, 0, none⟩)] w fun e w' => e = .returned (.tuple #[]) ∧ PgW B Bo Bi Bc Bd (putP p s) w' ∧ Below B w w' ∧ Oth Bo Bi Bc Bd w w' := by
  by_cases hz : s.size = 0
  · obtain rfl := size0' hz
    go_enter Try.func39, Try.ntmps39
    go_wp2
    refine bodyPost_ret (results_none rfl _ _ _) rfl ⟨rfl, hp, Below.refl _ _, Oth.refl _ _ _ _ _⟩
  · have b5 : s.toList.isEmpty = false := by
      cases h : s.toList with
      | nil => exact absurd (size0 h) hz
      | cons _ _ => rfl
    obtain ⟨d, hd⟩ := Int.eq_ofNat_of_zero_le h0
    have HP := Aside0.mk hp
    have HN := Aside0.mk n
    have cd := cell_of_one hp.due
    have HL := Aside0.mk hlen
    have HZ := Aside0.mk hz
    rw [hd] at cd
    have HD := Aside0.mk hd
    clear hp n hd hlen hz h0
    go_enter Try.func39, Try.ntmps39
    go_wp2_with fail
    refine (Try.strings_Repeat ⟨#[32]⟩ d _ (by have := HD.out; omega) (by show 1 * d ≤ _; have := HD.out; omega)).mono ?_
    rintro e w1 ⟨rfl, hb1⟩
    have HP1 := Aside0.mk (HP.out.below hb1)
    have HB1 := Aside0.mk (hb1.mono hBw)
    have HO1 := Aside0.mk (Oth.below (Bo := Bo) (Bi := Bi) (Bc := Bc) (Bd := Bd) hb1)
    have hs1 := hb1.size
    clear hb1 cd
    go_wp2_with fail
    have hrs : (⟨(Lib.repeatL (⟨#[32]⟩ : ByteArray).data.toList d).toArray⟩ : ByteArray).size = d := by
      show (Lib.repeatL [32] d).toArray.size = d
      rw [rep32, List.size_toArray, List.length_replicate]
    refine (YtkhlfdoeploddaaBld.writeString B Bo (Lib.byteCells p.out) ⟨(Lib.repeatL (⟨#[32]⟩ : ByteArray).data.toList d).toArray⟩ w1 HP1.out.out (by rw [Lib.byteCells_length, hrs]; have := HL.out; have := HD.out; omega) (Nat.le_trans hBw HB1.out.size)).mono ?_
    rintro e w2 ⟨rfl, hb2, hB2, hO2⟩
    have hb2' : Lib.IsBuilderF tyB 5 B Bo (Lib.byteCells (p.out ++ List.replicate d 32)) w2 := by
      rw [Lib.byteCells_append, ← rep32]
      exact .inr hb2
    have HP2 := Aside0.mk (HP1.out.wrote HN.out hb2' hO2)
    have HB2 := Aside0.mk (HB1.out.trans hB2)
    have HO2 := Aside0.mk (HO1.out.trans (Oth.kept hO2))
    clear hb2 hB2 hO2 hb2' hrs HP1 HB1 HO1
    go_wp2_with fail
    refine (YtkhlfdoeploddaaBld.writeString B Bo (Lib.byteCells (p.out ++ List.replicate d 32)) s w2 HP2.out.out (by rw [Lib.byteCells_length, List.length_append, List.length_replicate]; have := HL.out; have := HD.out; omega) (Nat.le_trans hBw HB2.out.size)).mono ?_
    rintro e w3 ⟨rfl, hb3, hB3, hO3⟩
    have hb3' : Lib.IsBuilderF tyB 5 B Bo (Lib.byteCells (p.out ++ List.replicate d 32 ++ bl s)) w3 := by
      rw [Lib.byteCells_append]
      exact .inr hb3
    have HP3 := Aside0.mk (HP2.out.wrote HN.out hb3' hO3)
    have HB3 := Aside0.mk (HB2.out.trans hB3)
    have HO3 := Aside0.mk (HO2.out.trans (Oth.kept hO3))
    clear hb3 hB3 hO3 hb3' HP2 HB2 HO2
    have k1 := cell_of_one HP3.out.col
    have k2 := cell_of_one HP3.out.due
    have k3 := free_of_one HP3.out.col
    have k4 := free_of_one HP3.out.due
    dsimp only at k1 k2
    go_wp2_with fail
    have hcl : s.size ≤ 4611686018427387904 := by have := HL.out; omega
    have HCl := Aside0.mk hcl
    clear hcl
    have HCu := Aside0.mk (wrap_id (x := p.col + colsOf s) (by have := colsOf_bd s; omega) (by have := colsOf_bd s; have := HL.out; omega))
    have HBs := Aside0.mk (Nat.le_trans hBw HB3.out.size)
    have n1 := HN.out.cd
    have n2 := Ne.symm HN.out.cd
    go_region_with ((go_at_call 19; refine (cols_calls s HCl.out _).mono ?_; rintro e w4 ⟨rfl, hb4⟩; have HP4 := Aside0.mk (PgW.below (HP3.out.drew) hb4); have k1 := cell_of_one HP4.out.col; have k2 := cell_of_one HP4.out.due; have k3 := free_of_one HP4.out.col; have k4 := free_of_one HP4.out.due; dsimp only at k1 k2; have HB4 := Aside0.mk hb4; clear hb4))
    all_goals
      rw [wsq64, HCu.out]
      go_end0
      refine ⟨rfl, ?_, ((HB3.out.trans ((Below.refl _ _).drew.trans HB4.out |>.mono HBs.out)).setCell (p := ⟨Bd, 0, none⟩) HN.out.d _).setCell (p := ⟨Bc, 0, none⟩) HN.out.c _, ((HO3.out.trans (Oth.drew w3)).trans (Oth.below HB4.out)).trans ((Oth.set _ Bd (.inr (.inr rfl)) _).trans (Oth.set _ Bc (.inr (.inl rfl)) _))⟩
      have h := (HP4.out.setDue HN.out 0).setCol HN.out (p.col + colsOf s)
      unfold putP
      rw [if_neg HZ.out, show p.due.toNat = d by have := HD.out; omega]
      exact h

set_option maxRecDepth 100000 in
set_option maxHeartbeats 4000000 in
theorem line_calls {B Bo Bi Bc Bd : Nat} {p : PgB} {w : World} (hp : PgW B Bo Bi Bc Bd p w) (n : PgN B Bo Bi Bc Bd) (hlen : p.out.length + 1 ≤ 140737488355328) (hBw : B ≤ w.heap.size) :
    Calls Try.prog 42 #[.pointer (some ⟨Bo, 0, none⟩), .pointer (some ⟨Bi, 0, none⟩), .pointer (some ⟨Bc, 0, none⟩), .pointer (some ⟨Bd, 0, none⟩)] w fun e w' => e = .returned (.tuple #[]) ∧ PgW B Bo Bi Bc Bd (lineP p) w' ∧ Below B w w' ∧ Oth Bo Bi Bc Bd w w' := by
  have HP := Aside0.mk hp
  have HN := Aside0.mk n
  have HL := Aside0.mk hlen
  clear hp n hlen
  go_enter Try.func42, Try.ntmps42
  go_wp2_with fail
  refine (YtkhlfdoeploddaaBld.writeByte B Bo (Lib.byteCells p.out) 10 w HP.out.out (by rw [Lib.byteCells_length]; exact HL.out) hBw).mono ?_
  rintro e w2 ⟨rfl, hb2, hB2, hO2⟩
  have hb2' : Lib.IsBuilderF tyB 5 B Bo (Lib.byteCells (p.out ++ [10])) w2 := by
    rw [Lib.byteCells_append]
    exact .inr hb2
  have HP2 := Aside0.mk (HP.out.wrote HN.out hb2' hO2)
  have HB2 := Aside0.mk hB2
  have HO2 := Aside0.mk (Oth.kept (Bi := Bi) (Bc := Bc) (Bd := Bd) hO2)
  clear hb2 hB2 hO2 hb2'
  have k0 := cell_of_one HP2.out.ind
  have k1 := cell_of_one HP2.out.col
  have k2 := cell_of_one HP2.out.due
  have k3 := free_of_one HP2.out.col
  have k4 := free_of_one HP2.out.due
  dsimp only at k0 k1 k2
  have n1 := HN.out.cd
  have n2 := Ne.symm HN.out.cd
  have n3 := HN.out.ic
  have n4 := Ne.symm HN.out.ic
  have n5 := HN.out.id
  have n6 := Ne.symm HN.out.id
  go_wp2_with fail
  go_region
  all_goals
    go_end0
    exact ⟨rfl, ((HP2.out.setCol HN.out p.ind).setDue HN.out p.ind).drew, ((HB2.out.setCell (p := ⟨Bc, 0, none⟩) HN.out.c _).setCell (p := ⟨Bd, 0, none⟩) HN.out.d _).drew, ((HO2.out.trans (Oth.set _ Bc (.inr (.inl rfl)) _)).trans (Oth.set _ Bd (.inr (.inr rfl)) _)).trans (Oth.drew _)⟩
end Go.Proofs.Ytkhlfdoeploddaa.PFlow
