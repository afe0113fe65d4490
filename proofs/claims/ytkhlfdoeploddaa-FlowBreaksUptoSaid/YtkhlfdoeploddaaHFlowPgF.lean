/- A page in one block: its builder is its first field. What is written into it, and what it gives. -/
import Derived.Test.YtkhlfdoeploddaaHFlowPutLine
namespace Go.Proofs.Ytkhlfdoeploddaa.PFlow
open Go.RowKit Go.Shelf Go.Proofs.YtkhlfdoeploddaaW.PrintWords Go.Proofs.YtkhlfdoeploddaaW.PrintMore
set_option linter.unusedVariables false
set_option linter.unusedSimpArgs false
/-- The page's type. -/
abbrev tyP : Nat := 45
def pgC (q v : Value) (p : PgB) : Array Value := #[q, v, .int .i64 p.ind, .int .i64 p.col, .int .i64 p.due, .int .i64 p.flat]
structure PgS (B P : Nat) (q v : Value) (p : PgB) (W : World) : Prop where
  hB : B ≤ P
  blk : W.heap[P]? = some (.cells (pgC q v p) tyP (0, 0))
  own : W.ownsRowF B 5 1 v p.out.length (Lib.byteCells p.out)
  ne : v.ownBlock ≠ some P
/-- A page, fresh or used. -/
def PgA (B P : Nat) (p : PgB) (W : World) : Prop := ∃ q v, (q = .pointer none ∨ q = .pointer (some ⟨P, 0, none⟩)) ∧ PgS B P q v p W
section
variable {B P : Nat} {q v : Value} {p : PgB} {W W' : World}
theorem PgS.lt (h : PgS B P q v p W) : P < W.heap.size := (Array.getElem?_eq_some_iff.1 h.blk).1
theorem PgS.c0 (h : PgS B P q v p W) : W.cell? ⟨P, 0, none⟩ = some q := Lib.cell_of_heap h.blk 0
theorem PgS.c1 (h : PgS B P q v p W) : W.cell? ⟨P, 1, none⟩ = some v := Lib.cell_of_heap h.blk 1
theorem PgS.c2 (h : PgS B P q v p W) : W.cell? ⟨P, 2, none⟩ = some (.int .i64 p.ind) := Lib.cell_of_heap h.blk 2
theorem PgS.c3 (h : PgS B P q v p W) : W.cell? ⟨P, 3, none⟩ = some (.int .i64 p.col) := Lib.cell_of_heap h.blk 3
theorem PgS.c4 (h : PgS B P q v p W) : W.cell? ⟨P, 4, none⟩ = some (.int .i64 p.due) := Lib.cell_of_heap h.blk 4
theorem PgS.c5 (h : PgS B P q v p W) : W.cell? ⟨P, 5, none⟩ = some (.int .i64 p.flat) := Lib.cell_of_heap h.blk 5
theorem PgS.fz (h : PgS B P q v p W) (j : Nat) : W.frozen? ⟨P, j, none⟩ = false := Lib.frozen_of_heap h.blk j
theorem PgS.below (h : PgS B P q v p W) (hb : Below W.heap.size W W') : PgS B P q v p W' :=
  ⟨h.hB, (hb.block P h.lt).trans h.blk, h.own.kept (grown_of_below hb none) (by cases hv : v.ownBlock <;> simp), h.ne⟩
theorem PgS.drew (h : PgS B P q v p W) : PgS B P q v p W.drew := ⟨h.hB, h.blk, h.own, h.ne⟩
theorem PgS.drewN (h : PgS B P q v p W) (n : Nat) : PgS B P q v p (W.drewN n) := h.below ⟨rfl, rfl, rfl, Nat.le_refl _, fun _ _ => rfl⟩
theorem pgS_set (h : PgS B P q v p W) (j : Nat) (x : Value) {q' : Value} {p' : PgB} (hc : (pgC q v p).setIfInBounds j x = pgC q' v p') (hp : p'.out = p.out) : PgS B P q' v p' (W.setCell ⟨P, j, none⟩ x) := by
  refine ⟨h.hB, ?_, ?_, h.ne⟩
  · rw [← hc]; simp [World.setCell, Array.getElem?_modify, h.blk]
  · rw [hp]
    exact h.own.kept (row := some P) ⟨rfl, rfl, rfl, by simp [World.setCell], fun k _ hk => Below.heap_setCell _ _ _ _ (fun e => hk (by simp [e]))⟩ (Or.inr h.ne)
theorem PgS.setQ (h : PgS B P q v p W) (x : Value) : PgS B P x v p (W.setCell ⟨P, 0, none⟩ x) := pgS_set h 0 x rfl rfl
theorem PgS.setInd (h : PgS B P q v p W) (x : Int) : PgS B P q v { p with ind := x } (W.setCell ⟨P, 2, none⟩ (.int .i64 x)) := pgS_set h 2 _ rfl rfl
theorem PgS.setCol (h : PgS B P q v p W) (x : Int) : PgS B P q v { p with col := x } (W.setCell ⟨P, 3, none⟩ (.int .i64 x)) := pgS_set h 3 _ rfl rfl
theorem PgS.setDue (h : PgS B P q v p W) (x : Int) : PgS B P q v { p with due := x } (W.setCell ⟨P, 4, none⟩ (.int .i64 x)) := pgS_set h 4 _ rfl rfl
theorem PgS.setFlat (h : PgS B P q v p W) (x : Int) : PgS B P q v { p with flat := x } (W.setCell ⟨P, 5, none⟩ (.int .i64 x)) := pgS_set h 5 _ rfl rfl
end
theorem own_ne {w : World} {B : Nat} {e T : TypeId} {v : Value} {n : Nat} {xs : List Value} {b : Nat} {cs : Array Value} {fr : Nat × Nat} (hown : w.ownsRowF B e 1 v n xs) (hb : w.heap[b]? = some (.cells cs T fr)) (hTe : T ≠ e) : v.ownBlock ≠ some b := by
  intro h
  obtain ⟨c, fz, hc⟩ := Lib.ownsRowF_kind hown b h
  rw [hc] at hb
  injection hb with hb
  injection hb with _ hb _
  exact hTe hb.symm
set_option maxRecDepth 100000 in
set_option maxHeartbeats 2000000 in
/-- The builder's own check, at a page. -/
theorem copy_fresh {P : Nat} {w : World} (h0 : w.cell? ⟨P, 0, none⟩ = some (.pointer none)) (hsh : w.shape? P = some (tyP, 6)) (hfz : w.frozen? ⟨P, 0, none⟩ = false) :
    Calls Try.prog 54 #[.pointer (some ⟨P, 0, none⟩)] w fun e w' => e = .returned (.tuple #[]) ∧ w' = w.setCell ⟨P, 0, none⟩ (.pointer (some ⟨P, 0, none⟩)) := by
  obtain ⟨j, hj, hjs⟩ := Option.map_eq_some_iff.1 (show (Try.prog.info? tyB).map (·.size) = some 2 by kernel_rfl)
  have hl : liesAt Try.prog Try.prog.depth tyP (6 / Try.prog.cellsOf tyP) 0 tyB 1 = true := by kernel_rfl
  go_enter Try.func54, Try.ntmps54
  go_wp2
  rw [Lib.run_to_unsafe w ⟨P, 0, none⟩ Try.underlying40 Try.underlying93 hj (by rw [hjs]; decide) hsh (Nat.zero_lt_succ 5)]
  simp only [Result.andThen]
  rw [Oper.upon_value]
  go_wp2
  rw [run_callFunc_extern Try.func64 (by kernel_rfl) (by kernel_rfl) (by kernel_rfl) (e := Extern.AbiNoEscape.same) (by kernel_rfl)]
  rw [Lib.run_noEscape]
  simp only [Result.andThen]
  rw [Oper.upon_value]
  go_wp2
  rw [Lib.run_from_unsafe w ⟨P, 0, none⟩ Try.underlying93 Try.underlying40 hj hsh hl]
  simp only [Result.andThen]
  rw [Oper.upon_value]
  go_wp2
  go_end0
  exact ⟨rfl, rfl⟩
theorem copy_calls {B P : Nat} {q v : Value} {p : PgB} {w : World} (h : PgS B P q v p w) (hq : q = .pointer none ∨ q = .pointer (some ⟨P, 0, none⟩)) :
    Calls Try.prog 54 #[.pointer (some ⟨P, 0, none⟩)] w fun e w' => e = .returned (.tuple #[]) ∧ PgS B P (.pointer (some ⟨P, 0, none⟩)) v p w' ∧ Below B w w' ∧ Lib.OthersKept 5 (some P) w w' := by
  rcases hq with rfl | rfl
  · refine (copy_fresh h.c0 (by simp [World.shape?, h.blk, pgC]) (h.fz 0)).mono ?_
    rintro e w' ⟨rfl, rfl⟩
    exact ⟨rfl, h.setQ _, (Below.refl B w).setCell (p := ⟨P, 0, none⟩) h.hB _, (Lib.OthersKept.refl _ _ w).setCell ⟨P, 0, none⟩ rfl _⟩
  · refine (Any.Builder_copyCheck_used { YtkhlfdoeploddaaBld.lays166 with } Try.Builder_Extra_105.toX72 P w h.c0).mono ?_
    rintro e w' ⟨rfl, rfl⟩
    exact ⟨rfl, h, Below.refl B _, Lib.OthersKept.refl _ _ _⟩

theorem PgS.put {B P : Nat} {q v v' : Value} {p p' : PgB} {w : World} (hB : B ≤ P) (hb : w.heap[P]? = some (.cells (pgC q v p) tyP (0, 0))) (hown : w.ownsRowF B 5 1 v' p'.out.length (Lib.byteCells p'.out)) (hc : pgC q v' p = pgC q v' p') :
    PgS B P q v' p' (w.setCell ⟨P, 1, none⟩ v') := by
  have hne := own_ne hown hb (by decide)
  refine ⟨hB, ?_, ?_, hne⟩
  · rw [← hc]; simp [World.setCell, Array.getElem?_modify, hb, pgC]
  · exact hown.kept (row := some P) ⟨rfl, rfl, rfl, by simp [World.setCell], fun k _ hk => Below.heap_setCell _ _ _ _ (fun e => hk (by simp [e]))⟩ (Or.inr hne)
set_option maxRecDepth 100000 in
set_option maxHeartbeats 2000000 in
theorem writeS_calls {B P : Nat} {p : PgB} {w : World} (s : ByteArray) (h : PgA B P p w) (hlen : p.out.length + s.size ≤ 140737488355328) (hBw : B ≤ w.heap.size) :
    Calls Try.prog 40 #[.pointer (some ⟨P, 0, none⟩), .string s] w fun e w' => e = .returned (.tuple #[.int .i64 s.size, .nilIface]) ∧ PgA B P { p with out := p.out ++ bl s } w' ∧ Below B w w' ∧ Lib.OthersKept 5 (some P) w w' := by
  obtain ⟨i0, hi, hz0, hz1, hz2⟩ := info_parts (show (Try.prog.info? 5).map (fun i => (i.zero, i.size, i.bytes)) = some (some (.int .u8 0), 1, 1) by kernel_rfl)
  obtain ⟨q, v, hq, h⟩ := h
  have HH := Aside0.mk h
  have HQ := Aside0.mk hq
  have HI := Aside0.mk hi
  clear h hq hi
  go_enter Try.func40, Try.ntmps40
  go_wp2_with (go_at_call 54; refine (copy_calls HH.out HQ.out).mono ?_)
  rintro e w1 ⟨rfl, h1, hb1, hk1⟩
  have c1 := h1.c1
  have own1 := h1.own
  have hs1 := hb1.size
  go_wp2_with (at_builtin; refine Lib.wpList_append_own_stringF _ rfl _ _ 41 9 rfl B 5 i0 Try.underlying41 Try.underlying9 HI.out hz0 hz1 hz2 _ _ _ rfl own1 s rfl ?c3 ?c4 ?c5 ?_)
  case c3 => unfold maxLen; omega
  case c4 => omega
  case c5 => omega
  intro v' w2 hown' hgrow _
  have hb2 : w2.heap[P]? = some (.cells (pgC (.pointer (some ⟨P, 0, none⟩)) v p) tyP (0, 0)) := by
    rw [hgrow.block P h1.lt (fun e => h1.ne e.symm)]
    exact h1.blk
  have f1 : w2.frozen? ⟨P, 1, none⟩ = false := Lib.frozen_of_heap hb2 1
  have d1 : w2.cell? ⟨P, 1, none⟩ = some v := Lib.cell_of_heap hb2 1
  obtain ⟨ao, n', cap, rfl⟩ : ∃ ao n' cap, v' = .slice ao n' cap := by
    rcases hown'.2 with ⟨hv, _⟩ | ⟨g, cap, cur, fz, hv, _⟩
    · exact ⟨_, _, _, hv⟩
    · exact ⟨_, _, _, hv⟩
  have H1 := Aside0.mk h1
  have HO := Aside0.mk own1
  clear h1 own1
  go_wp2
  go_ret2
  refine ⟨rfl, ⟨_, _, .inr rfl, PgS.put (p' := { p with out := p.out ++ bl s }) H1.out.hB hb2 ?_ rfl⟩, ?_, (hk1.grown hgrow (Lib.ownsRowF_kind HO.out)).setCell ⟨P, 1, none⟩ rfl _⟩
  · show w2.ownsRowF B 5 1 _ (p.out ++ bl s).length (Lib.byteCells (p.out ++ bl s))
    rw [List.length_append, bl_len, Lib.byteCells_append]
    exact hown'
  · exact (hb1.grown hgrow (by omega) (fun k hk => (HO.out.lt k hk).1)).setCell (p := ⟨P, 1, none⟩) H1.out.hB _
set_option maxRecDepth 100000 in
set_option maxHeartbeats 2000000 in
theorem writeB_calls {B P : Nat} {p : PgB} {w : World} (h : PgA B P p w) (hlen : p.out.length + 1 ≤ 140737488355328) (hBw : B ≤ w.heap.size) :
    Calls Try.prog 35 #[.pointer (some ⟨P, 0, none⟩), .int .u8 10] w fun e w' => e = .returned .nilIface ∧ PgA B P { p with out := p.out ++ [10] } w' ∧ Below B w w' ∧ Lib.OthersKept 5 (some P) w w' := by
  obtain ⟨i0, hi, hz0, hz1, hz2⟩ := info_parts (show (Try.prog.info? 5).map (fun i => (i.zero, i.size, i.bytes)) = some (some (.int .u8 0), 1, 1) by kernel_rfl)
  obtain ⟨q, v, hq, h⟩ := h
  have HH := Aside0.mk h
  have HQ := Aside0.mk hq
  have HI := Aside0.mk hi
  clear h hq hi
  go_enter Try.func35, Try.ntmps35
  go_wp2_with (go_at_call 54; refine (copy_calls HH.out HQ.out).mono ?_)
  rintro e w1 ⟨rfl, h1, hb1, hk1⟩
  have c1 := h1.c1
  have own1 := h1.own
  have hs1 := hb1.size
  go_wp2_with (at_builtin; refine wpList_append_ownF _ rfl _ _ 41 rfl B 5 i0 (.int .u8 0) 1 1 Try.underlying41 HI.out hz0 hz1 hz2 rfl (by decide) _ _ _ rfl (own1.alloc _) ⟨w1.heap.size, 0, none⟩ 1 1 [.int .u8 10] rfl rfl ?c1 ?c2 ?c3 ?c4 ?c5 ?_)
  case c1 =>
    intro j u hj
    match j, hj with
    | 0, hj => simp at hj; subst hj; simp [Addr.add]
  case c2 => intro u hu; simp at hu; subst hu; rfl
  case c3 => unfold maxLen; omega
  case c4 => omega
  case c5 => simp; omega
  intro v' w2 hown' hgrow _
  have hlt := h1.lt
  have hb2 : w2.heap[P]? = some (.cells (pgC (.pointer (some ⟨P, 0, none⟩)) v p) tyP (0, 0)) := by
    rw [hgrow.block P (by simp; omega) (fun e => h1.ne e.symm), Lib.alloc_old w1 _ P hlt]
    exact h1.blk
  have f1 : w2.frozen? ⟨P, 1, none⟩ = false := Lib.frozen_of_heap hb2 1
  have d1 : w2.cell? ⟨P, 1, none⟩ = some v := Lib.cell_of_heap hb2 1
  obtain ⟨ao, n', cap, rfl⟩ : ∃ ao n' cap, v' = .slice ao n' cap := by
    rcases hown'.2 with ⟨hv, _⟩ | ⟨g, cap, cur, fz, hv, _⟩
    · exact ⟨_, _, _, hv⟩
    · exact ⟨_, _, _, hv⟩
  have H1 := Aside0.mk h1
  have HO := Aside0.mk own1
  clear h1 own1
  go_wp2
  go_ret
  refine ⟨rfl, ⟨_, _, .inr rfl, PgS.put (p' := { p with out := p.out ++ [10] }) H1.out.hB hb2 ?_ rfl⟩, ?_, ((hk1.alloc _).grown hgrow (Lib.ownsRowF_kind (HO.out.alloc _))).setCell ⟨P, 1, none⟩ rfl _⟩
  · show w2.ownsRowF B 5 1 _ (p.out ++ [10]).length (Lib.byteCells (p.out ++ [10]))
    rw [List.length_append, Lib.byteCells_append]
    exact hown'
  · exact ((hb1.alloc (by omega) _).grown hgrow (by simp; omega) (fun k hk => (HO.out.lt k hk).1)).setCell (p := ⟨P, 1, none⟩) H1.out.hB _
end Go.Proofs.Ytkhlfdoeploddaa.PFlow
