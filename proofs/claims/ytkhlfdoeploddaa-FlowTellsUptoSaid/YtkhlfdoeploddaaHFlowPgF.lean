/- A page in one block: its builder is its first field. What is written into it, and what it gives. -/
import Derived.Test.YtkhlfdoeploddaaHFlowPutLine
import Derived.BigQuiet
import Derived.Deep.QuietTactic
namespace Go.Proofs.Ytkhlfdoeploddaa.PFlow
open Go.RowKit Go.Shelf Go.Proofs.YtkhlfdoeploddaaW.PrintWords Go.Proofs.YtkhlfdoeploddaaW.PrintMore
set_option linter.unusedVariables false
set_option linter.unusedSimpArgs false
/-- The page's type. -/
abbrev tyP : Nat := 45
def pgC (q v : Value) (p : PgB) : Array Value := #[q, v, .int .i64 p.ind, .int .i64 p.col, .int .i64 p.due, .int .i64 p.flat]
structure PgS (B P : Nat) (q v : Value) (p : PgB) (W : World) : Prop where
  hB : B ≤ P
  blk : W.heap[P]? = some (.cells (pgC q v p) tyP (0, 0))
  own : W.ownsRowF B 5 1 v p.out.length (Lib.byteCells p.out)
  ne : v.ownBlock ≠ some P
/-- A page, fresh or used. -/
def PgA (B P : Nat) (p : PgB) (W : World) : Prop := ∃ q v, (q = .pointer none ∨ q = .pointer (some ⟨P, 0, none⟩)) ∧ PgS B P q v p W
section
variable {B P : Nat} {q v : Value} {p : PgB} {W W' : World}
theorem PgS.lt (h : PgS B P q v p W) : P < W.heap.size := (Array.getElem?_eq_some_iff.1 h.blk).1
theorem PgS.c0 (h : PgS B P q v p W) : W.cell? ⟨P, 0, none⟩ = some q := Lib.cell_of_heap h.blk 0
theorem PgS.c1 (h : PgS B P q v p W) : W.cell? ⟨P, 1, none⟩ = some v := Lib.cell_of_heap h.blk 1
theorem PgS.c2 (h : PgS B P q v p W) : W.cell? ⟨P, 2, none⟩ = some (.int .i64 p.ind) := Lib.cell_of_heap h.blk 2
theorem PgS.c3 (h : PgS B P q v p W) : W.cell? ⟨P, 3, none⟩ = some (.int .i64 p.col) := Lib.cell_of_heap h.blk 3
theorem PgS.c4 (h : PgS B P q v p W) : W.cell? ⟨P, 4, none⟩ = some (.int .i64 p.due) := Lib.cell_of_heap h.blk 4
theorem PgS.c5 (h : PgS B P q v p W) : W.cell? ⟨P, 5, none⟩ = some (.int .i64 p.flat) := Lib.cell_of_heap h.blk 5
theorem PgS.fz (h : PgS B P q v p W) (j : Nat) : W.frozen? ⟨P, j, none⟩ = false := Lib.frozen_of_heap h.blk j
theorem PgS.below (h : PgS B P q v p W) (hb : Below W.heap.size W W') : PgS B P q v p W' :=
  ⟨h.hB, (hb.block P h.lt).trans h.blk, h.own.kept (grown_of_below hb none) (by cases hv : v.ownBlock <;> simp), h.ne⟩
theorem PgS.drew (h : PgS B P q v p W) : PgS B P q v p W.drew := ⟨h.hB, h.blk, h.own, h.ne⟩
theorem PgS.drewN (h : PgS B P q v p W) (n : Nat) : PgS B P q v p (W.drewN n) := h.below ⟨rfl, rfl, rfl, Nat.le_refl _, fun _ _ => rfl⟩
theorem pgS_set (h : PgS B P q v p W) (j : Nat) (x : Value) {q' : Value} {p' : PgB} (hc : (pgC q v p).setIfInBounds j x = pgC q' v p') (hp : p'.out = p.out) : PgS B P q' v p' (W.setCell ⟨P, j, none⟩ x) := by
  refine ⟨h.hB, ?_, ?_, h.ne⟩
  · rw [← hc]; simp [World.setCell, Array.getElem?_modify, h.blk]
  · rw [hp]
    exact h.own.kept (row := some P) ⟨rfl, rfl, rfl, by simp [World.setCell], fun k _ hk => Below.heap_setCell _ _ _ _ (fun e => hk (by simp [e]))⟩ (Or.inr h.ne)
theorem PgS.setQ (h : PgS B P q v p W) (x : Value) : PgS B P x v p (W.setCell ⟨P, 0, none⟩ x) := pgS_set h 0 x rfl rfl
theorem PgS.setInd (h : PgS B P q v p W) (x : Int) : PgS B P q v { p with ind := x } (W.setCell ⟨P, 2, none⟩ (.int .i64 x)) := pgS_set h 2 _ rfl rfl
theorem PgS.setCol (h : PgS B P q v p W) (x : Int) : PgS B P q v { p with col := x } (W.setCell ⟨P, 3, none⟩ (.int .i64 x)) := pgS_set h 3 _ rfl rfl
theorem PgS.setDue (h : PgS B P q v p W) (x : Int) : PgS B P q v { p with due := x } (W.setCell ⟨P, 4, none⟩ (.int .i64 x)) := pgS_set h 4 _ rfl rfl
theorem PgS.setFlat (h : PgS B P q v p W) (x : Int) : PgS B P q v { p with flat := x } (W.setCell ⟨P, 5, none⟩ (.int .i64 x)) := pgS_set h 5 _ rfl rfl
end
theorem own_ne {w : World} {B : Nat} {e T : TypeId} {v : Value} {n : Nat} {xs : List Value} {b : Nat} {cs : Array Value} {fr : Nat × Nat} (hown : w.ownsRowF B e 1 v n xs) (hb : w.heap[b]? = some (.cells cs T fr)) (hTe : T ≠ e) : v.ownBlock ≠ some b := by
  intro h
  obtain ⟨c, fz, hc⟩ := Lib.ownsRowF_kind hown b h
  rw [hc] at hb
  injection hb with hb
  injection hb with _ hb _
  exact hTe hb.symm
set_option maxRecDepth 100000 in
set_option maxHeartbeats 2000000 in
/-- The builder's own check, at a page. -/
theorem copy_fresh {P : Nat} {w : World} (h0 : w.cell? ⟨P, 0, none⟩ = some (.pointer none)) (hsh : w.shape? P = some (tyP, 6)) (hfz : w.frozen? ⟨P, 0, none⟩ = false) :
    Calls Try.prog 54 #[.pointer (some ⟨P, 0, none⟩)] w fun e w' => e = .returned (.tuple #[]) ∧ w' = w.setCell ⟨P, 0, none⟩ (.pointer (some ⟨P, 0, none⟩)) := by
  obtain ⟨j, hj, hjs⟩ := Option.map_eq_some_iff.1 (show (Try.prog.info? tyB).map (·.size) = some 2 by kernel_rfl)
  have hl : liesAt Try.prog Try.prog.depth tyP (6 / Try.prog.cellsOf tyP) 0 tyB 1 = true := by kernel_rfl
  go_enter Try.func54, Try.ntmps54
  go_wp2
  rw [Lib.run_to_unsafe w ⟨P, 0, none⟩ Try.underlying40 Try.underlying93 hj (by rw [hjs]; decide) hsh (Nat.zero_lt_succ 5)]
  simp only [Result.andThen]
  rw [Oper.upon_value]
  go_wp2
  rw [run_callFunc_extern Try.func64 (by kernel_rfl) (by kernel_rfl) (by kernel_rfl) (e := Extern.AbiNoEscape.same) (by kernel_rfl)]
  rw [Lib.run_noEscape]
  simp only [Result.andThen]
  rw [Oper.upon_value]
  go_wp2
  rw [Lib.run_from_unsafe w ⟨P, 0, none⟩ Try.underlying93 Try.underlying40 hj hsh hl]
  simp only [Result.andThen]
  rw [Oper.upon_value]
  go_wp2
  go_end0
  exact ⟨rfl, rfl⟩
theorem copy_calls {B P : Nat} {q v : Value} {p : PgB} {w : World} (h : PgS B P q v p w) (hq : q = .pointer none ∨ q = .pointer (some ⟨P, 0, none⟩)) :
    Calls Try.prog 54 #[.pointer (some ⟨P, 0, none⟩)] w fun e w' => e = .returned (.tuple #[]) ∧ PgS B P (.pointer (some ⟨P, 0, none⟩)) v p w' ∧ Below B w w' ∧ Lib.OthersKept 5 (some P) w w' := by
  rcases hq with rfl | rfl
  · refine (copy_fresh h.c0 (by simp [World.shape?, h.blk, pgC]) (h.fz 0)).mono ?_
    rintro e w' ⟨rfl, rfl⟩
    exact ⟨rfl, h.setQ _, (Below.refl B w).setCell (p := ⟨P, 0, none⟩) h.hB _, (Lib.OthersKept.refl _ _ w).setCell ⟨P, 0, none⟩ rfl _⟩
  · refine (Any.Builder_copyCheck_used { YtkhlfdoeploddaaBld.lays166 with } Try.Builder_Extra_105.toX72 P w h.c0).mono ?_
    rintro e w' ⟨rfl, rfl⟩
    exact ⟨rfl, h, Below.refl B _, Lib.OthersKept.refl _ _ _⟩

theorem PgS.put {B P : Nat} {q v v' : Value} {p p' : PgB} {w : World} (hB : B ≤ P) (hb : w.heap[P]? = some (.cells (pgC q v p) tyP (0, 0))) (hown : w.ownsRowF B 5 1 v' p'.out.length (Lib.byteCells p'.out)) (hc : pgC q v' p = pgC q v' p') :
    PgS B P q v' p' (w.setCell ⟨P, 1, none⟩ v') := by
  have hne := own_ne hown hb (by decide)
  refine ⟨hB, ?_, ?_, hne⟩
  · rw [← hc]; simp [World.setCell, Array.getElem?_modify, hb, pgC]
  · exact hown.kept (row := some P) ⟨rfl, rfl, rfl, by simp [World.setCell], fun k _ hk => Below.heap_setCell _ _ _ _ (fun e => hk (by simp [e]))⟩ (Or.inr hne)
set_option maxRecDepth 100000 in
set_option maxHeartbeats 2000000 in
theorem writeS_calls {B P : Nat} {p : PgB} {w : World} (s : ByteArray) (h : PgA B P p w) (hlen : p.out.length + s.size ≤ 140737488355328) (hBw : B ≤ w.heap.size) :
    Calls Try.prog 40 #[.pointer (some ⟨P, 0, none⟩), .string s] w fun e w' => e = .returned (.tuple #[.int .i64 s.size, .nilIface]) ∧ PgA B P { p with out := p.out ++ bl s } w' ∧ Below B w w' ∧ Lib.OthersKept 5 (some P) w w' := by
  obtain ⟨i0, hi, hz0, hz1, hz2⟩ := info_parts (show (Try.prog.info? 5).map (fun i => (i.zero, i.size, i.bytes)) = some (some (.int .u8 0), 1, 1) by kernel_rfl)
  obtain ⟨q, v, hq, h⟩ := h
  have HH := Aside0.mk h
  have HQ := Aside0.mk hq
  have HI := Aside0.mk hi
  clear h hq hi
  go_enter Try.func40, Try.ntmps40
  go_wp2_with (go_at_call 54; refine (copy_calls HH.out HQ.out).mono ?_)
  rintro e w1 ⟨rfl, h1, hb1, hk1⟩
  have c1 := h1.c1
  have own1 := h1.own
  have hs1 := hb1.size
  go_wp2_with (at_builtin; refine Lib.wpList_append_own_stringF _ rfl _ _ 41 9 rfl B 5 i0 Try.underlying41 Try.underlying9 HI.out hz0 hz1 hz2 _ _ _ rfl own1 s rfl ?c3 ?c4 ?c5 ?_)
  case c3 => unfold maxLen; omega
  case c4 => omega
  case c5 => omega
  intro v' w2 hown' hgrow _
  have hb2 : w2.heap[P]? = some (.cells (pgC (.pointer (some ⟨P, 0, none⟩)) v p) tyP (0, 0)) := by
    rw [hgrow.block P h1.lt (fun e => h1.ne e.symm)]
    exact h1.blk
  have f1 : w2.frozen? ⟨P, 1, none⟩ = false := Lib.frozen_of_heap hb2 1
  have d1 : w2.cell? ⟨P, 1, none⟩ = some v := Lib.cell_of_heap hb2 1
  obtain ⟨ao, n', cap, rfl⟩ : ∃ ao n' cap, v' = .slice ao n' cap := by
    rcases hown'.2 with ⟨hv, _⟩ | ⟨g, cap, cur, fz, hv, _⟩
    · exact ⟨_, _, _, hv⟩
    · exact ⟨_, _, _, hv⟩
  have H1 := Aside0.mk h1
  have HO := Aside0.mk own1
  clear h1 own1
  go_wp2
  go_ret2
  refine ⟨rfl, ⟨_, _, .inr rfl, PgS.put (p' := { p with out := p.out ++ bl s }) H1.out.hB hb2 ?_ rfl⟩, ?_, (hk1.grown hgrow (Lib.ownsRowF_kind HO.out)).setCell ⟨P, 1, none⟩ rfl _⟩
  · show w2.ownsRowF B 5 1 _ (p.out ++ bl s).length (Lib.byteCells (p.out ++ bl s))
    rw [List.length_append, bl_len, Lib.byteCells_append]
    exact hown'
  · exact (hb1.grown hgrow (by omega) (fun k hk => (HO.out.lt k hk).1)).setCell (p := ⟨P, 1, none⟩) H1.out.hB _
set_option maxRecDepth 100000 in
set_option maxHeartbeats 2000000 in
theorem writeB_calls {B P : Nat} {p : PgB} {w : World} (h : PgA B P p w) (hlen : p.out.length + 1 ≤ 140737488355328) (hBw : B ≤ w.heap.size) :
    Calls Try.prog 35 #[.pointer (some ⟨P, 0, none⟩), .int .u8 10] w fun e w' => e = .returned .nilIface ∧ PgA B P { p with out := p.out ++ [10] } w' ∧ Below B w w' ∧ Lib.OthersKept 5 (some P) w w' := by
  obtain ⟨i0, hi, hz0, hz1, hz2⟩ := info_parts (show (Try.prog.info? 5).map (fun i => (i.zero, i.size, i.bytes)) = some (some (.int .u8 0), 1, 1) by kernel_rfl)
  obtain ⟨q, v, hq, h⟩ := h
  have HH := Aside0.mk h
  have HQ := Aside0.mk hq
  have HI := Aside0.mk hi
  clear h hq hi
  go_enter Try.func35, Try.ntmps35
  go_wp2_with (go_at_call 54; refine (copy_calls HH.out HQ.out).mono ?_)
  rintro e w1 ⟨rfl, h1, hb1, hk1⟩
  have c1 := h1.c1
  have own1 := h1.own
  have hs1 := hb1.size
  go_wp2_with (at_builtin; refine wpList_append_ownF _ rfl _ _ 41 rfl B 5 i0 (.int .u8 0) 1 1 Try.underlying41 HI.out hz0 hz1 hz2 rfl (by decide) _ _ _ rfl (own1.alloc _) ⟨w1.heap.size, 0, none⟩ 1 1 [.int .u8 10] rfl rfl ?c1 ?c2 ?c3 ?c4 ?c5 ?_)
  case c1 =>
    intro j u hj
    match j, hj with
    | 0, hj => simp at hj; subst hj; simp [Addr.add]
  case c2 => intro u hu; simp at hu; subst hu; rfl
  case c3 => unfold maxLen; omega
  case c4 => omega
  case c5 => simp; omega
  intro v' w2 hown' hgrow _
  have hlt := h1.lt
  have hb2 : w2.heap[P]? = some (.cells (pgC (.pointer (some ⟨P, 0, none⟩)) v p) tyP (0, 0)) := by
    rw [hgrow.block P (by simp; omega) (fun e => h1.ne e.symm), Lib.alloc_old w1 _ P hlt]
    exact h1.blk
  have f1 : w2.frozen? ⟨P, 1, none⟩ = false := Lib.frozen_of_heap hb2 1
  have d1 : w2.cell? ⟨P, 1, none⟩ = some v := Lib.cell_of_heap hb2 1
  obtain ⟨ao, n', cap, rfl⟩ : ∃ ao n' cap, v' = .slice ao n' cap := by
    rcases hown'.2 with ⟨hv, _⟩ | ⟨g, cap, cur, fz, hv, _⟩
    · exact ⟨_, _, _, hv⟩
    · exact ⟨_, _, _, hv⟩
  have H1 := Aside0.mk h1
  have HO := Aside0.mk own1
  clear h1 own1
  go_wp2
  go_ret
  refine ⟨rfl, ⟨_, _, .inr rfl, PgS.put (p' := { p with out := p.out ++ [10] }) H1.out.hB hb2 ?_ rfl⟩, ?_, ((hk1.alloc _).grown hgrow (Lib.ownsRowF_kind (HO.out.alloc _))).setCell ⟨P, 1, none⟩ rfl _⟩
  · show w2.ownsRowF B 5 1 _ (p.out ++ [10]).length (Lib.byteCells (p.out ++ [10]))
    rw [List.length_append, Lib.byteCells_append]
    exact hown'
  · exact ((hb1.alloc (by omega) _).grown hgrow (by simp; omega) (fun k hk => (HO.out.lt k hk).1)).setCell (p := ⟨P, 1, none⟩) H1.out.hB _
end Go.Proofs.Ytkhlfdoeploddaa.PFlow
namespace Go.Proofs.Ytkhlfdoeploddaa.PFlow
open Go.RowKit Go.Shelf Go.Proofs.YtkhlfdoeploddaaW.PrintWords Go.Proofs.YtkhlfdoeploddaaW.PrintMore
set_option linter.unusedVariables false
set_option linter.unusedSimpArgs false
set_option maxRecDepth 100000 in
set_option maxHeartbeats 2000000 in
theorem string_calls {B P : Nat} {p : PgB} {w : World} (h : PgA B P p w) (hBw : B ≤ w.heap.size) :
    Calls Try.prog 25 #[.pointer (some ⟨P, 0, none⟩)] w fun e w' => e = .returned (.string ⟨p.out.toArray⟩) ∧ Below B w w' := by
  obtain ⟨q, v, hq, h⟩ := h
  have hmx : Try.prog.follows .mixedOrders = true := by kernel_rfl
  have hlt := h.lt
  have c1 : w.drew.cell? ⟨P, 1, none⟩ = some v := h.drew.c1
  rcases h.own.2 with ⟨rfl, h0⟩ | ⟨g, cap, cur, fz, rfl, hbg, hg, hfz, hnc, hcm, hcs, htake⟩
  · have e0 : p.out = [] := List.eq_nil_of_length_eq_zero h0
    rw [e0]
    have hUS : ∀ (W : World) (x : Option Addr), (Builtin.unsafeString_ #[70, 3] 9 #[.pointer x, .int .i64 0]).run Try.prog W = .ok (.string .empty) W := fun W x => Lib.run_unsafeString_none W _ _ _ x
    have hSD : (Builtin.unsafeSliceData_ #[41] 70 #[.slice none 0 0]).run Try.prog w.drew = .ok (.pointer none) w.drew := rfl
    clear h h0 e0
    go_enter Try.func25, Try.ntmps25
    go_wp2
    go_region_o
    all_goals (go_wp2; go_ret; exact ⟨rfl, Below.drew (Below.refl B w)⟩)
  · by_cases hl0 : p.out.length = 0
    · have e0 : p.out = [] := List.eq_nil_of_length_eq_zero hl0
      rw [hl0] at c1
      have hUS : ∀ (W : World) (x : Option Addr), (Builtin.unsafeString_ #[70, 3] 9 #[.pointer x, .int .i64 0]).run Try.prog W = .ok (.string .empty) W := fun W x => Lib.run_unsafeString_none W _ _ _ x
      rw [e0]
      by_cases hc0 : cap = 0
      · subst hc0
        have hSD : (Builtin.unsafeSliceData_ #[41] 70 #[.slice (some ⟨g, 0, none⟩) 0 0]).run Try.prog w.drew = .ok (.pointer (some ⟨w.drew.heap.size, 0, none⟩)) (w.drew.alloc (.view ⟨g, 0, none⟩ 5)) :=
          Lib.run_unsafeSliceData_zero w.drew _ _ 5 Try.underlying70 ⟨g, 0, none⟩ 0 (5, cur.size) (by have hg' : w.drew.heap[g]? = some (.cells cur 5 fz) := hg; simp [World.shape?, hg'])
        have c2 : (w.drew.alloc (.view ⟨g, 0, none⟩ 5)).cell? ⟨P, 1, none⟩ = some (.slice (some ⟨g, 0, none⟩) 0 0) := (World.cell?_alloc_lt _ _ _ hlt).trans c1
        have c3 : (w.alloc (.view ⟨g, 0, none⟩ 5)).drew.cell? ⟨P, 1, none⟩ = some (.slice (some ⟨g, 0, none⟩) 0 0) := c2
        have c0 : w.cell? ⟨P, 1, none⟩ = some (.slice (some ⟨g, 0, none⟩) 0 0) := c1
        clear h e0 hl0 hnc hcm hcs htake hfz
        go_enter Try.func25, Try.ntmps25
        go_wp2
        go_region_o
        all_goals (go_wp2; go_ret; exact ⟨rfl, (Below.drew (Below.refl B w)).alloc hBw _⟩)
      · have hSD : (Builtin.unsafeSliceData_ #[41] 70 #[.slice (some ⟨g, 0, none⟩) 0 cap]).run Try.prog w.drew = .ok (.pointer (some ⟨g, 0, none⟩)) w.drew :=
          Lib.run_unsafeSliceData_row _ _ _ _ _ _ hc0
        clear h e0 hl0 hnc hcm hcs htake hfz hc0
        go_enter Try.func25, Try.ntmps25
        go_wp2
        go_region_o
        all_goals (go_wp2; go_ret; exact ⟨rfl, Below.drew (Below.refl B w)⟩)
    · have hSD : (Builtin.unsafeSliceData_ #[41] 70 #[.slice (some ⟨g, 0, none⟩) p.out.length cap]).run Try.prog w.drew = .ok (.pointer (some ⟨g, 0, none⟩)) w.drew :=
        Lib.run_unsafeSliceData_row _ _ _ _ _ _ (by omega)
      have hUS : (Builtin.unsafeString_ #[70, 3] 9 #[.pointer (some ⟨g, 0, none⟩), .int .i64 p.out.length]).run Try.prog w.drew = .ok (.string ⟨p.out.toArray⟩) (w.drew.freeze ⟨g, 0, none⟩ p.out.length) := by
        refine Lib.run_unsafeString_row w.drew 70 3 9 5 Try.underlying70 (by kernel_rfl) g cur.size (by have hg' : w.drew.heap[g]? = some (.cells cur 5 fz) := hg; simp [World.shape?, hg']) p.out (fun e => hl0 (by rw [e]; rfl)) (by omega) (by unfold maxLen at hcm; omega) ?_
        intro j x hx
        have := h.own.cells (g := g) rfl j (.int .u8 x.toNat) (by simp [Lib.byteCells, hx])
        exact this
      have HG := Aside0.mk hg
      clear h hl0 hnc hcm hcs htake hfz hg
      go_enter Try.func25, Try.ntmps25
      go_wp2
      go_region_o
      all_goals (go_wp2; go_ret; exact ⟨rfl, Lib.below_freeze (Below.drew (Below.refl B w)) (p := ⟨g, 0, none⟩) hbg _⟩)
theorem bl_app (a b : ByteArray) : bl (a ++ b) = bl a ++ bl b := by
  unfold bl
  rw [ByteArray.data_append, Array.toList_append]
set_option maxRecDepth 100000 in
set_option maxHeartbeats 4000000 in
theorem pput_calls {B P : Nat} {p : PgB} {w : World} (s : ByteArray) (hp : PgA B P p w) (h0 : 0 ≤ p.due) (hd1 : p.due ≤ 1048576) (hc0 : 0 ≤ p.col) (hcs : p.col ≤ 1152921504606846976) (hlen : p.out.length + p.due.toNat + s.size ≤ 140737488355328) (hBw : B ≤ w.heap.size) :
    Calls Try.prog 36 #[.pointer (some ⟨P, 0, none⟩), .string s] w fun e w' => e = .returned (.tuple #[]) ∧ PgA B P (putP p s) w' ∧ Below B w w' ∧ Lib.OthersKept 5 (some P) w w' := by
  by_cases hz : s.size = 0
  · obtain rfl := size0' hz
    go_enter Try.func36, Try.ntmps36
    go_wp2
    go_end0
    exact ⟨rfl, hp, Below.refl _ _, Lib.OthersKept.refl _ _ _⟩
  · have b5 : s.toList.isEmpty = false := by
      cases h : s.toList with
      | nil => exact absurd (size0 h) hz
      | cons _ _ => rfl
    obtain ⟨d, hd⟩ := Int.eq_ofNat_of_zero_le h0
    obtain ⟨q, v, hq, hp⟩ := hp
    have hB := hp.hB
    have HP := Aside0.mk hp
    have HQ := Aside0.mk hq
    have cd := hp.c4
    have HL := Aside0.mk hlen
    have HZ := Aside0.mk hz
    rw [hd] at cd
    have HD := Aside0.mk hd
    have hPl := hp.lt
    have hmx : Try.prog.follows .mixedOrders = true := by kernel_rfl
    obtain ⟨A, hA⟩ : ∃ A, (⟨(Lib.repeatL (⟨#[32]⟩ : ByteArray).data.toList d).toArray⟩ : ByteArray) = A := ⟨_, rfl⟩
    have HA := Aside0.mk (show bl A = List.replicate d 32 by rw [← hA]; show Lib.repeatL [32] d = _; rw [rep32])
    have HRs := Aside0.mk (show A.size = d by rw [← bl_len, HA.out, List.length_replicate])
    have HRep := Aside0.mk (fun W => (hA ▸ Try.strings_Repeat ⟨#[32]⟩ d W (by omega) (by show 1 * d ≤ _; omega) : Calls Try.prog 41 #[.string ⟨#[32]⟩, .int .i64 d] W fun e w' => e = .returned (.string A) ∧ Below W.heap.size W w'))
    clear hA
    have hadd : (9223372036854775807 < A.size + s.size) = False := eq_false (by rw [HRs.out]; have := HL.out; have := HD.out; omega)
    clear hp hd hlen hz h0 hq
    go_enter Try.func36, Try.ntmps36
    go_wp2_with fail
    go_region_with (first
      | (go_at_call 41; refine (HRep.out _).mono ?_; rintro e w1 ⟨rfl, hb1⟩; have HP1 := Aside0.mk (HP.out.drew.below hb1); have HS1 := Aside0.mk (Nat.le_trans hBw hb1.size); have HX1 := Aside0.mk (((Below.refl B w).drew).trans (hb1.mono hBw)); have HO1 := Aside0.mk (show Lib.OthersKept 5 (some P) w w1 from fun k o hk _ _ => (hb1.block k (Array.getElem?_eq_some_iff.1 hk).1).trans hk); clear hb1)
      | (go_at_call 40; refine (writeS_calls (B := B) (p := p) _ ⟨_, _, HQ.out, HP1.out⟩ (by rw [ByteArray.size_append, HRs.out]; have := HL.out; have := HD.out; omega) HS1.out).mono ?_; rintro e w2 ⟨rfl, ⟨q2, v2, hq2, hp2⟩, hb2, ho2⟩; have HQ2 := Aside0.mk hq2; have HP2 := Aside0.mk hp2; have HB2 := Aside0.mk (HX1.out.trans hb2); have HO2 := Aside0.mk (HO1.out.trans ho2); have k1 := hp2.c3; have k2 := hp2.c4; have k3 := hp2.fz 3; have k4 := hp2.fz 4; dsimp only at k1 k2; clear hq2 hp2 hb2 ho2))
    all_goals
      go_wp2_with fail
      have hcl : s.size ≤ 4611686018427387904 := by have := HL.out; omega
      have HCl := Aside0.mk hcl
      clear hcl
      have HCu := Aside0.mk (wrap_id (x := p.col + colsOf s) (by have := colsOf_bd s; omega) (by have := colsOf_bd s; have := HL.out; omega))
      have HBs := Aside0.mk (Nat.le_trans hBw HB2.out.size)
      clear cd
      go_region_with ((go_at_call 19; refine (cols_calls s HCl.out _).mono ?_; rintro e w4 ⟨rfl, hb4⟩; have HP4 := Aside0.mk (HP2.out.drew.below hb4); have k1 := HP4.out.c3; have k2 := HP4.out.c4; have k3 := HP4.out.fz 3; have k4 := HP4.out.fz 4; dsimp only at k1 k2; have HB4 := Aside0.mk hb4; clear hb4))
      all_goals
        rw [wsq64, HCu.out]
        go_end0
        refine ⟨rfl, ⟨q2, v2, HQ2.out, ?_⟩, ((HB2.out.trans ((Below.refl _ _).drew.trans HB4.out |>.mono HBs.out)).setCell (p := ⟨P, 4, none⟩) hB _).setCell (p := ⟨P, 3, none⟩) hB _, (((HO2.out.drew).trans (fun k o hk _ _ => (HB4.out.block k (Array.getElem?_eq_some_iff.1 hk).1).trans hk)).setCell ⟨P, 4, none⟩ rfl _).setCell ⟨P, 3, none⟩ rfl _⟩
        have h := (HP4.out.setDue 0).setCol (p.col + colsOf s)
        unfold putP
        rw [if_neg HZ.out, show p.due.toNat = d by have := HD.out; omega]
        rw [show p.out ++ List.replicate d 32 ++ bl s = p.out ++ bl (A ++ s) by rw [bl_app, List.append_assoc, HA.out]]
        exact h
end Go.Proofs.Ytkhlfdoeploddaa.PFlow
namespace Go.Proofs.Ytkhlfdoeploddaa.PFlow
open Go.RowKit Go.Shelf Go.Proofs.YtkhlfdoeploddaaW.PrintWords Go.Proofs.YtkhlfdoeploddaaW.PrintMore
set_option linter.unusedVariables false
set_option linter.unusedSimpArgs false
theorem oth_below {P : Nat} {w w' : World} (hb : Below w.heap.size w w') : Lib.OthersKept 5 (some P) w w' := fun k o hk _ _ => (hb.block k (Array.getElem?_eq_some_iff.1 hk).1).trans hk
theorem flatOf_is {u : Int} (t : ByteArray) (h0 : 0 ≤ u) (h1 : u < 10) : (flatOf u t).2 = decide (u ≠ 5) := by
  have : u = 0 ∨ u = 1 ∨ u = 2 ∨ u = 3 ∨ u = 4 ∨ u = 5 ∨ u = 6 ∨ u = 7 ∨ u = 8 ∨ u = 9 := by omega
  rcases this with e | e | e | e | e | e | e | e | e | e <;> (subst e; rfl)
theorem breaks_q (m : Int) (s : ByteArray) : span_Breaks.f m s = some (brB m) := by
  unfold span_Breaks.f brB
  by_cases h2 : m = 2
  · subst h2; rfl
  by_cases h3 : m = 3
  · subst h3; rfl
  by_cases h4 : m = 4
  · subst h4; rfl
  rw [if_neg h2, if_neg h3, if_neg h4]
  simp [h2, h3, h4]
set_option maxRecDepth 100000 in
set_option maxHeartbeats 4000000 in
theorem pprint_calls {B P : Nat} {p : PgB} {w : World} (u : Int) (t : ByteArray) (i : Int) (b : Bool) (M : Int) (hu0 : 0 ≤ u) (hu1 : u < 10) (h6 : u ≠ 6) (h7 : u ≠ 7) (hp : PgA B P p w) (hind : 0 ≤ p.ind ∧ p.ind ≤ 8000)
    (h0 : 0 ≤ p.due) (hd1 : p.due ≤ 1048576) (hc0 : 0 ≤ p.col) (hcs : p.col ≤ 1152921504606846976) (hlen : p.out.length + p.due.toNat + t.size + 2 ≤ 140737488355328) (hBw : B ≤ w.heap.size) :
    Calls Try.prog 24 #[.pointer (some ⟨P, 0, none⟩), .agg #[.int .i64 u, .string t]] w fun e w' => e = .returned (.tuple #[]) ∧ PgA B P (stepP ⟨u, t⟩ i b M p) w' ∧ Below B w w' ∧ Lib.OthersKept 5 (some P) w w' := by
  obtain ⟨q, v, hq, hp⟩ := hp
  have hB := hp.hB
  have hbA : Below w.heap.size w (w.alloc (.cells #[.int .i64 u, .string t] 34)) := (Below.refl _ w).alloc (Nat.le_refl _) _
  have hbx := World.alloc_heap_new w (.cells #[.int .i64 u, .string t] 34)
  obtain ⟨s, is, hfl⟩ : ∃ s is, flatOf u t = (s, is) := ⟨_, _, rfl⟩
  have his : is = decide (u ≠ 5) := by have := flatOf_is t hu0 hu1; rw [hfl] at this; exact this
  have hss : s.size ≤ t.size + 2 := by have := flatOf_size2 u t; rw [hfl] at this; exact this
  have HP := Aside0.mk hp
  have HQ := Aside0.mk hq
  have HF := Aside0.mk hfl
  have HL := Aside0.mk hlen
  have hmx : Try.prog.follows .mixedOrders = true := by kernel_rfl
  have hu31 := Try.underlying34
  obtain ⟨X, hX⟩ : ∃ X, w.heap.size = X := ⟨_, rfl⟩
  rw [hX] at hbx
  have HBx := Aside0.mk hbx
  have HBA := Aside0.mk hbA
  have hz : (w.alloc (.cells #[.int .i64 u, .string t] 34)).heap.size = X + 1 := by rw [World.size_alloc, hX]
  have hPX : P < X := by rw [← hX]; exact hp.lt
  have ex0 : (w.alloc (.cells #[.int .i64 u, .string t] 34)).cell? ⟨X, 0, none⟩ = some (.int .i64 u) := Lib.cell_of_heap hbx 0
  have ex1 : (w.alloc (.cells #[.int .i64 u, .string t] 34)).cell? ⟨X, 1, none⟩ = some (.string t) := Lib.cell_of_heap hbx 1
  rw [hX] at hBw
  clear hp hq hfl hlen hbx hbA
  go_enter Try.func24, Try.ntmps24
  go_wp2_with fail
  refine (span_Flat.calls u t s is _ (congrArg some HF.out)).mono ?_
  rintro e w1 ⟨rfl, hb1⟩
  have HP1 := Aside0.mk ((HP.out.below HBA.out).below hb1)
  have HB1 := Aside0.mk ((HBA.out.mono (by rw [hX]; exact hBw)).trans (hb1.mono (by rw [hz]; omega)))
  have HO1 := Aside0.mk ((oth_below (P := P) HBA.out).trans (oth_below hb1))
  have hBx := (hb1.block X (by rw [hz]; omega)).trans HBx.out
  have e0 : w1.cell? ⟨X, 0, none⟩ = some (.int .i64 u) := Lib.cell_of_heap hBx 0
  have e1 : w1.cell? ⟨X, 1, none⟩ = some (.string t) := Lib.cell_of_heap hBx 1
  have hs1 : X + 1 ≤ w1.heap.size := by have := hb1.size; rw [hz] at this; exact this
  have HX1 := Aside0.mk (show B ≤ w1.heap.size by omega)
  have k2 := HP1.out.c2
  have k3 := HP1.out.c3
  have k4 := HP1.out.c4
  have k5 := HP1.out.c5
  have f2 := HP1.out.fz 2
  have f3 := HP1.out.fz 3
  have f4 := HP1.out.fz 4
  clear ex0 ex1 hz HBA HBx hb1 hBx HP
  by_cases u8 : u = 8
  · subst u8
    go_wp2_with fail
    go_end0
    refine ⟨rfl, ⟨q, v, HQ.out, ?_⟩, HB1.out.setCell (p := ⟨P, 2, none⟩) hB _, HO1.out.setCell ⟨P, 2, none⟩ rfl _⟩
    exact HP1.out.setInd (p.ind + 2)
  have u8b : (u == 8) = false := beq_eq_false_iff_ne.2 u8
  by_cases u9 : u = 9
  · subst u9
    go_wp2_with fail
    go_end0
    refine ⟨rfl, ⟨q, v, HQ.out, ?_⟩, HB1.out.setCell (p := ⟨P, 2, none⟩) hB _, HO1.out.setCell ⟨P, 2, none⟩ rfl _⟩
    exact HP1.out.setInd (p.ind - 2)
  have u9b : (u == 9) = false := beq_eq_false_iff_ne.2 u9
  have hst : stepP ⟨u, t⟩ i b M p = if brB u = true ∧ (p.flat < 0 ∨ u = 5) then lineP p else putP p s := by
    unfold stepP
    dsimp only
    rw [if_neg h6, if_neg h7, if_neg u8, if_neg u9, HF.out]
  have HST := Aside0.mk hst
  clear hst
  by_cases u5 : u = 5
  · subst u5
    obtain rfl : is = false := his
    clear k2 k3 k4 k5 f2 f3 f4
    go_wp2_with fail
    refine (writeB_calls (B := B) ⟨q, v, HQ.out, HP1.out⟩ (by have := HL.out; omega) HX1.out).mono ?_
    rintro e w2 ⟨rfl, ⟨q2, v2, hq2, hp2⟩, hb2, ho2⟩
    have HP2 := Aside0.mk hp2
    have HQ2 := Aside0.mk hq2
    have HB2 := Aside0.mk (HB1.out.trans hb2)
    have HO2 := Aside0.mk (HO1.out.trans ho2)
    have k2 := hp2.c2
    have k3 := hp2.c3
    have k4 := hp2.c4
    have f3 := hp2.fz 3
    have f4 := hp2.fz 4
    dsimp only at k2 k3 k4
    clear hp2 hq2 hb2 ho2
    go_wp2_with fail
    go_region
    all_goals
      go_end0
      refine ⟨rfl, ⟨q2, v2, HQ2.out, ?_⟩, ((HB2.out.setCell (p := ⟨P, 3, none⟩) hB _).setCell (p := ⟨P, 4, none⟩) hB _).drew, ((HO2.out.setCell ⟨P, 3, none⟩ rfl _).setCell ⟨P, 4, none⟩ rfl _).drew⟩
      rw [HST.out, if_pos (show brB 5 = true ∧ (p.flat < 0 ∨ True) from ⟨by decide, .inr trivial⟩)]
      exact ((HP2.out.setCol p.ind).setDue p.ind).drew
  · obtain rfl : is = true := by rw [his]; exact decide_eq_true u5
    have HBR := Aside0.mk (breaks_q u t)
    clear his k2 k3 k4 k5 f2 f3 f4
    cases hbu : brB u with
    | true =>
      rw [hbu] at HBR
      by_cases n1 : p.flat < 0
      · have d1 : decide (p.flat < 0) = true := decide_eq_true n1
        go_wp2_with fail
        refine (span_Breaks.calls u t true _ HBR.out).mono ?_
        rintro e wx ⟨rfl, hbx⟩
        have HPx := Aside0.mk (HP1.out.below hbx)
        have HBx := Aside0.mk (HB1.out.trans (hbx.mono HX1.out))
        have HOx := Aside0.mk (HO1.out.trans (oth_below hbx))
        have HXx := Aside0.mk (Nat.le_trans HX1.out hbx.size)
        have k5 := HPx.out.c5
        clear hbx
        go_wp2_with fail
        refine (writeB_calls (B := B) ⟨q, v, HQ.out, HPx.out⟩ (by have := HL.out; omega) HXx.out).mono ?_
        rintro e w2 ⟨rfl, ⟨q2, v2, hq2, hp2⟩, hb2, ho2⟩
        have HP2 := Aside0.mk hp2
        have HQ2 := Aside0.mk hq2
        have HB2 := Aside0.mk (HBx.out.trans hb2)
        have HO2 := Aside0.mk (HOx.out.trans ho2)
        have k2 := hp2.c2
        have k3 := hp2.c3
        have k4 := hp2.c4
        have f3 := hp2.fz 3
        have f4 := hp2.fz 4
        dsimp only at k2 k3 k4
        clear hp2 hq2 hb2 ho2
        go_wp2_with fail
        go_region
        all_goals
          go_end0
          refine ⟨rfl, ⟨q2, v2, HQ2.out, ?_⟩, ((HB2.out.setCell (p := ⟨P, 3, none⟩) hB _).setCell (p := ⟨P, 4, none⟩) hB _).drew, ((HO2.out.setCell ⟨P, 3, none⟩ rfl _).setCell ⟨P, 4, none⟩ rfl _).drew⟩
          rw [HST.out, if_pos ⟨hbu, .inl n1⟩]
          exact ((HP2.out.setCol p.ind).setDue p.ind).drew
      · have d1 : decide (p.flat < 0) = false := decide_eq_false n1
        go_wp2_with fail
        refine (span_Breaks.calls u t true _ HBR.out).mono ?_
        rintro e wx ⟨rfl, hbx⟩
        have HPx := Aside0.mk (HP1.out.below hbx)
        have HBx := Aside0.mk (HB1.out.trans (hbx.mono HX1.out))
        have HOx := Aside0.mk (HO1.out.trans (oth_below hbx))
        have HXx := Aside0.mk (Nat.le_trans HX1.out hbx.size)
        have k5 := HPx.out.c5
        clear hbx
        go_wp2_with fail
        refine (pput_calls (B := B) s ⟨q, v, HQ.out, HPx.out⟩ h0 hd1 hc0 hcs (by have := HL.out; omega) HXx.out).mono ?_
        rintro e w2 ⟨rfl, hp2, hb2, ho2⟩
        have HP2 := Aside0.mk hp2
        have HB2 := Aside0.mk (HBx.out.trans hb2)
        have HO2 := Aside0.mk (HOx.out.trans ho2)
        clear hp2 hb2 ho2
        go_wp2_with fail
        go_end0
        refine ⟨rfl, ?_, HB2.out, HO2.out⟩
        rw [HST.out, if_neg (fun h => h.2.elim (fun h_ => by omega) u5)]
        exact HP2.out
    | false =>
      rw [hbu] at HBR
      go_wp2_with fail
      refine (span_Breaks.calls u t false _ HBR.out).mono ?_
      rintro e wx ⟨rfl, hbx⟩
      have HPx := Aside0.mk (HP1.out.below hbx)
      have HBx := Aside0.mk (HB1.out.trans (hbx.mono HX1.out))
      have HOx := Aside0.mk (HO1.out.trans (oth_below hbx))
      have HXx := Aside0.mk (Nat.le_trans HX1.out hbx.size)
      have k5 := HPx.out.c5
      clear hbx
      go_wp2_with fail
      refine (pput_calls (B := B) s ⟨q, v, HQ.out, HPx.out⟩ h0 hd1 hc0 hcs (by have := HL.out; omega) HXx.out).mono ?_
      rintro e w2 ⟨rfl, hp2, hb2, ho2⟩
      have HP2 := Aside0.mk hp2
      have HB2 := Aside0.mk (HBx.out.trans hb2)
      have HO2 := Aside0.mk (HOx.out.trans ho2)
      clear hp2 hb2 ho2
      go_wp2_with fail
      go_end0
      refine ⟨rfl, ?_, HB2.out, HO2.out⟩
      rw [HST.out, if_neg (fun h => absurd (hbu.symm.trans h.1) (by decide))]
      exact HP2.out
end Go.Proofs.Ytkhlfdoeploddaa.PFlow
