import Derived.Test.YtkhlfdoeploddaaHFlowRF
import Derived.Test.YtkhlfdoeploddaaHFlowGrpD
import Derived.Maps.OwnIn
namespace Go.Proofs.Ytkhlfdoeploddaa.PFlow
open Go.RowKit Go.Shelf Go.Proofs.YtkhlfdoeploddaaW.PrintWords Go.Proofs.YtkhlfdoeploddaaW.PrintMore
attribute [local go_sem] Oper.semAt_some
set_option linter.unusedVariables false
set_option linter.unusedSimpArgs false

def entS (k : Int) (v : ByteArray) (b : Nat) : MapEntry := { key := .int .i64 k, val := .string v, born := b }
def sp1 : ByteArray := ⟨#[32]⟩
def sp2 : ByteArray := ⟨#[44, 32]⟩
def sp0 : ByteArray := ⟨#[]⟩
def flatMap : Array MapEntry := #[entS 1 ⟨#[32]⟩ 0, entS 2 ⟨#[32]⟩ 1, entS 3 ⟨#[]⟩ 2, entS 4 ⟨#[44, 32]⟩ 3, entS 6 ⟨#[]⟩ 4, entS 7 ⟨#[]⟩ 5, entS 8 ⟨#[]⟩ 6, entS 9 ⟨#[]⟩ 7]
def span_Flat.f (a0_0 : Int) (a0_1 : ByteArray) : Option (ByteArray × Bool) := some (flatOf a0_0 a0_1)
theorem ckS (b : Bool) (k : Int) (W : World) : (Instr.checkKey b 10000 3 (.int .i64 k)).run Try.prog W = .ok () W := by
  show (Instr.checkKey b (9999 + 1) 3 (.int .i64 k)).run Try.prog W = .ok () W
  rw [Instr.checkKey]
  simp only [Sem.run_bind, run_underlying Try.underlying3, Result.andThen]
  rfl
set_option maxRecDepth 100000 in
theorem run_insertS (w : World) (es : Array MapEntry) (c : Nat) (k : Int) (v : ByteArray) (hf : Instr.findNow (.int .i64) (.int .i64 k) es.toList 0 = some none) :
    (Instr.mapUpdate 60 (.map (some w.heap.size)) (.int .i64 k) (.string v)).run Try.prog (w.alloc (.map es c)) = .ok () (w.alloc (.map (es.push (entS k v c)) (c + 1))) := by
  have h1 : (w.alloc (.map es c)).heap[w.heap.size]? = some (.map es c) := World.alloc_heap_new w _
  have h2 : (w.alloc (.map es c)).heap.setIfInBounds w.heap.size (.map (es.push (entS k v c)) (c + 1)) = (w.alloc (.map (es.push (entS k v c)) (c + 1))).heap := by
    show (w.heap.push _).setIfInBounds w.heap.size _ = w.heap.push _
    apply Array.ext
    · simp
    · intro i hi1 hi2
      rw [Array.getElem_setIfInBounds (by simpa using hi1)]
      by_cases e : w.heap.size = i
      · subst e; simp
      · rw [if_neg e]
        simp only [Array.size_push] at hi2
        rw [Array.getElem_push_lt (by omega), Array.getElem_push_lt (by omega)]
  have h3 : ({ (w.alloc (.map es c)) with heap := (w.alloc (.map es c)).heap.setIfInBounds w.heap.size (.map (es.push (entS k v c)) (c + 1)) } : World) = w.alloc (.map (es.push (entS k v c)) (c + 1)) := by rw [h2]; rfl
  rw [← h3]
  simp only [Instr.mapUpdate, Sem.run_bind, run_underlying Try.underlying60, run_underlying Try.underlying3, getObj, setObj, Sem.run, h1, Result.andThen, ckS, Instr.findKey, hf]
  simp only [Sem.run_pure, Sem.run, h1]
  rfl
set_option maxRecDepth 100000 in
theorem look_someS (W : World) (M : Nat) (es : Array MapEntry) (c : Nat) (h : W.heap[M]? = some (.map es c)) (te : Int) (v : ByteArray) (i : Nat) (hne : es.isEmpty = false) (hf : Instr.findNow (.int .i64) (.int .i64 te) es.toList 0 = some (some (i, .string v))) :
    (Instr.lookup 60 (.map (some M)) (.int .i64 te) true).run Try.prog W = .ok (.tuple #[.string v, .bool true]) W := by
  simp only [Instr.lookup, Sem.run_bind, run_underlying Try.underlying60, run_underlying Try.underlying3, getObj, Sem.run, h, Result.andThen, Instr.findKey, hne]
  simp only [Sem.run_pure, hne, ckS, hf]
  first | rfl | (simp only [Sem.run_bind, Sem.run_pure, Result.andThen]; rfl)
set_option maxRecDepth 100000 in
theorem look_noneS (W : World) (M : Nat) (es : Array MapEntry) (c : Nat) (h : W.heap[M]? = some (.map es c)) (te : Int) (hne : es.isEmpty = false) (hf : Instr.findNow (.int .i64) (.int .i64 te) es.toList 0 = some none) :
    (Instr.lookup 60 (.map (some M)) (.int .i64 te) true).run Try.prog W = .ok (.tuple #[.string ⟨#[]⟩, .bool false]) W := by
  simp only [Instr.lookup, Sem.run_bind, run_underlying Try.underlying60, run_underlying Try.underlying3, getObj, Sem.run, h, Result.andThen, Instr.findKey, hne]
  simp only [Sem.run_pure, hne, ckS, hf]
  first | rfl | (simp only [Sem.run_bind, Sem.run_pure, Result.andThen]; rfl)
set_option maxRecDepth 100000 in
theorem run_lookS (W : World) (M : Nat) (h : W.heap[M]? = some (.map flatMap 8)) (m : Int) (s : ByteArray) (h0 : m ≠ 0) :
    (Instr.lookup 60 (.map (some M)) (.int .i64 m) true).run Try.prog W = .ok (.tuple #[.string (flatOf m s).1, .bool (flatOf m s).2]) W := by
  have hne : flatMap.isEmpty = false := by decide
  by_cases h1 : m = 1
  · subst h1; exact look_someS W M _ _ h 1 _ 0 hne rfl
  by_cases h2 : m = 2
  · subst h2; exact look_someS W M _ _ h 2 _ 1 hne rfl
  by_cases h3 : m = 3
  · subst h3; exact look_someS W M _ _ h 3 _ 2 hne rfl
  by_cases h4 : m = 4
  · subst h4; exact look_someS W M _ _ h 4 _ 3 hne rfl
  by_cases h5 : m = 6
  · subst h5; exact look_someS W M _ _ h 6 _ 4 hne rfl
  by_cases h6 : m = 7
  · subst h6; exact look_someS W M _ _ h 7 _ 5 hne rfl
  by_cases h7 : m = 8
  · subst h7; exact look_someS W M _ _ h 8 _ 6 hne rfl
  by_cases h8 : m = 9
  · subst h8; exact look_someS W M _ _ h 9 _ 7 hne rfl
  have hf : Instr.findNow (.int .i64) (.int .i64 m) flatMap.toList 0 = some none := by
    have e1 : (m == 1) = false := by simpa using h1
    have e2 : (m == 2) = false := by simpa using h2
    have e3 : (m == 3) = false := by simpa using h3
    have e4 : (m == 4) = false := by simpa using h4
    have e5 : (m == 6) = false := by simpa using h5
    have e6 : (m == 7) = false := by simpa using h6
    have e7 : (m == 8) = false := by simpa using h7
    have e8 : (m == 9) = false := by simpa using h8
    simp only [flatMap, Instr.findNow, Instr.sameNow, entS, if_true]
    simp [h1, h2, h3, h4, h5, h6, h7, h8, e1, e2, e3, e4, e5, e6, e7, e8]
  rw [look_noneS W M _ _ h m hne hf]
  simp [flatOf, h0, h1, h2, h3, h4, h5, h6, h7, h8]
set_option maxRecDepth 100000 in
set_option maxHeartbeats 4000000 in
theorem span_Flat.calls (a0_0 : Int) (a0_1 : ByteArray) (r1 : ByteArray) (r2 : Bool) (w : World) (h : span_Flat.f a0_0 a0_1 = some (r1, r2)) :
    Calls Try.prog 18 #[.agg #[.int .i64 a0_0, .string a0_1]] w fun e w' => e = .returned (.tuple #[.string r1, .bool r2]) ∧ Below w.heap.size w w' := by
  have h := Option.some.inj h
  have hu33 := Try.underlying34
  by_cases h0 : a0_0 = 0
  · have hb0 : (a0_0 == 0) = true := beq_iff_eq.mpr h0
    rw [flatOf, if_pos h0] at h
    obtain ⟨rfl, rfl⟩ := Prod.mk.inj h
    go_enter Try.func18, Try.ntmps18
    go_wp2_with (first | ((with_reducible refine gate_dst (N := 1) rfl ?_); refine box_event ?hg (N := 1) ?hd (cs := #[.int .i64 a0_0, .string a0_1]) (t := 34) ?hr ?_; (case hd => rfl); (case hg => rfl); (case hr => first | (go_simp; done) | (go_simp; rfl)); intro gb hg w3 hbox hb; have hcz0 : w3.cell? ⟨gb, 0, none⟩ = some (.int .i64 a0_0) := (blk_cell hbox 0).trans rfl; have hcz1 : w3.cell? ⟨gb, 1, none⟩ = some (.string a0_1) := (blk_cell hbox 1).trans rfl; have hfz0 := blk_frozen hbox 0; have hfz1 := blk_frozen hbox 1; have HB := Aside0.mk hb; clear hb hg hbox))
    go_ret2
    exact ⟨rfl, HB.out⟩
  · have hb0 : (a0_0 == 0) = false := beq_eq_false_iff_ne.mpr h0
    have hmm := @run_makeMap Try.prog
    have i1 := fun W => run_insertS W #[] 0 1 ⟨#[32]⟩ (by rfl)
    have i2 := fun W => run_insertS W #[entS 1 ⟨#[32]⟩ 0] 1 2 ⟨#[32]⟩ (by rfl)
    have i3 := fun W => run_insertS W #[entS 1 ⟨#[32]⟩ 0, entS 2 ⟨#[32]⟩ 1] 2 3 ⟨#[]⟩ (by rfl)
    have i4 := fun W => run_insertS W #[entS 1 ⟨#[32]⟩ 0, entS 2 ⟨#[32]⟩ 1, entS 3 ⟨#[]⟩ 2] 3 4 ⟨#[44, 32]⟩ (by rfl)
    have i5 := fun W => run_insertS W #[entS 1 ⟨#[32]⟩ 0, entS 2 ⟨#[32]⟩ 1, entS 3 ⟨#[]⟩ 2, entS 4 ⟨#[44, 32]⟩ 3] 4 6 ⟨#[]⟩ (by rfl)
    have i6 := fun W => run_insertS W #[entS 1 ⟨#[32]⟩ 0, entS 2 ⟨#[32]⟩ 1, entS 3 ⟨#[]⟩ 2, entS 4 ⟨#[44, 32]⟩ 3, entS 6 ⟨#[]⟩ 4] 5 7 ⟨#[]⟩ (by rfl)
    have i7 := fun W => run_insertS W #[entS 1 ⟨#[32]⟩ 0, entS 2 ⟨#[32]⟩ 1, entS 3 ⟨#[]⟩ 2, entS 4 ⟨#[44, 32]⟩ 3, entS 6 ⟨#[]⟩ 4, entS 7 ⟨#[]⟩ 5] 6 8 ⟨#[]⟩ (by rfl)
    have i8 := fun W => run_insertS W #[entS 1 ⟨#[32]⟩ 0, entS 2 ⟨#[32]⟩ 1, entS 3 ⟨#[]⟩ 2, entS 4 ⟨#[44, 32]⟩ 3, entS 6 ⟨#[]⟩ 4, entS 7 ⟨#[]⟩ 5, entS 8 ⟨#[]⟩ 6] 7 9 ⟨#[]⟩ (by rfl)
    simp only [List.push_toArray, List.cons_append, List.nil_append, Nat.reduceAdd] at i1 i2 i3 i4 i5 i6 i7 i8
    have hlk := fun W : World => run_lookS (W.alloc (.map flatMap 8)) W.heap.size (World.alloc_heap_new W _) a0_0 a0_1 h0
    rw [h] at hlk
    simp only [flatMap] at hlk
    go_enter Try.func18, Try.ntmps18
    go_wp2_with (first | ((with_reducible refine gate_dst (N := 1) rfl ?_); refine box_event ?hg (N := 1) ?hd (cs := #[.int .i64 a0_0, .string a0_1]) (t := 34) ?hr ?_; (case hd => rfl); (case hg => rfl); (case hr => first | (go_simp; done) | (go_simp; rfl)); intro gb hg w3 hbox hb; have hcz0 : w3.cell? ⟨gb, 0, none⟩ = some (.int .i64 a0_0) := (blk_cell hbox 0).trans rfl; have hcz1 : w3.cell? ⟨gb, 1, none⟩ = some (.string a0_1) := (blk_cell hbox 1).trans rfl; have hcy0 : ∀ o, (w3.alloc o).cell? ⟨gb, 0, none⟩ = some (.int .i64 a0_0) := (fun o => (blk_cell (blk_alloc hbox o) 0).trans rfl); have hfz0 := blk_frozen hbox 0; have hfz1 := blk_frozen hbox 1; have hfy0 : ∀ o, _ := (fun o => blk_frozen (blk_alloc hbox o) 0); have HB := Aside0.mk hb; clear hb hg hbox))
    go_ret2
    exact ⟨rfl, below_alloc HB.out _⟩
end Go.Proofs.Ytkhlfdoeploddaa.PFlow
