import Derived.Test.YtkhlfdoeploddaaPFlowx0
import Derived.RangeFuncNested
import Derived.RangeFuncBound
import Derived.RangeFuncCalls
import Derived.RangeFuncLeaves
import Derived.Shelf.Abstract
import Derived.Shelf.RegionOpen
import Derived.WalkKit
import Derived.OwnWalkIn
import Derived.TacticsInMore
import Derived.LoopNIn
import Derived.LoopIn
namespace Go.Proofs.Ytkhlfdoeploddaa.PFlow
open Go.RowKit Go.Proofs.YtkhlfdoeploddaaW.PrintWords
set_option linter.unusedVariables false
/-- WHAT A ROUND KEEPS: the walks' objects and the maps, and the blocks of S. -/
def KS (S : Nat → Prop) (W W' : World) : Prop := KeepsWalks W W' ∧ ∀ k, S k → W'.heap[k]? = W.heap[k]?
theorem KS.trans {S : Nat → Prop} {A B C : World} (h : KS S A B) (k : KS S B C) : KS S A C := ⟨h.1.trans k.1, fun j hj => (k.2 j hj).trans (h.2 j hj)⟩
theorem KS.refl {S : Nat → Prop} (A : World) : KS S A A := ⟨KeepsWalks.refl A, fun _ _ => rfl⟩
theorem KS.putObj {S : Nat → Prop} {n : Nat} (hS : ∀ k, S k → k < n) (W : World) (l : Nat) (o o' : Obj) (hl : n ≤ l) (h : W.heap[l]? = some o) (_ : o.isCells = false) (hw : o.isWalk = false) : KS S W (W.putObj l o') :=
  ⟨KeepsWalks.putObj _ h hw, fun k hk => World.putObj_heap_other (by have := hS k hk; omega)⟩
theorem KS.setCell {S : Nat → Prop} (W : World) (p : Addr) (v : Value) (h : ∀ k, S k → k ≠ p.block) : KS S W (W.setCell p v) :=
  ⟨KeepsWalks.setCell _ _ _, fun k hk => Below.heap_setCell W p v k (h k hk)⟩
theorem KS.below {S : Nat → Prop} {W W' : World} (hS : ∀ k, S k → k < W.heap.size) (hb : Below W.heap.size W W') : KS S W W' :=
  ⟨⟨hb.size, fun k o hk _ => (hb.block k (Array.getElem?_eq_some_iff.1 hk).1).trans hk⟩, fun k hk => hb.block k (hS k hk)⟩
theorem KS.drewN {S : Nat → Prop} (W : World) (n : Nat) : KS S W (W.drewN n) := ⟨⟨Nat.le_refl _, fun k o hk _ => hk⟩, fun k hk => rfl⟩
theorem KS.drew {S : Nat → Prop} (W : World) : KS S W W.drew := ⟨⟨Nat.le_refl _, fun k o hk _ => hk⟩, fun k hk => rfl⟩
theorem cell_of_block {W W' : World} {a : Addr} (h : W'.heap[a.block]? = W.heap[a.block]?) : W'.cell? a = W.cell? a := by simp only [World.cell?, h]
theorem KS.cell {S : Nat → Prop} {W W' : World} (h : KS S W W') {b j : Nat} (hb : S b) : W'.cell? ⟨b, j, none⟩ = W.cell? ⟨b, j, none⟩ := cell_of_block (a := ⟨b, j, none⟩) (h.2 b hb)
theorem add_block_ (a : Addr) (k : Nat) : (a.add k).block = a.block := by unfold Addr.add; split <;> rfl
theorem KS.cellAdd {S : Nat → Prop} {W W' : World} (h : KS S W W') {a : Addr} (hb : S a.block) (j : Nat) : W'.cell? (a.add j) = W.cell? (a.add j) := cell_of_block (by rw [add_block_]; exact h.2 _ hb)
theorem abides_below {α : Type} {J : List α → World → Prop} {B : Nat} (hJ : AbidesFrom B J) {pre : List α} {W W' : World} (h : J pre W) (hb : Below W.heap.size W W') : J pre W' :=
  hJ pre W W' none h (grown_of_below hb none) (fun r e => by cases e)
theorem ownFrom_block {α : Type} {B0 M : Nat} {o : Obj} (h : M < B0) : OwnFrom B0 (fun (_ : List α) (W : World) => W.heap[M]? = some o) := fun s A B row hs hg hr =>
  (hg.block M (Array.getElem?_eq_some_iff.1 hs).1 (fun e => by have := (hr M e.symm).1; omega)).trans hs
theorem cell_new_l (W : World) (v : Value) (t : TypeId) : (W.alloc (.cells #[v] t)).cell? ⟨W.heap.size, 0, none⟩ = some v ∧ (W.alloc (.cells #[v] t)).frozen? ⟨W.heap.size, 0, none⟩ = false := by
  constructor
  · rw [World.cell?_alloc_new]; rfl
  · exact World.frozen?_alloc_new ..
theorem cell_alloc_l {W : World} {a : Addr} {v : Value} (o : Obj) (h : W.cell? a = some v) : (W.alloc o).cell? a = some v := Go.cell_kept h (World.grownBy_alloc W o none) (fun r e => by cases e)
theorem frozen_alloc_l {W : World} {a : Addr} {v : Value} (o : Obj) (h : W.cell? a = some v) (hf : W.frozen? a = false) : (W.alloc o).frozen? a = false := (Go.frozen_kept h (World.grownBy_alloc W o none) (fun r e => by cases e)).trans hf
end Go.Proofs.Ytkhlfdoeploddaa.PFlow
