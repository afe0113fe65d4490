import Derived.Test.YtkhlfdoeploddaaHFlowRF
import Derived.Sort.QuietIn
namespace Go.Proofs.Ytkhlfdoeploddaa.PFlow
open Go.RowKit Go.Shelf Go.Proofs.YtkhlfdoeploddaaW.PrintWords Go.Proofs.YtkhlfdoeploddaaW.PrintMore
attribute [local go_sem] Oper.semAt_some
set_option linter.unusedVariables false
set_option linter.unusedSimpArgs false

/-- A place in the list. -/
abbrev Pl (l : List S34) := { k : Nat // k < l.length }
/-- m places from a on. -/
def seg (l : List S34) (a : Nat) : (m : Nat) → a + m ≤ l.length → List (Pl l)
  | 0, _ => []
  | m + 1, h => seg l a m (by omega) ++ [⟨a + m, by omega⟩]
theorem seg_length (l : List S34) (a : Nat) : ∀ (m : Nat) (h : a + m ≤ l.length), (seg l a m h).length = m
  | 0, _ => rfl
  | m + 1, h => by rw [seg, List.length_append, seg_length l a m]; rfl

set_option maxHeartbeats 1000000 in
theorem behind_in (F : Fence) (n : Nat) (h : F.fn 53) (hro : F.round = none) (A : Option Addr) (len cap : Nat) (i : Int) (w : World) :
    CallsIn F n Try.prog 53 #[.slice A len cap, .int .i64 i] w fun e w' => e = .returned (.func (.func 63) #[] #[.pointer (some ⟨w.heap.size + 1, 0, none⟩), .pointer (some ⟨w.heap.size, 0, none⟩)]) ∧ w' = (w.alloc (.cells #[.slice A len cap] 22)).alloc (.cells #[.int .i64 i] 3) := by
  refine callsIn_of_wp Try.func53 rfl h ?_ hro
  simp only [Try.ntmps53, List.size_toArray, List.length_cons, List.length_nil, Nat.reduceAdd, Nat.reduceSub, Array.replicate_succ, Array.replicate_zero, List.push_toArray, List.append_toArray, List.nil_append, List.cons_append]
  gi_wp2
  go_ret
  exact ⟨rfl, rfl⟩

def encB (l : List S34) (x : Pl l) : Array Value := #[Value.int .i64 (x.1 : Int), .agg #[.int .i64 (rd_T34 l (x.1 : Int)).f0, .string (rd_T34 l (x.1 : Int)).f1]]
set_option maxRecDepth 100000 in
set_option maxHeartbeats 2000000 in
theorem behind1 (n : Nat) (hn : 1 ≤ n) (l Bl Bi : Nat) (S : Nat → Prop) (ad : Addr) (cap : Nat) (xs : List S34) (hs : xs.length ≤ 17592186044416) (i : Nat) (hi : i < xs.length) (hbl : S Bl) (hbi : S Bi) (ha : S ad.block) (J Jx : List (Pl xs) → World → Prop)
    (W : World) (hS : ∀ k, S k → k < W.heap.size) (hJ : AbidesFrom W.heap.size J)
    (hY : ∀ pre x W, J pre W → pre.length < xs.length → YieldAt Fence.wide (n - 1) Try.prog l (encB xs x) W fun e W' =>
      (e = .returned (.bool true) ∧ J (pre ++ [x]) W' ∧ KS S W W') ∨ (e = .returned (.bool false) ∧ Jx (pre ++ [x]) W'))
    (hBl : W.cell? ⟨Bl, 0, none⟩ = some (.slice (some ad) xs.length cap)) (hBi : W.cell? ⟨Bi, 0, none⟩ = some (.int .i64 i))
    (hc : ∀ j, j < xs.length → W.cell? (ad.add (j * 2)) = some (.int .i64 (rd_T34 xs j).f0) ∧ W.cell? ⟨(ad.add (j * 2)).block, (ad.add (j * 2)).off + 1, none⟩ = some (.string (rd_T34 xs j).f1)) (h0 : J [] W) :
    CallsIn Fence.wide n Try.prog 63 #[.func (.yield l) #[] #[], .pointer (some ⟨Bi, 0, none⟩), .pointer (some ⟨Bl, 0, none⟩)] W fun e W' => (∃ v, e = .returned v) ∧
      ((∃ ys, ys = seg xs (i + 1) (xs.length - (i + 1)) (by omega) ∧ J ys W') ∨ (∃ pre, (∃ m h, pre = seg xs (i + 1) m h) ∧ Jx pre W')) := by
  refine callsIn_of_wp Try.func63 rfl trivial ?_ rfl
  simp only [Try.ntmps63, List.size_toArray, List.length_cons, List.length_nil, Nat.reduceAdd, Nat.reduceSub, Array.replicate_succ, Array.replicate_zero, List.push_toArray, List.append_toArray, List.nil_append, List.cons_append]
  have hu33 := Try.underlying34
  gi_wp2
  gi_loopw [4] (fun iv wr => ∃ (m : Nat) (hm : i + 1 + m ≤ xs.length), iv = .int .i64 ((i + 1 + m : Nat) : Int) ∧ J (seg xs (i + 1) m hm) wr ∧ KS S W wr)
    (fun iv _ => xs.length - (intOf iv).toNat)
  case atStart => exact ⟨0, by omega, by simp, h0, KS.refl _⟩
  case round =>
    obtain ⟨m, hm, rfl, hJs, hnx⟩ := hrel
    have hL : wr.cell? ⟨Bl, 0, none⟩ = some (.slice (some ad) xs.length cap) := (hnx.cell hbl).trans hBl
    obtain ⟨k, hk⟩ : ∃ k, k = i + 1 + m := ⟨_, rfl⟩
    rw [← hk]
    by_cases hlt : k < xs.length
    · have hx0 : wr.cell? (ad.add (k * 2)) = some (.int .i64 (rd_T34 xs k).f0) := (hnx.cellAdd ha (k * 2)).trans (hc k hlt).1
      have hx1 : wr.cell? ⟨(ad.add (k * 2)).block, (ad.add (k * 2)).off + 1, none⟩ = some (.string (rd_T34 xs k).f1) := (cell_of_block (by exact hnx.2 _ (by show S (ad.add (k * 2)).block; rw [add_block_]; exact ha))).trans (hc k hlt).2
      obtain ⟨fn, tmps, assign, body, hy, hR⟩ := hY (seg xs (i + 1) m hm) ⟨k, hlt⟩ wr hJs (by rw [seg_length]; omega)
      dsimp only [encB] at hy
      have HKs := Aside0.mk hk
      clear hk
      gi_wp2
      refine hR.mono ?_
      rintro e W3 (⟨rfl, hJ3, hk3⟩ | ⟨rfl, hJx3⟩)
      · gi_wp2
        go_roundw
        case rel => exact ⟨m + 1, by have := HKs.out; omega, by have := HKs.out; simp only [Value.int.injEq, true_and]; omega, by have e := HKs.out; subst e; exact hJ3, hnx.trans hk3⟩
        case measure => simp [intOf]; omega
      · gi_wp2
        refine bodyPost_ret (results_none rfl _ _ _) rfl ?_
        exact ⟨⟨_, rfl⟩, .inr ⟨_, ⟨m + 1, by have := HKs.out; omega, by have e := HKs.out; subst e; rfl⟩, hJx3⟩⟩
    · obtain rfl : m = xs.length - (i + 1) := by omega
      have hk' : k = xs.length := by omega
      clear hk
      subst hk'
      gi_wp2
      go_end0
      exact ⟨⟨_, rfl⟩, .inl ⟨_, rfl, hJs⟩⟩

theorem behind_stops (n : Nat) (hn : 1 ≤ n) (Bl Bi : Nat) (S : Nat → Prop) (A : Option Addr) (cap : Nat) (xs : List S34) (hs : xs.length ≤ 17592186044416) (i : Nat) (hi : i < xs.length) (w : World) (hbl : S Bl) (hbi : S Bi) (hS : ∀ k, S k → k < w.heap.size)
    (hA : ∀ ad, A = some ad → S ad.block) (hr : Kd.C k34 w A xs.length xs) (hcl : w.cell? ⟨Bl, 0, none⟩ = some (.slice A xs.length cap)) (hci : w.cell? ⟨Bi, 0, none⟩ = some (.int .i64 i)) :
    SeqStopsK Fence.wide n Try.prog 63 #[.pointer (some ⟨Bi, 0, none⟩), .pointer (some ⟨Bl, 0, none⟩)] (encB xs) (KS S) (fun ys => ys = seg xs (i + 1) (xs.length - (i + 1)) (by omega)) (fun pre => ∃ m h, pre = seg xs (i + 1) m h) xs.length w := fun l J Jx W hW hJ _ hY h0 => by
  have hcl' := (hW.cell (p := ⟨Bl, 0, none⟩) (hS _ hbl)).trans hcl
  have hci' := (hW.cell (p := ⟨Bi, 0, none⟩) (hS _ hbi)).trans hci
  obtain ⟨ad, e, _⟩ := at_T34 hr 0 (by omega) (by omega)
  subst e
  refine behind1 n hn l Bl Bi S ad cap xs hs i hi hbl hbi (hA ad rfl) J Jx W (fun k hk => Nat.lt_of_lt_of_le (hS k hk) hW.size) hJ hY hcl' hci' ?_ h0
  intro j hj
  obtain ⟨ad', e', hx0, hx1⟩ := at_T34 hr j (by omega) (by omega)
  cases e'
  rw [show ((j : Int)).toNat = j by omega] at hx0 hx1
  exact ⟨(hW.cell (World.block_lt_of_cell? w _ hx0)).trans hx0, (hW.cell (World.block_lt_of_cell? w _ hx1)).trans hx1⟩
end Go.Proofs.Ytkhlfdoeploddaa.PFlow
