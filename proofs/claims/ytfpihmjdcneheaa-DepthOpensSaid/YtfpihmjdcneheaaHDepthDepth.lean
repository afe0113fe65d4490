import Derived.Test.YtfpihmjdcneheaaHDepthRF
import Derived.Maps.OwnIn
namespace Go.Proofs.Ytfpihmjdcneheaa.PDepth
open Go.RowKit Go.Shelf Go.Proofs.YtfpihmjdcneheaaW.PrintWords Go.Proofs.YtfpihmjdcneheaaW.PrintMore
attribute [local go_sem] max2_int min2_int max_two min_two
attribute [local go_sem] Oper.semAt_some
set_option linter.unusedVariables false
set_option linter.unusedSimpArgs false

def ent (k v : Int) (b : Nat) : MapEntry := { key := .int .i64 k, val := .int .i64 v, born := b }
def byMap : Array MapEntry := #[ent 4 1 0, ent 10 1 1, ent 12 1 2, ent 5 (-1) 3, ent 11 (-1) 4, ent 14 (-1) 5]
/-- By how much deeper it is behind a terminal. -/
def byOf (te : Int) : Int := if te = 4 ∨ te = 10 ∨ te = 12 then 1 else if te = 5 ∨ te = 11 ∨ te = 14 then -1 else 0
theorem ck (b : Bool) (k : Int) (W : World) : (Instr.checkKey b 10000 3 (.int .i64 k)).run Try.prog W = .ok () W := by
  show (Instr.checkKey b (9999 + 1) 3 (.int .i64 k)).run Try.prog W = .ok () W
  rw [Instr.checkKey]
  simp only [Sem.run_bind, run_underlying Try.underlying3, Result.andThen]
  rfl
theorem run_insert (w : World) (es : Array MapEntry) (c : Nat) (k v : Int) (hf : Instr.findNow (.int .i64) (.int .i64 k) es.toList 0 = some none) :
    (Instr.mapUpdate 49 (.map (some w.heap.size)) (.int .i64 k) (.int .i64 v)).run Try.prog (w.alloc (.map es c)) = .ok () (w.alloc (.map (es.push (ent k v c)) (c + 1))) := by
  have h1 : (w.alloc (.map es c)).heap[w.heap.size]? = some (.map es c) := World.alloc_heap_new w _
  have h2 : (w.alloc (.map es c)).heap.setIfInBounds w.heap.size (.map (es.push (ent k v c)) (c + 1)) = (w.alloc (.map (es.push (ent k v c)) (c + 1))).heap := by
    show (w.heap.push _).setIfInBounds w.heap.size _ = w.heap.push _
    apply Array.ext
    · simp
    · intro i hi1 hi2
      rw [Array.getElem_setIfInBounds (by simpa using hi1)]
      by_cases e : w.heap.size = i
      · subst e; simp
      · rw [if_neg e]
        simp only [Array.size_push] at hi2
        rw [Array.getElem_push_lt (by omega), Array.getElem_push_lt (by omega)]
  have h3 : ({ (w.alloc (.map es c)) with heap := (w.alloc (.map es c)).heap.setIfInBounds w.heap.size (.map (es.push (ent k v c)) (c + 1)) } : World) = w.alloc (.map (es.push (ent k v c)) (c + 1)) := by rw [h2]; rfl
  rw [← h3]
  simp only [Instr.mapUpdate, Sem.run_bind, run_underlying Try.underlying49, run_underlying Try.underlying3, getObj, setObj, Sem.run, h1, Result.andThen, ck, Instr.findKey, hf]
  simp only [Sem.run_pure, Sem.run, h1]
  rfl
theorem look_some (W : World) (M : Nat) (es : Array MapEntry) (c : Nat) (h : W.heap[M]? = some (.map es c)) (te v : Int) (i : Nat) (hne : es.isEmpty = false) (hf : Instr.findNow (.int .i64) (.int .i64 te) es.toList 0 = some (some (i, .int .i64 v))) :
    (Instr.lookup 49 (.map (some M)) (.int .i64 te) false).run Try.prog W = .ok (.int .i64 v) W := by
  simp only [Instr.lookup, Sem.run_bind, run_underlying Try.underlying49, run_underlying Try.underlying3, getObj, Sem.run, h, Result.andThen, Instr.findKey, hne]
  simp only [Sem.run_pure, hne, ck, hf]
  first | rfl | (simp only [Sem.run_bind, Sem.run_pure, Result.andThen]; rfl)
theorem look_none (W : World) (M : Nat) (es : Array MapEntry) (c : Nat) (h : W.heap[M]? = some (.map es c)) (te : Int) (hne : es.isEmpty = false) (hf : Instr.findNow (.int .i64) (.int .i64 te) es.toList 0 = some none) :
    (Instr.lookup 49 (.map (some M)) (.int .i64 te) false).run Try.prog W = .ok (.int .i64 0) W := by
  simp only [Instr.lookup, Sem.run_bind, run_underlying Try.underlying49, run_underlying Try.underlying3, getObj, Sem.run, h, Result.andThen, Instr.findKey, hne]
  simp only [Sem.run_pure, hne, ck, hf]
  first | rfl | (simp only [Sem.run_bind, Sem.run_pure, Result.andThen]; rfl)
theorem run_find (te : Int) : Instr.findNow (.int .i64) (.int .i64 te) byMap.toList 0 = some (if te = 4 then some (0, .int .i64 1) else if te = 10 then some (1, .int .i64 1) else if te = 12 then some (2, .int .i64 1) else if te = 5 then some (3, .int .i64 (-1)) else if te = 11 then some (4, .int .i64 (-1)) else if te = 14 then some (5, .int .i64 (-1)) else none) := by
  simp only [byMap, Instr.findNow, Instr.sameNow, ent, if_true]
  by_cases h1 : te = 4
  · simp [h1]
  by_cases h2 : te = 10
  · simp [h2]
  by_cases h3 : te = 12
  · simp [h3]
  by_cases h4 : te = 5
  · simp [h4]
  by_cases h5 : te = 11
  · simp [h5]
  by_cases h6 : te = 14
  · simp [h6]
  have e1 : (te == 4) = false := by simpa using h1
  have e2 : (te == 10) = false := by simpa using h2
  have e3 : (te == 12) = false := by simpa using h3
  have e4 : (te == 5) = false := by simpa using h4
  have e5 : (te == 11) = false := by simpa using h5
  have e6 : (te == 14) = false := by simpa using h6
  simp [h1, h2, h3, h4, h5, h6, e1, e2, e3, e4, e5, e6]
theorem run_look (W : World) (M : Nat) (h : W.heap[M]? = some (.map byMap 6)) (te : Int) :
    (Instr.lookup 49 (.map (some M)) (.int .i64 te) false).run Try.prog W = .ok (.int .i64 (byOf te)) W := by
  have hne : byMap.isEmpty = false := by decide
  have hf := run_find te
  unfold byOf
  by_cases h1 : te = 4
  · rw [if_pos h1] at hf
    rw [look_some W M _ _ h te _ _ hne hf]; simp [h1]
  rw [if_neg h1] at hf
  by_cases h2 : te = 10
  · rw [if_pos h2] at hf
    rw [look_some W M _ _ h te _ _ hne hf]; simp [h2]
  rw [if_neg h2] at hf
  by_cases h3 : te = 12
  · rw [if_pos h3] at hf
    rw [look_some W M _ _ h te _ _ hne hf]; simp [h3]
  rw [if_neg h3] at hf
  by_cases h4 : te = 5
  · rw [if_pos h4] at hf
    rw [look_some W M _ _ h te _ _ hne hf]; simp [h4]
  rw [if_neg h4] at hf
  by_cases h5 : te = 11
  · rw [if_pos h5] at hf
    rw [look_some W M _ _ h te _ _ hne hf]; simp [h5]
  rw [if_neg h5] at hf
  by_cases h6 : te = 14
  · rw [if_pos h6] at hf
    rw [look_some W M _ _ h te _ _ hne hf]; simp [h6]
  rw [if_neg h6] at hf
  rw [look_none W M _ _ h te hne hf]
  simp [h1, h2, h3, h4, h5, h6]
set_option maxHeartbeats 1000000 in
theorem by_any (w : World) : Calls Try.prog 38 #[] w fun e w' => e = .returned (.map (some w.heap.size)) ∧ w' = w.alloc (.map byMap 6) := by
  have hmm := @run_makeMap Try.prog
  have i1 := run_insert w #[] 0 4 1 (by rfl)
  have i2 := run_insert w #[ent 4 1 0] 1 10 1 (by rfl)
  have i3 := run_insert w #[ent 4 1 0, ent 10 1 1] 2 12 1 (by rfl)
  have i4 := run_insert w #[ent 4 1 0, ent 10 1 1, ent 12 1 2] 3 5 (-1) (by rfl)
  have i5 := run_insert w #[ent 4 1 0, ent 10 1 1, ent 12 1 2, ent 5 (-1) 3] 4 11 (-1) (by rfl)
  have i6 := run_insert w #[ent 4 1 0, ent 10 1 1, ent 12 1 2, ent 5 (-1) 3, ent 11 (-1) 4] 5 14 (-1) (by rfl)
  simp only [List.push_toArray, List.cons_append, List.nil_append, Nat.reduceAdd] at i1 i2 i3 i4 i5 i6
  go_enter Try.func38, Try.ntmps38
  go_wp2
  go_ret
  exact ⟨rfl, rfl⟩

/-- How many are open behind the first k terminals. -/
def sumTo (l : List Int) (k : Nat) : Int := ((l.take k).map byOf).sum
theorem byOf_bd (t : Int) : -1 ≤ byOf t ∧ byOf t ≤ 1 := by unfold byOf; (repeat' split) <;> omega
theorem sumTo_zero (l : List Int) : sumTo l 0 = 0 := by simp [sumTo]
theorem sumTo_succ (l : List Int) (k : Nat) (h : k < l.length) : sumTo l (k + 1) = sumTo l k + byOf (rd l k) := by
  unfold sumTo rd
  rw [List.take_succ_eq_append_getElem h, List.map_append, List.sum_append]
  simp [h]
theorem sumTo_bd (l : List Int) (k : Nat) (h : k ≤ l.length) : -(k : Int) ≤ sumTo l k ∧ sumTo l k ≤ k := by
  induction k with
  | zero => simp [sumTo_zero]
  | succ k ih =>
    have h1 := ih (by omega)
    have h2 := byOf_bd (rd l k)
    rw [sumTo_succ l k (by omega)]
    omega
/-- A place in the list. -/
abbrev Pl (l : List Int) := { k : Nat // k < l.length }
/-- The first k places. -/
def idx (l : List Int) : (k : Nat) → k ≤ l.length → List (Pl l)
  | 0, _ => []
  | k + 1, h => idx l k (by omega) ++ [⟨k, h⟩]
theorem idx_length (l : List Int) : ∀ (k : Nat) (h : k ≤ l.length), (idx l k h).length = k
  | 0, _ => rfl
  | k + 1, h => by rw [idx, List.length_append, idx_length l k]; rfl

set_option maxHeartbeats 1000000 in
theorem depths_in (F : Fence) (n : Nat) (h : F.fn 37) (hro : F.round = none) (A : Option Addr) (len cap : Nat) (w : World) :
    CallsIn F n Try.prog 37 #[.slice A len cap] w fun e w' => e = .returned (.func (.func 41) #[] #[.pointer (some ⟨w.heap.size, 0, none⟩)]) ∧ w' = w.alloc (.cells #[.slice A len cap] 35) := by
  refine callsIn_of_wp Try.func37 rfl h ?_ hro
  simp only [Try.ntmps37, List.size_toArray, List.length_cons, List.length_nil, Nat.reduceAdd, Nat.reduceSub, Array.replicate_succ, Array.replicate_zero, List.push_toArray, List.append_toArray, List.nil_append, List.cons_append]
  gi_wp2
  go_ret
  exact ⟨rfl, rfl⟩

set_option maxRecDepth 100000 in
set_option maxHeartbeats 2000000 in
theorem depths1 (n : Nat) (hn : 1 ≤ n) (l Bs : Nat) (S : Nat → Prop) (ad : Addr) (cap : Nat) (xs : List Int) (hs : xs.length ≤ 17592186044416) (hb : S Bs) (ha : S ad.block) (J Jx : List (Pl xs) → World → Prop)
    (W : World) (hS : ∀ k, S k → k < W.heap.size) (hJ : AbidesFrom W.heap.size J)
    (hY : ∀ pre x W, J pre W → pre.length < xs.length → YieldAt Fence.wide (n - 1) Try.prog l #[.int .i64 (x.1 : Int), .int .i64 (sumTo xs (x.1 + 1))] W fun e W' =>
      (e = .returned (.bool true) ∧ J (pre ++ [x]) W' ∧ KS S W W') ∨ (e = .returned (.bool false) ∧ Jx (pre ++ [x]) W'))
    (hBs : W.cell? ⟨Bs, 0, none⟩ = some (.slice (some ad) xs.length cap)) (hc : ∀ j, j < xs.length → W.cell? (ad.add j) = some (.int .i64 (rd xs j))) (h0 : J [] W) :
    CallsIn Fence.wide n Try.prog 41 #[.func (.yield l) #[] #[], .pointer (some ⟨Bs, 0, none⟩)] W fun e W' => (∃ v, e = .returned v) ∧
      ((∃ ys, ys = idx xs xs.length (Nat.le_refl _) ∧ J ys W') ∨ (∃ pre, (∃ k h, pre = idx xs k h) ∧ Jx pre W')) := by
  refine callsIn_of_wp Try.func41 rfl trivial ?_ rfl
  simp only [Try.ntmps41, List.size_toArray, List.length_cons, List.length_nil, Nat.reduceAdd, Nat.reduceSub, Array.replicate_succ, Array.replicate_zero, List.push_toArray, List.append_toArray, List.nil_append, List.cons_append]
  have hBl := World.block_lt_of_cell? W _ hBs
  gi_wp2_with (refine ⟨trivial, ?_⟩; gi_at_call 38; refine (callsIn_wide.2 (by_any W)).mono ?_; rintro e W2 ⟨rfl, rfl⟩)
  have hM0 : (W.alloc (.map byMap 6)).heap[W.heap.size]? = some (.map byMap 6) := World.alloc_heap_new W _
  have hB1 : (W.alloc (.map byMap 6)).cell? ⟨Bs, 0, none⟩ = some (.slice (some ad) xs.length cap) := cell_alloc_l _ hBs
  gi_wp2
  gi_loopw [3, 10] (fun nn i wr => ∃ (k : Nat) (hk : k ≤ xs.length), nn = .int .i64 (sumTo xs k) ∧ i = .int .i64 k ∧ J (idx xs k hk) wr ∧ KS S W wr ∧ wr.heap[W.heap.size]? = some (.map byMap 6) ∧ W.heap.size ≤ wr.heap.size)
    (fun _ i _ => xs.length - (intOf i).toNat)
  case atStart => exact ⟨0, Nat.zero_le _, by rw [sumTo_zero], rfl, abides_below hJ h0 ((Below.refl _ _).alloc (Nat.le_refl _) _), KS.below hS ((Below.refl _ _).alloc (Nat.le_refl _) _), hM0, by simp⟩
  case round =>
    obtain ⟨k, hk, rfl, rfl, hJs, hnx, hM, hsz⟩ := hrel
    by_cases hlt : k < xs.length
    · have hx : wr.cell? (ad.add k) = some (.int .i64 (rd xs k)) := (hnx.cellAdd ha k).trans (hc k hlt)
      have b1 := sumTo_bd xs k hk
      have b2 := sumTo_bd xs (k + 1) hlt
      have hl := run_look wr W.heap.size hM (rd xs k)
      have b3 := byOf_bd (rd xs k)
      have HS := Aside0.mk (sumTo_succ xs k hlt)
      obtain ⟨s1, hs1⟩ : ∃ s, s = sumTo xs k := ⟨_, rfl⟩
      rw [← hs1] at b1
      obtain ⟨fn, tmps, assign, body, hy, hR⟩ := hY (idx xs k hk) ⟨k, hlt⟩ wr hJs (by rw [idx_length]; exact hlt)
      dsimp only at hy
      rw [HS.out, ← hs1] at hy
      have HS1 := Aside0.mk hs1
      rw [← hs1]
      clear hs1
      gi_wp2
      refine hR.mono ?_
      rintro e W3 (⟨rfl, hJ3, hk3⟩ | ⟨rfl, hJx3⟩)
      · gi_wp2
        go_roundw
        case rel => exact ⟨k + 1, hlt, by rw [HS.out, HS1.out], by simp, hJ3, hnx.trans hk3, hk3.1.same _ _ hM rfl, Nat.le_trans hsz hk3.1.size⟩
        case measure => simp [intOf]; omega
      · gi_wp2
        refine bodyPost_ret (results_none rfl _ _ _) rfl ?_
        exact ⟨⟨_, rfl⟩, .inr ⟨_, ⟨k + 1, hlt, rfl⟩, hJx3⟩⟩
    · obtain rfl : k = xs.length := by omega
      have b1 := sumTo_bd xs xs.length hk
      gi_wp2
      go_end0
      exact ⟨⟨_, rfl⟩, .inl ⟨_, rfl, hJs⟩⟩

set_option maxRecDepth 100000 in
set_option maxHeartbeats 2000000 in
theorem depths0 {α : Type} (n : Nat) (hn : 1 ≤ n) (l Bs : Nat) (A : Option Addr) (cap : Nat) (J : List α → World → Prop)
    (W : World) (hJ : AbidesFrom W.heap.size J) (hBs : W.cell? ⟨Bs, 0, none⟩ = some (.slice A 0 cap)) (h0 : J [] W) :
    CallsIn Fence.wide n Try.prog 41 #[.func (.yield l) #[] #[], .pointer (some ⟨Bs, 0, none⟩)] W fun e W' => (∃ v, e = .returned v) ∧ J [] W' := by
  refine callsIn_of_wp Try.func41 rfl trivial ?_ rfl
  simp only [Try.ntmps41, List.size_toArray, List.length_cons, List.length_nil, Nat.reduceAdd, Nat.reduceSub, Array.replicate_succ, Array.replicate_zero, List.push_toArray, List.append_toArray, List.nil_append, List.cons_append]
  have hBl := World.block_lt_of_cell? W _ hBs
  gi_wp2_with (refine ⟨trivial, ?_⟩; gi_at_call 38; refine (callsIn_wide.2 (by_any W)).mono ?_; rintro e W2 ⟨rfl, rfl⟩)
  have hB1 : (W.alloc (.map byMap 6)).cell? ⟨Bs, 0, none⟩ = some (.slice A 0 cap) := cell_alloc_l _ hBs
  gi_wp2
  gi_loopw [3, 10] (fun nn i wr => nn = .int .i64 0 ∧ i = .int .i64 0 ∧ J [] wr) (fun _ _ _ => 0)
  case atStart => exact ⟨rfl, rfl, abides_below hJ h0 ((Below.refl _ _).alloc (Nat.le_refl _) _)⟩
  case round =>
    obtain ⟨rfl, rfl, hJs⟩ := hrel
    gi_wp2
    go_end0
    exact ⟨⟨_, rfl⟩, hJs⟩

theorem depths_stops (n : Nat) (hn : 1 ≤ n) (Bs : Nat) (S : Nat → Prop) (A : Option Addr) (cap : Nat) (xs : List Int) (hs : xs.length ≤ 17592186044416) (w : World) (hb : S Bs) (hS : ∀ k, S k → k < w.heap.size)
    (hA : ∀ ad, A = some ad → 0 < xs.length → S ad.block) (hr : Kd.C (Kd.int .i64) w A xs.length xs) (hc : w.cell? ⟨Bs, 0, none⟩ = some (.slice A xs.length cap)) :
    SeqStopsK Fence.wide n Try.prog 41 #[.pointer (some ⟨Bs, 0, none⟩)] (fun x : Pl xs => #[Value.int .i64 (x.1 : Int), Value.int .i64 (sumTo xs (x.1 + 1))]) (KS S) (fun ys => ys = idx xs xs.length (Nat.le_refl _)) (fun pre => ∃ k h, pre = idx xs k h) xs.length w := fun l J Jx W hW hJ _ hY h0 => by
  have hc' := (hW.cell (p := ⟨Bs, 0, none⟩) (hS _ hb)).trans hc
  by_cases h : 0 < xs.length
  · obtain ⟨ad, e, _⟩ := Kd.at_int hr 0 (by omega) (by omega)
    subst e
    refine depths1 n hn l Bs S ad cap xs hs hb (hA ad rfl h) J Jx W (fun k hk => Nat.lt_of_lt_of_le (hS k hk) hW.size) hJ hY hc' ?_ h0
    intro j hj
    obtain ⟨ad', e', hx⟩ := Kd.at_int hr j (by omega) (by omega)
    cases e'
    rw [show ((j : Int)).toNat = j by omega] at hx
    exact (hW.cell (World.block_lt_of_cell? w _ hx)).trans hx
  · have h0' : xs = [] := List.eq_nil_of_length_eq_zero (by omega)
    subst h0'
    exact (depths0 n hn l Bs A cap J W hJ hc' h0).mono fun e W' ⟨he, hj⟩ => ⟨he, .inl ⟨[], rfl, hj⟩⟩

/-- How deep the first k terminals stand. -/
def maxTo (l : List Int) : Nat → Int
  | 0 => 0
  | k + 1 => if maxTo l k < sumTo l (k + 1) then sumTo l (k + 1) else maxTo l k
def depth_Ends.f (l0 : List Int) : Option Int := if l0.length ≤ 17592186044416 then some (sumTo l0 l0.length) else none
def depth_Depth.f (l0 : List Int) : Option Int := if l0.length ≤ 17592186044416 then some (maxTo l0 l0.length) else none
/-- Where they are deeper than some. -/
def atP (l : List Int) (d : Int) (k : Nat) : Bool := decide (d < sumTo l (k + 1)) && decide (0 < byOf (rd l k))
def atOf (l : List Int) (d : Int) : Int := (((List.range l.length).find? (atP l d)).map (fun (k : Nat) => (k : Int))).getD (-1)
def depth_At.f (l0 : List Int) (a1 : Int) : Option Int := if l0.length ≤ 17592186044416 then some (atOf l0 a1) else none

def lastOf (l : List Int) (pre : List (Pl l)) : Int := match pre.getLast? with | none => 0 | some x => sumTo l (x.1 + 1)
theorem lastOf_snoc (l : List Int) (pre : List (Pl l)) (x : Pl l) : lastOf l (pre ++ [x]) = sumTo l (x.1 + 1) := by simp [lastOf]
theorem lastOf_idx (l : List Int) : ∀ (k : Nat) (h : k ≤ l.length), lastOf l (idx l k h) = sumTo l k
  | 0, _ => by simp [lastOf, idx, sumTo_zero]
  | k + 1, h => by rw [idx, lastOf_snoc]
def maxL (l : List Int) (pre : List (Pl l)) : Int := pre.foldl (fun m x => if m < sumTo l (x.1 + 1) then sumTo l (x.1 + 1) else m) 0
theorem maxL_snoc (l : List Int) (pre : List (Pl l)) (x : Pl l) : maxL l (pre ++ [x]) = if maxL l pre < sumTo l (x.1 + 1) then sumTo l (x.1 + 1) else maxL l pre := by simp [maxL]
theorem maxL_idx (l : List Int) : ∀ (k : Nat) (h : k ≤ l.length), maxL l (idx l k h) = maxTo l k
  | 0, _ => rfl
  | k + 1, h => by rw [idx, maxL_snoc, maxL_idx l k, maxTo]


set_option maxRecDepth 100000 in
set_option maxHeartbeats 2000000 in
theorem depth_Ends.calls (A0 : Option Addr) (c0 : Nat) (l0 : List Int) (r : Int) (w : World) (hr0 : Kd.C (Kd.int .i64) w A0 l0.length l0) (hc0 : l0.length ≤ c0) (h : depth_Ends.f l0 = some r) :
    Calls Try.prog 30 #[.slice A0 l0.length c0] w fun e w' => e = .returned (.int .i64 r) ∧ Below w.heap.size w w' := by
  unfold depth_Ends.f at h
  by_cases hs : l0.length ≤ 17592186044416
  · rw [if_pos hs] at h
    have HR := Aside0.mk (Option.some.inj h)
    clear h
    have hmx : Try.prog.follows .mixedOrders = true := by kernel_rfl
    refine (callsIn_wide (n := 6)).1 ?_
    refine callsIn_of_wp_marks Try.func30 rfl trivial ?_ rfl
    simp only [Try.ntmps30, List.size_toArray, List.length_cons, List.length_nil, Nat.reduceAdd, Nat.reduceSub, Array.replicate_succ, Array.replicate_zero, List.push_toArray, List.append_toArray, List.nil_append, List.cons_append]
    gi_wp2_with (refine ⟨trivial, ?_⟩; gi_at_call 37; refine (depths_in Fence.wide _ trivial rfl _ _ _ _).mono ?_; rintro e w' ⟨rfl, rfl⟩)
    have c0_ := cell_new_l w (.int .i64 0) 3
    have c1_ := cell_new_l (w.alloc (.cells #[.int .i64 0] 3)) (.slice A0 l0.length c0) 35
    rw [World.size_alloc] at c1_
    have hB0 : Below w.heap.size w ((w.alloc (.cells #[.int .i64 0] 3)).alloc (.cells #[.slice A0 l0.length c0] 35)) := ((Below.refl _ w).alloc (Nat.le_refl _) _).alloc (by simp) _
    have hS : ∀ k, (k < w.heap.size ∨ k = w.heap.size + 1) → k < w.heap.size + 1 + 1 := by intro k hk; omega
    refine wpIn_rangeFunc_ownF rfl (by omega) (gf := 41) (lb := #[.pointer (some ⟨w.heap.size + 1, 0, none⟩)]) rfl trivial (enters_of Try.func41 (by kernel_rfl) rfl)
      (depths_stops _ (by omega) (w.heap.size + 1) (fun k => k < w.heap.size ∨ k = w.heap.size + 1) A0 c0 l0 hs _ (.inr rfl) (by simpa using hS) (by
        intro ad e hp
        obtain ⟨ad', e', hx⟩ := Kd.at_int hr0 0 (by omega) (by omega)
        rw [e] at e'
        cases e'
        exact .inl (by have := World.block_lt_of_cell? w _ hx; rwa [add_block_] at this)) (Kd.C_below hr0 (hB0.mono (Nat.le_refl _))) c1_.1) (fun h k => KS.trans h k) (fun W l o o' hl => KS.putObj (n := w.heap.size + 2) (by intro k hk; omega) W l o o' (by simpa using hl)) (Below.refl _ _) (fun _ => rfl)
      (fun pre W => (W.cell? ⟨w.heap.size, 0, none⟩ = some (.int .i64 (lastOf l0 pre)) ∧ W.frozen? ⟨w.heap.size, 0, none⟩ = false) ∧ Below w.heap.size w W)
      (fun _ _ _ => False)
      (OwnFrom.and (Own.from (fun s A B row hs hg hr => ⟨Go.cell_kept hs.1 hg hr, (Go.frozen_kept hs.1 hg hr).trans hs.2⟩) _) (ownFrom_below (Nat.le_refl _) (by simp; omega)))
      (fun _ _ _ _ _ hs _ _ => hs)
      ⟨⟨cell_alloc_l _ c0_.1, frozen_alloc_l _ c0_.1 c0_.2⟩, hB0⟩
      (fun x => { tmps := #[.slice A0 l0.length c0, undef, .int .i64 0, .pointer (some ⟨w.heap.size, 0, none⟩), undef, .int .i64 (sumTo l0 (x.1 + 1)), .slice A0 l0.length c0, .func (.func 41) #[] #[.pointer (some ⟨w.heap.size + 1, 0, none⟩)], .int .i64 (x.1 : Int), .int .i64 (sumTo l0 (x.1 + 1)), undef, undef], defers := [] }) ?assign ?body ?done ?stop
    case assign =>
      intro l x W K hK
      gi_wp2
      exact hK
    case body =>
      rintro l pre ⟨j, hj⟩ W ⟨⟨hcr, hfr⟩, hB⟩ _
      have HI := Aside0.mk (lastOf_snoc l0 pre ⟨j, hj⟩)
      dsimp only at HI ⊢
      gi_wp2
      exact ⟨KeepsOthers.setCell _ _ _, KS.setCell _ _ _ (by intro k hk; show k ≠ w.heap.size; omega), ⟨by rw [HI.out]; exact World.cell?_setCell_same' _ _ _ (by rw [hcr]; rfl), by rw [World.frozen?_setCell]; exact hfr⟩, hB.setCell (p := ⟨w.heap.size, 0, none⟩) (Nat.le_refl _) _⟩
    case done =>
      rintro D ys W hD rfl ⟨⟨hcr, hfr⟩, hB⟩ hK
      have HE := Aside0.mk (lastOf_idx l0 l0.length (Nat.le_refl _))
      rw [HE.out] at hcr
      gi_wp2
      refine ⟨by simp, .inl ⟨_, _, rfl, run_takeDeferred hK, ?_⟩⟩
      exact ⟨_, results_tmp rfl _ _ _, by rw [← HR.out]; rfl, hB.trans (belowK_b (w := w) (Nat.le_refl _) W D _ _ (by simp at hD; omega) hK rfl rfl)⟩
    case stop =>
      rintro D c pre W hD hpre h hK
      exact h.elim
  · rw [if_neg hs] at h; exact absurd h (by simp)

set_option maxRecDepth 100000 in
set_option maxHeartbeats 2000000 in
theorem depth_Depth.calls (A0 : Option Addr) (c0 : Nat) (l0 : List Int) (r : Int) (w : World) (hr0 : Kd.C (Kd.int .i64) w A0 l0.length l0) (hc0 : l0.length ≤ c0) (h : depth_Depth.f l0 = some r) :
    Calls Try.prog 26 #[.slice A0 l0.length c0] w fun e w' => e = .returned (.int .i64 r) ∧ Below w.heap.size w w' := by
  unfold depth_Depth.f at h
  by_cases hs : l0.length ≤ 17592186044416
  · rw [if_pos hs] at h
    have HR := Aside0.mk (Option.some.inj h)
    clear h
    have hmx : Try.prog.follows .mixedOrders = true := by kernel_rfl
    refine (callsIn_wide (n := 6)).1 ?_
    refine callsIn_of_wp_marks Try.func26 rfl trivial ?_ rfl
    simp only [Try.ntmps26, List.size_toArray, List.length_cons, List.length_nil, Nat.reduceAdd, Nat.reduceSub, Array.replicate_succ, Array.replicate_zero, List.push_toArray, List.append_toArray, List.nil_append, List.cons_append]
    gi_wp2_with (refine ⟨trivial, ?_⟩; gi_at_call 37; refine (depths_in Fence.wide _ trivial rfl _ _ _ _).mono ?_; rintro e w' ⟨rfl, rfl⟩)
    have c0_ := cell_new_l w (.int .i64 0) 3
    have c1_ := cell_new_l (w.alloc (.cells #[.int .i64 0] 3)) (.slice A0 l0.length c0) 35
    rw [World.size_alloc] at c1_
    have hB0 : Below w.heap.size w ((w.alloc (.cells #[.int .i64 0] 3)).alloc (.cells #[.slice A0 l0.length c0] 35)) := ((Below.refl _ w).alloc (Nat.le_refl _) _).alloc (by simp) _
    have hS : ∀ k, (k < w.heap.size ∨ k = w.heap.size + 1) → k < w.heap.size + 1 + 1 := by intro k hk; omega
    refine wpIn_rangeFunc_ownF rfl (by omega) (gf := 41) (lb := #[.pointer (some ⟨w.heap.size + 1, 0, none⟩)]) rfl trivial (enters_of Try.func41 (by kernel_rfl) rfl)
      (depths_stops _ (by omega) (w.heap.size + 1) (fun k => k < w.heap.size ∨ k = w.heap.size + 1) A0 c0 l0 hs _ (.inr rfl) (by simpa using hS) (by
        intro ad e hp
        obtain ⟨ad', e', hx⟩ := Kd.at_int hr0 0 (by omega) (by omega)
        rw [e] at e'
        cases e'
        exact .inl (by have := World.block_lt_of_cell? w _ hx; rwa [add_block_] at this)) (Kd.C_below hr0 (hB0.mono (Nat.le_refl _))) c1_.1) (fun h k => KS.trans h k) (fun W l o o' hl => KS.putObj (n := w.heap.size + 2) (by intro k hk; omega) W l o o' (by simpa using hl)) (Below.refl _ _) (fun _ => rfl)
      (fun pre W => (W.cell? ⟨w.heap.size, 0, none⟩ = some (.int .i64 (maxL l0 pre)) ∧ W.frozen? ⟨w.heap.size, 0, none⟩ = false) ∧ Below w.heap.size w W)
      (fun _ _ _ => False)
      (OwnFrom.and (Own.from (fun s A B row hs hg hr => ⟨Go.cell_kept hs.1 hg hr, (Go.frozen_kept hs.1 hg hr).trans hs.2⟩) _) (ownFrom_below (Nat.le_refl _) (by simp; omega)))
      (fun _ _ _ _ _ hs _ _ => hs)
      ⟨⟨cell_alloc_l _ c0_.1, frozen_alloc_l _ c0_.1 c0_.2⟩, hB0⟩
      (fun x => { tmps := #[.slice A0 l0.length c0, undef, .int .i64 0, .pointer (some ⟨w.heap.size, 0, none⟩), undef, .int .i64 (sumTo l0 (x.1 + 1)), .slice A0 l0.length c0, .func (.func 41) #[] #[.pointer (some ⟨w.heap.size + 1, 0, none⟩)], .int .i64 (x.1 : Int), .int .i64 (sumTo l0 (x.1 + 1)), undef, undef, undef, undef], defers := [] }) ?assign ?body ?done ?stop
    case assign =>
      intro l x W K hK
      gi_wp2
      exact hK
    case body =>
      rintro l pre ⟨j, hj⟩ W ⟨⟨hcr, hfr⟩, hB⟩ _
      have hsn := maxL_snoc l0 pre ⟨j, hj⟩
      dsimp only at hsn ⊢
      by_cases hm : maxL l0 pre < sumTo l0 (j + 1)
      · rw [if_pos hm] at hsn
        have HI := Aside0.mk hsn
        clear hsn
        gi_wp2
        exact ⟨KeepsOthers.setCell _ _ _, KS.setCell _ _ _ (by intro k hk; show k ≠ w.heap.size; omega), ⟨by rw [HI.out]; exact World.cell?_setCell_same' _ _ _ (by rw [hcr]; rfl), by rw [World.frozen?_setCell]; exact hfr⟩, hB.setCell (p := ⟨w.heap.size, 0, none⟩) (Nat.le_refl _) _⟩
      · rw [if_neg hm] at hsn
        have HI := Aside0.mk hsn
        clear hsn
        gi_wp2
        exact ⟨KeepsOthers.setCell _ _ _, KS.setCell _ _ _ (by intro k hk; show k ≠ w.heap.size; omega), ⟨by rw [HI.out]; exact World.cell?_setCell_same' _ _ _ (by rw [hcr]; rfl), by rw [World.frozen?_setCell]; exact hfr⟩, hB.setCell (p := ⟨w.heap.size, 0, none⟩) (Nat.le_refl _) _⟩
    case done =>
      rintro D ys W hD rfl ⟨⟨hcr, hfr⟩, hB⟩ hK
      have HE := Aside0.mk (maxL_idx l0 l0.length (Nat.le_refl _))
      rw [HE.out] at hcr
      gi_wp2
      refine ⟨by simp, .inl ⟨_, _, rfl, run_takeDeferred hK, ?_⟩⟩
      exact ⟨_, results_tmp rfl _ _ _, by rw [← HR.out]; rfl, hB.trans (belowK_b (w := w) (Nat.le_refl _) W D _ _ (by simp at hD; omega) hK rfl rfl)⟩
    case stop =>
      rintro D c pre W hD hpre h hK
      exact h.elim
  · rw [if_neg hs] at h; exact absurd h (by simp)

theorem find_first {α : Type} (p : α → Bool) (q : List α) (x : α) (m : List α) (hq : ∀ y ∈ q, p y = false) (hx : p x = true) (hm : q ++ [x] <+: m) : m.find? p = some x := by
  obtain ⟨r, rfl⟩ := hm
  rw [List.find?_append, List.find?_append, List.find?_eq_none.2 (fun y hy => by simp [hq y hy])]
  simp [hx]
theorem idx_vals (l : List Int) : ∀ (k : Nat) (h : k ≤ l.length), (idx l k h).map (·.1) = List.range k
  | 0, _ => rfl
  | k + 1, h => by rw [idx, List.map_append, idx_vals l k, List.range_succ]; rfl
theorem at_none (l : List Int) (d : Int) (h : ∀ y ∈ idx l l.length (Nat.le_refl _), atP l d y.1 = false) : atOf l d = -1 := by
  unfold atOf
  rw [List.find?_eq_none.2]
  · rfl
  · intro k hk
    rw [← idx_vals l l.length (Nat.le_refl _)] at hk
    obtain ⟨y, hy, rfl⟩ := List.mem_map.1 hk
    simp [h y hy]
theorem at_some (l : List Int) (d : Int) (k : Nat) (h : k ≤ l.length) (q : List (Pl l)) (x : Pl l) (e : q ++ [x] = idx l k h) (hq : ∀ y ∈ q, atP l d y.1 = false) (hx : atP l d x.1 = true) : atOf l d = x.1 := by
  unfold atOf
  have h1 := congrArg (List.map (·.1)) e
  rw [List.map_append, idx_vals] at h1
  rw [find_first (atP l d) (q.map (·.1)) x.1 (List.range l.length) (by intro y hy; obtain ⟨z, hz, rfl⟩ := List.mem_map.1 hy; exact hq z hz) hx ?_]
  · rfl
  · have h2 : List.map (fun x => x.1) [x] = [x.1] := rfl
    rw [h2] at h1
    rw [h1]
    exact ⟨(List.range (l.length - k)).map (k + ·), by rw [← List.range_add]; congr 1; omega⟩
end Go.Proofs.Ytfpihmjdcneheaa.PDepth
