import Derived.Test.YtjibfhlacbgkgaaHSpanNext
import Derived.Test.YtjibfhlacbgkgaaHSpanRF
namespace Go.Proofs.Ytjibfhlacbgkgaa.PSpan
open Go.RowKit Go.Shelf Go.Proofs.YtjibfhlacbgkgaaW.PrintWords
attribute [local go_sem] Oper.semAt_some
set_option linter.unusedVariables false
set_option linter.unusedSimpArgs false

theorem encode_pos (r : Int) : 1 ≤ (Utf8.encode r).size := by
  unfold Utf8.encode
  simp only
  (repeat' split) <;> simp [ByteArray.size]
theorem next_bd (s : ByteArray) (k : Nat) : (nextOf s k = (0, 0)) ∨ (1 ≤ (nextOf s k).2 ∧ (nextOf s k).2 ≤ 4 ∧ (k : Int) + (nextOf s k).2 ≤ s.size ∧ isB (nextOf s k).1 = true) := by
  unfold nextOf
  dsimp only
  split
  · rename_i h
    have h1 := encode_pos (((Utf8.decode (s.extract k s.size) 0).1 : Nat) : Int)
    have h2 := encode_le (((Utf8.decode (s.extract k s.size) 0).1 : Nat) : Int)
    right
    dsimp only
    obtain ⟨h3, h4, _⟩ := h
    exact ⟨by omega, by omega, by omega, h3⟩
  · left; rfl
/-- What is handed on from a place on: where characters are, as long as they are some. -/
def allP (s : ByteArray) (k : Nat) : List (Int × Bool) :=
  if k < s.size then (if (nextOf s k).2 = 0 then [((k : Int), false)] else ((k : Int), true) :: allP s (k + (nextOf s k).2.toNat)) else []
termination_by s.size - k
decreasing_by
  have := next_bd s k
  rcases this with h | h
  · simp_all
  · omega
theorem allP_end {s : ByteArray} {k : Nat} (h : ¬ k < s.size) : allP s k = [] := by rw [allP, if_neg h]
theorem allP_bad {s : ByteArray} {k : Nat} (h : k < s.size) (h0 : (nextOf s k).2 = 0) : allP s k = [((k : Int), false)] := by rw [allP, if_pos h, if_pos h0]
theorem allP_good {s : ByteArray} {k : Nat} (h : k < s.size) (h0 : ¬ (nextOf s k).2 = 0) : allP s k = ((k : Int), true) :: allP s (k + (nextOf s k).2.toNat) := by rw [allP, if_pos h, if_neg h0]
/-- The first place that is none. -/
def badOf (l : List (Int × Bool)) : Option (Int × Bool) := l.find? fun x => !x.2
def utf_Bad.f (a0 : ByteArray) : Option Int := if a0.size ≤ 140737488351232 then some (((badOf (allP a0 0)).map (·.1)).getD (-1)) else none

set_option maxHeartbeats 1000000 in
theorem places_in (F : Fence) (n : Nat) (h : F.fn 33) (hro : F.round = none) (s : ByteArray) (w : World) :
    CallsIn F n Try.prog 33 #[.string s] w fun e w' => e = .returned (.func (.func 36) #[] #[.pointer (some ⟨w.heap.size, 0, none⟩)]) ∧ w' = w.alloc (.cells #[.string s] 9) := by
  refine callsIn_of_wp Try.func33 rfl h ?_ hro
  simp only [Try.ntmps33, List.size_toArray, List.length_cons, List.length_nil, Nat.reduceAdd, Nat.reduceSub, Array.replicate_succ, Array.replicate_zero, List.push_toArray, List.append_toArray, List.nil_append, List.cons_append]
  gi_wp2
  go_ret
  exact ⟨rfl, rfl⟩

set_option maxRecDepth 100000 in
set_option maxHeartbeats 2000000 in
theorem places1 (n : Nat) (hn : 1 ≤ n) (l Bs : Nat) (S : Nat → Prop) (s : ByteArray) (hs : s.size ≤ 140737488351232) (hb : S Bs) (J Jx : List (Int × Bool) → World → Prop)
    (W : World) (hS : ∀ k, S k → k < W.heap.size) (hJ : AbidesFrom W.heap.size J)
    (hY : ∀ pre x W, J pre W → pre.length < s.size → YieldAt Fence.wide (n - 1) Try.prog l #[.int .i64 x.1, .bool x.2] W fun e W' =>
      (e = .returned (.bool true) ∧ J (pre ++ [x]) W' ∧ KS S W W') ∨ (e = .returned (.bool false) ∧ Jx (pre ++ [x]) W'))
    (hBs : W.cell? ⟨Bs, 0, none⟩ = some (.string s)) (h0 : J [] W) :
    CallsIn Fence.wide n Try.prog 36 #[.func (.yield l) #[] #[], .pointer (some ⟨Bs, 0, none⟩)] W fun e W' => (∃ v, e = .returned v) ∧
      ((∃ ys, ys = allP s 0 ∧ J ys W') ∨ (∃ pre, pre <+: allP s 0 ∧ Jx pre W')) := by
  refine callsIn_of_wp Try.func36 rfl trivial ?_ rfl
  simp only [Try.ntmps36, List.size_toArray, List.length_cons, List.length_nil, Nat.reduceAdd, Nat.reduceSub, Array.replicate_succ, Array.replicate_zero, List.push_toArray, List.append_toArray, List.nil_append, List.cons_append]
  gi_wp2
  gi_loopw [3] (fun i wr => ∃ (k : Nat) (pre : List (Int × Bool)), i = .int .i64 k ∧ k ≤ s.size ∧ pre.length ≤ k ∧ Aside0 (allP s 0 = pre ++ allP s k) ∧ J pre wr ∧ KS S W wr ∧ W.heap.size ≤ wr.heap.size)
    (fun i _ => s.size - (intOf i).toNat)
  case atStart => exact ⟨0, [], rfl, Nat.zero_le _, Nat.le_refl _, ⟨rfl⟩, h0, KS.refl _, Nat.le_refl _⟩
  case round =>
    obtain ⟨k, pre, rfl, hk, hpl, HA, hJs, hnx, hsz⟩ := hrel
    have hc : wr.cell? ⟨Bs, 0, none⟩ = some (.string s) := (hnx.cell hb).trans hBs
    by_cases hlt : k < s.size
    · obtain ⟨r, d, hrd⟩ : ∃ r d, nextOf s k = (r, d) := ⟨_, _, rfl⟩
      have hbd := next_bd s k
      have hf : utf_Next.f s (k : Int) = some (r, d) := by
        unfold utf_Next.f
        rw [if_pos (by omega), if_neg (by omega), show ((k : Int)).toNat = k by omega, hrd]
      by_cases hd : d = 0
      · subst hd
        have hr : allP s k = [((k : Int), false)] := allP_bad hlt (by rw [hrd])
        have HR := Aside0.mk hr
        have HRD := Aside0.mk hrd
        clear hr hrd hbd
        gi_wp2_with (refine ⟨trivial, ?_⟩; gi_at_call 24; refine (callsIn_wide.2 (utf_Next.calls s (k : Int) r 0 wr hf)).mono ?_; rintro e W2 ⟨rfl, hb2⟩)
        obtain ⟨fn, tmps, assign, body, hy, hR⟩ := hY pre ((k : Int), false) W2 (abides_below hJ hJs hb2) (by omega)
        dsimp only at hy
        rw [hy, Oper.uponIn_round]
        refine ⟨fun _ => hn, hR.mono ?_⟩
        rintro e W3 (⟨rfl, hJ3, hk3⟩ | ⟨rfl, hJx3⟩)
        · gi_wp2
          refine bodyPost_ret (results_none rfl _ _ _) rfl ?_
          exact ⟨⟨_, rfl⟩, .inl ⟨_, by rw [HA.out, HR.out], hJ3⟩⟩
        · gi_wp2
          refine bodyPost_ret (results_none rfl _ _ _) rfl ?_
          exact ⟨⟨_, rfl⟩, .inr ⟨_, by rw [HA.out, HR.out]; exact List.prefix_refl _, hJx3⟩⟩
      · have hbd2 : 1 ≤ d ∧ d ≤ 4 ∧ (k : Int) + d ≤ s.size := by
          rcases hbd with h | h
          · rw [hrd] at h; exact absurd (Prod.mk.inj h).2 hd
          · rw [hrd] at h; exact ⟨h.1, h.2.1, h.2.2.1⟩
        obtain ⟨m, rfl⟩ : ∃ m : Nat, d = m := ⟨d.toNat, by omega⟩
        have hr : allP s k = ((k : Int), true) :: allP s (k + m) := by
          have := allP_good hlt (by rw [hrd]; exact hd)
          rw [hrd] at this
          simpa using this
        have HR := Aside0.mk hr
        have HRD := Aside0.mk hrd
        have hm1 : decide (0 < (m : Int)) = true := by simp; omega
        have hm2 : ((m : Int) == 0) = false := by simp; omega
        have hm1' : decide (0 < m) = true := by simp; omega
        have hm2' : (m == 0) = false := by simp; omega
        have hm3 : 1 ≤ m ∧ k + m ≤ s.size := by omega
        clear hr hrd hbd hbd2
        gi_wp2_with (refine ⟨trivial, ?_⟩; gi_at_call 24; refine (callsIn_wide.2 (utf_Next.calls s (k : Int) r (m : Int) wr hf)).mono ?_; rintro e W2 ⟨rfl, hb2⟩)
        obtain ⟨fn, tmps, assign, body, hy, hR⟩ := hY pre ((k : Int), true) W2 (abides_below hJ hJs hb2) (by omega)
        dsimp only at hy
        rw [hy, Oper.uponIn_round]
        refine ⟨fun _ => hn, hR.mono ?_⟩
        rintro e W3 (⟨rfl, hJ3, hk3⟩ | ⟨rfl, hJx3⟩)
        · gi_wp2
          go_roundw
          case rel => exact ⟨k + m, pre ++ [((k : Int), true)], by simp, hm3.2, by simp; omega, ⟨by rw [HA.out, HR.out]; simp⟩, hJ3, (hnx.trans (KS.below (fun k hk => Nat.lt_of_lt_of_le (hS k hk) hsz) hb2)).trans hk3, Nat.le_trans hsz (Nat.le_trans hb2.size hk3.1.size)⟩
          case measure => simp [intOf]; omega
        · gi_wp2
          refine bodyPost_ret (results_none rfl _ _ _) rfl ?_
          exact ⟨⟨_, rfl⟩, .inr ⟨_, by rw [HA.out, HR.out]; exact ⟨allP s (k + m), by simp⟩, hJx3⟩⟩
    · obtain rfl : k = s.size := by omega
      have hr : allP s s.size = [] := allP_end (by omega)
      have HR := Aside0.mk hr
      clear hr
      gi_wp2
      go_end0
      exact ⟨⟨_, rfl⟩, .inl ⟨_, by rw [HA.out, HR.out]; simp, hJs⟩⟩

theorem places_stops (n : Nat) (hn : 1 ≤ n) (Bs : Nat) (S : Nat → Prop) (s : ByteArray) (hs : s.size ≤ 140737488351232) (w : World) (hb : S Bs) (hS : ∀ k, S k → k < w.heap.size) (hc : w.cell? ⟨Bs, 0, none⟩ = some (.string s)) :
    SeqStopsK Fence.wide n Try.prog 36 #[.pointer (some ⟨Bs, 0, none⟩)] (fun x : Int × Bool => #[Value.int .i64 x.1, Value.bool x.2]) (KS S) (fun ys => ys = allP s 0) (fun pre => pre <+: allP s 0) s.size w := fun l J Jx W hW hJ _ hY h0 =>
  places1 n hn l Bs S s hs hb J Jx W (fun k hk => Nat.lt_of_lt_of_le (hS k hk) hW.size) hJ hY ((hW.cell (p := ⟨Bs, 0, none⟩) (hS _ hb)).trans hc) h0

theorem badOf_none {l : List (Int × Bool)} (h : ∀ x ∈ l, x.2 = true) : badOf l = none := by
  unfold badOf
  rw [List.find?_eq_none]
  intro x hx
  simp [h x hx]
theorem badOf_snoc {l : List (Int × Bool)} {x : Int × Bool} (h : ∀ x ∈ l, x.2 = true) (hx : x.2 = false) {m : List (Int × Bool)} (hm : l ++ [x] <+: m) : badOf m = some x := by
  obtain ⟨r, rfl⟩ := hm
  have := badOf_none h
  unfold badOf at this ⊢
  rw [List.find?_append, List.find?_append, this]
  simp [hx]

set_option maxRecDepth 100000 in
set_option maxHeartbeats 2000000 in
theorem utf_Bad.calls (a0 : ByteArray) (r : Int) (w : World) (h : utf_Bad.f a0 = some r) :
    Calls Try.prog 28 #[.string a0] w fun e w' => e = .returned (.int .i64 r) ∧ Below w.heap.size w w' := by
  unfold utf_Bad.f at h
  by_cases hs : a0.size ≤ 140737488351232
  · rw [if_pos hs] at h
    have HR := Aside0.mk (Option.some.inj h)
    clear h
    refine (callsIn_wide (n := 6)).1 ?_
    refine callsIn_of_wp_marks Try.func28 rfl trivial ?_ rfl
    simp only [Try.ntmps28, List.size_toArray, List.length_cons, List.length_nil, Nat.reduceAdd, Nat.reduceSub, Array.replicate_succ, Array.replicate_zero, List.push_toArray, List.append_toArray, List.nil_append, List.cons_append]
    gi_wp2_with (refine ⟨trivial, ?_⟩; gi_at_call 33; refine (places_in Fence.wide _ trivial rfl _ _).mono ?_; rintro e w' ⟨rfl, rfl⟩)
    have c0 := cell_new_l w (.int .i64 0) 3
    have c1 := cell_new_l (w.alloc (.cells #[.int .i64 0] 3)) (.string a0) 9
    rw [World.size_alloc] at c1
    have hB0 : Below w.heap.size w ((w.alloc (.cells #[.int .i64 0] 3)).alloc (.cells #[.string a0] 9)) := ((Below.refl _ w).alloc (Nat.le_refl _) _).alloc (by simp) _
    refine wpIn_rangeFunc_ownF rfl (by omega) (gf := 36) (lb := #[.pointer (some ⟨w.heap.size + 1, 0, none⟩)]) rfl trivial (enters_of Try.func36 (by kernel_rfl) rfl)
      (places_stops _ (by omega) (w.heap.size + 1) (fun k => k = w.heap.size + 1) a0 hs _ rfl (by intro k hk; simp; omega) c1.1) (fun h k => KS.trans h k) (fun W l o o' hl => KS.putObj (n := w.heap.size + 2) (by intro k hk; omega) W l o o' (by simpa using hl)) (Below.refl _ _) (fun _ => rfl)
      (fun pre W => ((∀ y ∈ pre, y.2 = true) ∧ W.cell? ⟨w.heap.size, 0, none⟩ = some (.int .i64 0) ∧ W.frozen? ⟨w.heap.size, 0, none⟩ = false) ∧ Below w.heap.size w W)
      (fun c pre W => (c = .ret ∧ ∃ q x, pre = q ++ [x] ∧ (∀ y ∈ q, y.2 = true) ∧ x.2 = false ∧ W.cell? ⟨w.heap.size, 0, none⟩ = some (.int .i64 x.1)) ∧ Below w.heap.size w W)
      (OwnFrom.and (Own.from (fun s A B row hs hg hr => ⟨hs.1, Go.cell_kept hs.2.1 hg hr, (Go.frozen_kept hs.2.1 hg hr).trans hs.2.2⟩) _) (ownFrom_below (Nat.le_refl _) (by simp; omega)))
      (fun c => OwnFrom.and (Own.from (fun s A B row hs hg hr => by obtain ⟨h1, q, x, h2, h3, h4, h5⟩ := hs; exact ⟨h1, q, x, h2, h3, h4, Go.cell_kept h5 hg hr⟩) _) (ownFrom_below (Nat.le_refl _) (by simp; omega)))
      ⟨⟨by simp, cell_alloc_l _ c0.1, frozen_alloc_l _ c0.1 c0.2⟩, hB0⟩
      (fun x => { tmps := #[.string a0, undef, .pointer (some ⟨w.heap.size, 0, none⟩), .int .i64 x.1, .bool x.2, .string a0, .func (.func 36) #[] #[.pointer (some ⟨w.heap.size + 1, 0, none⟩)], .int .i64 x.1, .bool x.2, undef, undef, undef], defers := [] }) ?assign ?body ?done ?stop
    case assign =>
      intro l x W K hK
      gi_wp2
      exact hK
    case body =>
      rintro l pre ⟨at_, fine⟩ W ⟨⟨hp, hcr, hfr⟩, hB⟩ _
      cases fine with
      | true =>
        gi_wp2
        exact ⟨KeepsOthers.refl _, KS.refl _, ⟨fun y hy => (List.mem_append.1 hy).elim (hp y) (fun e => by simp at e; subst e; rfl), hcr, hfr⟩, hB⟩
      | false =>
        gi_wp2
        exact ⟨KeepsOthers.setCell _ _ _, ⟨rfl, pre, (at_, false), rfl, hp, rfl, World.cell?_setCell_same' _ _ _ (by rw [hcr]; rfl)⟩, hB.setCell (p := ⟨w.heap.size, 0, none⟩) (Nat.le_refl _) _⟩
    case done =>
      rintro D ys W hD rfl ⟨⟨hne, hcr, hfr⟩, hB⟩ hK
      have HE := Aside0.mk (badOf_none hne)
      clear hne
      gi_wp2
      have hK' := (KeepsOthers.setCell W ⟨w.heap.size, 0, none⟩ (.int .i64 (-1))).same D _ hK rfl
      refine ⟨by simp, .inl ⟨_, _, rfl, run_takeDeferred hK', ?_⟩⟩
      have hc5 := Go.cell_kept (World.cell?_setCell_same' W ⟨w.heap.size, 0, none⟩ (.int .i64 (-1)) (by rw [hcr]; rfl)) (grownBy_putObj' _ D (.deferred none)) (fun r e => by cases e; exact ⟨_, hK', rfl⟩)
      refine ⟨.int .i64 (-1), ?_, by rw [← HR.out, HE.out]; rfl, (hB.setCell (p := ⟨w.heap.size, 0, none⟩) (Nat.le_refl _) _).trans (belowK_b (w := w) (Nat.le_refl _) _ D _ _ (by simp at hD; omega) hK' rfl rfl)⟩
      simp [results, Try.f28, go_sem, hc5]
    case stop =>
      rintro D c pre W hD hpre ⟨⟨rfl, q, x, rfl, hq, hx, hcr⟩, hB⟩ hK
      have HE := Aside0.mk (badOf_snoc hq hx hpre)
      clear hpre hq
      gi_wp2
      refine ⟨by simp, .inl ⟨_, _, rfl, run_takeDeferred hK, ?_⟩⟩
      have hc5 := Go.cell_kept hcr (grownBy_putObj' _ D (.deferred none)) (fun r e => by cases e; exact ⟨_, hK, rfl⟩)
      refine ⟨.int .i64 x.1, ?_, by rw [← HR.out, HE.out]; rfl, hB.trans (belowK_b (w := w) (Nat.le_refl _) W D _ _ (by simp at hD; omega) hK rfl rfl)⟩
      simp [results, Try.f28, go_sem, hc5]
  · rw [if_neg hs] at h; exact absurd h (by simp)
end Go.Proofs.Ytjibfhlacbgkgaa.PSpan
