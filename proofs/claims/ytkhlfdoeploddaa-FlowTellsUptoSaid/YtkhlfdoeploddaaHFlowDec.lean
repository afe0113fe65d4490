/- Whether a group is decided by what has come: the walk. -/
import Derived.Test.YtkhlfdoeploddaaHFlowPgF
import Derived.Test.YtkhlfdoeploddaaHFlowMatchM
import Derived.Test.YtkhlfdoeploddaaHFlowFlwL
namespace Go.Proofs.Ytkhlfdoeploddaa.PFlow
open Go.RowKit Go.Shelf Go.Proofs.YtkhlfdoeploddaaW.PrintWords Go.Proofs.YtkhlfdoeploddaaW.PrintMore Go.Proofs.YtkhlfdoeploddaaW.PrintLast
set_option linter.unusedVariables false
set_option linter.unusedSimpArgs false
set_option maxRecDepth 100000 in
set_option maxHeartbeats 4000000 in
theorem wider_calls {Nn R : Nat} {w : World} (s : ByteArray) (n room : Int) (hn : w.heap[Nn]? = some (.cells #[.int .i64 n] 3 (0, 0))) (hr : w.heap[R]? = some (.cells #[.int .i64 room] 3 (0, 0))) (hNR : Nn ≠ R)
    (hs : s.size ≤ 4611686018427387904) (hn0 : 0 ≤ n) (hn1 : n ≤ 2305843009213693952) :
    Calls Try.prog 34 #[.string s, .pointer (some ⟨Nn, 0, none⟩), .pointer (some ⟨R, 0, none⟩)] w fun e w' => e = .returned (.bool (decide (room < n + colsOf s))) ∧ ∃ w1, Below w.heap.size w w1 ∧ w' = w1.setCell ⟨Nn, 0, none⟩ (.int .i64 (n + colsOf s)) := by
  have hmx : Try.prog.follows .mixedOrders = true := by kernel_rfl
  have HN := Aside0.mk hn
  have HR := Aside0.mk hr
  have c0 := cell_of_one hn
  have c1 := cell_of_one hr
  have cb := colsOf_bd s
  have hcl : colsOf s ≤ 4611686018427387904 := by omega
  have HCu := Aside0.mk (wrap_id (x := n + colsOf s) (by omega) (by omega))
  have hNl : Nn < w.heap.size := (Array.getElem?_eq_some_iff.1 hn).1
  have hRl : R < w.heap.size := (Array.getElem?_eq_some_iff.1 hr).1
  clear hn hr cb hcl
  go_enter Try.func34, Try.ntmps34
  go_wp2_with fail
  go_region_with ((go_at_call 19; refine (cols_calls s hs _).mono ?_; rintro e w4 ⟨rfl, hb4⟩; have HB4 := Aside0.mk hb4; have hn4 := (hb4.block Nn hNl).trans HN.out; have hr4 := (hb4.block R hRl).trans HR.out; have c0 := cell_of_one hn4; have c1 := cell_of_one hr4; have c2 := free_of_one hn4; clear hb4))
  all_goals
    have c5 : (w4.setCell ⟨Nn, 0, none⟩ (.int .i64 (n + colsOf s))).cell? ⟨R, 0, none⟩ = some (.int .i64 room) := cell_of_one ((Below.heap_setCell _ _ _ _ (Ne.symm hNR)).trans hr4)
    have c6 : (w4.setCell ⟨Nn, 0, none⟩ (.int .i64 (n + colsOf s))).cell? ⟨Nn, 0, none⟩ = some (.int .i64 (n + colsOf s)) := cell_of_one (one_setCell hn4)
    rw [wsq64, HCu.out]
    go_wp2_with fail
    go_ret
    exact ⟨rfl, w4, ((Below.refl _ w).drew).trans HB4.out, rfl⟩
theorem decRun_succ (c : List S34) (m room : Int) (d k : Nat) (n : Int) : decRun c m room (d + 1) k n =
    if (m < 0 ∨ (k : Int) < m) ∧ flA c k = false then (true, -1)
    else if ¬ (m < 0 ∨ (k : Int) < m) ∧ brB (gB c k).f0 = true then (decide (n ≤ room), m)
    else if n + colA c k > room then (true, -1) else decRun c m room d (k + 1) (n + colA c k) := rfl
/-- What lies in the frame's boxes while the bits are gone through. -/
structure DcW (B N : Nat) (room n : Int) (w W : World) : Prop where
  r : W.heap[B]? = some (.cells #[.int .i64 room] 3 (0, 0))
  n : W.heap[N]? = some (.cells #[.int .i64 n] 3 (0, 0))
  bel : Below B w W
theorem DcW.lt {B N : Nat} {room n : Int} {w W : World} (h : DcW B N room n w W) : N < W.heap.size := (Array.getElem?_eq_some_iff.1 h.n).1
theorem DcW.below {B N : Nat} {room n : Int} {w W W' : World} (h : DcW B N room n w W) (hBN : B < N) (hb : Below W.heap.size W W') : DcW B N room n w W' :=
  ⟨(hb.block B (by have := h.lt; omega)).trans h.r, (hb.block N h.lt).trans h.n, h.bel.trans (hb.mono (by have := h.lt; omega))⟩
theorem DcW.set {B N : Nat} {room n : Int} {w W : World} (h : DcW B N room n w W) (hBN : B < N) (x : Int) : DcW B N room x w (W.setCell ⟨N, 0, none⟩ (.int .i64 x)) :=
  ⟨(Below.heap_setCell _ _ _ _ (by show B ≠ N; omega)).trans h.r, one_setCell h.n, h.bel.setCell (p := ⟨N, 0, none⟩) (by show B ≤ N; omega) _⟩
def intI : Value → Int := fun v => match v with | .int _ n => n | _ => 0
set_option maxRecDepth 100000 in
set_option maxHeartbeats 4000000 in
theorem dec_calls (A0 : Option Addr) (c0 : Nat) (c : List S34) (i : Nat) (room : Int) (w : World) (hr0 : Kd.C k34 w A0 c.length c) (hc0 : c.length ≤ c0) (hi : i < c.length) (hl : c.length ≤ 4000) (hs : small33 c) (hr1 : -1152921504606846976 ≤ room ∧ room ≤ 1152921504606846976) :
    Calls Try.prog 23 #[.slice A0 c.length c0, .int .i64 (i : Int), .int .i64 room] w fun e w' => e = .returned (.tuple #[.bool (decOf c i room).1, .int .i64 (decOf c i room).2]) ∧ Below w.heap.size w w' := by
  obtain ⟨B, hB_⟩ : ∃ B, w.heap.size = B := ⟨_, rfl⟩
  obtain ⟨i0, hi0, hsz⟩ := Option.map_eq_some_iff.1 (show (Try.prog.info? 34).map (·.size) = some 2 by kernel_rfl)
  have hcut := cut_from (P := Try.prog) 22 34 .i64 Try.underlying22 hi0 2 hsz A0 c.length c0 (i : Int) (by omega) (by omega)
  rw [Int.toNat_natCast] at hcut
  have hD := Kd.C_drop (m := i) hr0 (by omega) hc0
  have hne : ¬ c0 = i := by omega
  rw [if_neg hne] at hD hcut
  have hu31 := Try.underlying34
  obtain ⟨m, hm⟩ : ∃ m, matchOf c (i : Int) = m := ⟨_, rfl⟩
  have HM := Aside0.mk hm
  have HD := Aside0.mk hD
  have HR0 := Aside0.mk hr0
  have HS := Aside0.mk hs
  have HI := Aside0.mk hi0
  have hld : (c.drop i).length = c.length - i := List.length_drop
  have HLd := Aside0.mk hld
  have hmx : Try.prog.follows .mixedOrders = true := by kernel_rfl
  have hbx := World.alloc_heap_new w (.cells #[.int .i64 room] 3)
  rw [hB_] at hbx
  have HBx := Aside0.mk hbx
  have HA := Aside0.mk (show Below B w (w.alloc (.cells #[.int .i64 room] 3)) by rw [← hB_]; exact (Below.refl _ w).alloc (Nat.le_refl _) _)
  have hz1 : (w.alloc (.cells #[.int .i64 room] 3)).heap.size = B + 1 := by rw [World.size_alloc, hB_]
  clear hr0 hD hs hi0 hbx hm hne hld
  rw [hB_]
  go_enter Try.func23, Try.ntmps23
  go_wp2_with fail
  refine (span_Match.calls A0 c0 c (i : Int) m _ (Kd.C_alloc HR0.out _) hc0 (by unfold span_Match.f; rw [if_pos (by omega), HM.out])).mono ?_
  rintro e w2 ⟨rfl, hb2⟩
  have hx2 := (hb2.block B (by rw [hz1]; omega)).trans HBx.out
  have HB2 := Aside0.mk (HA.out.trans (hb2.mono (by rw [hz1]; omega)))
  have hs2 : B + 1 ≤ w2.heap.size := by have := hb2.size; rw [hz1] at this; exact this
  obtain ⟨N, hN⟩ : ∃ N, w2.heap.size = N := ⟨_, rfl⟩
  have hBN : B < N := by omega
  clear hb2 hz1 HA HBx
  go_wp2_with fail
  have HW := Aside0.mk (show DcW B N room 0 w (w2.alloc (.cells #[.int .i64 0] 3)) from
    ⟨((Below.refl _ w2).alloc (Nat.le_refl _) _ |>.block B (by omega)).trans hx2, by rw [← hN]; exact World.alloc_heap_new w2 _, HB2.out.alloc (by omega) _⟩)
  clear hx2 HB2 hs2
  go_loopw [24] (fun iv wr => ∃ (k : Nat) (n : Int), k ≤ c.length - i ∧ iv = .int .i64 (k : Int) ∧ 0 ≤ n ∧ n ≤ k * 281474976710656 ∧ decRun c m room (c.length - i - k) (i + k) n = decOf c i room ∧ DcW B N room n w wr) (fun iv _ => c.length - i - (intI iv).toNat)
  case atStart => exact ⟨0, 0, Nat.zero_le _, rfl, Int.le_refl 0, by omega, by unfold decOf; rw [HM.out]; rfl, HW.out⟩
  case round =>
    clear HW
    obtain ⟨k, n, hk, rfl, hn0, hn1, hdec, hW⟩ := hrel
    have HW := Aside0.mk hW
    by_cases hlt : k < c.length - i
    rotate_left
    · have e : c.length - i - k = 0 := by omega
      rw [e] at hdec
      have HDc := Aside0.mk hdec
      have q1 := cell_of_one hW.r
      have q2 := cell_of_one hW.n
      have a1_ : decide ((k : Int) < ((c.length - i : Nat) : Int)) = false := decide_eq_false (by omega)
      clear hW hdec e
      go_wp2_with fail
      go_ret2
      exact ⟨by rw [← HDc.out]; rfl, HW.out.bel⟩
    · obtain ⟨ad, hA, hx0, hx1⟩ := at_T34 HD.out (k : Int) (by omega) (by rw [HLd.out]; omega)
      have hb0 : (ad.add ((k : Int).toNat * 2)).block < B := by have := World.block_lt_of_cell? w _ hx0; rw [hB_] at this; exact this
      have hy0 := (hW.bel.cell hb0).trans hx0
      have hy1 := (hW.bel.cell (p := ⟨(ad.add ((k : Int).toNat * 2)).block, (ad.add ((k : Int).toNat * 2)).off + 1, none⟩) hb0).trans hx1
      rw [Int.toNat_natCast] at hy0 hy1
      rw [rd_gB, gB_drop] at hy0 hy1
      have a1_ : decide ((k : Int) < ((c.length - i : Nat) : Int)) = true := decide_eq_true (by omega)
      have a2_ : decide (k < c.length - i) = true := decide_eq_true hlt
      have hlN := hW.lt
      have hsz : (gB c (i + k)).f1.size ≤ 140737488355328 := HS.out _ (gB_mem (by omega))
      have hca := colA_bd HS.out (i + k)
      rw [show c.length - i - k = (c.length - i - (k + 1)) + 1 by omega, decRun_succ] at hdec
      obtain ⟨s, is, hfl⟩ : ∃ s is, flatOf (gB c (i + k)).f0 (gB c (i + k)).f1 = (s, is) := ⟨_, _, rfl⟩
      have hss : s.size ≤ 4611686018427387904 := by have := flatOf_size2 (gB c (i + k)).f0 (gB c (i + k)).f1; rw [hfl] at this; dsimp only at this; omega
      have eA : colA c (i + k) = colsOf s := by unfold colA; rw [hfl]
      have eF : flA c (i + k) = is := by unfold flA; rw [hfl]
      rw [eA] at hca hdec
      rw [eF] at hdec
      obtain ⟨u, hu⟩ : ∃ u, (gB c (i + k)).f0 = u := ⟨_, rfl⟩
      obtain ⟨t, ht⟩ : ∃ t, (gB c (i + k)).f1 = t := ⟨_, rfl⟩
      rw [hu] at hy0 hdec hfl
      rw [ht] at hy1 hfl
      have HDc := Aside0.mk hdec
      have HFl := Aside0.mk hfl
      rw [show Option.map (fun x => x.add (i * 2)) A0 = some ad from hA]
      clear hW hx0 hx1 hdec eA eF hu ht hsz hfl
      go_wp2_with fail
      have hbA : Below wr.heap.size wr (wr.alloc (.cells #[.int .i64 u, .string t] 34)) := (Below.refl _ wr).alloc (Nat.le_refl _) _
      have hbx := World.alloc_heap_new wr (.cells #[.int .i64 u, .string t] 34)
      obtain ⟨X, hX⟩ : ∃ X, wr.heap.size = X := ⟨_, rfl⟩
      rw [hX] at hbx
      refine (span_Flat.calls u t s is _ (congrArg some HFl.out)).mono ?_
      rintro e w6 ⟨rfl, hb6⟩
      have HW6 := Aside0.mk ((HW.out.below hBN hbA).below hBN hb6)
      have hx6 := (hb6.block X (by rw [World.size_alloc, hX]; omega)).trans hbx
      have e0 : w6.cell? ⟨X, 0, none⟩ = some (.int .i64 u) := Lib.cell_of_heap hx6 0
      have e1 : w6.cell? ⟨X, 1, none⟩ = some (.string t) := Lib.cell_of_heap hx6 1
      have q1 := cell_of_one HW6.out.r
      have q2 := cell_of_one HW6.out.n
      clear hb6 hx6 hbx hbA hy0 hy1 HW
      by_cases g1 : m < 0
      · have d1 : decide (m < 0) = true := decide_eq_true g1
        have gin : m < 0 ∨ ((i + k : Nat) : Int) < m := .inl g1
        cases is with
        | false =>
          have hd := HDc.out
          rw [if_pos ⟨gin, rfl⟩] at hd
          have HE := Aside0.mk hd
          clear hd HDc
          go_wp2_with fail
          go_ret2
          exact ⟨by rw [← HE.out]; rfl, HW6.out.bel⟩
        | true =>
          have hd := HDc.out
          rw [if_neg (fun h => by cases h.2), if_neg (fun h => h.1 gin)] at hd
          have HE := Aside0.mk hd
          clear hd HDc
          go_wp2_with fail
          refine (wider_calls s n room HW6.out.n HW6.out.r (by omega) hss hn0 (by omega)).mono ?_
          rintro e w8 ⟨rfl, w7, hb7, rfl⟩
          have HW8 := Aside0.mk ((HW6.out.below hBN hb7).set hBN (n + colsOf s))
          clear hb7
          by_cases g3 : room < n + colsOf s
          · have d3 : decide (room < n + colsOf s) = true := decide_eq_true g3
            have hd := HE.out
            rw [if_pos g3] at hd
            have HG := Aside0.mk hd
            clear hd HE
            go_wp2_with fail
            go_ret2
            exact ⟨by rw [← HG.out]; rfl, HW8.out.bel⟩
          · have d3 : decide (room < n + colsOf s) = false := decide_eq_false g3
            have hd := HE.out
            rw [if_neg g3] at hd
            have HG := Aside0.mk hd
            clear hd HE
            go_wp2_with fail
            exact ⟨⟨k + 1, n + colsOf s, by omega, by rw [Int.natCast_add]; rfl, by omega, by omega, by rw [← Nat.add_assoc]; exact HG.out, HW8.out⟩, by simp only [intI]; omega⟩
      · have d1 : decide (m < 0) = false := decide_eq_false g1
        by_cases g2 : (i : Int) + (k : Int) < m
        · have d2 : decide ((i : Int) + (k : Int) < m) = true := decide_eq_true g2
          have gin : m < 0 ∨ ((i + k : Nat) : Int) < m := .inr (by omega)
          cases is with
          | false =>
            have hd := HDc.out
            rw [if_pos ⟨gin, rfl⟩] at hd
            have HE := Aside0.mk hd
            clear hd HDc
            go_wp2_with fail
            go_ret2
            exact ⟨by rw [← HE.out]; rfl, HW6.out.bel⟩
          | true =>
            have hd := HDc.out
            rw [if_neg (fun h => by cases h.2), if_neg (fun h => h.1 gin)] at hd
            have HE := Aside0.mk hd
            clear hd HDc
            go_wp2_with fail
            refine (wider_calls s n room HW6.out.n HW6.out.r (by omega) hss hn0 (by omega)).mono ?_
            rintro e w8 ⟨rfl, w7, hb7, rfl⟩
            have HW8 := Aside0.mk ((HW6.out.below hBN hb7).set hBN (n + colsOf s))
            clear hb7
            by_cases g3 : room < n + colsOf s
            · have d3 : decide (room < n + colsOf s) = true := decide_eq_true g3
              have hd := HE.out
              rw [if_pos g3] at hd
              have HG := Aside0.mk hd
              clear hd HE
              go_wp2_with fail
              go_ret2
              exact ⟨by rw [← HG.out]; rfl, HW8.out.bel⟩
            · have d3 : decide (room < n + colsOf s) = false := decide_eq_false g3
              have hd := HE.out
              rw [if_neg g3] at hd
              have HG := Aside0.mk hd
              clear hd HE
              go_wp2_with fail
              exact ⟨⟨k + 1, n + colsOf s, by omega, by rw [Int.natCast_add]; rfl, by omega, by omega, by rw [← Nat.add_assoc]; exact HG.out, HW8.out⟩, by simp only [intI]; omega⟩
        · have d2 : decide ((i : Int) + (k : Int) < m) = false := decide_eq_false g2
          have gin : ¬ (m < 0 ∨ ((i + k : Nat) : Int) < m) := by omega
          have HBR := Aside0.mk (breaks_q u t)
          have hd := HDc.out
          rw [if_neg (fun h => gin h.1)] at hd
          clear HDc
          cases hbu : brB u with
          | true =>
            rw [hbu] at HBR hd
            rw [if_pos ⟨gin, rfl⟩] at hd
            have HE := Aside0.mk hd
            clear hd
            go_wp2_with fail
            refine (span_Breaks.calls u t true _ HBR.out).mono ?_
            rintro e wx ⟨rfl, hbz⟩
            have HWx := Aside0.mk (HW6.out.below hBN hbz)
            have q1 := cell_of_one HWx.out.r
            have q2 := cell_of_one HWx.out.n
            clear hbz
            go_wp2_with fail
            go_ret2
            exact ⟨by rw [← HE.out]; rfl, HWx.out.bel⟩
          | false =>
            rw [hbu] at HBR hd
            rw [if_neg (fun h => by cases h.2)] at hd
            have HE := Aside0.mk hd
            clear hd
            go_wp2_with fail
            refine (span_Breaks.calls u t false _ HBR.out).mono ?_
            rintro e wx ⟨rfl, hbz⟩
            have HWx := Aside0.mk (HW6.out.below hBN hbz)
            have q1 := cell_of_one HWx.out.r
            have q2 := cell_of_one HWx.out.n
            clear hbz
            go_wp2_with fail
            refine (wider_calls s n room HWx.out.n HWx.out.r (by omega) hss hn0 (by omega)).mono ?_
            rintro e w8 ⟨rfl, w7, hb7, rfl⟩
            have HW8 := Aside0.mk ((HWx.out.below hBN hb7).set hBN (n + colsOf s))
            clear hb7
            by_cases g3 : room < n + colsOf s
            · have d3 : decide (room < n + colsOf s) = true := decide_eq_true g3
              have hd := HE.out
              rw [if_pos g3] at hd
              have HG := Aside0.mk hd
              clear hd HE
              go_wp2_with fail
              go_ret2
              exact ⟨by rw [← HG.out]; rfl, HW8.out.bel⟩
            · have d3 : decide (room < n + colsOf s) = false := decide_eq_false g3
              have hd := HE.out
              rw [if_neg g3] at hd
              have HG := Aside0.mk hd
              clear hd HE
              go_wp2_with fail
              exact ⟨⟨k + 1, n + colsOf s, by omega, by rw [Int.natCast_add]; rfl, by omega, by omega, by rw [← Nat.add_assoc]; exact HG.out, HW8.out⟩, by simp only [intI]; omega⟩
end Go.Proofs.Ytkhlfdoeploddaa.PFlow
