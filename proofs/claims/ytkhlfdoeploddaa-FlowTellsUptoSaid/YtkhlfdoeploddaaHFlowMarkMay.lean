import Derived.Test.YtkhlfdoeploddaaHFlowGrpL
import Derived.Test.YtkhlfdoeploddaaHFlowRF
namespace Go.Proofs.Ytkhlfdoeploddaa.PFlow
open Go.RowKit Go.Shelf Go.Proofs.YtkhlfdoeploddaaW.PrintWords Go.Proofs.YtkhlfdoeploddaaW.PrintMore
attribute [local go_sem] Oper.semAt_some
set_option linter.unusedVariables false
set_option linter.unusedSimpArgs false

/-- How many of the first k bits have a mark. -/
def cM (l : List S34) (m : Int) : Nat → Int
  | 0 => 0
  | k + 1 => cM l m k + (if (gB l k).f0 = m then 1 else 0)
theorem cM_bd (l : List S34) (m : Int) : ∀ k, 0 ≤ cM l m k ∧ cM l m k ≤ k
  | 0 => by rw [cM]; omega
  | k + 1 => by have := cM_bd l m k; rw [cM]; split <;> omega
theorem cM_dep (l : List S34) : ∀ k, depB l k = cM l 6 k - cM l 7 k
  | 0 => rfl
  | k + 1 => by
    rw [depB, cM, cM, cM_dep l k]
    unfold valB
    (repeat' split) <;> omega
theorem cM_ind (l : List S34) : ∀ k, indB l k = cM l 8 k - cM l 9 k
  | 0 => rfl
  | k + 1 => by
    rw [indB, cM, cM, cM_ind l k]
    unfold valI
    (repeat' split) <;> omega
def bitOk (x : S34) : Prop := 0 ≤ x.f0 ∧ x.f0 < 10 ∧ (x.f0 ≠ 0 → x.f1.size = 0)
/-- So far so good. -/
structure MayTo (l : List S34) (k : Nat) : Prop where
  bit : ∀ j, j < k → bitOk (gB l j)
  dep : ∀ j, j ≤ k → 0 ≤ depB l j
  ind : ∀ j, j ≤ k → 0 ≤ indB l j
theorem MayTo.zero (l : List S34) : MayTo l 0 :=
  ⟨fun j h => absurd h (Nat.not_lt_zero _), fun j h => by obtain rfl : j = 0 := by omega
                                                          exact Int.le_refl 0, fun j h => by obtain rfl : j = 0 := by omega
                                                                                             exact Int.le_refl 0⟩
theorem MayTo.succ {l : List S34} {k : Nat} (h : MayTo l k) (h1 : bitOk (gB l k)) (h2 : 0 ≤ depB l (k + 1)) (h3 : 0 ≤ indB l (k + 1)) : MayTo l (k + 1) := by
  refine ⟨fun j hj => ?_, fun j hj => ?_, fun j hj => ?_⟩
  · by_cases e : j = k
    · subst e; exact h1
    · exact h.bit j (by omega)
  · by_cases e : j = k + 1
    · subst e; exact h2
    · exact h.dep j (by omega)
  · by_cases e : j = k + 1
    · subst e; exact h3
    · exact h.ind j (by omega)
theorem mayB_of {l : List S34} (hl : l.length ≤ 4000) (h : MayTo l l.length) (h1 : cM l 7 l.length = cM l 6 l.length) (h2 : cM l 9 l.length = cM l 8 l.length) : MayB l :=
  ⟨hl, h.bit, h.dep, h.ind, by rw [cM_dep]; omega, by rw [cM_ind]; omega⟩
theorem not_may {l : List S34} (h : ¬ (cM l 7 l.length = cM l 6 l.length ∧ cM l 9 l.length = cM l 8 l.length)) : ¬ MayB l := by
  intro hm
  have h1 := hm.dep0; have h2 := hm.ind0
  rw [cM_dep] at h1; rw [cM_ind] at h2
  exact h ⟨by omega, by omega⟩
def mayOf (l : List S34) : Bool := decide (MayB l)
theorem mayOf_true {l : List S34} (h : MayB l) : mayOf l = true := by unfold mayOf; exact decide_eq_true h
theorem mayOf_false {l : List S34} (h : ¬ MayB l) : mayOf l = false := by unfold mayOf; exact decide_eq_false h
theorem mayOf_iff {l : List S34} : mayOf l = true ↔ MayB l := by unfold mayOf; exact decide_eq_true_iff
def mark_May.f (l0 : List S34) : Option Bool := if l0.length ≤ 17592186044416 then some (mayOf l0) else none
theorem size0 {t : ByteArray} (h : t.toList = []) : t.size = 0 := by
  have := congrArg List.length h
  rw [ByteArray.toList_eq, Array.length_toList] at this
  exact this
theorem size0' {t : ByteArray} (h : t.size = 0) : t = ⟨#[]⟩ := by
  cases t with
  | mk d => rw [Array.eq_empty_of_size_eq_zero h]
theorem arr_set {l : List S34} {B k : Nat} {W : World} {C : Nat → Int} {m : Nat} {x : Int} (hA : ∀ j, j < 10 → W.cell? ⟨B, j, none⟩ = some (.int .i64 (C j)) ∧ W.frozen? ⟨B, j, none⟩ = false) (hm : m < 10) (hx : x = C m + 1)
    (hC : ∀ j : Nat, cM l (j : Int) (k + 1) = C j + (if m = j then 1 else 0)) : ∀ j : Nat, j < 10 → (W.setCell ⟨B, m, none⟩ (.int .i64 x)).cell? ⟨B, j, none⟩ = some (.int .i64 (cM l (j : Int) (k + 1))) ∧ (W.setCell ⟨B, m, none⟩ (.int .i64 x)).frozen? ⟨B, j, none⟩ = false := by
  intro j hj
  subst hx
  refine ⟨?_, by rw [World.frozen?_setCell]; exact (hA j hj).2⟩
  rw [hC j]
  by_cases e : m = j
  · subst e
    rw [if_pos rfl]
    exact World.cell?_setCell_same' _ _ _ (by rw [(hA m hm).1]; rfl)
  · rw [if_neg e, Int.add_zero, World.cell?_setCell_other _ _ _ _ (by intro h; cases h; exact e rfl)]
    exact (hA j hj).1
/-- The counts' block. -/
def ArrAt (l : List S34) (B k : Nat) (W : World) : Prop := ∀ m : Nat, m < 10 → W.cell? ⟨B, m, none⟩ = some (.int .i64 (cM l (m : Int) k)) ∧ W.frozen? ⟨B, m, none⟩ = false

theorem arr_alloc {l : List S34} {B k : Nat} {W : World} (o : Obj) (h : ∀ j : Nat, j < 10 → W.cell? ⟨B, j, none⟩ = some (.int .i64 (cM l (j : Int) k)) ∧ W.frozen? ⟨B, j, none⟩ = false) : ArrAt l B k (W.alloc o) := fun m hm => ⟨cell_alloc_l o (h m hm).1, frozen_alloc_l o (h m hm).1 (h m hm).2⟩
set_option maxRecDepth 100000 in
set_option maxHeartbeats 4000000 in
theorem mark_May.calls (A0 : Option Addr) (c0 : Nat) (l0 : List S34) (r : Bool) (w : World) (hr0 : Kd.C k34 w A0 l0.length l0) (hc0 : l0.length ≤ c0) (h : mark_May.f l0 = some r) :
    Calls Try.prog 22 #[.slice A0 l0.length c0] w fun e w' => e = .returned (.bool r) ∧ Below w.heap.size w w' := by
  unfold mark_May.f at h
  by_cases hs : l0.length ≤ 17592186044416
  rotate_left
  · rw [if_neg hs] at h; exact absurd h (by simp)
  rw [if_pos hs] at h
  have HR := Aside0.mk (Option.some.inj h)
  clear h
  have hu33 := Try.underlying34
  obtain ⟨B, hB_⟩ : ∃ B, w.heap.size = B := ⟨_, rfl⟩
  have HR0 := Aside0.mk hr0
  clear hr0
  rw [hB_]
  by_cases n1 : 4000 < l0.length
  · have d1 : decide ((4000 : Int) < (l0.length : Int)) = true := decide_eq_true (by omega)
    have d1b : decide (4000 < l0.length) = true := decide_eq_true n1
    have HF := Aside0.mk (show r = false by rw [← HR.out]; exact mayOf_false (fun hm => by have := hm.len; omega))
    clear n1
    go_enter Try.func22, Try.ntmps22
    go_wp2
    go_ret
    exact ⟨by rw [HF.out]; rfl, by rw [← hB_]; exact (Below.refl _ w).alloc (Nat.le_refl _) _⟩
  have d1 : decide ((4000 : Int) < (l0.length : Int)) = false := decide_eq_false (by omega)
  have d1b : decide (4000 < l0.length) = false := decide_eq_false n1
  have N1 := Aside0.mk n1
  clear n1
  go_enter Try.func22, Try.ntmps22
  go_wp2
  go_loopw [11] (fun iv wr => ∃ k : Nat, k ≤ l0.length ∧ iv = .int .i64 (k : Int) ∧ MayTo l0 k ∧ ArrAt l0 B k wr ∧ Below B w wr) (fun iv _ => l0.length - (intOf iv).toNat)
  case atStart =>
    refine ⟨0, Nat.zero_le _, rfl, MayTo.zero _, ?_, by rw [← hB_]; exact (Below.refl _ w).alloc (Nat.le_refl _) _⟩
    intro m hm
    rw [← hB_]
    refine ⟨?_, World.frozen?_alloc_new ..⟩
    rw [World.cell?_alloc_new]
    have : m = 0 ∨ m = 1 ∨ m = 2 ∨ m = 3 ∨ m = 4 ∨ m = 5 ∨ m = 6 ∨ m = 7 ∨ m = 8 ∨ m = 9 := by omega
    rcases this with rfl | rfl | rfl | rfl | rfl | rfl | rfl | rfl | rfl | rfl <;> rfl
  case round =>
    obtain ⟨k, hk, rfl, hmay, harr, hbel⟩ := hrel
    by_cases hlt : k < l0.length
    rotate_left
    · obtain rfl : k = l0.length := by omega
      have c6 := harr 6 (by omega)
      have c7 := harr 7 (by omega)
      have c8 := harr 8 (by omega)
      have c9 := harr 9 (by omega)
      have HM := Aside0.mk hmay
      clear harr hmay d1 d1b
      have HN := Aside0.mk (@not_may l0)
      obtain ⟨a6, e6⟩ : ∃ a, cM l0 6 l0.length = a := ⟨_, rfl⟩
      obtain ⟨a7, e7⟩ : ∃ a, cM l0 7 l0.length = a := ⟨_, rfl⟩
      obtain ⟨a8, e8⟩ : ∃ a, cM l0 8 l0.length = a := ⟨_, rfl⟩
      obtain ⟨a9, e9⟩ : ∃ a, cM l0 9 l0.length = a := ⟨_, rfl⟩
      have HC := Aside0.mk (show mayOf l0 = (a7 == a6 && a9 == a8) by
        by_cases q : a7 = a6 ∧ a9 = a8
        · rw [mayOf_true (mayB_of (by have := N1.out; omega) HM.out (by rw [e6, e7]; exact q.1) (by rw [e8, e9]; exact q.2))]
          simp [q.1, q.2]
        · rw [mayOf_false (HN.out (by rw [e6, e7, e8, e9]; exact q))]
          cases h1 : (a7 == a6) <;> cases h2 : (a9 == a8) <;> first | rfl | exact absurd ⟨eq_of_beq h1, eq_of_beq h2⟩ q)
      rw [show ((6 : Nat) : Int) = 6 from rfl, e6] at c6
      rw [show ((7 : Nat) : Int) = 7 from rfl, e7] at c7
      rw [show ((8 : Nat) : Int) = 8 from rfl, e8] at c8
      rw [show ((9 : Nat) : Int) = 9 from rfl, e9] at c9
      obtain ⟨c6, f6⟩ := c6
      obtain ⟨c7, f7⟩ := c7
      obtain ⟨c8, f8⟩ := c8
      obtain ⟨c9, f9⟩ := c9
      clear e6 e7 e8 e9 hk hlt
      cases h1 : (a7 == a6) <;> cases h2 : (a9 == a8)
      all_goals
        have HC2 := Aside0.mk (HR.out.symm.trans HC.out)
        rw [h1, h2] at HC2
        clear HC HR
        go_wp2
        go_ret
        exact ⟨by rw [HC2.out]; rfl, hbel⟩
    · obtain ⟨ad, hA, hx0, hx1⟩ := at_T34 HR0.out (k : Int) (by omega) (by omega)
      have hb0 : (ad.add ((k : Int).toNat * 2)).block < B := by have := World.block_lt_of_cell? w _ hx0; rw [hB_] at this; exact this
      have hy0 := (hbel.cell hb0).trans hx0
      have hy1 := (hbel.cell (p := ⟨(ad.add ((k : Int).toNat * 2)).block, (ad.add ((k : Int).toNat * 2)).off + 1, none⟩) hb0).trans hx1
      rw [Int.toNat_natCast] at hy0 hy1
      rw [rd_gB] at hy0 hy1
      have hsz : B < wr.heap.size := by have := World.block_lt_of_cell? wr _ (harr 0 (by omega)).1; exact this
      subst hA
      have HMay := Aside0.mk hmay
      have HBel := Aside0.mk hbel
      have HArr := Aside0.mk harr
      have HG := Aside0.mk (show bitOk (gB l0 k) ↔ 0 ≤ (gB l0 k).f0 ∧ (gB l0 k).f0 < 10 ∧ ((gB l0 k).f0 ≠ 0 → (gB l0 k).f1.size = 0) from Iff.rfl)
      have HD := Aside0.mk (depB_succ l0 k)
      have HI := Aside0.mk (indB_succ l0 k)
      have HCd := Aside0.mk (cM_dep l0 k)
      have HCi := Aside0.mk (cM_ind l0 k)
      have HMs : ∀ m, Aside0 (cM l0 m (k + 1) = cM l0 m k + (if (gB l0 k).f0 = m then 1 else 0)) := fun m => Aside0.mk rfl
      obtain ⟨u, hu⟩ : ∃ u, (gB l0 k).f0 = u := ⟨_, rfl⟩
      obtain ⟨t, ht⟩ : ∃ t, (gB l0 k).f1 = t := ⟨_, rfl⟩
      rw [hu] at hy0 HG HD HI
      rw [ht] at hy1 HG
      simp only [hu] at HMs
      have HNo := Aside0.mk (show ¬ bitOk (gB l0 k) → mayOf l0 = false from fun hn => mayOf_false fun hm => hn (hm.bit k hlt))
      have HU := Aside0.mk hu
      clear hu ht hmay hbel harr hx0 hx1 d1 d1b hb0
      have a1 : decide ((k : Int) < (l0.length : Int)) = true := decide_eq_true (by omega)
      have a2 : decide (k < l0.length) = true := decide_eq_true hlt
      by_cases u0 : u < 0
      · have b1 : decide (u < 0) = true := decide_eq_true u0
        have HF := Aside0.mk (HR.out.symm.trans (HNo.out (fun hg => by have := (HG.out.1 hg).1; omega)))
        clear HMs
        go_wp2
        go_ret
        exact ⟨by rw [HF.out]; rfl, HBel.out.alloc (by omega) _⟩
      have b1 : decide (u < 0) = false := decide_eq_false u0
      by_cases u10 : 10 ≤ u
      · have b2 : decide (10 ≤ u) = true := decide_eq_true u10
        have HF := Aside0.mk (HR.out.symm.trans (HNo.out (fun hg => by have := (HG.out.1 hg).2.1; omega)))
        clear HMs
        go_wp2
        go_ret
        exact ⟨by rw [HF.out]; rfl, HBel.out.alloc (by omega) _⟩
      have b2 : decide (10 ≤ u) = false := decide_eq_false u10
      by_cases us : u ≠ 0 ∧ t.size ≠ 0
      · have b3 : (u != 0) = true := bne_iff_ne.2 us.1
        have b3b : (u == 0) = false := beq_eq_false_iff_ne.2 us.1
        have b5 : t.toList.isEmpty = false := by
          cases h : t.toList with
          | nil => exact absurd (size0 h) us.2
          | cons _ _ => rfl
        have HF := Aside0.mk (HR.out.symm.trans (HNo.out (fun hg => us.2 ((HG.out.1 hg).2.2 us.1))))
        clear HMs
        go_wp2
        go_ret
        exact ⟨by rw [HF.out]; rfl, HBel.out.alloc (by omega) _⟩
      have HOk := Aside0.mk (HG.out.2 ⟨by omega, by omega, fun h0 => Classical.byContradiction fun h1 => us ⟨h0, h1⟩⟩)
      have us' : u ≠ 0 → t = ⟨#[]⟩ := fun h0 => size0' (Classical.byContradiction fun h1 => us ⟨h0, h1⟩)
      have K := HArr.out
      unfold ArrAt at K
      obtain ⟨C, hC⟩ : ∃ C : Nat → Int, ∀ j : Nat, cM l0 (j : Int) k = C j := ⟨_, fun _ => rfl⟩
      have hbd : ∀ j : Nat, 0 ≤ C j ∧ C j ≤ k := fun j => (hC j) ▸ cM_bd l0 (j : Int) k
      have hMs : ∀ m : Nat, u = (m : Int) → ∀ j : Nat, cM l0 (j : Int) (k + 1) = C j + (if m = j then 1 else 0) := by
        intro m hm j
        rw [(HMs (j : Int)).out, hC j]
        by_cases q : m = j
        · rw [if_pos (by omega), if_pos q]
        · rw [if_neg (by omega), if_neg q]
      have hCd : depB l0 k = C 6 - C 7 := by rw [HCd.out]; have e6 := hC 6; have e7 := hC 7; rw [← e6, ← e7]; rfl
      have hCi : indB l0 k = C 8 - C 9 := by rw [HCi.out]; have e8 := hC 8; have e9 := hC 9; rw [← e8, ← e9]; rfl
      simp only [hC] at K
      have hd0 := HMay.out.dep k (Nat.le_refl _)
      have hi0 := HMay.out.ind k (Nat.le_refl _)
      rw [hCd] at hd0
      rw [hCi] at hi0
      have hk40 : k ≤ 4000 := by have := N1.out; omega
      have HBk := Aside0.mk hbd
      have HMk := Aside0.mk hMs
      have HK := Aside0.mk K
      have HCe := Aside0.mk hC
      have HDk := Aside0.mk hCd
      have HIk := Aside0.mk hCi
      have HNo2 := Aside0.mk (show ¬ (0 ≤ depB l0 (k + 1) ∧ 0 ≤ indB l0 (k + 1)) → mayOf l0 = false from fun hn => mayOf_false fun hm => hn ⟨hm.dep _ (by omega), hm.ind _ (by omega)⟩)
      have KK : ∀ j, j < 10 → wr.cell? ⟨B, j, none⟩ = some (.int .i64 (C j)) := fun j hj => (K j hj).1
      have KF : ∀ j, j < 10 → wr.frozen? ⟨B, j, none⟩ = false := fun j hj => (K j hj).2
      clear hbd hMs hCd hCi hC K us HMs HCd HCi HArr
      by_cases um0 : u = 0
      · subst um0
        clear us' u0 u10 b1 b2
        obtain ⟨x0, hx0⟩ : ∃ x, C 0 = x := ⟨_, rfl⟩
        have k0 := KK 0 (by omega)
        rw [hx0] at k0
        have b20 := HBk.out 0
        rw [hx0] at b20
        obtain ⟨x6, hx6⟩ : ∃ x, C 6 = x := ⟨_, rfl⟩
        have k6 := KK 6 (by omega)
        rw [hx6] at k6
        have b26 := HBk.out 6
        rw [hx6] at b26
        obtain ⟨x7, hx7⟩ : ∃ x, C 7 = x := ⟨_, rfl⟩
        have k7 := KK 7 (by omega)
        rw [hx7] at k7
        have b27 := HBk.out 7
        rw [hx7] at b27
        obtain ⟨x8, hx8⟩ : ∃ x, C 8 = x := ⟨_, rfl⟩
        have k8 := KK 8 (by omega)
        rw [hx8] at k8
        have b28 := HBk.out 8
        rw [hx8] at b28
        obtain ⟨x9, hx9⟩ : ∃ x, C 9 = x := ⟨_, rfl⟩
        have k9 := KK 9 (by omega)
        rw [hx9] at k9
        have b29 := HBk.out 9
        rw [hx9] at b29
        have kf := KF 0 (by omega)
        rw [hx6] at hd0
        rw [hx7] at hd0
        rw [hx8] at hi0
        rw [hx9] at hi0
        have HX := Aside0.mk (And.intro hx0 (And.intro hx6 (And.intro hx7 (And.intro hx8 hx9))))
        have hdd : depB l0 (k + 1) = x6 - x7 + valB 0 := by rw [HD.out, HDk.out, hx6, hx7]
        have hii : indB l0 (k + 1) = x8 - x9 + valI 0 := by rw [HI.out, HIk.out, hx8, hx9]
        rw [show valB 0 = 0 from rfl] at hdd
        rw [show valI 0 = 0 from rfl] at hii
        clear hx0 hx6 hx7 hx8 hx9
        have t1 : decide (x6 < x7) = false := decide_eq_false (by omega)
        have t2 : decide (x8 < x9) = false := decide_eq_false (by omega)
        have HS := Aside0.mk (HMay.out.succ HOk.out (by omega) (by omega))
        clear hdd hii KK KF
        go_wp2
        go_roundw
        case rel => exact ⟨k + 1, by omega, by go_num, HS.out, arr_alloc _ (arr_set HK.out (by omega) (by rw [HX.out.1]) (HMk.out 0 rfl)), (HBel.out.setCell (Nat.le_refl _) _).alloc (by rw [World.size_setCell]; omega) _⟩
        case measure => simp [intOf]; omega
      by_cases um1 : u = 1
      · subst um1
        have ht := us' (by decide)
        subst ht
        clear us' u0 u10 b1 b2
        obtain ⟨x1, hx1⟩ : ∃ x, C 1 = x := ⟨_, rfl⟩
        have k1 := KK 1 (by omega)
        rw [hx1] at k1
        have b21 := HBk.out 1
        rw [hx1] at b21
        obtain ⟨x6, hx6⟩ : ∃ x, C 6 = x := ⟨_, rfl⟩
        have k6 := KK 6 (by omega)
        rw [hx6] at k6
        have b26 := HBk.out 6
        rw [hx6] at b26
        obtain ⟨x7, hx7⟩ : ∃ x, C 7 = x := ⟨_, rfl⟩
        have k7 := KK 7 (by omega)
        rw [hx7] at k7
        have b27 := HBk.out 7
        rw [hx7] at b27
        obtain ⟨x8, hx8⟩ : ∃ x, C 8 = x := ⟨_, rfl⟩
        have k8 := KK 8 (by omega)
        rw [hx8] at k8
        have b28 := HBk.out 8
        rw [hx8] at b28
        obtain ⟨x9, hx9⟩ : ∃ x, C 9 = x := ⟨_, rfl⟩
        have k9 := KK 9 (by omega)
        rw [hx9] at k9
        have b29 := HBk.out 9
        rw [hx9] at b29
        have kf := KF 1 (by omega)
        rw [hx6] at hd0
        rw [hx7] at hd0
        rw [hx8] at hi0
        rw [hx9] at hi0
        have HX := Aside0.mk (And.intro hx1 (And.intro hx6 (And.intro hx7 (And.intro hx8 hx9))))
        have hdd : depB l0 (k + 1) = x6 - x7 + valB 1 := by rw [HD.out, HDk.out, hx6, hx7]
        have hii : indB l0 (k + 1) = x8 - x9 + valI 1 := by rw [HI.out, HIk.out, hx8, hx9]
        rw [show valB 1 = 0 from rfl] at hdd
        rw [show valI 1 = 0 from rfl] at hii
        clear hx1 hx6 hx7 hx8 hx9
        have t1 : decide (x6 < x7) = false := decide_eq_false (by omega)
        have t2 : decide (x8 < x9) = false := decide_eq_false (by omega)
        have HS := Aside0.mk (HMay.out.succ HOk.out (by omega) (by omega))
        clear hdd hii KK KF
        go_wp2
        go_roundw
        case rel => exact ⟨k + 1, by omega, by go_num, HS.out, arr_alloc _ (arr_set HK.out (by omega) (by rw [HX.out.1]) (HMk.out 1 rfl)), (HBel.out.setCell (Nat.le_refl _) _).alloc (by rw [World.size_setCell]; omega) _⟩
        case measure => simp [intOf]; omega
      by_cases um2 : u = 2
      · subst um2
        have ht := us' (by decide)
        subst ht
        clear us' u0 u10 b1 b2
        obtain ⟨x2, hx2⟩ : ∃ x, C 2 = x := ⟨_, rfl⟩
        have k2 := KK 2 (by omega)
        rw [hx2] at k2
        have b22 := HBk.out 2
        rw [hx2] at b22
        obtain ⟨x6, hx6⟩ : ∃ x, C 6 = x := ⟨_, rfl⟩
        have k6 := KK 6 (by omega)
        rw [hx6] at k6
        have b26 := HBk.out 6
        rw [hx6] at b26
        obtain ⟨x7, hx7⟩ : ∃ x, C 7 = x := ⟨_, rfl⟩
        have k7 := KK 7 (by omega)
        rw [hx7] at k7
        have b27 := HBk.out 7
        rw [hx7] at b27
        obtain ⟨x8, hx8⟩ : ∃ x, C 8 = x := ⟨_, rfl⟩
        have k8 := KK 8 (by omega)
        rw [hx8] at k8
        have b28 := HBk.out 8
        rw [hx8] at b28
        obtain ⟨x9, hx9⟩ : ∃ x, C 9 = x := ⟨_, rfl⟩
        have k9 := KK 9 (by omega)
        rw [hx9] at k9
        have b29 := HBk.out 9
        rw [hx9] at b29
        have kf := KF 2 (by omega)
        rw [hx6] at hd0
        rw [hx7] at hd0
        rw [hx8] at hi0
        rw [hx9] at hi0
        have HX := Aside0.mk (And.intro hx2 (And.intro hx6 (And.intro hx7 (And.intro hx8 hx9))))
        have hdd : depB l0 (k + 1) = x6 - x7 + valB 2 := by rw [HD.out, HDk.out, hx6, hx7]
        have hii : indB l0 (k + 1) = x8 - x9 + valI 2 := by rw [HI.out, HIk.out, hx8, hx9]
        rw [show valB 2 = 0 from rfl] at hdd
        rw [show valI 2 = 0 from rfl] at hii
        clear hx2 hx6 hx7 hx8 hx9
        have t1 : decide (x6 < x7) = false := decide_eq_false (by omega)
        have t2 : decide (x8 < x9) = false := decide_eq_false (by omega)
        have HS := Aside0.mk (HMay.out.succ HOk.out (by omega) (by omega))
        clear hdd hii KK KF
        go_wp2
        go_roundw
        case rel => exact ⟨k + 1, by omega, by go_num, HS.out, arr_alloc _ (arr_set HK.out (by omega) (by rw [HX.out.1]) (HMk.out 2 rfl)), (HBel.out.setCell (Nat.le_refl _) _).alloc (by rw [World.size_setCell]; omega) _⟩
        case measure => simp [intOf]; omega
      by_cases um3 : u = 3
      · subst um3
        have ht := us' (by decide)
        subst ht
        clear us' u0 u10 b1 b2
        obtain ⟨x3, hx3⟩ : ∃ x, C 3 = x := ⟨_, rfl⟩
        have k3 := KK 3 (by omega)
        rw [hx3] at k3
        have b23 := HBk.out 3
        rw [hx3] at b23
        obtain ⟨x6, hx6⟩ : ∃ x, C 6 = x := ⟨_, rfl⟩
        have k6 := KK 6 (by omega)
        rw [hx6] at k6
        have b26 := HBk.out 6
        rw [hx6] at b26
        obtain ⟨x7, hx7⟩ : ∃ x, C 7 = x := ⟨_, rfl⟩
        have k7 := KK 7 (by omega)
        rw [hx7] at k7
        have b27 := HBk.out 7
        rw [hx7] at b27
        obtain ⟨x8, hx8⟩ : ∃ x, C 8 = x := ⟨_, rfl⟩
        have k8 := KK 8 (by omega)
        rw [hx8] at k8
        have b28 := HBk.out 8
        rw [hx8] at b28
        obtain ⟨x9, hx9⟩ : ∃ x, C 9 = x := ⟨_, rfl⟩
        have k9 := KK 9 (by omega)
        rw [hx9] at k9
        have b29 := HBk.out 9
        rw [hx9] at b29
        have kf := KF 3 (by omega)
        rw [hx6] at hd0
        rw [hx7] at hd0
        rw [hx8] at hi0
        rw [hx9] at hi0
        have HX := Aside0.mk (And.intro hx3 (And.intro hx6 (And.intro hx7 (And.intro hx8 hx9))))
        have hdd : depB l0 (k + 1) = x6 - x7 + valB 3 := by rw [HD.out, HDk.out, hx6, hx7]
        have hii : indB l0 (k + 1) = x8 - x9 + valI 3 := by rw [HI.out, HIk.out, hx8, hx9]
        rw [show valB 3 = 0 from rfl] at hdd
        rw [show valI 3 = 0 from rfl] at hii
        clear hx3 hx6 hx7 hx8 hx9
        have t1 : decide (x6 < x7) = false := decide_eq_false (by omega)
        have t2 : decide (x8 < x9) = false := decide_eq_false (by omega)
        have HS := Aside0.mk (HMay.out.succ HOk.out (by omega) (by omega))
        clear hdd hii KK KF
        go_wp2
        go_roundw
        case rel => exact ⟨k + 1, by omega, by go_num, HS.out, arr_alloc _ (arr_set HK.out (by omega) (by rw [HX.out.1]) (HMk.out 3 rfl)), (HBel.out.setCell (Nat.le_refl _) _).alloc (by rw [World.size_setCell]; omega) _⟩
        case measure => simp [intOf]; omega
      by_cases um4 : u = 4
      · subst um4
        have ht := us' (by decide)
        subst ht
        clear us' u0 u10 b1 b2
        obtain ⟨x4, hx4⟩ : ∃ x, C 4 = x := ⟨_, rfl⟩
        have k4 := KK 4 (by omega)
        rw [hx4] at k4
        have b24 := HBk.out 4
        rw [hx4] at b24
        obtain ⟨x6, hx6⟩ : ∃ x, C 6 = x := ⟨_, rfl⟩
        have k6 := KK 6 (by omega)
        rw [hx6] at k6
        have b26 := HBk.out 6
        rw [hx6] at b26
        obtain ⟨x7, hx7⟩ : ∃ x, C 7 = x := ⟨_, rfl⟩
        have k7 := KK 7 (by omega)
        rw [hx7] at k7
        have b27 := HBk.out 7
        rw [hx7] at b27
        obtain ⟨x8, hx8⟩ : ∃ x, C 8 = x := ⟨_, rfl⟩
        have k8 := KK 8 (by omega)
        rw [hx8] at k8
        have b28 := HBk.out 8
        rw [hx8] at b28
        obtain ⟨x9, hx9⟩ : ∃ x, C 9 = x := ⟨_, rfl⟩
        have k9 := KK 9 (by omega)
        rw [hx9] at k9
        have b29 := HBk.out 9
        rw [hx9] at b29
        have kf := KF 4 (by omega)
        rw [hx6] at hd0
        rw [hx7] at hd0
        rw [hx8] at hi0
        rw [hx9] at hi0
        have HX := Aside0.mk (And.intro hx4 (And.intro hx6 (And.intro hx7 (And.intro hx8 hx9))))
        have hdd : depB l0 (k + 1) = x6 - x7 + valB 4 := by rw [HD.out, HDk.out, hx6, hx7]
        have hii : indB l0 (k + 1) = x8 - x9 + valI 4 := by rw [HI.out, HIk.out, hx8, hx9]
        rw [show valB 4 = 0 from rfl] at hdd
        rw [show valI 4 = 0 from rfl] at hii
        clear hx4 hx6 hx7 hx8 hx9
        have t1 : decide (x6 < x7) = false := decide_eq_false (by omega)
        have t2 : decide (x8 < x9) = false := decide_eq_false (by omega)
        have HS := Aside0.mk (HMay.out.succ HOk.out (by omega) (by omega))
        clear hdd hii KK KF
        go_wp2
        go_roundw
        case rel => exact ⟨k + 1, by omega, by go_num, HS.out, arr_alloc _ (arr_set HK.out (by omega) (by rw [HX.out.1]) (HMk.out 4 rfl)), (HBel.out.setCell (Nat.le_refl _) _).alloc (by rw [World.size_setCell]; omega) _⟩
        case measure => simp [intOf]; omega
      by_cases um5 : u = 5
      · subst um5
        have ht := us' (by decide)
        subst ht
        clear us' u0 u10 b1 b2
        obtain ⟨x5, hx5⟩ : ∃ x, C 5 = x := ⟨_, rfl⟩
        have k5 := KK 5 (by omega)
        rw [hx5] at k5
        have b25 := HBk.out 5
        rw [hx5] at b25
        obtain ⟨x6, hx6⟩ : ∃ x, C 6 = x := ⟨_, rfl⟩
        have k6 := KK 6 (by omega)
        rw [hx6] at k6
        have b26 := HBk.out 6
        rw [hx6] at b26
        obtain ⟨x7, hx7⟩ : ∃ x, C 7 = x := ⟨_, rfl⟩
        have k7 := KK 7 (by omega)
        rw [hx7] at k7
        have b27 := HBk.out 7
        rw [hx7] at b27
        obtain ⟨x8, hx8⟩ : ∃ x, C 8 = x := ⟨_, rfl⟩
        have k8 := KK 8 (by omega)
        rw [hx8] at k8
        have b28 := HBk.out 8
        rw [hx8] at b28
        obtain ⟨x9, hx9⟩ : ∃ x, C 9 = x := ⟨_, rfl⟩
        have k9 := KK 9 (by omega)
        rw [hx9] at k9
        have b29 := HBk.out 9
        rw [hx9] at b29
        have kf := KF 5 (by omega)
        rw [hx6] at hd0
        rw [hx7] at hd0
        rw [hx8] at hi0
        rw [hx9] at hi0
        have HX := Aside0.mk (And.intro hx5 (And.intro hx6 (And.intro hx7 (And.intro hx8 hx9))))
        have hdd : depB l0 (k + 1) = x6 - x7 + valB 5 := by rw [HD.out, HDk.out, hx6, hx7]
        have hii : indB l0 (k + 1) = x8 - x9 + valI 5 := by rw [HI.out, HIk.out, hx8, hx9]
        rw [show valB 5 = 0 from rfl] at hdd
        rw [show valI 5 = 0 from rfl] at hii
        clear hx5 hx6 hx7 hx8 hx9
        have t1 : decide (x6 < x7) = false := decide_eq_false (by omega)
        have t2 : decide (x8 < x9) = false := decide_eq_false (by omega)
        have HS := Aside0.mk (HMay.out.succ HOk.out (by omega) (by omega))
        clear hdd hii KK KF
        go_wp2
        go_roundw
        case rel => exact ⟨k + 1, by omega, by go_num, HS.out, arr_alloc _ (arr_set HK.out (by omega) (by rw [HX.out.1]) (HMk.out 5 rfl)), (HBel.out.setCell (Nat.le_refl _) _).alloc (by rw [World.size_setCell]; omega) _⟩
        case measure => simp [intOf]; omega
      by_cases um6 : u = 6
      · subst um6
        have ht := us' (by decide)
        subst ht
        clear us' u0 u10 b1 b2
        obtain ⟨x6, hx6⟩ : ∃ x, C 6 = x := ⟨_, rfl⟩
        have k6 := KK 6 (by omega)
        rw [hx6] at k6
        have b26 := HBk.out 6
        rw [hx6] at b26
        obtain ⟨x7, hx7⟩ : ∃ x, C 7 = x := ⟨_, rfl⟩
        have k7 := KK 7 (by omega)
        rw [hx7] at k7
        have b27 := HBk.out 7
        rw [hx7] at b27
        obtain ⟨x8, hx8⟩ : ∃ x, C 8 = x := ⟨_, rfl⟩
        have k8 := KK 8 (by omega)
        rw [hx8] at k8
        have b28 := HBk.out 8
        rw [hx8] at b28
        obtain ⟨x9, hx9⟩ : ∃ x, C 9 = x := ⟨_, rfl⟩
        have k9 := KK 9 (by omega)
        rw [hx9] at k9
        have b29 := HBk.out 9
        rw [hx9] at b29
        have kf := KF 6 (by omega)
        rw [hx6] at hd0
        rw [hx7] at hd0
        rw [hx8] at hi0
        rw [hx9] at hi0
        have HX := Aside0.mk (And.intro hx6 (And.intro hx6 (And.intro hx7 (And.intro hx8 hx9))))
        have hdd : depB l0 (k + 1) = x6 - x7 + valB 6 := by rw [HD.out, HDk.out, hx6, hx7]
        have hii : indB l0 (k + 1) = x8 - x9 + valI 6 := by rw [HI.out, HIk.out, hx8, hx9]
        rw [show valB 6 = 1 from rfl] at hdd
        rw [show valI 6 = 0 from rfl] at hii
        clear hx6 hx7 hx8 hx9
        have t1 : decide (x6 + 1 < x7) = false := decide_eq_false (by omega)
        have t2 : decide (x8 < x9) = false := decide_eq_false (by omega)
        have HS := Aside0.mk (HMay.out.succ HOk.out (by omega) (by omega))
        clear hdd hii KK KF
        go_wp2
        go_roundw
        case rel => exact ⟨k + 1, by omega, by go_num, HS.out, arr_alloc _ (arr_set HK.out (by omega) (by rw [HX.out.1]) (HMk.out 6 rfl)), (HBel.out.setCell (Nat.le_refl _) _).alloc (by rw [World.size_setCell]; omega) _⟩
        case measure => simp [intOf]; omega
      by_cases um7 : u = 7
      · subst um7
        have ht := us' (by decide)
        subst ht
        clear us' u0 u10 b1 b2
        obtain ⟨x6, hx6⟩ : ∃ x, C 6 = x := ⟨_, rfl⟩
        have k6 := KK 6 (by omega)
        rw [hx6] at k6
        have b26 := HBk.out 6
        rw [hx6] at b26
        obtain ⟨x7, hx7⟩ : ∃ x, C 7 = x := ⟨_, rfl⟩
        have k7 := KK 7 (by omega)
        rw [hx7] at k7
        have b27 := HBk.out 7
        rw [hx7] at b27
        obtain ⟨x8, hx8⟩ : ∃ x, C 8 = x := ⟨_, rfl⟩
        have k8 := KK 8 (by omega)
        rw [hx8] at k8
        have b28 := HBk.out 8
        rw [hx8] at b28
        obtain ⟨x9, hx9⟩ : ∃ x, C 9 = x := ⟨_, rfl⟩
        have k9 := KK 9 (by omega)
        rw [hx9] at k9
        have b29 := HBk.out 9
        rw [hx9] at b29
        have kf := KF 7 (by omega)
        rw [hx6] at hd0
        rw [hx7] at hd0
        rw [hx8] at hi0
        rw [hx9] at hi0
        have HX := Aside0.mk (And.intro hx7 (And.intro hx6 (And.intro hx7 (And.intro hx8 hx9))))
        have hdd : depB l0 (k + 1) = x6 - x7 + valB 7 := by rw [HD.out, HDk.out, hx6, hx7]
        have hii : indB l0 (k + 1) = x8 - x9 + valI 7 := by rw [HI.out, HIk.out, hx8, hx9]
        rw [show valB 7 = -1 from rfl] at hdd
        rw [show valI 7 = 0 from rfl] at hii
        clear hx6 hx7 hx8 hx9
        by_cases q : x6 < x7 + 1
        · have HF := Aside0.mk (HR.out.symm.trans (HNo2.out (by omega)))
          have t1 : decide (x6 < x7 + 1) = true := decide_eq_true q
          clear hdd hii KK KF
          go_wp2
          go_ret
          exact ⟨by rw [HF.out]; rfl, (HBel.out.setCell (Nat.le_refl _) _).alloc (by rw [World.size_setCell]; omega) _⟩
        have t1 : decide (x6 < x7 + 1) = false := decide_eq_false (by omega)
        have t2 : decide (x8 < x9) = false := decide_eq_false (by omega)
        have HS := Aside0.mk (HMay.out.succ HOk.out (by omega) (by omega))
        clear hdd hii KK KF
        go_wp2
        go_roundw
        case rel => exact ⟨k + 1, by omega, by go_num, HS.out, arr_alloc _ (arr_set HK.out (by omega) (by rw [HX.out.1]) (HMk.out 7 rfl)), (HBel.out.setCell (Nat.le_refl _) _).alloc (by rw [World.size_setCell]; omega) _⟩
        case measure => simp [intOf]; omega
      by_cases um8 : u = 8
      · subst um8
        have ht := us' (by decide)
        subst ht
        clear us' u0 u10 b1 b2
        obtain ⟨x6, hx6⟩ : ∃ x, C 6 = x := ⟨_, rfl⟩
        have k6 := KK 6 (by omega)
        rw [hx6] at k6
        have b26 := HBk.out 6
        rw [hx6] at b26
        obtain ⟨x7, hx7⟩ : ∃ x, C 7 = x := ⟨_, rfl⟩
        have k7 := KK 7 (by omega)
        rw [hx7] at k7
        have b27 := HBk.out 7
        rw [hx7] at b27
        obtain ⟨x8, hx8⟩ : ∃ x, C 8 = x := ⟨_, rfl⟩
        have k8 := KK 8 (by omega)
        rw [hx8] at k8
        have b28 := HBk.out 8
        rw [hx8] at b28
        obtain ⟨x9, hx9⟩ : ∃ x, C 9 = x := ⟨_, rfl⟩
        have k9 := KK 9 (by omega)
        rw [hx9] at k9
        have b29 := HBk.out 9
        rw [hx9] at b29
        have kf := KF 8 (by omega)
        rw [hx6] at hd0
        rw [hx7] at hd0
        rw [hx8] at hi0
        rw [hx9] at hi0
        have HX := Aside0.mk (And.intro hx8 (And.intro hx6 (And.intro hx7 (And.intro hx8 hx9))))
        have hdd : depB l0 (k + 1) = x6 - x7 + valB 8 := by rw [HD.out, HDk.out, hx6, hx7]
        have hii : indB l0 (k + 1) = x8 - x9 + valI 8 := by rw [HI.out, HIk.out, hx8, hx9]
        rw [show valB 8 = 0 from rfl] at hdd
        rw [show valI 8 = 1 from rfl] at hii
        clear hx6 hx7 hx8 hx9
        have t1 : decide (x6 < x7) = false := decide_eq_false (by omega)
        have t2 : decide (x8 + 1 < x9) = false := decide_eq_false (by omega)
        have HS := Aside0.mk (HMay.out.succ HOk.out (by omega) (by omega))
        clear hdd hii KK KF
        go_wp2
        go_roundw
        case rel => exact ⟨k + 1, by omega, by go_num, HS.out, arr_alloc _ (arr_set HK.out (by omega) (by rw [HX.out.1]) (HMk.out 8 rfl)), (HBel.out.setCell (Nat.le_refl _) _).alloc (by rw [World.size_setCell]; omega) _⟩
        case measure => simp [intOf]; omega
      obtain rfl : u = 9 := by omega
      have ht := us' (by decide)
      subst ht
      clear us' u0 u10 b1 b2
      obtain ⟨x6, hx6⟩ : ∃ x, C 6 = x := ⟨_, rfl⟩
      have k6 := KK 6 (by omega)
      rw [hx6] at k6
      have b26 := HBk.out 6
      rw [hx6] at b26
      obtain ⟨x7, hx7⟩ : ∃ x, C 7 = x := ⟨_, rfl⟩
      have k7 := KK 7 (by omega)
      rw [hx7] at k7
      have b27 := HBk.out 7
      rw [hx7] at b27
      obtain ⟨x8, hx8⟩ : ∃ x, C 8 = x := ⟨_, rfl⟩
      have k8 := KK 8 (by omega)
      rw [hx8] at k8
      have b28 := HBk.out 8
      rw [hx8] at b28
      obtain ⟨x9, hx9⟩ : ∃ x, C 9 = x := ⟨_, rfl⟩
      have k9 := KK 9 (by omega)
      rw [hx9] at k9
      have b29 := HBk.out 9
      rw [hx9] at b29
      have kf := KF 9 (by omega)
      rw [hx6] at hd0
      rw [hx7] at hd0
      rw [hx8] at hi0
      rw [hx9] at hi0
      have HX := Aside0.mk (And.intro hx9 (And.intro hx6 (And.intro hx7 (And.intro hx8 hx9))))
      have hdd : depB l0 (k + 1) = x6 - x7 + valB 9 := by rw [HD.out, HDk.out, hx6, hx7]
      have hii : indB l0 (k + 1) = x8 - x9 + valI 9 := by rw [HI.out, HIk.out, hx8, hx9]
      rw [show valB 9 = 0 from rfl] at hdd
      rw [show valI 9 = -1 from rfl] at hii
      clear hx6 hx7 hx8 hx9
      by_cases q : x8 < x9 + 1
      · have HF := Aside0.mk (HR.out.symm.trans (HNo2.out (by omega)))
        have t1 : decide (x6 < x7) = false := decide_eq_false (by omega)
        have t2 : decide (x8 < x9 + 1) = true := decide_eq_true q
        clear hdd hii KK KF
        go_wp2
        go_ret
        exact ⟨by rw [HF.out]; rfl, (HBel.out.setCell (Nat.le_refl _) _).alloc (by rw [World.size_setCell]; omega) _⟩
      have t1 : decide (x6 < x7) = false := decide_eq_false (by omega)
      have t2 : decide (x8 < x9 + 1) = false := decide_eq_false (by omega)
      have HS := Aside0.mk (HMay.out.succ HOk.out (by omega) (by omega))
      clear hdd hii KK KF
      go_wp2
      go_roundw
      case rel => exact ⟨k + 1, by omega, by go_num, HS.out, arr_alloc _ (arr_set HK.out (by omega) (by rw [HX.out.1]) (HMk.out 9 rfl)), (HBel.out.setCell (Nat.le_refl _) _).alloc (by rw [World.size_setCell]; omega) _⟩
      case measure => simp [intOf]; omega
end Go.Proofs.Ytkhlfdoeploddaa.PFlow
