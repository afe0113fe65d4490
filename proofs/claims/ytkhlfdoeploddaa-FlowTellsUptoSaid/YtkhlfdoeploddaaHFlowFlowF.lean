/- flow.Flow: the walk, over the plain answer 'flowOf'. -/
import Derived.Test.YtkhlfdoeploddaaHFlowDec
import Derived.Test.YtkhlfdoeploddaaPFlowx2
import Derived.WalkMore
namespace Go.Proofs.Ytkhlfdoeploddaa.PFlow
open Go.RowKit Go.Shelf Go.Proofs.YtkhlfdoeploddaaW.PrintWords Go.Proofs.YtkhlfdoeploddaaW.PrintMore Go.Proofs.YtkhlfdoeploddaaW.PrintLast
set_option linter.unusedVariables false
set_option linter.unusedSimpArgs false
/-- May it be printed at a width? -/
def roomB (l : List S34) (w : Int) : Bool := mayOf l && decide (1 ≤ w) && decide (w ≤ 65535)
theorem roomB_true {l : List S34} {w : Int} : roomB l w = true ↔ MayB l ∧ 1 ≤ w ∧ w ≤ 65535 := by
  unfold roomB
  rw [Bool.and_eq_true, Bool.and_eq_true, mayOf_iff, decide_eq_true_iff, decide_eq_true_iff, and_assoc]
theorem room_q {l : List S34} (hl : l.length ≤ 17592186044416) (w : Int) : wide_Room.f l w = some (roomB l w) := by
  unfold wide_Room.f mark_May.f roomB
  rw [if_pos hl, Option.bind_some]
  cases mayOf l with
  | false => rfl
  | true =>
    rw [if_pos rfl]
    by_cases h : w ≥ 1
    · rw [if_pos h, decide_eq_true (show 1 ≤ w from h)]; rfl
    · rw [if_neg h, decide_eq_false (show ¬ 1 ≤ w from h)]; rfl
theorem flow_stepN {l : List S34} (w : Int) {i : Nat} (c : ¬ ((gB l i).f0 = 6 ∧ (uptoP l w i).flat < 0)) : stepP (gB l i) i false 0 (uptoP l w i) = uptoP l w (i + 1) := by
  rw [uptoP_succ]
  by_cases g : (gB l i).f0 = 6
  · unfold stepP
    rw [if_pos g, if_pos g, if_neg (fun hh => c ⟨g, hh.1⟩), if_neg (fun hh => c ⟨g, hh.1⟩)]
  · exact stepP_other g
theorem flow_stepD {l : List S34} (h : MayB l) (hs : small33 l) (w : Int) {k i : Nat} (hk : k ≤ l.length) (hi : i < k) (c1 : (gB l i).f0 = 6) (c2 : (uptoP l w i).flat < 0) (hd : (decOf (l.take k) i (w - (uptoP l w i).col)).1 = true) :
    { uptoP l w i with flat := (decOf (l.take k) i (w - (uptoP l w i).col)).2 } = uptoP l w (i + 1) := by
  obtain ⟨m, hm⟩ := h.group (show i < l.length by omega) c1
  rw [decOf_eq h hm hi hk] at hd ⊢
  by_cases u : undB l k i m (w - (uptoP l w i).col)
  · rw [if_pos u] at hd; cases hd
  · rw [if_neg u, uptoP_succ, hm.mt]
    unfold fitP stepP
    have hl := h.len
    rw [hm.need hs (by omega), if_pos c1]
    have okf := (okP h w i (by omega)).flat
    dsimp only
    generalize uptoP l w i = p at c2 okf ⊢
    by_cases g : 0 ≤ needV l i m ∧ needV l i m ≤ w - p.col
    · rw [if_pos g, if_pos ⟨c2, decide_eq_true ⟨g.1, by omega⟩⟩]
    · rw [if_neg g, if_neg (fun hh => g (by have := of_decide_eq_true hh.2; omega))]
      have : p.flat = -1 := okf.elim id fun ⟨_, _, e, _⟩ => by omega
      rw [← this]
theorem flowRun_succ (l : List S34) (w : Int) (k d i : Nat) (p : PgB) : flowRun l w k (d + 1) i p =
    if (gB l i).f0 = 6 ∧ p.flat < 0 then
      (if (decOf (l.take k) i (w - p.col)).1 = false then (p, (k : Int) - i) else flowRun l w k d (i + 1) { p with flat := (decOf (l.take k) i (w - p.col)).2 })
    else flowRun l w k d (i + 1) (stepP (gB l i) i false 0 p) := rfl
def flow_Flow.f (l0 : List S34) (a1 a2 : Int) : Option (ByteArray × Int × Bool) :=
  if l0.length ≤ 17592186044416 ∧ small33 l0 ∧ bulkB l0 l0.length ≤ 1099511627776 then
    some (if roomB l0 a1 = true ∧ 0 ≤ a2 ∧ a2 ≤ (l0.length : Int) then (⟨(flowOf l0 a1 a2.toNat).1.out.toArray⟩, (flowOf l0 a1 a2.toNat).2, true) else (⟨#[]⟩, 0, false))
  else none
theorem bulkB_le_q {l : List S34} (h : bulkB l l.length ≤ 1099511627776) {i : Nat} (hi : i < l.length) : bulkB l i + (gB l i).f1.size ≤ 1099511627776 := by
  have mono : ∀ d k, bulkB l k ≤ bulkB l (k + d) := by
    intro d
    induction d with
    | zero => intro k; exact Nat.le_refl _
    | succ d ih => intro k; have := ih k; rw [← Nat.add_assoc, bulkB]; omega
  have := mono (l.length - (i + 1)) (i + 1)
  rw [show i + 1 + (l.length - (i + 1)) = l.length by omega, bulkB] at this
  omega
def intF : Value → Int := fun v => match v with | .int _ n => n | _ => 0
set_option maxRecDepth 100000 in
set_option maxHeartbeats 4000000 in
theorem flow_Flow.calls (A0 : Option Addr) (c0 : Nat) (l0 : List S34) (a1 a2 : Int) (r1 : ByteArray) (r2 : Int) (r3 : Bool) (w : World) (hr0 : Kd.C k34 w A0 l0.length l0) (hc0 : l0.length ≤ c0) (h : flow_Flow.f l0 a1 a2 = some (r1, r2, r3)) :
    Calls Try.prog 11 #[.slice A0 l0.length c0, .int .i64 a1, .int .i64 a2] w fun e w' => e = .returned (.tuple #[.string r1, .int .i64 r2, .bool r3]) ∧ Below w.heap.size w w' := by
  unfold flow_Flow.f at h
  by_cases hs0 : l0.length ≤ 17592186044416 ∧ small33 l0 ∧ bulkB l0 l0.length ≤ 1099511627776
  rotate_left
  · rw [if_neg hs0] at h; exact absurd h (by simp)
  rw [if_pos hs0] at h
  obtain ⟨hll, hsm, hbk⟩ := hs0
  have HE := Aside0.mk (Option.some.inj h)
  clear h
  obtain ⟨B, hB_⟩ : ∃ B, w.heap.size = B := ⟨_, rfl⟩
  have hu31 := Try.underlying34
  have HR0 := Aside0.mk hr0
  have HSm := Aside0.mk hsm
  have HBk := Aside0.mk hbk
  obtain ⟨rm, hrm⟩ : ∃ rm, roomB l0 a1 = rm := ⟨_, rfl⟩
  have HRm := Aside0.mk hrm
  have HRf := Aside0.mk (show wide_Room.f l0 a1 = some rm by rw [room_q hll, hrm])
  clear hr0 hsm hbk hrm
  rw [hB_]
  cases rm with
  | false =>
    have hE := HE.out
    rw [if_neg (fun h => by have := HRm.out; rw [h.1] at this; cases this)] at hE
    have HE2 := Aside0.mk hE
    clear hE HE
    go_enter Try.func11, Try.ntmps11
    go_wp2_with fail
    apply wp_scope_straight
    go_wp2_with fail
    refine (wide_Room.calls A0 c0 l0 a1 false _ HR0.out hc0 HRf.out).mono ?_
    rintro e w1 ⟨rfl, hb1⟩
    rw [hB_] at hb1
    go_wp2_with fail
    rw [Exit.noGoto_ret]
    go_wp2_with fail
    go_ret3
    exact ⟨by rw [← (Prod.mk.inj HE2.out).1, ← (Prod.mk.inj (Prod.mk.inj HE2.out).2).1, ← (Prod.mk.inj (Prod.mk.inj HE2.out).2).2]; rfl, hb1⟩
  | true =>
    by_cases n1 : a2 < 0
    · have d1 : decide (a2 < 0) = true := decide_eq_true n1
      have hE := HE.out
      rw [if_neg (fun h => by omega)] at hE
      have HE2 := Aside0.mk hE
      clear hE HE
      go_enter Try.func11, Try.ntmps11
      go_wp2_with fail
      apply wp_scope_straight
      go_wp2_with fail
      refine (wide_Room.calls A0 c0 l0 a1 true _ HR0.out hc0 HRf.out).mono ?_
      rintro e w1 ⟨rfl, hb1⟩
      rw [hB_] at hb1
      go_wp2_with fail
      rw [Exit.noGoto_ret]
      go_wp2_with fail
      go_ret3
      exact ⟨by rw [← (Prod.mk.inj HE2.out).1, ← (Prod.mk.inj (Prod.mk.inj HE2.out).2).1, ← (Prod.mk.inj (Prod.mk.inj HE2.out).2).2]; rfl, hb1⟩
    have d1 : decide (a2 < 0) = false := decide_eq_false n1
    by_cases n2 : (l0.length : Int) < a2
    · have d2 : decide ((l0.length : Int) < a2) = true := decide_eq_true n2
      have hE := HE.out
      rw [if_neg (fun h => by omega)] at hE
      have HE2 := Aside0.mk hE
      clear hE HE
      go_enter Try.func11, Try.ntmps11
      go_wp2_with fail
      apply wp_scope_straight
      go_wp2_with fail
      refine (wide_Room.calls A0 c0 l0 a1 true _ HR0.out hc0 HRf.out).mono ?_
      rintro e w1 ⟨rfl, hb1⟩
      rw [hB_] at hb1
      go_wp2_with fail
      rw [Exit.noGoto_ret]
      go_wp2_with fail
      go_ret3
      exact ⟨by rw [← (Prod.mk.inj HE2.out).1, ← (Prod.mk.inj (Prod.mk.inj HE2.out).2).1, ← (Prod.mk.inj (Prod.mk.inj HE2.out).2).2]; rfl, hb1⟩
    have d2 : decide ((l0.length : Int) < a2) = false := decide_eq_false n2
    obtain ⟨K, rfl⟩ := Int.eq_ofNat_of_zero_le (show 0 ≤ a2 by omega)
    have hKl : K ≤ l0.length := by omega
    have hE := HE.out
    rw [if_pos (show roomB l0 a1 = true ∧ 0 ≤ (K : Int) ∧ (K : Int) ≤ (l0.length : Int) from ⟨HRm.out, by omega, by omega⟩), Int.toNat_natCast] at hE
    have HE1 := Aside0.mk (Prod.mk.inj hE).1
    have HE2 := Aside0.mk (Prod.mk.inj (Prod.mk.inj hE).2).1
    have HE3 := Aside0.mk (Prod.mk.inj (Prod.mk.inj hE).2).2
    obtain ⟨hm, hw0, hw1⟩ := roomB_true.1 HRm.out
    have HM := Aside0.mk hm
    have hlen := hm.len
    obtain ⟨i0, hi0, hsz⟩ := Option.map_eq_some_iff.1 (show (Try.prog.info? 34).map (·.size) = some 2 by kernel_rfl)
    have hcut := cut_to (P := Try.prog) 22 34 .i64 Try.underlying22 hi0 A0 l0.length c0 (K : Int) (by omega) (by omega) hc0
    rw [Int.toNat_natCast] at hcut
    have HT := Aside0.mk (Kd.C_take (m := K) HR0.out hKl)
    have hlt_ : (l0.take K).length = K := by rw [List.length_take]; omega
    have HLt := Aside0.mk hlt_
    have d3 : decide (l0.length < K) = false := decide_eq_false (by omega)
    clear hE HE hm hi0 hlt_
    go_enter Try.func11, Try.ntmps11
    go_wp2_with fail
    apply wp_scope_straight
    go_wp2_with fail
    refine (wide_Room.calls A0 c0 l0 a1 true _ HR0.out hc0 HRf.out).mono ?_
    rintro e w1 ⟨rfl, hb1⟩
    rw [hB_] at hb1
    have hs1 := hb1.size
    rw [hB_] at hs1
    go_wp2_with fail
    obtain ⟨P, hP⟩ : ∃ P, w1.heap.size = P := ⟨_, rfl⟩
    have hx1 := World.alloc_heap_new w1 (.cells #[.pointer none, .slice none 0 0, .int .i64 0, .int .i64 0, .int .i64 0, .int .i64 (-1)] 45)
    rw [hP] at hx1 ⊢
    have HP0 := Aside0.mk (show PgA B P (uptoP l0 a1 0) (w1.alloc (.cells #[.pointer none, .slice none 0 0, .int .i64 0, .int .i64 0, .int .i64 0, .int .i64 (-1)] 45)) from
      ⟨.pointer none, .slice none 0 0, .inl rfl, by omega, hx1, World.ownsRowF_of (World.ownsRow_nil _ _ _ _), by simp [Value.ownBlock]⟩)
    have HB0 := Aside0.mk (hb1.alloc hs1 (.cells #[.pointer none, .slice none 0 0, .int .i64 0, .int .i64 0, .int .i64 0, .int .i64 (-1)] 45))
    have HBP := Aside0.mk (show B ≤ P by omega)
    clear hx1 hb1 hs1 hP
    apply wp_label
    go_wp2_with fail
    go_loopw [11, 37] (fun hv iv wr => ∃ i : Nat, i ≤ K ∧ hv = .int .i64 0 ∧ iv = .int .i64 (i : Int) ∧ flowRun l0 a1 K (K - i) i (uptoP l0 a1 i) = flowOf l0 a1 K ∧ PgA B P (uptoP l0 a1 i) wr ∧ Below B w wr) (fun hv iv _ => K - (intF iv).toNat)
    case atStart => exact ⟨0, Nat.zero_le _, rfl, rfl, rfl, HP0.out, HB0.out⟩
    case round =>
      clear HP0 HB0
      obtain ⟨i, hi, rfl, rfl, hrun, hpg, hbel⟩ := hrel
      have HBl := Aside0.mk hbel
      by_cases hlt : i < K
      rotate_left
      · have e : K - i = 0 := by omega
        rw [e] at hrun
        have HRun := Aside0.mk hrun
        have HPg := Aside0.mk hpg
        have a1_ : decide ((i : Int) < (K : Int)) = false := decide_eq_false (by omega)
        have a2_ : decide (i < K) = false := decide_eq_false (by omega)
        clear hpg hbel hrun e
        go_wp2_with fail
        refine (string_calls HPg.out (by have := HBl.out.size; rw [hB_] at this; exact this)).mono ?_
        rintro e w9 ⟨rfl, hb9⟩
        go_wp2_with fail
        rw [Exit.noGoto_ret]
        go_wp2_with fail
        go_ret3
        have hr := HRun.out
        unfold flowRun at hr
        exact ⟨by rw [← HE1.out, ← HE2.out, ← HE3.out, ← hr]; rfl, HBl.out.trans hb9⟩
      · obtain ⟨ad, hA, hx0, hx1⟩ := at_T34 HT.out (i : Int) (by omega) (by rw [HLt.out]; omega)
        have hb0 : (ad.add ((i : Int).toNat * 2)).block < B := by have := World.block_lt_of_cell? w _ hx0; rw [hB_] at this; exact this
        have hy0 := (hbel.cell hb0).trans hx0
        have hy1 := (hbel.cell (p := ⟨(ad.add ((i : Int).toNat * 2)).block, (ad.add ((i : Int).toNat * 2)).off + 1, none⟩) hb0).trans hx1
        rw [Int.toNat_natCast] at hy0 hy1
        rw [rd_gB, gB_take hlt] at hy0 hy1
        subst hA
        have a1_ : decide ((i : Int) < (K : Int)) = true := decide_eq_true (by omega)
        have a2_ : decide (i < K) = true := decide_eq_true hlt
        have hOk := okP HM.out a1 i (by omega)
        have hStep := flow_stepN (l := l0) a1 (i := i)
        have hStepD := fun c1 c2 hd => flow_stepD HM.out HSm.out a1 hKl hlt c1 c2 hd
        rw [show K - i = (K - (i + 1)) + 1 by omega, flowRun_succ] at hrun
        obtain ⟨q, v, hq, hps⟩ := hpg
        have hbit := HM.out.bit i (by omega)
        have hsz : (gB l0 i).f1.size ≤ 140737488355328 := HSm.out _ (gB_mem (by omega))
        have hbk1 := bulkB_le_q HBk.out (show i < l0.length by omega)
        have hin2 := indB_le l0 i
        have hin3 := HM.out.ind i (by omega)
        obtain ⟨p, hp⟩ : ∃ p, uptoP l0 a1 i = p := ⟨_, rfl⟩
        rw [hp] at hps hOk hStep hStepD hrun
        have HPs := Aside0.mk hps
        have HQ := Aside0.mk hq
        have HOk := Aside0.mk hOk
        have HSt := Aside0.mk hStep
        have HSd := Aside0.mk hStepD
        have HRun := Aside0.mk hrun
        have hlP := hps.lt
        clear hps hq hOk hStep hStepD hrun hp hx0 hx1
        obtain ⟨u, hu⟩ : ∃ u, (gB l0 i).f0 = u := ⟨_, rfl⟩
        obtain ⟨t, ht⟩ : ∃ t, (gB l0 i).f1 = t := ⟨_, rfl⟩
        have HU := Aside0.mk (And.intro hu ht)
        rw [hu] at hy0 hbit
        rw [ht] at hy1 hsz hbk1 hbit
        clear hu ht
        have hbA : Below wr.heap.size wr (wr.alloc (.cells #[.int .i64 u, .string t] 34)) := (Below.refl _ wr).alloc (Nat.le_refl _) _
        have HP2 := Aside0.mk (HPs.out.below hbA)
        have hBr : B ≤ wr.heap.size := by have := HBP.out; omega
        have HB2 := Aside0.mk (HBl.out.trans (hbA.mono hBr))
        have c3 := HP2.out.c3
        have c5 := HP2.out.c5
        have f5 := HP2.out.fz 5
        have hcb : 0 ≤ p.col ∧ p.col ≤ 2199023255552 := by
          have h1 := HOk.out.col0; have h2 := HOk.out.col1
          omega
        have hz2 : (wr.alloc (.cells #[.int .i64 u, .string t] 34)).heap.size = wr.heap.size + 1 := World.size_alloc _ _
        clear hbA hbel
        by_cases u6 : u = 6
        · subst u6
          by_cases n1 : p.flat < 0
          · have d1 : decide (p.flat < 0) = true := decide_eq_true n1
            obtain ⟨db, en, hdec⟩ : ∃ db en, decOf (l0.take K) i (a1 - p.col) = (db, en) := ⟨_, _, rfl⟩
            have hr := HRun.out
            rw [if_pos ⟨HU.out.1, n1⟩, hdec] at hr
            have hd2 := HSd.out HU.out.1 n1
            rw [hdec] at hd2
            have hcalls := fun W (hW : Below w.heap.size w W) => dec_calls (some ad) c0 (l0.take K) i (a1 - p.col) W (Kd.C_below HT.out hW) (by rw [HLt.out]; omega) (by rw [HLt.out]; omega) (by rw [HLt.out]; omega) (fun x hx => HSm.out x (List.mem_of_mem_take hx)) (by omega)
            rw [HLt.out, hdec] at hcalls
            have HCa := Aside0.mk hcalls
            have HRd := Aside0.mk hr
            have HSD := Aside0.mk hd2
            clear hcalls hr hd2 hdec HRun HSt HSd
            go_wp2_with fail
            refine (HCa.out _ (by rw [hB_]; exact HB2.out)).mono ?_
            rintro e w3 ⟨rfl, hb3⟩
            have HP3 := Aside0.mk (HP2.out.below hb3)
            have HB3 := Aside0.mk (HB2.out.trans (hb3.mono (by rw [hz2]; omega)))
            have hB3 : B ≤ w3.heap.size := by have := hb3.size; rw [hz2] at this; omega
            have c3 := HP3.out.c3
            have c5 := HP3.out.c5
            have f5 := HP3.out.fz 5
            clear hb3
            cases db with
            | false =>
              have hr := HRd.out
              rw [if_pos rfl] at hr
              have HRun := Aside0.mk hr
              clear hr HRd HSD
              go_wp2_with fail
              refine (string_calls ⟨q, v, HQ.out, HP3.out⟩ hB3).mono ?_
              rintro e w9 ⟨rfl, hb9⟩
              go_wp2_with fail
              rw [Exit.noGoto_ret]
              go_wp2_with fail
              go_ret3
              exact ⟨by rw [← HE1.out, ← HE2.out, ← HE3.out, ← HRun.out]; rfl, HB3.out.trans hb9⟩
            | true =>
              have hr := HRd.out
              rw [if_neg (fun h => by cases h)] at hr
              have HS3 := Aside0.mk (HSD.out rfl)
              rw [HS3.out] at hr
              have HR2 := Aside0.mk hr
              clear hr HRd HSD
              go_wp2_with fail
              have HPn := HP3.out.setFlat en
              rw [HS3.out] at HPn
              exact ⟨⟨i + 1, by omega, rfl, by rw [Int.natCast_add]; rfl, HR2.out, ⟨q, v, HQ.out, HPn⟩, HB3.out.setCell (p := ⟨P, 5, none⟩) HBP.out _⟩, by simp only [intF]; omega⟩
          · have d1 : decide (p.flat < 0) = false := decide_eq_false n1
            have hn : ¬ ((gB l0 i).f0 = 6 ∧ p.flat < 0) := fun h => n1 h.2
            have hs2 := HSt.out hn
            have hr := HRun.out
            rw [if_neg hn, hs2] at hr
            have HR2 := Aside0.mk hr
            rw [show gB l0 i = ⟨6, t⟩ by rw [← HU.out.1, ← HU.out.2]] at hs2
            unfold stepP at hs2
            rw [if_pos rfl, if_neg (fun h => n1 h.1)] at hs2
            have HS2 := Aside0.mk hs2
            clear hs2 hr hn HRun HSt HSd
            go_wp2_with fail
            exact ⟨⟨i + 1, by omega, rfl, by rw [Int.natCast_add]; rfl, HR2.out, ⟨q, v, HQ.out, by rw [← HS2.out]; exact HP2.out⟩, HB2.out⟩, by simp only [intF]; omega⟩
        have u6b : (u == 6) = false := beq_eq_false_iff_ne.2 u6
        have hn : ¬ ((gB l0 i).f0 = 6 ∧ p.flat < 0) := fun h => u6 (HU.out.1.symm.trans h.1)
        have hs2 := HSt.out hn
        have hr := HRun.out
        rw [if_neg hn, hs2] at hr
        have HR2 := Aside0.mk hr
        rw [show gB l0 i = ⟨u, t⟩ by rw [← HU.out.1, ← HU.out.2]] at hs2
        by_cases u7 : u = 7
        · subst u7
          unfold stepP at hs2
          dsimp only at hs2
          rw [if_neg (show ¬ (7 : Int) = 6 by decide), if_pos rfl] at hs2
          by_cases n1 : p.flat = (i : Int)
          · have d1 : ((i : Int) == p.flat) = true := by rw [n1]; exact beq_self_eq_true _
            rw [if_pos n1] at hs2
            have HS2 := Aside0.mk hs2
            clear hs2 hr hn HRun HSt HSd n1
            go_wp2_with fail
            exact ⟨⟨i + 1, by omega, rfl, by rw [Int.natCast_add]; rfl, HR2.out, ⟨q, v, HQ.out, by rw [← HS2.out]; exact (HPs.out.setFlat _).below ((Below.refl _ _).alloc (Nat.le_refl _) _)⟩, (HBl.out.setCell (p := ⟨P, 5, none⟩) HBP.out _).alloc (by rw [World.size_setCell]; exact hBr) _⟩, by simp only [intF]; omega⟩
          · have d1 : ((i : Int) == p.flat) = false := beq_eq_false_iff_ne.2 (Ne.symm n1)
            rw [if_neg n1] at hs2
            have HS2 := Aside0.mk hs2
            clear hs2 hr hn HRun HSt HSd n1
            go_wp2_with fail
            exact ⟨⟨i + 1, by omega, rfl, by rw [Int.natCast_add]; rfl, HR2.out, ⟨q, v, HQ.out, by rw [← HS2.out]; exact HP2.out⟩, HB2.out⟩, by simp only [intF]; omega⟩
        have u7b : (u == 7) = false := beq_eq_false_iff_ne.2 u7
        have u6c : (u != 6) = true := bne_iff_ne.2 u6
        have u7c : (u != 7) = true := bne_iff_ne.2 u7
        have HS2 := Aside0.mk hs2
        clear hs2 hr hn HRun HSt HSd
        go_wp2_with fail
        refine (pprint_calls (B := B) u t (i : Int) false 0 hbit.1 hbit.2.1 u6 u7 ⟨q, v, HQ.out, HP2.out⟩ ?_ HOk.out.due0 ?_ hcb.1 (by omega) ?_ (by rw [hz2]; omega)).mono ?_
        · have h1 := HOk.out.ind
          omega
        · have h1 := HOk.out.due1
          omega
        · have h1 := HOk.out.out
          have h2 := HOk.out.due1
          have h3 : (2 * i + 2) * i ≤ 8002 * 4000 := Nat.mul_le_mul (by omega) (by omega)
          omega
        rintro e w3 ⟨rfl, hp3, hb3, ho3⟩
        rw [HS2.out] at hp3
        have HP3 := Aside0.mk hp3
        have HB3 := Aside0.mk (HB2.out.trans hb3)
        clear hp3 hb3 ho3
        go_wp2_with fail
        exact ⟨⟨i + 1, by omega, rfl, by rw [Int.natCast_add]; rfl, HR2.out, HP3.out, HB3.out⟩, by simp only [intF]; omega⟩
end Go.Proofs.Ytkhlfdoeploddaa.PFlow
