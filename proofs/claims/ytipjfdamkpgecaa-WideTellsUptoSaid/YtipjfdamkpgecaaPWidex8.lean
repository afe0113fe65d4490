-- Written by a program of the session (drive.py, over the kit's print.py with contracts by hand). Not trusted: Lean checks it.
import Derived.Test.YtipjfdamkpgecaaPWidex0
namespace Go.Proofs.Ytipjfdamkpgecaa.PWide
open Go.RowKit Go.Proofs.YtipjfdamkpgecaaW.PrintWords Go.Proofs.YtipjfdamkpgecaaW.PrintLast Go.Proofs.YtipjfdamkpgecaaW.PrintMore
attribute [local go_sem] max2_int min2_int max_two min_two max_three min_three max_four min_four   -- for this text's walks alone
set_option linter.unusedVariables false
set_option linter.unusedSimpArgs false

/-! ### wide_matches: function 26 -/
def wide_matches.l0 : Nat→List Int→List Int→List (S31)→Int→Int→Option (List Int)
 | 0,_,_,_,_,_=>none
 | k+1,x3,x4,x10,x11,x12=>if x12 < x11 then (if 0≤x12 then (if x12 < (x10.length : Int) then (if ((rd_T31 x10 x12).f0)=6 then (if x4.length < 17592186044416 then (wide_matches.l0 k x3 (x4++[x12]) x10 x11 (wrap64 (x12+1))) else (none)) else (if ((rd_T31 x10 x12).f0)=7 then (if 0≤(wrap64 ((x4.length : Int) - 1)) then (if (wrap64 ((x4.length : Int) - 1)) < (x4.length : Int) then (if 0≤(rd x4 (wrap64 ((x4.length : Int) - 1))) then (if (rd x4 (wrap64 ((x4.length : Int) - 1))) < (x3.length : Int) then (if (wrap64 ((x4.length : Int) - 1))≤(x4.length : Int) then (wide_matches.l0 k (x3.set ((rd x4 (wrap64 ((x4.length : Int) - 1))) : Int).toNat x12) (x4.take ((wrap64 ((x4.length : Int) - 1)) : Int).toNat) x10 x11 (wrap64 (x12+1))) else (none)) else (none)) else (none)) else (none)) else (none)) else (wide_matches.l0 k x3 x4 x10 x11 (wrap64 (x12+1))))) else (none)) else (none)) else (some x3)
def wide_matches.f (k : Nat) (l0 : List (S31)) : Option (List Int):=if 0≤(l0.length : Int) then (if ((l0.length : Int) : Int).toNat≤35184372088832 then (wide_matches.l0 k (List.replicate ((l0.length : Int) : Int).toNat 0) ([] : List Int) l0 (l0.length : Int) 0) else (none)) else (none)
theorem wide_matches.mono_l : ∀ k,(∀ y0 y1 y2 y3 y4,LeO (wide_matches.l0 k y0 y1 y2 y3 y4) (wide_matches.l0 (k+1) y0 y1 y2 y3 y4))
 | 0=>fun _ _ _ _ _ r h=>by simp [wide_matches.l0] at h
 | k+1=>by
  have ih0:=wide_matches.mono_l k
  ·intro y0 y1 y2 y3 y4
   unfold wide_matches.l0
   repeat' first
   | (with_reducible exact ih0 _ _ _ _ _)
   | (with_reducible exact LeO.refl _)
   | (with_reducible exact LeO.none _)
   | (with_reducible refine LeO.ite ?_ ?_)
   | (with_reducible refine LeO.bind ?_ (fun _=>?_))
   | exact ih0 _ _ _ _ _
   | exact LeO.none _
   | refine LeO.ite ?_ ?_
   | refine LeO.bind ?_ (fun _=>?_)
theorem wide_matches.mono : ∀ a0 k,LeO (wide_matches.f k a0) (wide_matches.f (k+1) a0):=by
 intro a0 k
 have ih0:=wide_matches.mono_l k
 unfold wide_matches.f
 repeat' first
   | (with_reducible exact ih0 _ _ _ _ _)
   | (with_reducible exact LeO.refl _)
   | (with_reducible exact LeO.none _)
   | (with_reducible refine LeO.ite ?_ ?_)
   | (with_reducible refine LeO.bind ?_ (fun _=>?_))
   | exact ih0 _ _ _ _ _
   | exact LeO.none _
   | refine LeO.ite ?_ ?_
   | refine LeO.bind ?_ (fun _=>?_)
set_option maxHeartbeats 8000000 in
set_option maxRecDepth 100000 in
theorem wide_matches.calls (k : Nat) (A0 : Option Addr) (c0 : Nat) (l0 : List (S31)) (r : List Int) (w : World) (hr0 : Kd.C k31 w A0 l0.length l0) (hc0 : l0.length≤c0) (h : wide_matches.f k l0=some r) :
  Calls Try.prog 26 #[.slice A0 l0.length c0] w fun e w'=>∃ v0_ : Value,e=.returned (v0_)∧Kd.R (Kd.int .i64) 3 w' w.heap.size (fun _=>True) v0_ r∧Below w.heap.size w w':=by
 have hu31:=Try.underlying31
 have HR0:=qM hr0
 have HC0:=qM hc0
 clear hr0 hc0
 have HB:=qM (Below.refl w.heap.size w)
 have H : (if 0≤(l0.length : Int) then (if ((l0.length : Int) : Int).toNat≤35184372088832 then (wide_matches.l0 k (List.replicate ((l0.length : Int) : Int).toNat 0) ([] : List Int) l0 (l0.length : Int) 0) else (none)) else (none))=some r:=h
 clear h
 by_cases c2 : 0≤(l0.length : Int)
 ·rw [if_pos c2] at H
  have c2b0:=eq_true c2
  have c2b1 : decide (0≤(l0.length : Int))=true:=decide_eq_true c2
  clear c2
  by_cases c3 : ((l0.length : Int) : Int).toNat≤35184372088832
  ·rw [if_pos c3] at H
   have c3b0:=eq_true c3
   have c3b1 : decide (((l0.length : Int) : Int).toNat≤35184372088832)=true:=decide_eq_true c3
   clear c3
   obtain ⟨y141,hy141⟩ : ∃ y_ : List Int,y_=(List.replicate ((l0.length : Int) : Int).toNat 0):=⟨_,rfl⟩
   replace H : (wide_matches.l0 k y141 ([] : List Int) l0 (l0.length : Int) 0)=some r:=by first|(rw [hy141];with_reducible exact H)|(have H2_:=(Option.bind_some _ _).symm.trans H;rw [hy141];with_reducible exact H2_)|(have H2_:=(Option.bind_some _ _).symm.trans H;with_reducible exact H2_)|with_reducible exact H|(rw [hy141];exact H)|exact H
   have Ny141:=qM hy141
   clear hy141
   have H':=qM H
   clear H
   go_enter Try.func26,Try.ntmps26
   go_wp2_with (first|((with_reducible refine gate_dst (N:=9) rfl ?_);refine Kd.R_make (Kd.int .i64) _ 3 rfl (N:=9) rfl 35 _ _ rfl (l0.length : Int) rfl rfl Try.underlying35 (.int .i64 0) 8 info3 rfl (by decide) (by omega) 0 (ok:=fun _=>True) (okp:=fun _=>True) rfl (fun _ hk=>hk) trivial (qN (by assumption)) (Nat.le_trans (Nat.mul_le_mul_right _ (qN (by assumption) : (l0.length : Int).toNat≤35184372088832)) (by omega)) (Below.refl _ _) (Nat.le_refl _) ?_;intro v142 w4 ho5 hb hg_ hnew_;clear hg_ hnew_;(first|rw [← Ny141.out] at ho5|(simp only [Int.reduceToNat] at ho5;rw [← Ny141.out] at ho5));have n0_:=qM (Kd.R_lower ho5 (below_size (by repeat first|exact HB.out|apply qJ|apply qK|apply qL)));have n1_:=qM (below_step (by repeat first|exact HB.out|apply qJ|apply qK|apply qL) hb);clear HB;have HO143:=n0_;have HB:=n1_;clear n0_ n1_;clear hb ho5))
   go_loopg [4,12] k (fun kq v4 v12 w'=>∃ (x3_1 : List Int) (x4_1 : List Int) (x12_1 : Int),v12=.int .i64 x12_1∧Aside0 (wide_matches.l0 kq x3_1 x4_1 l0 (l0.length : Int) x12_1=some r)∧Aside0 (kq≤k)∧Aside0 (Kd.R (Kd.int .i64) 3 w' w.heap.size (fun k_=>some k_ ≠ (v4 : Value).ownBlock) v142 x3_1)∧Aside0 (Kd.R (Kd.int .i64) 3 w' w.heap.size (fun k_=>some k_ ≠ (v142 : Value).ownBlock) v4 x4_1)∧Aside0 (Below w.heap.size w w'))
   case atStart=>exact ⟨(y141),(([] : List Int)),(0),(by first|rfl|(simp;done)|(simp [*];done)),H',⟨Nat.le_refl _⟩,⟨by (with_reducible repeat (first|apply qG|apply qH|apply qI));exact Kd.R_mono HO143.out (fun _ hk=>(by simp [Value.ownBlock]))⟩,⟨by first|exact Kd.R_nil _ _ _ _ _|exact Kd.N_nil _ _ _ _ _|exact Kd.V_nil _ _ _ _ _|exact Kd.Q_nil _ _ _ _ _|exact Kd.S_nil _ _ _ _ _⟩,⟨by repeat (first|(with_reducible first|exact HB.out|apply qJ|apply qK|apply qL)|exact HB.out)⟩⟩
   case round =>
    clear H'
    try clear c2
    try clear c2b0
    try clear c2b1
    try clear p2
    try clear c3
    try clear c3b0
    try clear c3b1
    obtain ⟨x3_1,x4_1,x12_1,rfl,HA,HK1,HO_3,HO_4,HB⟩:=hrel
    cases gk with
    | zero=>exact absurd HA.out (by simp [wide_matches.l0])
    | succ k1 =>
     have H:=HA.out
     clear HA
     simp only [wide_matches.l0] at H
     by_cases c6 : x12_1 < (l0.length : Int)
     ·rw [if_pos c6] at H
      have c6b0 : decide (x12_1 < (l0.length : Int))=true:=decide_eq_true c6
      clear c6
      by_cases c7 : 0≤x12_1
      ·rw [if_pos c7] at H
       have c7b0 : decide (0≤x12_1)=true:=decide_eq_true c7
       clear c7
       by_cases c8 : x12_1 < (l0.length : Int)
       ·rw [if_pos c8] at H
        have c8b0 : decide (x12_1 < (l0.length : Int))=true:=decide_eq_true c8
        clear c8
        by_cases c9 : ((rd_T31 l0 x12_1).f0)=6
        ·rw [if_pos c9] at H
         have c9b0 : (((rd_T31 l0 x12_1).f0) == 6)=true:=beq_iff_eq.mpr c9
         have c9b1 : (((rd_T31 l0 x12_1).f0) != 6)=false:=bne_eq_false_iff_eq.mpr c9
         clear c9
         by_cases c10 : x4_1.length < 17592186044416
         ·rw [if_pos c10] at H
          have LMc10:=qM c10
          clear c10
          obtain ⟨y146,hy146⟩ : ∃ y_ : List Int,y_=(x4_1++[x12_1]):=⟨_,rfl⟩
          replace H : (wide_matches.l0 k1 x3_1 y146 l0 (l0.length : Int) (wrap64 (x12_1+1)))=some r:=by first|(rw [hy146];with_reducible exact H)|(have H2_:=(Option.bind_some _ _).symm.trans H;rw [hy146];with_reducible exact H2_)|(have H2_:=(Option.bind_some _ _).symm.trans H;with_reducible exact H2_)|with_reducible exact H|(rw [hy146];exact H)|exact H
          have Ny146:=qM hy146
          clear hy146
          have H':=qM H
          clear H
          have p144 : 0≤(x12_1 : Int):=qN (by assumption)
          have q144 : x12_1 < (l0.length : Int):=qN (by assumption)
          obtain ⟨ad144,e144,hx144_0,hx144_1⟩:=at_T31 HR0.out x12_1 p144 q144
          cases e144
          replace hx144_0:=(HB.out.cell (World.block_lt_of_cell? w _ hx144_0)).trans hx144_0
          replace hx144_1:=(HB.out.cell (World.block_lt_of_cell? w _ hx144_1)).trans hx144_1
          replace p144:=eq_true p144
          replace q144:=eq_true q144
          go_wp2_with (first|((with_reducible refine gate_dst (N:=6) rfl ?_);refine box_event ?hg (N:=6) ?hd (cs:=#[.int .i64 0,.string (⟨#[]⟩ : ByteArray)]) (t:=31) ?hr ?_;(case hd=>rfl);(case hg=>rfl);(case hr=>first|(go_simp;done)|(go_simp;rfl));intro gb145 hg w11 hbox hb;have n0_:=qM (Kd.R_below (by (with_reducible repeat (first|apply qG|apply qH|apply qI));exact HO_3.out) hb);have n1_:=qM (Kd.R_below (by (with_reducible repeat (first|apply qG|apply qH|apply qI));exact HO_4.out) hb);have n2_:=qM (below_step (by repeat first|exact HB.out|apply qJ|apply qK|apply qL) hb);have n3_:=qM (hbox);have n4_:=qM ((by rw [hg];exact (below_size (by repeat first|exact HB.out|apply qJ|apply qK|apply qL)) : w.heap.size≤gb145));have n5_:=qM ((by rw [hg];exact (below_size (by repeat first|exact HB.out|apply qJ|apply qK|apply qL)) : w.heap.size≤gb145));clear HO_3;clear HO_4;clear HB;have HO_3:=n0_;have HO_4:=n1_;have HB:=n2_;have BK145:=n3_;have GW145:=n4_;have GE145:=n5_;clear n0_ n1_ n2_ n3_ n4_ n5_;clear hb hbox hg;have hcz12_0 : w11.cell? ⟨gb145,0,none⟩=some (.int .i64 0):=(blk_cell BK145.out 0).trans rfl;have hcz12_1 : w11.cell? ⟨gb145,1,none⟩=some (.string (⟨#[]⟩ : ByteArray)):=(blk_cell BK145.out 1).trans rfl;have hfz12_0:=blk_frozen BK145.out 0;have hfz12_1:=blk_frozen BK145.out 1)|((with_reducible refine gate_builtin (b:=.append) (xs:=#[.tmp 21,.tmp 23]) rfl ?_);at_builtin;refine Kd.R_append (Kd.int .i64) (w0:=w) w.heap.size rfl (.tmp 21) (.tmp 23) 35 3 (.int .i64 0) 8 rfl Try.underlying35 info3 rfl (by decide) (by omega) u4 x4_1 x12_1 [.int .i64 x12_1] (fun k_=>some k_ ≠ (v142 : Value).ownBlock) (fun _=>False) rfl (by first|(go_simp;done)|(go_simp;rfl)) ?aP (fun _ hk=>hk.elim) ?aF ?aO ?aB ?aS ?aL ?_;(case aP=>exact rfl);(case aB=>exact (by repeat first|exact HB.out|apply qJ|apply qK|apply qL|refine qR ?_ GE145.out));(case aF=>exact (fun k_ hk=>Kd.fresh' (Kd.R_lt (by (with_reducible repeat (first|apply qG|apply qH|apply qI));exact (Kd.R_mono (Kd.R_far (p:=⟨gb145,1,none⟩) (Kd.R_far (p:=⟨gb145,0,none⟩) (Kd.R_types HO_3.out BK145.out (by decide)) (fun _ hk=>hk.2) (.int .i64 ((rd_T31 l0 x12_1).f0))) (fun _ hk=>hk.2) (.string ((rd_T31 l0 x12_1).f1))) (fun _ h_=>h_.1)))) k_ hk));(case aO=>exact (by (with_reducible repeat (first|apply qG|apply qH|apply qI));exact Kd.R_mono (Kd.R_far (p:=⟨gb145,1,none⟩) (Kd.R_far (p:=⟨gb145,0,none⟩) (Kd.R_types HO_4.out BK145.out (by decide)) (fun _ hk=>hk.2) (.int .i64 ((rd_T31 l0 x12_1).f0))) (fun _ hk=>hk.2) (.string ((rd_T31 l0 x12_1).f1))) (fun _ hk=>hk.1)));(case aS=>exact (below_size (by repeat first|exact HB.out|apply qJ|apply qK|apply qL|refine qR ?_ GE145.out)));(case aL=>have:=LMc10.out;omega);intro v147 w13 ho hb hg hat;rw [← Ny146.out] at ho;have n0_:=qM (Kd.R_after (ok:=(fun _=>True)) (by (with_reducible repeat (first|apply qG|apply qH|apply qI));exact Kd.R_mono (Kd.R_far (p:=⟨gb145,1,none⟩) (Kd.R_far (p:=⟨gb145,0,none⟩) (Kd.R_types HO_3.out BK145.out (by decide)) (fun _ hk=>hk.2) (.int .i64 ((rd_T31 l0 x12_1).f0))) (fun _ hk=>hk.2) (.string ((rd_T31 l0 x12_1).f1))) (fun _ hk=>⟨trivial,hk.1⟩)) hg hat);have n1_:=qM (blk_grown (g:=gb145) (o:=.cells #[.int .i64 ((rd_T31 l0 x12_1).f0),.string ((rd_T31 l0 x12_1).f1)] 31 (0,0)) (by (with_reducible repeat (first|apply qD|apply qE|apply qF));refine blk_put (cs:=#[.int .i64 ((rd_T31 l0 x12_1).f0),.string (⟨#[]⟩ : ByteArray)]) ?_ 1 _ rfl;(with_reducible repeat (first|apply qD|apply qE|apply qF));refine blk_put (cs:=#[.int .i64 0,.string (⟨#[]⟩ : ByteArray)]) ?_ 0 _ rfl;(with_reducible repeat (first|apply qD|apply qE|apply qF));exact BK145.out) hg (Kd.R_ne HO_4.out BK145.out (by decide)));have n2_:=qM (hb);have n3_:=qM (ho);clear HO_3;clear BK145;clear HB;clear HO_4;have HO_3:=n0_;have BK145:=n1_;have HB:=n2_;have HO148:=n3_;clear n0_ n1_ n2_ n3_;clear ho hb hg hat))
          go_roundg k1
          case measure=>have:=HK1.out;omega
          case rel=>exact ⟨(x3_1),(y146),(wrap64 (x12_1+1)),(by first|rfl|(simp;done)|(simp [*];done)),H',⟨by have:=HK1.out;omega⟩,⟨by (with_reducible repeat (first|apply qG|apply qH|apply qI));exact Kd.R_mono HO_3.out (fun _ hk=>hk.2)⟩,⟨by (with_reducible repeat (first|apply qG|apply qH|apply qI));exact HO148.out⟩,⟨by repeat (first|(with_reducible first|exact HB.out|apply qJ|apply qK|apply qL|refine qR ?_ GE145.out)|exact HB.out)⟩⟩
         ·rw [if_neg c10] at H
          exact absurd H (by simp)
        ·rw [if_neg c9] at H
         have c9b0 : (((rd_T31 l0 x12_1).f0) == 6)=false:=beq_eq_false_iff_ne.mpr c9
         have c9b1 : (((rd_T31 l0 x12_1).f0) != 6)=true:=bne_iff_ne.mpr c9
         by_cases c14 : ((rd_T31 l0 x12_1).f0)=7
         ·rw [if_pos c14] at H
          have c14b0 : (((rd_T31 l0 x12_1).f0) == 7)=true:=beq_iff_eq.mpr c14
          have c14b1 : (((rd_T31 l0 x12_1).f0) != 7)=false:=bne_eq_false_iff_eq.mpr c14
          clear c14
          obtain ⟨ji15,hji15⟩ : ∃ j_ : Int,(wrap64 ((x4_1.length : Int) - 1))=j_:=⟨_,rfl⟩
          replace H : (if 0≤(ji15) then (if (ji15) < (x4_1.length : Int) then (if 0≤(rd x4_1 (ji15)) then (if (rd x4_1 (ji15)) < (x3_1.length : Int) then (if (ji15)≤(x4_1.length : Int) then (wide_matches.l0 k1 (x3_1.set ((rd x4_1 (ji15)) : Int).toNat x12_1) (x4_1.take ((ji15) : Int).toNat) l0 (l0.length : Int) (wrap64 (x12_1+1))) else (none)) else (none)) else (none)) else (none)) else (none))=some r:=by first|(rw [hji15] at H;exact H)|(simp only [hji15] at H ⊢;exact H)
          have hji15w : (IntKind.i64.wrap ((x4_1.length : Int) - 1))=ji15:=(i64_w _).trans hji15
          by_cases c16 : 0≤(ji15)
          ·rw [if_pos c16] at H
           have c16b0 : decide (0≤(ji15))=true:=decide_eq_true c16
           clear c16
           by_cases c17 : (ji15) < (x4_1.length : Int)
           ·rw [if_pos c17] at H
            have c17b0 : decide ((ji15) < (x4_1.length : Int))=true:=decide_eq_true c17
            clear c17
            by_cases c18 : 0≤(rd x4_1 (ji15))
            ·rw [if_pos c18] at H
             have c18b0 : decide (0≤(rd x4_1 (ji15)))=true:=decide_eq_true c18
             clear c18
             by_cases c19 : (rd x4_1 (ji15)) < (x3_1.length : Int)
             ·rw [if_pos c19] at H
              have c19b0 : decide ((rd x4_1 (ji15)) < (x3_1.length : Int))=true:=decide_eq_true c19
              clear c19
              obtain ⟨y150,hy150⟩ : ∃ y_ : List Int,y_=(x3_1.set ((rd x4_1 (ji15)) : Int).toNat x12_1):=⟨_,rfl⟩
              replace H : (if (ji15)≤(x4_1.length : Int) then (wide_matches.l0 k1 y150 (x4_1.take ((ji15) : Int).toNat) l0 (l0.length : Int) (wrap64 (x12_1+1))) else (none))=some r:=by first|(rw [hy150];with_reducible exact H)|(have H2_:=(Option.bind_some _ _).symm.trans H;rw [hy150];with_reducible exact H2_)|(have H2_:=(Option.bind_some _ _).symm.trans H;with_reducible exact H2_)|with_reducible exact H|(rw [hy150];exact H)|exact H
              have Ny150:=qM hy150
              clear hy150
              by_cases c21 : (ji15)≤(x4_1.length : Int)
              ·rw [if_pos c21] at H
               have c21b0:=eq_true c21
               have c21b1 : decide ((ji15)≤(x4_1.length : Int))=true:=decide_eq_true c21
               clear c21
               obtain ⟨y151,hy151⟩ : ∃ y_ : List Int,y_=(x4_1.take ((ji15) : Int).toNat):=⟨_,rfl⟩
               replace H : (wide_matches.l0 k1 y150 y151 l0 (l0.length : Int) (wrap64 (x12_1+1)))=some r:=by first|(rw [hy151];with_reducible exact H)|(have H2_:=(Option.bind_some _ _).symm.trans H;rw [hy151];with_reducible exact H2_)|(have H2_:=(Option.bind_some _ _).symm.trans H;with_reducible exact H2_)|with_reducible exact H|(rw [hy151];exact H)|exact H
               have Ny151:=qM hy151
               clear hy151
               have H':=qM H
               clear H
               have p144 : 0≤(x12_1 : Int):=qN (by assumption)
               have q144 : x12_1 < (l0.length : Int):=qN (by assumption)
               obtain ⟨ad144,e144,hx144_0,hx144_1⟩:=at_T31 HR0.out x12_1 p144 q144
               cases e144
               replace hx144_0:=(HB.out.cell (World.block_lt_of_cell? w _ hx144_0)).trans hx144_0
               replace hx144_1:=(HB.out.cell (World.block_lt_of_cell? w _ hx144_1)).trans hx144_1
               replace p144:=eq_true p144
               replace q144:=eq_true q144
               go_wp2_with (first|((with_reducible refine gate_dst (N:=6) rfl ?_);refine box_event ?hg (N:=6) ?hd (cs:=#[.int .i64 0,.string (⟨#[]⟩ : ByteArray)]) (t:=31) ?hr ?_;(case hd=>rfl);(case hg=>rfl);(case hr=>first|(go_simp;done)|(go_simp;rfl));intro gb145 hg w22 hbox hb;have n0_:=qM (Kd.R_below (by (with_reducible repeat (first|apply qG|apply qH|apply qI));exact HO_3.out) hb);have n1_:=qM (Kd.R_below (by (with_reducible repeat (first|apply qG|apply qH|apply qI));exact HO_4.out) hb);have n2_:=qM (below_step (by repeat first|exact HB.out|apply qJ|apply qK|apply qL) hb);have n3_:=qM (hbox);have n4_:=qM ((by rw [hg];exact (below_size (by repeat first|exact HB.out|apply qJ|apply qK|apply qL)) : w.heap.size≤gb145));have n5_:=qM ((by rw [hg];exact (below_size (by repeat first|exact HB.out|apply qJ|apply qK|apply qL)) : w.heap.size≤gb145));clear HO_3;clear HO_4;clear HB;have HO_3:=n0_;have HO_4:=n1_;have HB:=n2_;have BK145:=n3_;have GW145:=n4_;have GE145:=n5_;clear n0_ n1_ n2_ n3_ n4_ n5_;clear hb hbox hg;have hcz23_0 : w22.cell? ⟨gb145,0,none⟩=some (.int .i64 0):=(blk_cell BK145.out 0).trans rfl;have hcz23_1 : w22.cell? ⟨gb145,1,none⟩=some (.string (⟨#[]⟩ : ByteArray)):=(blk_cell BK145.out 1).trans rfl;have hfz23_0:=blk_frozen BK145.out 0;have hfz23_1:=blk_frozen BK145.out 1)|((with_reducible refine gate_store (t:=31) (p:=6) rfl ?_);refine store_event (t:=31) (p:=6) (v:=?vo_w24) (w1:=((w22.setCell ⟨gb145,0,none⟩ (.int .i64 ((rd_T31 l0 x12_1).f0))).setCell ⟨gb145,1,none⟩ (.string ((rd_T31 l0 x12_1).f1)))) ?hg ?ho ?hn ?hr ?_;(case ho=>rfl);(case hg=>rfl);(case hn=>rfl);(case hr=>first|(go_simp;done)|(go_simp;rfl));intro w24 hw;have n0_ : Aside0 (Kd.R (Kd.int .i64) 3 w24 w.heap.size (fun k_=>some k_ ≠ (u4 : Value).ownBlock) v142 x3_1):=⟨(by rw [hw];exact (by (with_reducible repeat (first|apply qG|apply qH|apply qI));exact Kd.R_mono (Kd.R_far (p:=⟨gb145,1,none⟩) (Kd.R_far (p:=⟨gb145,0,none⟩) (Kd.R_types HO_3.out BK145.out (by decide)) (fun _ hk=>hk.2) (.int .i64 ((rd_T31 l0 x12_1).f0))) (fun _ hk=>hk.2) (.string ((rd_T31 l0 x12_1).f1))) (fun _ hk=>hk.1)))⟩;have n1_ : Aside0 (Kd.R (Kd.int .i64) 3 w24 w.heap.size (fun k_=>some k_ ≠ (v142 : Value).ownBlock) u4 x4_1):=⟨(by rw [hw];exact (by (with_reducible repeat (first|apply qG|apply qH|apply qI));exact Kd.R_mono (Kd.R_far (p:=⟨gb145,1,none⟩) (Kd.R_far (p:=⟨gb145,0,none⟩) (Kd.R_types HO_4.out BK145.out (by decide)) (fun _ hk=>hk.2) (.int .i64 ((rd_T31 l0 x12_1).f0))) (fun _ hk=>hk.2) (.string ((rd_T31 l0 x12_1).f1))) (fun _ hk=>hk.1)))⟩;have n2_ : Aside0 (w24.heap[gb145]?=some (.cells #[.int .i64 ((rd_T31 l0 x12_1).f0),.string ((rd_T31 l0 x12_1).f1)] 31 (0,0))):=⟨(by rw [hw];exact (by (with_reducible repeat (first|apply qD|apply qE|apply qF));refine blk_put (cs:=#[.int .i64 ((rd_T31 l0 x12_1).f0),.string (⟨#[]⟩ : ByteArray)]) ?_ 1 _ rfl;(with_reducible repeat (first|apply qD|apply qE|apply qF));refine blk_put (cs:=#[.int .i64 0,.string (⟨#[]⟩ : ByteArray)]) ?_ 0 _ rfl;(with_reducible repeat (first|apply qD|apply qE|apply qF));exact BK145.out))⟩;have n3_ : Aside0 (Below w.heap.size w w24):=⟨(by rw [hw];exact (by repeat first|exact HB.out|apply qJ|apply qK|apply qL|refine qR ?_ GE145.out))⟩;clear hw;clear HO_3;clear HO_4;clear BK145;clear HB;have HO_3:=n0_;have HO_4:=n1_;have BK145:=n2_;have HB:=n3_;clear n0_ n1_ n2_ n3_;have hcz25_0 : w24.cell? ⟨gb145,0,none⟩=some (.int .i64 ((rd_T31 l0 x12_1).f0)):=(blk_cell BK145.out 0).trans rfl;have hcz25_1 : w24.cell? ⟨gb145,1,none⟩=some (.string ((rd_T31 l0 x12_1).f1)):=(blk_cell BK145.out 1).trans rfl;have hfz25_0:=blk_frozen BK145.out 0;have hfz25_1:=blk_frozen BK145.out 1;obtain ⟨Ao26,co26,eo26⟩:=Kd.R_slice HO_4.out;subst eo26;have p149 : 0≤((ji15) : Int):=qN (by assumption);have q149 : (ji15) < (x4_1.length : Int):=qN (by assumption);obtain ⟨ad149,e149,hx149_0⟩:=Kd.at_int (Kd.R_reads' HO_4.out).2.2 (ji15) p149 q149;cases e149;replace p149:=eq_true p149;replace q149:=eq_true q149;have p20 : 0≤((rd x4_1 (ji15)) : Int):=qN (by assumption);have q20 : ((rd x4_1 (ji15)) : Int) < ((x3_1.length : Int) : Int):=qN (by assumption);obtain ⟨go20,co20,eo20,gb20,gl20,cl20,HG20⟩:=Kd.R_form HO_3.out (by omega);(first|cases eo20|(injection eo20 with ea_ en_ ec_;(first|subst ea_|(injection ea_ with ea_;subst ea_));subst ec_;clear en_));have GB20:=qM gb20;have GG20:=qM HG20;clear gb20 gl20 HG20;obtain ⟨hx20_0,hf20_0⟩:=Kd.R_celln 0 HO_3.out ((rd x4_1 (ji15)) : Int) p20 q20;replace p20:=eq_true p20;replace q20:=eq_true q20;obtain ⟨hy27_,hz27_⟩:=Kd.R_celln 0 HO_3.out ((rd x4_1 (ji15)) : Int) (qN (by assumption)) (qN (by assumption));have HP27:=Kd.R_putg HO_3.out ((rd x4_1 (ji15)) : Int) x12_1)|((with_reducible refine gate_store (t:=3) (p:=35) rfl ?_);refine store_event (t:=3) (p:=35) (v:=?vo_w28) (w1:=(w24.setCell ⟨go20,((rd x4_1 (ji15)) : Int).toNat,none⟩ (.int .i64 x12_1))) ?hg ?ho ?hn ?hr ?_;(case ho=>rfl);(case hg=>rfl);(case hn=>rfl);(case hr=>first|(go_simp;done)|(go_simp;rfl));intro w28 hw;have hg : w24.grownBy w28 (some go20):=(by rw [hw];exact HP27.2);have hp_ : Kd.R (Kd.int .i64) 3 w28 w.heap.size (fun k_=>some k_ ≠ (.slice (some ad149) x4_1.length co26 : Value).ownBlock) (.slice (some ⟨go20,0,none⟩) x3_1.length co20) y150:=(by rw [hw,Ny150.out];exact HP27.1);clear HP27;have n0_:=qM (hp_);have n1_:=qM (Kd.R_after (v:=(.slice (some ⟨go20,0,none⟩) x3_1.length co20)) (v1:=(.slice (some ⟨go20,0,none⟩) x3_1.length co20)) (ok:=(fun _=>True)) (by (with_reducible repeat (first|apply qG|apply qH|apply qI));exact Kd.R_mono HO_4.out (fun _ hk=>⟨trivial,hk⟩)) hg (.inl rfl));have n2_:=qM (blk_grown (g:=gb145) (o:=.cells #[.int .i64 ((rd_T31 l0 x12_1).f0),.string ((rd_T31 l0 x12_1).f1)] 31 (0,0)) (by (with_reducible repeat (first|apply qD|apply qE|apply qF));exact BK145.out) hg (Kd.R_ne HO_3.out BK145.out (by decide)));have n3_:=qM ((by rw [hw];exact qR (HB.out) GB20.out : Below w.heap.size w w28));clear HO_3;clear HO_4;clear BK145;clear HB;have HO_3:=n0_;have HO_4:=n1_;have BK145:=n2_;have HB:=n3_;clear n0_ n1_ n2_ n3_;clear hg hw hp_;have q29 : ((ji15) : Int)≤((x4_1.length : Int) : Int):=qN (by assumption);obtain ⟨i029,hi029,_,hsz29,_⟩:=info_parts info3;have hcut29:=cut_to (P:=Try.prog) 35 3 .i64 Try.underlying35 hi029 (some ad149) x4_1.length co26 (ji15) (qN (by assumption)) q29 (Kd.R_reads' HO_4.out).2.1;have hr29:=Kd.R_take (m:=((ji15) : Int).toNat) HO_4.out (by omega);have hy29 : y151.length=((ji15) : Int).toNat:=(by rw [Ny151.out,List.length_take];omega);rw [← Ny151.out] at hr29;rw [← hy29] at hr29 hcut29;clear hy29 hi029 hsz29 HO_4;have HO153:=qM hr29;clear hr29;replace q29:=eq_true q29))
               go_roundg k1
               case measure=>have:=HK1.out;omega
               case rel=>exact ⟨(y150),(y151),(wrap64 (x12_1+1)),(by first|rfl|(simp;done)|(simp [*];done)),H',⟨by have:=HK1.out;omega⟩,⟨by (with_reducible repeat (first|apply qG|apply qH|apply qI));exact HO_3.out⟩,⟨by (with_reducible repeat (first|apply qG|apply qH|apply qI));exact Kd.R_mono HO153.out (fun _ hk=>hk.2)⟩,⟨by repeat (first|(with_reducible first|exact HB.out|apply qJ|apply qK|apply qL|refine qR ?_ GE145.out)|exact HB.out)⟩⟩
              ·rw [if_neg c21] at H
               exact absurd H (by simp)
             ·rw [if_neg c19] at H
              exact absurd H (by simp)
            ·rw [if_neg c18] at H
             exact absurd H (by simp)
           ·rw [if_neg c17] at H
            exact absurd H (by simp)
          ·rw [if_neg c16] at H
           exact absurd H (by simp)
         ·rw [if_neg c14] at H
          have c14b0 : (((rd_T31 l0 x12_1).f0) == 7)=false:=beq_eq_false_iff_ne.mpr c14
          have c14b1 : (((rd_T31 l0 x12_1).f0) != 7)=true:=bne_iff_ne.mpr c14
          have H':=qM H
          clear H
          have p144 : 0≤(x12_1 : Int):=qN (by assumption)
          have q144 : x12_1 < (l0.length : Int):=qN (by assumption)
          obtain ⟨ad144,e144,hx144_0,hx144_1⟩:=at_T31 HR0.out x12_1 p144 q144
          cases e144
          replace hx144_0:=(HB.out.cell (World.block_lt_of_cell? w _ hx144_0)).trans hx144_0
          replace hx144_1:=(HB.out.cell (World.block_lt_of_cell? w _ hx144_1)).trans hx144_1
          replace p144:=eq_true p144
          replace q144:=eq_true q144
          go_wp2_with (first|((with_reducible refine gate_dst (N:=6) rfl ?_);refine box_event ?hg (N:=6) ?hd (cs:=#[.int .i64 0,.string (⟨#[]⟩ : ByteArray)]) (t:=31) ?hr ?_;(case hd=>rfl);(case hg=>rfl);(case hr=>first|(go_simp;done)|(go_simp;rfl));intro gb145 hg w30 hbox hb;have n0_:=qM (Kd.R_below (by (with_reducible repeat (first|apply qG|apply qH|apply qI));exact HO_3.out) hb);have n1_:=qM (Kd.R_below (by (with_reducible repeat (first|apply qG|apply qH|apply qI));exact HO_4.out) hb);have n2_:=qM (below_step (by repeat first|exact HB.out|apply qJ|apply qK|apply qL) hb);have n3_:=qM (hbox);have n4_:=qM ((by rw [hg];exact (below_size (by repeat first|exact HB.out|apply qJ|apply qK|apply qL)) : w.heap.size≤gb145));have n5_:=qM ((by rw [hg];exact (below_size (by repeat first|exact HB.out|apply qJ|apply qK|apply qL)) : w.heap.size≤gb145));clear HO_3;clear HO_4;clear HB;have HO_3:=n0_;have HO_4:=n1_;have HB:=n2_;have BK145:=n3_;have GW145:=n4_;have GE145:=n5_;clear n0_ n1_ n2_ n3_ n4_ n5_;clear hb hbox hg;have hcz31_0 : w30.cell? ⟨gb145,0,none⟩=some (.int .i64 0):=(blk_cell BK145.out 0).trans rfl;have hcz31_1 : w30.cell? ⟨gb145,1,none⟩=some (.string (⟨#[]⟩ : ByteArray)):=(blk_cell BK145.out 1).trans rfl;have hfz31_0:=blk_frozen BK145.out 0;have hfz31_1:=blk_frozen BK145.out 1))
          go_roundg k1
          case measure=>have:=HK1.out;omega
          case rel=>exact ⟨(x3_1),(x4_1),(wrap64 (x12_1+1)),(by first|rfl|(simp;done)|(simp [*];done)),H',⟨by have:=HK1.out;omega⟩,⟨by (with_reducible repeat (first|apply qG|apply qH|apply qI));exact Kd.R_mono (Kd.R_far (p:=⟨gb145,1,none⟩) (Kd.R_far (p:=⟨gb145,0,none⟩) (Kd.R_types HO_3.out BK145.out (by decide)) (fun _ hk=>hk.2) (.int .i64 ((rd_T31 l0 x12_1).f0))) (fun _ hk=>hk.2) (.string ((rd_T31 l0 x12_1).f1))) (fun _ hk=>hk.1)⟩,⟨by (with_reducible repeat (first|apply qG|apply qH|apply qI));exact Kd.R_mono (Kd.R_far (p:=⟨gb145,1,none⟩) (Kd.R_far (p:=⟨gb145,0,none⟩) (Kd.R_types HO_4.out BK145.out (by decide)) (fun _ hk=>hk.2) (.int .i64 ((rd_T31 l0 x12_1).f0))) (fun _ hk=>hk.2) (.string ((rd_T31 l0 x12_1).f1))) (fun _ hk=>hk.1)⟩,⟨by repeat (first|(with_reducible first|exact HB.out|apply qJ|apply qK|apply qL|refine qR ?_ GE145.out)|exact HB.out)⟩⟩
       ·rw [if_neg c8] at H
        exact absurd H (by simp)
      ·rw [if_neg c7] at H
       exact absurd H (by simp)
     ·rw [if_neg c6] at H
      have c6b0 : decide (x12_1 < (l0.length : Int))=false:=decide_eq_false c6
      clear c6
      obtain rfl:=Option.some.inj H
      go_wp2
      go_ret
      exact ⟨_,by first|rfl|(simp [errW_none,errW_some] <;> rfl)|(simp [*,errW_none,errW_some] <;> rfl),by (with_reducible repeat (first|apply qG|apply qH|apply qI));exact Kd.R_mono HO_3.out (fun _ hk=>trivial),by repeat (first|(with_reducible first|exact HB.out|apply qJ|apply qK|apply qL)|exact HB.out)⟩
  ·rw [if_neg c3] at H
   exact absurd H (by simp)
 ·rw [if_neg c2] at H
  exact absurd H (by simp)

end Go.Proofs.Ytipjfdamkpgecaa.PWide
