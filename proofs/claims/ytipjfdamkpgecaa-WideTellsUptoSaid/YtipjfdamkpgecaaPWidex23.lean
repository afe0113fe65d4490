-- Written by a program of the session (drive.py, over the kit's print.py with contracts by hand). Not trusted: Lean checks it.
import Derived.Test.YtipjfdamkpgecaaPWidex0
import Derived.Test.YtipjfdamkpgecaaPWidex2
import Derived.Test.YtipjfdamkpgecaaPWidex10
import Derived.Test.YtipjfdamkpgecaaPWidex17
import Derived.Test.YtipjfdamkpgecaaPWidex21
import Derived.Test.YtipjfdamkpgecaaHWideRef18P
import Derived.Test.YtipjfdamkpgecaaHWideWideA
namespace Go.Proofs.Ytipjfdamkpgecaa.PWide
open Go.RowKit Go.Proofs.YtipjfdamkpgecaaW.PrintWords Go.Proofs.YtipjfdamkpgecaaW.PrintLast Go.Proofs.YtipjfdamkpgecaaW.PrintMore
attribute [local go_sem] max2_int min2_int max_two min_two max_three min_three max_four min_four   -- for this text's walks alone
set_option linter.unusedVariables false
set_option linter.unusedSimpArgs false

/-! ### copperplateref18_Upto: function 21 -/
mutual
def copperplateref18_Upto.l0 : Nat→List (S31)→Int→Int→Int→ByteArray→Int→Int→Int→Int→Option (ByteArray × Int × Int × Int × Int)
 | 0,_,_,_,_,_,_,_,_,_=>none
 | k+1,x0,x1,x2,x8,x343000,x343001,x343002,x343003,x343004=>if x8 < x2 then (if 0≤x8 then (if x8 < (x0.length : Int) then (if ((rd_T31 x0 x8).f0)=6 then (copperplateref18_Upto.j1 k x0 x1 x2 x8 false (decide (x343004 < 0)) x343000 x343001 x343002 x343003 x343004) else (copperplateref18_Upto.j1 k x0 x1 x2 x8 false false x343000 x343001 x343002 x343003 x343004)) else (none)) else (none)) else (some (x343000,x343001,x343002,x343003,x343004))
def copperplateref18_Upto.j1 : Nat→List (S31)→Int→Int→Int→Bool→Bool→ByteArray→Int→Int→Int→Int→Option (ByteArray × Int × Int × Int × Int)
 | 0,_,_,_,_,_,_,_,_,_,_,_=>none
 | k+1,x0,x1,x2,x8,x9,x27,x343000,x343001,x343002,x343003,x343004=>if x27=true then ((copperplateref17_Need.f k x0 x8).bind fun t344=>(if t344 ≥ 0 then ((copperplateref18_Print.f x343000 x343001 x343002 x343003 x343004 x0 x8 (decide ((wrap64 (x343002+t344))≤x1))).bind fun bt345=>(copperplateref18_Upto.l0 k x0 x1 x2 (wrap64 (x8+1)) bt345.1 bt345.2.1 bt345.2.2.1 bt345.2.2.2.1 bt345.2.2.2.2)) else ((copperplateref18_Print.f x343000 x343001 x343002 x343003 x343004 x0 x8 false).bind fun bt350=>(copperplateref18_Upto.l0 k x0 x1 x2 (wrap64 (x8+1)) bt350.1 bt350.2.1 bt350.2.2.1 bt350.2.2.2.1 bt350.2.2.2.2)))) else ((copperplateref18_Print.f x343000 x343001 x343002 x343003 x343004 x0 x8 x9).bind fun bt355=>(copperplateref18_Upto.l0 k x0 x1 x2 (wrap64 (x8+1)) bt355.1 bt355.2.1 bt355.2.2.1 bt355.2.2.2.1 bt355.2.2.2.2))
end
def copperplateref18_Upto.f (k : Nat) (l0 : List (S31)) (a1 : Int) (a2 : Int) : Option (ByteArray × Int × Int × Int × Int):=copperplateref18_Upto.l0 k l0 a1 a2 0 (⟨#[]⟩ : ByteArray) 0 0 0 (-1)
theorem copperplateref18_Upto.mono_l : ∀ k,(∀ y0 y1 y2 y3 y4 y5 y6 y7 y8,LeO (copperplateref18_Upto.l0 k y0 y1 y2 y3 y4 y5 y6 y7 y8) (copperplateref18_Upto.l0 (k+1) y0 y1 y2 y3 y4 y5 y6 y7 y8))∧(∀ y0 y1 y2 y3 y4 y5 y6 y7 y8 y9 y10,LeO (copperplateref18_Upto.j1 k y0 y1 y2 y3 y4 y5 y6 y7 y8 y9 y10) (copperplateref18_Upto.j1 (k+1) y0 y1 y2 y3 y4 y5 y6 y7 y8 y9 y10))
 | 0=>⟨fun _ _ _ _ _ _ _ _ _ r h=>by simp [copperplateref18_Upto.l0] at h,fun _ _ _ _ _ _ _ _ _ _ _ r h=>by simp [copperplateref18_Upto.j1] at h⟩
 | k+1=>by
  obtain ⟨ih0,ih1⟩:=copperplateref18_Upto.mono_l k
  refine ⟨?_,?_⟩
  ·intro y0 y1 y2 y3 y4 y5 y6 y7 y8
   unfold copperplateref18_Upto.l0
   repeat' first
   | (with_reducible exact ih0 _ _ _ _ _ _ _ _ _)
   | (with_reducible exact ih1 _ _ _ _ _ _ _ _ _ _ _)
   | (with_reducible exact copperplateref17_Need.mono _ _ _)
   | (with_reducible exact LeO.refl _)
   | (with_reducible exact LeO.none _)
   | (with_reducible refine LeO.ite ?_ ?_)
   | (with_reducible refine LeO.bind ?_ (fun _=>?_))
   | exact ih0 _ _ _ _ _ _ _ _ _
   | exact ih1 _ _ _ _ _ _ _ _ _ _ _
   | exact copperplateref17_Need.mono _ _ _
   | exact LeO.none _
   | refine LeO.ite ?_ ?_
   | refine LeO.bind ?_ (fun _=>?_)
  ·intro y0 y1 y2 y3 y4 y5 y6 y7 y8 y9 y10
   unfold copperplateref18_Upto.j1
   repeat' first
   | (with_reducible exact ih0 _ _ _ _ _ _ _ _ _)
   | (with_reducible exact ih1 _ _ _ _ _ _ _ _ _ _ _)
   | (with_reducible exact copperplateref17_Need.mono _ _ _)
   | (with_reducible exact LeO.refl _)
   | (with_reducible exact LeO.none _)
   | (with_reducible refine LeO.ite ?_ ?_)
   | (with_reducible refine LeO.bind ?_ (fun _=>?_))
   | exact ih0 _ _ _ _ _ _ _ _ _
   | exact ih1 _ _ _ _ _ _ _ _ _ _ _
   | exact copperplateref17_Need.mono _ _ _
   | exact LeO.none _
   | refine LeO.ite ?_ ?_
   | refine LeO.bind ?_ (fun _=>?_)
theorem copperplateref18_Upto.mono : ∀ a0 a1 a2 k,LeO (copperplateref18_Upto.f k a0 a1 a2) (copperplateref18_Upto.f (k+1) a0 a1 a2):=by
 intro a0 a1 a2 k
 obtain ⟨ih0,ih1⟩:=copperplateref18_Upto.mono_l k
 unfold copperplateref18_Upto.f
 repeat' first
   | (with_reducible exact ih0 _ _ _ _ _ _ _ _ _)
   | (with_reducible exact ih1 _ _ _ _ _ _ _ _ _ _ _)
   | (with_reducible exact copperplateref17_Need.mono _ _ _)
   | (with_reducible exact LeO.refl _)
   | (with_reducible exact LeO.none _)
   | (with_reducible refine LeO.ite ?_ ?_)
   | (with_reducible refine LeO.bind ?_ (fun _=>?_))
   | exact ih0 _ _ _ _ _ _ _ _ _
   | exact ih1 _ _ _ _ _ _ _ _ _ _ _
   | exact copperplateref17_Need.mono _ _ _
   | exact LeO.none _
   | refine LeO.ite ?_ ?_
   | refine LeO.bind ?_ (fun _=>?_)
set_option maxHeartbeats 8000000 in
set_option maxRecDepth 100000 in
theorem copperplateref18_Upto.calls (k : Nat) (A0 : Option Addr) (c0 : Nat) (l0 : List (S31)) (a1 : Int) (a2 : Int) (r1 : ByteArray) (r2 : Int) (r3 : Int) (r4 : Int) (r5 : Int) (w : World) (hr0 : Kd.C k31 w A0 l0.length l0) (hc0 : l0.length≤c0) (h : copperplateref18_Upto.f k l0 a1 a2=some (r1,r2,r3,r4,r5)) :
  Calls Try.prog 21 #[.slice A0 l0.length c0,.int .i64 a1,.int .i64 a2] w fun e w'=>e=.returned (.agg #[.string r1,.int .i64 r2,.int .i64 r3,.int .i64 r4,.int .i64 r5])∧Below w.heap.size w w':=by
 have hu39:=Try.underlying39
 have HR0:=qM hr0
 have HC0:=qM hc0
 clear hr0 hc0
 have HB:=qM (Below.refl w.heap.size w)
 have H : (copperplateref18_Upto.l0 k l0 a1 a2 0 (⟨#[]⟩ : ByteArray) 0 0 0 (-1))=some (r1,r2,r3,r4,r5):=h
 clear h
 have H':=qM H
 clear H
 go_enter Try.func21,Try.ntmps21
 go_wp2_with (first|((with_reducible refine gate_dst (N:=6) rfl ?_);refine box_event ?hg (N:=6) ?hd (cs:=#[.string (⟨#[]⟩ : ByteArray),.int .i64 0,.int .i64 0,.int .i64 0,.int .i64 0]) (t:=39) ?hr ?_;(case hd=>rfl);(case hg=>rfl);(case hr=>first|(go_simp;done)|(go_simp;rfl));intro gb341 hg w4 hbox hb;have n0_:=qM (below_step (by repeat first|exact HB.out|apply qJ|apply qK|apply qL) hb);have n1_:=qM (hbox);have n2_:=qM ((by rw [hg];exact (below_size (by repeat first|exact HB.out|apply qJ|apply qK|apply qL)) : w.heap.size≤gb341));have n3_:=qM ((by rw [hg];exact (below_size (by repeat first|exact HB.out|apply qJ|apply qK|apply qL)) : w.heap.size≤gb341));clear HB;have HB:=n0_;have BK341:=n1_;have GW341:=n2_;have GE341:=n3_;clear n0_ n1_ n2_ n3_;clear hb hbox hg)|((with_reducible refine gate_dst (N:=7) rfl ?_);refine box_event ?hg (N:=7) ?hd (cs:=#[.string (⟨#[]⟩ : ByteArray),.int .i64 0,.int .i64 0,.int .i64 0,.int .i64 0]) (t:=39) ?hr ?_;(case hd=>rfl);(case hg=>rfl);(case hr=>first|(go_simp;done)|(go_simp;rfl));intro gb342 hg w5 hbox hb;have n0_:=qM (blk_below (g:=gb341) (o:=.cells #[.string (⟨#[]⟩ : ByteArray),.int .i64 0,.int .i64 0,.int .i64 0,.int .i64 0] 39 (0,0)) (by (with_reducible repeat (first|apply qD|apply qE|apply qF));exact BK341.out) hb);have n1_:=qM (below_step (by repeat first|exact HB.out|apply qJ|apply qK|apply qL|refine qR ?_ GE341.out) hb);have n2_:=qM (hbox);have n3_:=qM ((by rw [hg];exact (below_size (by repeat first|exact HB.out|apply qJ|apply qK|apply qL|refine qR ?_ GE341.out)) : w.heap.size≤gb342));have n4_:=qM ((by rw [hg];exact (below_size (by repeat first|exact HB.out|apply qJ|apply qK|apply qL|refine qR ?_ GE341.out)) : w.heap.size≤gb342));have n5_:=qM ((by rw [hg];exact Nat.ne_of_lt (blk_lt (g:=gb341) (o:=.cells #[.string (⟨#[]⟩ : ByteArray),.int .i64 0,.int .i64 0,.int .i64 0,.int .i64 0] 39 (0,0)) (by (with_reducible repeat (first|apply qD|apply qE|apply qF));exact BK341.out)) : gb341 ≠ gb342));have n6_:=qM ((by rw [hg];exact Nat.ne_of_gt (blk_lt (g:=gb341) (o:=.cells #[.string (⟨#[]⟩ : ByteArray),.int .i64 0,.int .i64 0,.int .i64 0,.int .i64 0] 39 (0,0)) (by (with_reducible repeat (first|apply qD|apply qE|apply qF));exact BK341.out)) : gb342 ≠ gb341));clear BK341;clear HB;have BK341:=n0_;have HB:=n1_;have BK342:=n2_;have GW342:=n3_;have GE342:=n4_;have NB341_342:=n5_;have NB342_341:=n6_;clear n0_ n1_ n2_ n3_ n4_ n5_ n6_;clear hb hbox hg;have hnb6:=NB342_341.out;have hnc6:=NB341_342.out;have hcz7_0 : w5.cell? ⟨gb342,0,none⟩=some (.string (⟨#[]⟩ : ByteArray)):=(blk_cell BK342.out 0).trans rfl;have hcz7_1 : w5.cell? ⟨gb342,1,none⟩=some (.int .i64 0):=(blk_cell BK342.out 1).trans rfl;have hcz7_2 : w5.cell? ⟨gb342,2,none⟩=some (.int .i64 0):=(blk_cell BK342.out 2).trans rfl;have hcz7_3 : w5.cell? ⟨gb342,3,none⟩=some (.int .i64 0):=(blk_cell BK342.out 3).trans rfl;have hcz7_4 : w5.cell? ⟨gb342,4,none⟩=some (.int .i64 0):=(blk_cell BK342.out 4).trans rfl;have hfz7_0:=blk_frozen BK342.out 0;have hfz7_1:=blk_frozen BK342.out 1;have hfz7_2:=blk_frozen BK342.out 2;have hfz7_3:=blk_frozen BK342.out 3;have hfz7_4:=blk_frozen BK342.out 4))
 go_loopg [8] k (fun kq v8 w'=>∃ (x8_1 : Int) (x343000_1 : ByteArray) (x343001_1 : Int) (x343002_1 : Int) (x343003_1 : Int) (x343004_1 : Int),v8=.int .i64 x8_1∧Aside0 (copperplateref18_Upto.l0 kq l0 a1 a2 x8_1 x343000_1 x343001_1 x343002_1 x343003_1 x343004_1=some (r1,r2,r3,r4,r5))∧Aside0 (kq≤k)∧Aside0 (w'.heap[gb341]?=some (.cells #[.string (⟨#[]⟩ : ByteArray),.int .i64 0,.int .i64 0,.int .i64 0,.int .i64 0] 39 (0,0)))∧Aside0 (w'.heap[gb342]?=some (.cells #[.string x343000_1,.int .i64 x343001_1,.int .i64 x343002_1,.int .i64 x343003_1,.int .i64 x343004_1] 39 (0,0)))∧Aside0 (Below w.heap.size w w'))
 case atStart=>exact ⟨(0),((⟨#[]⟩ : ByteArray)),(0),(0),(0),((-1)),(by first|rfl|(simp;done)|(simp [*];done)),H',⟨Nat.le_refl _⟩,⟨by (with_reducible repeat (first|apply qD|apply qE|apply qF));refine blk_far ?_ NB341_342.out _;(with_reducible repeat (first|apply qD|apply qE|apply qF));refine blk_far ?_ NB341_342.out _;(with_reducible repeat (first|apply qD|apply qE|apply qF));refine blk_far ?_ NB341_342.out _;(with_reducible repeat (first|apply qD|apply qE|apply qF));refine blk_far ?_ NB341_342.out _;(with_reducible repeat (first|apply qD|apply qE|apply qF));refine blk_far ?_ NB341_342.out _;(with_reducible repeat (first|apply qD|apply qE|apply qF));exact BK341.out⟩,⟨by (with_reducible repeat (first|apply qD|apply qE|apply qF));refine blk_put (cs:=#[.string (⟨#[]⟩ : ByteArray),.int .i64 0,.int .i64 0,.int .i64 0,.int .i64 0]) ?_ 4 _ rfl;(with_reducible repeat (first|apply qD|apply qE|apply qF));refine blk_put (cs:=#[.string (⟨#[]⟩ : ByteArray),.int .i64 0,.int .i64 0,.int .i64 0,.int .i64 0]) ?_ 3 _ rfl;(with_reducible repeat (first|apply qD|apply qE|apply qF));refine blk_put (cs:=#[.string (⟨#[]⟩ : ByteArray),.int .i64 0,.int .i64 0,.int .i64 0,.int .i64 0]) ?_ 2 _ rfl;(with_reducible repeat (first|apply qD|apply qE|apply qF));refine blk_put (cs:=#[.string (⟨#[]⟩ : ByteArray),.int .i64 0,.int .i64 0,.int .i64 0,.int .i64 0]) ?_ 1 _ rfl;(with_reducible repeat (first|apply qD|apply qE|apply qF));refine blk_put (cs:=#[.string (⟨#[]⟩ : ByteArray),.int .i64 0,.int .i64 0,.int .i64 0,.int .i64 0]) ?_ 0 _ rfl;(with_reducible repeat (first|apply qD|apply qE|apply qF));exact BK342.out⟩,⟨by repeat (first|(with_reducible first|exact HB.out|apply qJ|apply qK|apply qL|refine qR ?_ GE341.out|refine qR ?_ GE342.out)|exact HB.out)⟩⟩
 case round =>
  clear H'
  try clear c2
  try clear p2
  try clear c6
  try clear hcz7_0
  try clear hcz7_1
  try clear hcz7_2
  try clear hcz7_3
  try clear hcz7_4
  try clear hfz7_0
  try clear hfz7_1
  try clear hfz7_2
  try clear hfz7_3
  try clear hfz7_4
  obtain ⟨x8_1,x343000_1,x343001_1,x343002_1,x343003_1,x343004_1,rfl,HA,HK1,BK341,BK342,HB⟩:=hrel
  cases gk with
  | zero=>exact absurd HA.out (by simp [copperplateref18_Upto.l0])
  | succ k1 =>
   have H:=HA.out
   clear HA
   simp only [copperplateref18_Upto.l0] at H
   by_cases c8 : x8_1 < a2
   ·rw [if_pos c8] at H
    have c8b0 : decide (x8_1 < a2)=true:=decide_eq_true c8
    clear c8
    have HC9:=qM H
    clear H
    go_upto_region 6 with (fail)
    go_cut [27] (fun v27 wc=>∃ (kq : Nat) (x27_8 : Bool),v27=.bool x27_8∧Aside0 (copperplateref18_Upto.j1 kq l0 a1 a2 x8_1 false x27_8 x343000_1 x343001_1 x343002_1 x343003_1 x343004_1=some (r1,r2,r3,r4,r5))∧Aside0 (kq≤k1)∧Aside0 (wc.heap[gb341]?=some (.cells #[.string (⟨#[]⟩ : ByteArray),.int .i64 0,.int .i64 0,.int .i64 0,.int .i64 0] 39 (0,0)))∧Aside0 (wc.heap[gb342]?=some (.cells #[.string x343000_1,.int .i64 x343001_1,.int .i64 x343002_1,.int .i64 x343003_1,.int .i64 x343004_1] 39 (0,0)))∧Aside0 (Below w.heap.size w wc))
    case first =>
     have H:=HC9.out
     clear HC9
     by_cases c10 : 0≤x8_1
     ·rw [if_pos c10] at H
      have c10b0 : decide (0≤x8_1)=true:=decide_eq_true c10
      clear c10
      (first|rw [c10b0]|(simp only [i64_w,i32_w];rw [c10b0])|skip)
      by_cases c11 : x8_1 < (l0.length : Int)
      ·rw [if_pos c11] at H
       have c11b0 : decide (x8_1 < (l0.length : Int))=true:=decide_eq_true c11
       clear c11
       by_cases c12 : ((rd_T31 l0 x8_1).f0)=6
       ·rw [if_pos c12] at H
        have c12b0 : (((rd_T31 l0 x8_1).f0) == 6)=true:=beq_iff_eq.mpr c12
        have c12b1 : (((rd_T31 l0 x8_1).f0) != 6)=false:=bne_eq_false_iff_eq.mpr c12
        clear c12
        have H':=qM H
        clear H
        have p343 : 0≤(x8_1 : Int):=qN (by assumption)
        have q343 : x8_1 < (l0.length : Int):=qN (by assumption)
        obtain ⟨ad343,e343,hx343_0,hx343_1⟩:=at_T31 HR0.out x8_1 p343 q343
        cases e343
        replace hx343_0:=(HB.out.cell (World.block_lt_of_cell? w _ hx343_0)).trans hx343_0
        replace hx343_1:=(HB.out.cell (World.block_lt_of_cell? w _ hx343_1)).trans hx343_1
        replace p343:=eq_true p343
        replace q343:=eq_true q343
        have hnb13:=NB342_341.out
        have hnc13:=NB341_342.out
        have hcz14_0 : wr.cell? ⟨gb342,0,none⟩=some (.string x343000_1):=(blk_cell BK342.out 0).trans rfl
        have hcz14_1 : wr.cell? ⟨gb342,1,none⟩=some (.int .i64 x343001_1):=(blk_cell BK342.out 1).trans rfl
        have hcz14_2 : wr.cell? ⟨gb342,2,none⟩=some (.int .i64 x343002_1):=(blk_cell BK342.out 2).trans rfl
        have hcz14_3 : wr.cell? ⟨gb342,3,none⟩=some (.int .i64 x343003_1):=(blk_cell BK342.out 3).trans rfl
        have hcz14_4 : wr.cell? ⟨gb342,4,none⟩=some (.int .i64 x343004_1):=(blk_cell BK342.out 4).trans rfl
        have hfz14_0:=blk_frozen BK342.out 0
        have hfz14_1:=blk_frozen BK342.out 1
        have hfz14_2:=blk_frozen BK342.out 2
        have hfz14_3:=blk_frozen BK342.out 3
        have hfz14_4:=blk_frozen BK342.out 4
        go_wp2
        go_meet
        case rel=>exact ⟨_,(decide (x343004_1 < 0)),(by first|rfl|(simp;done)|(simp [*];done)),H',⟨by have:=HK1.out;first|omega|exact Nat.le_refl _⟩,⟨by (with_reducible repeat (first|apply qD|apply qE|apply qF));exact BK341.out⟩,⟨by (with_reducible repeat (first|apply qD|apply qE|apply qF));exact BK342.out⟩,⟨by repeat (first|(with_reducible first|exact HB.out|apply qJ|apply qK|apply qL|refine qR ?_ GE341.out|refine qR ?_ GE342.out)|exact HB.out)⟩⟩
       ·rw [if_neg c12] at H
        have c12b0 : (((rd_T31 l0 x8_1).f0) == 6)=false:=beq_eq_false_iff_ne.mpr c12
        have c12b1 : (((rd_T31 l0 x8_1).f0) != 6)=true:=bne_iff_ne.mpr c12
        have H':=qM H
        clear H
        have p343 : 0≤(x8_1 : Int):=qN (by assumption)
        have q343 : x8_1 < (l0.length : Int):=qN (by assumption)
        obtain ⟨ad343,e343,hx343_0,hx343_1⟩:=at_T31 HR0.out x8_1 p343 q343
        cases e343
        replace hx343_0:=(HB.out.cell (World.block_lt_of_cell? w _ hx343_0)).trans hx343_0
        replace hx343_1:=(HB.out.cell (World.block_lt_of_cell? w _ hx343_1)).trans hx343_1
        replace p343:=eq_true p343
        replace q343:=eq_true q343
        go_wp2
        go_meet
        case rel=>exact ⟨_,(false),(by first|rfl|(simp;done)|(simp [*];done)),H',⟨by have:=HK1.out;first|omega|exact Nat.le_refl _⟩,⟨by (with_reducible repeat (first|apply qD|apply qE|apply qF));exact BK341.out⟩,⟨by (with_reducible repeat (first|apply qD|apply qE|apply qF));exact BK342.out⟩,⟨by repeat (first|(with_reducible first|exact HB.out|apply qJ|apply qK|apply qL|refine qR ?_ GE341.out|refine qR ?_ GE342.out)|exact HB.out)⟩⟩
      ·rw [if_neg c11] at H
       exact absurd H (by simp)
     ·rw [if_neg c10] at H
      exact absurd H (by simp)
    case rest =>
     clear HC9
     try clear c1
     try clear c2
     try clear p2
     try clear p3
     try clear q3
     try clear hx3
     try clear c6
     try clear c8
     try clear c8b0
     try clear c10
     try clear c10b0
     try clear c11
     try clear c11b0
     try clear c12
     try clear c12b0
     try clear c12b1
     try clear c13
     try clear hcz14_0
     try clear hcz14_1
     try clear hcz14_2
     try clear hcz14_3
     try clear hcz14_4
     try clear hcz7_0
     try clear hcz7_1
     try clear hcz7_2
     try clear hcz7_3
     try clear hcz7_4
     try clear hfz14_0
     try clear hfz14_1
     try clear hfz14_2
     try clear hfz14_3
     try clear hfz14_4
     try clear hfz7_0
     try clear hfz7_1
     try clear hfz7_2
     try clear hfz7_3
     try clear hfz7_4
     try clear hx343_0
     try clear hx343_1
     try clear p2
     try clear p343
     try clear q343
     obtain ⟨kq,x27_8,rfl,HA,HJ8,BK341,BK342,HB⟩:=hcut
     cases kq with
     | zero=>exact absurd HA.out (by simp [copperplateref18_Upto.j1])
     | succ kj8 =>
      have H:=HA.out
      clear HA
      simp only [copperplateref18_Upto.j1] at H
      by_cases c15 : x27_8=true
      ·subst c15
       have H1 : ((copperplateref17_Need.f kj8 l0 x8_1).bind fun t344=>(if t344 ≥ 0 then ((copperplateref18_Print.f x343000_1 x343001_1 x343002_1 x343003_1 x343004_1 l0 x8_1 (decide ((wrap64 (x343002_1+t344))≤a1))).bind fun bt345=>(copperplateref18_Upto.l0 kj8 l0 a1 a2 (wrap64 (x8_1+1)) bt345.1 bt345.2.1 bt345.2.2.1 bt345.2.2.2.1 bt345.2.2.2.2)) else ((copperplateref18_Print.f x343000_1 x343001_1 x343002_1 x343003_1 x343004_1 l0 x8_1 false).bind fun bt350=>(copperplateref18_Upto.l0 kj8 l0 a1 a2 (wrap64 (x8_1+1)) bt350.1 bt350.2.1 bt350.2.2.1 bt350.2.2.2.1 bt350.2.2.2.2))))=some (r1,r2,r3,r4,r5):=by rw [if_pos rfl] at H;exact H
       clear H
       have H:=H1
       clear H1
       replace H:=Option.bind_eq_some_iff.mp H
       obtain ⟨t344,A160,H⟩:=H
       replace H : (if t344 ≥ 0 then ((copperplateref18_Print.f x343000_1 x343001_1 x343002_1 x343003_1 x343004_1 l0 x8_1 (decide ((wrap64 (x343002_1+t344))≤a1))).bind fun bt345=>(copperplateref18_Upto.l0 kj8 l0 a1 a2 (wrap64 (x8_1+1)) bt345.1 bt345.2.1 bt345.2.2.1 bt345.2.2.2.1 bt345.2.2.2.2)) else ((copperplateref18_Print.f x343000_1 x343001_1 x343002_1 x343003_1 x343004_1 l0 x8_1 false).bind fun bt350=>(copperplateref18_Upto.l0 kj8 l0 a1 a2 (wrap64 (x8_1+1)) bt350.1 bt350.2.1 bt350.2.2.1 bt350.2.2.2.1 bt350.2.2.2.2)))=some (r1,r2,r3,r4,r5):=H
       have A16:=qM A160
       clear A160
       by_cases c17 : t344 ≥ 0
       ·rw [if_pos c17] at H
        have c17b0 : decide (0≤t344)=true:=decide_eq_true c17
        clear c17
        replace H:=Option.bind_eq_some_iff.mp H
        obtain ⟨⟨t345,t346,t347,t348,t349⟩,A180,H⟩:=H
        replace H : (copperplateref18_Upto.l0 kj8 l0 a1 a2 (wrap64 (x8_1+1)) t345 t346 t347 t348 t349)=some (r1,r2,r3,r4,r5):=H
        have A18:=qM A180
        clear A180
        have H':=qM H
        clear H
        go_wp2_with (first|((with_reducible refine gate_callee (f:=34) rfl ?_);refine goesL_ (some 30) rfl rfl Try.func34 (by kernel_rfl) rfl #[.slice A0 l0.length c0,.int .i64 x8_1] rfl (by (try simp only [List.map_toArray,List.map_cons,List.map_nil]);first|done|rfl|(simp only [List.length_drop,List.length_take];rfl)) ?_;(with_reducible refine (copperplateref17_Need.calls kj8 _ _ l0 x8_1 t344 _ ?side1 ?side2 A16.out).mono ?_);(case side1=>repeat (first|exact (Kd.C_below HR0.out HB.out)|(with_reducible first|apply qO|apply qP|apply qQ)));(case side2=>exact HC0.out);(try clear A16); rintro e w19 ⟨rfl,hb⟩;refine ⟨_,rfl,?_⟩;have n0_:=qM (blk_below (g:=gb341) (o:=.cells #[.string (⟨#[]⟩ : ByteArray),.int .i64 0,.int .i64 0,.int .i64 0,.int .i64 0] 39 (0,0)) (by (with_reducible repeat (first|apply qD|apply qE|apply qF));exact BK341.out) hb);have n1_:=qM (blk_below (g:=gb342) (o:=.cells #[.string x343000_1,.int .i64 x343001_1,.int .i64 x343002_1,.int .i64 x343003_1,.int .i64 x343004_1] 39 (0,0)) (by (with_reducible repeat (first|apply qD|apply qE|apply qF));exact BK342.out) hb);have n2_:=qM (below_step (by repeat first|exact HB.out|apply qJ|apply qK|apply qL|refine qR ?_ GE341.out|refine qR ?_ GE342.out) hb);clear BK341;clear BK342;clear HB;have BK341:=n0_;have BK342:=n1_;have HB:=n2_;clear n0_ n1_ n2_;(try clear hb);(try clear hb2);(try clear hk);(try clear hi);have hnb20:=NB342_341.out;have hnc20:=NB341_342.out;have hcz21_0 : w19.cell? ⟨gb342,0,none⟩=some (.string x343000_1):=(blk_cell BK342.out 0).trans rfl;have hcz21_1 : w19.cell? ⟨gb342,1,none⟩=some (.int .i64 x343001_1):=(blk_cell BK342.out 1).trans rfl;have hcz21_2 : w19.cell? ⟨gb342,2,none⟩=some (.int .i64 x343002_1):=(blk_cell BK342.out 2).trans rfl;have hcz21_3 : w19.cell? ⟨gb342,3,none⟩=some (.int .i64 x343003_1):=(blk_cell BK342.out 3).trans rfl;have hcz21_4 : w19.cell? ⟨gb342,4,none⟩=some (.int .i64 x343004_1):=(blk_cell BK342.out 4).trans rfl;have hfz21_0:=blk_frozen BK342.out 0;have hfz21_1:=blk_frozen BK342.out 1;have hfz21_2:=blk_frozen BK342.out 2;have hfz21_3:=blk_frozen BK342.out 3;have hfz21_4:=blk_frozen BK342.out 4)|((with_reducible refine gate_callee (f:=35) rfl ?_);refine goesL_ (some 45) rfl rfl Try.func35 (by kernel_rfl) rfl #[.agg #[.string x343000_1,.int .i64 x343001_1,.int .i64 x343002_1,.int .i64 x343003_1,.int .i64 x343004_1],.slice A0 l0.length c0,.int .i64 x8_1,.bool (decide ((wrap64 (x343002_1+t344))≤a1))] rfl (by (try simp only [List.map_toArray,List.map_cons,List.map_nil]);first|done|rfl|(simp only [List.length_drop,List.length_take];rfl)) ?_;(with_reducible refine (copperplateref18_Print.calls x343000_1 x343001_1 x343002_1 x343003_1 x343004_1 _ _ l0 x8_1 (decide ((wrap64 (x343002_1+t344))≤a1)) t345 t346 t347 t348 t349 _ ?side1 ?side2 A18.out).mono ?_);(case side1=>repeat (first|exact (Kd.C_below HR0.out HB.out)|(with_reducible first|apply qO|apply qP|apply qQ)));(case side2=>exact HC0.out);(try clear A18); rintro e w22 ⟨rfl,hb⟩;refine ⟨_,rfl,?_⟩;have n0_:=qM (blk_below (g:=gb341) (o:=.cells #[.string (⟨#[]⟩ : ByteArray),.int .i64 0,.int .i64 0,.int .i64 0,.int .i64 0] 39 (0,0)) (by (with_reducible repeat (first|apply qD|apply qE|apply qF));exact BK341.out) hb);have n1_:=qM (blk_below (g:=gb342) (o:=.cells #[.string x343000_1,.int .i64 x343001_1,.int .i64 x343002_1,.int .i64 x343003_1,.int .i64 x343004_1] 39 (0,0)) (by (with_reducible repeat (first|apply qD|apply qE|apply qF));exact BK342.out) hb);have n2_:=qM (below_step (by repeat first|exact HB.out|apply qJ|apply qK|apply qL|refine qR ?_ GE341.out|refine qR ?_ GE342.out) hb);clear BK341;clear BK342;clear HB;have BK341:=n0_;have BK342:=n1_;have HB:=n2_;clear n0_ n1_ n2_;(try clear hb);(try clear hb2);(try clear hk);(try clear hi);have hcz23_0 : w22.cell? ⟨gb342,0,none⟩=some (.string x343000_1):=(blk_cell BK342.out 0).trans rfl;have hcz23_1 : w22.cell? ⟨gb342,1,none⟩=some (.int .i64 x343001_1):=(blk_cell BK342.out 1).trans rfl;have hcz23_2 : w22.cell? ⟨gb342,2,none⟩=some (.int .i64 x343002_1):=(blk_cell BK342.out 2).trans rfl;have hcz23_3 : w22.cell? ⟨gb342,3,none⟩=some (.int .i64 x343003_1):=(blk_cell BK342.out 3).trans rfl;have hcz23_4 : w22.cell? ⟨gb342,4,none⟩=some (.int .i64 x343004_1):=(blk_cell BK342.out 4).trans rfl;have hfz23_0:=blk_frozen BK342.out 0;have hfz23_1:=blk_frozen BK342.out 1;have hfz23_2:=blk_frozen BK342.out 2;have hfz23_3:=blk_frozen BK342.out 3;have hfz23_4:=blk_frozen BK342.out 4))
        go_roundg kj8
        case measure=>have:=HK1.out;have:=HJ8.out;omega
        case rel=>exact ⟨(wrap64 (x8_1+1)),(t345),(t346),(t347),(t348),(t349),(by first|rfl|(simp;done)|(simp [*];done)),H',⟨by have:=HK1.out;have:=HJ8.out;omega⟩,⟨by (with_reducible repeat (first|apply qD|apply qE|apply qF));refine blk_far ?_ NB341_342.out _;(with_reducible repeat (first|apply qD|apply qE|apply qF));refine blk_far ?_ NB341_342.out _;(with_reducible repeat (first|apply qD|apply qE|apply qF));refine blk_far ?_ NB341_342.out _;(with_reducible repeat (first|apply qD|apply qE|apply qF));refine blk_far ?_ NB341_342.out _;(with_reducible repeat (first|apply qD|apply qE|apply qF));refine blk_far ?_ NB341_342.out _;(with_reducible repeat (first|apply qD|apply qE|apply qF));exact BK341.out⟩,⟨by (with_reducible repeat (first|apply qD|apply qE|apply qF));refine blk_put (cs:=#[.string t345,.int .i64 t346,.int .i64 t347,.int .i64 t348,.int .i64 x343004_1]) ?_ 4 _ rfl;(with_reducible repeat (first|apply qD|apply qE|apply qF));refine blk_put (cs:=#[.string t345,.int .i64 t346,.int .i64 t347,.int .i64 x343003_1,.int .i64 x343004_1]) ?_ 3 _ rfl;(with_reducible repeat (first|apply qD|apply qE|apply qF));refine blk_put (cs:=#[.string t345,.int .i64 t346,.int .i64 x343002_1,.int .i64 x343003_1,.int .i64 x343004_1]) ?_ 2 _ rfl;(with_reducible repeat (first|apply qD|apply qE|apply qF));refine blk_put (cs:=#[.string t345,.int .i64 x343001_1,.int .i64 x343002_1,.int .i64 x343003_1,.int .i64 x343004_1]) ?_ 1 _ rfl;(with_reducible repeat (first|apply qD|apply qE|apply qF));refine blk_put (cs:=#[.string x343000_1,.int .i64 x343001_1,.int .i64 x343002_1,.int .i64 x343003_1,.int .i64 x343004_1]) ?_ 0 _ rfl;(with_reducible repeat (first|apply qD|apply qE|apply qF));exact BK342.out⟩,⟨by repeat (first|(with_reducible first|exact HB.out|apply qJ|apply qK|apply qL|refine qR ?_ GE341.out|refine qR ?_ GE342.out)|exact HB.out)⟩⟩
       ·rw [if_neg c17] at H
        have c17b0 : decide (0≤t344)=false:=decide_eq_false c17
        clear c17
        replace H:=Option.bind_eq_some_iff.mp H
        obtain ⟨⟨t350,t351,t352,t353,t354⟩,A240,H⟩:=H
        replace H : (copperplateref18_Upto.l0 kj8 l0 a1 a2 (wrap64 (x8_1+1)) t350 t351 t352 t353 t354)=some (r1,r2,r3,r4,r5):=H
        have A24:=qM A240
        clear A240
        have H':=qM H
        clear H
        go_wp2_with (first|((with_reducible refine gate_callee (f:=34) rfl ?_);refine goesL_ (some 30) rfl rfl Try.func34 (by kernel_rfl) rfl #[.slice A0 l0.length c0,.int .i64 x8_1] rfl (by (try simp only [List.map_toArray,List.map_cons,List.map_nil]);first|done|rfl|(simp only [List.length_drop,List.length_take];rfl)) ?_;(with_reducible refine (copperplateref17_Need.calls kj8 _ _ l0 x8_1 t344 _ ?side1 ?side2 A16.out).mono ?_);(case side1=>repeat (first|exact (Kd.C_below HR0.out HB.out)|(with_reducible first|apply qO|apply qP|apply qQ)));(case side2=>exact HC0.out);(try clear A16); rintro e w25 ⟨rfl,hb⟩;refine ⟨_,rfl,?_⟩;have n0_:=qM (blk_below (g:=gb341) (o:=.cells #[.string (⟨#[]⟩ : ByteArray),.int .i64 0,.int .i64 0,.int .i64 0,.int .i64 0] 39 (0,0)) (by (with_reducible repeat (first|apply qD|apply qE|apply qF));exact BK341.out) hb);have n1_:=qM (blk_below (g:=gb342) (o:=.cells #[.string x343000_1,.int .i64 x343001_1,.int .i64 x343002_1,.int .i64 x343003_1,.int .i64 x343004_1] 39 (0,0)) (by (with_reducible repeat (first|apply qD|apply qE|apply qF));exact BK342.out) hb);have n2_:=qM (below_step (by repeat first|exact HB.out|apply qJ|apply qK|apply qL|refine qR ?_ GE341.out|refine qR ?_ GE342.out) hb);clear BK341;clear BK342;clear HB;have BK341:=n0_;have BK342:=n1_;have HB:=n2_;clear n0_ n1_ n2_;(try clear hb);(try clear hb2);(try clear hk);(try clear hi);have hnb26:=NB342_341.out;have hnc26:=NB341_342.out;have hcz27_0 : w25.cell? ⟨gb342,0,none⟩=some (.string x343000_1):=(blk_cell BK342.out 0).trans rfl;have hcz27_1 : w25.cell? ⟨gb342,1,none⟩=some (.int .i64 x343001_1):=(blk_cell BK342.out 1).trans rfl;have hcz27_2 : w25.cell? ⟨gb342,2,none⟩=some (.int .i64 x343002_1):=(blk_cell BK342.out 2).trans rfl;have hcz27_3 : w25.cell? ⟨gb342,3,none⟩=some (.int .i64 x343003_1):=(blk_cell BK342.out 3).trans rfl;have hcz27_4 : w25.cell? ⟨gb342,4,none⟩=some (.int .i64 x343004_1):=(blk_cell BK342.out 4).trans rfl;have hfz27_0:=blk_frozen BK342.out 0;have hfz27_1:=blk_frozen BK342.out 1;have hfz27_2:=blk_frozen BK342.out 2;have hfz27_3:=blk_frozen BK342.out 3;have hfz27_4:=blk_frozen BK342.out 4)|((with_reducible refine gate_callee (f:=35) rfl ?_);refine goesL_ (some 45) rfl rfl Try.func35 (by kernel_rfl) rfl #[.agg #[.string x343000_1,.int .i64 x343001_1,.int .i64 x343002_1,.int .i64 x343003_1,.int .i64 x343004_1],.slice A0 l0.length c0,.int .i64 x8_1,.bool false] rfl (by (try simp only [List.map_toArray,List.map_cons,List.map_nil]);first|done|rfl|(simp only [List.length_drop,List.length_take];rfl)) ?_;(with_reducible refine (copperplateref18_Print.calls x343000_1 x343001_1 x343002_1 x343003_1 x343004_1 _ _ l0 x8_1 false t350 t351 t352 t353 t354 _ ?side1 ?side2 A24.out).mono ?_);(case side1=>repeat (first|exact (Kd.C_below HR0.out HB.out)|(with_reducible first|apply qO|apply qP|apply qQ)));(case side2=>exact HC0.out);(try clear A24); rintro e w28 ⟨rfl,hb⟩;refine ⟨_,rfl,?_⟩;have n0_:=qM (blk_below (g:=gb341) (o:=.cells #[.string (⟨#[]⟩ : ByteArray),.int .i64 0,.int .i64 0,.int .i64 0,.int .i64 0] 39 (0,0)) (by (with_reducible repeat (first|apply qD|apply qE|apply qF));exact BK341.out) hb);have n1_:=qM (blk_below (g:=gb342) (o:=.cells #[.string x343000_1,.int .i64 x343001_1,.int .i64 x343002_1,.int .i64 x343003_1,.int .i64 x343004_1] 39 (0,0)) (by (with_reducible repeat (first|apply qD|apply qE|apply qF));exact BK342.out) hb);have n2_:=qM (below_step (by repeat first|exact HB.out|apply qJ|apply qK|apply qL|refine qR ?_ GE341.out|refine qR ?_ GE342.out) hb);clear BK341;clear BK342;clear HB;have BK341:=n0_;have BK342:=n1_;have HB:=n2_;clear n0_ n1_ n2_;(try clear hb);(try clear hb2);(try clear hk);(try clear hi);have hcz29_0 : w28.cell? ⟨gb342,0,none⟩=some (.string x343000_1):=(blk_cell BK342.out 0).trans rfl;have hcz29_1 : w28.cell? ⟨gb342,1,none⟩=some (.int .i64 x343001_1):=(blk_cell BK342.out 1).trans rfl;have hcz29_2 : w28.cell? ⟨gb342,2,none⟩=some (.int .i64 x343002_1):=(blk_cell BK342.out 2).trans rfl;have hcz29_3 : w28.cell? ⟨gb342,3,none⟩=some (.int .i64 x343003_1):=(blk_cell BK342.out 3).trans rfl;have hcz29_4 : w28.cell? ⟨gb342,4,none⟩=some (.int .i64 x343004_1):=(blk_cell BK342.out 4).trans rfl;have hfz29_0:=blk_frozen BK342.out 0;have hfz29_1:=blk_frozen BK342.out 1;have hfz29_2:=blk_frozen BK342.out 2;have hfz29_3:=blk_frozen BK342.out 3;have hfz29_4:=blk_frozen BK342.out 4))
        go_roundg kj8
        case measure=>have:=HK1.out;have:=HJ8.out;omega
        case rel=>exact ⟨(wrap64 (x8_1+1)),(t350),(t351),(t352),(t353),(t354),(by first|rfl|(simp;done)|(simp [*];done)),H',⟨by have:=HK1.out;have:=HJ8.out;omega⟩,⟨by (with_reducible repeat (first|apply qD|apply qE|apply qF));refine blk_far ?_ NB341_342.out _;(with_reducible repeat (first|apply qD|apply qE|apply qF));refine blk_far ?_ NB341_342.out _;(with_reducible repeat (first|apply qD|apply qE|apply qF));refine blk_far ?_ NB341_342.out _;(with_reducible repeat (first|apply qD|apply qE|apply qF));refine blk_far ?_ NB341_342.out _;(with_reducible repeat (first|apply qD|apply qE|apply qF));refine blk_far ?_ NB341_342.out _;(with_reducible repeat (first|apply qD|apply qE|apply qF));exact BK341.out⟩,⟨by (with_reducible repeat (first|apply qD|apply qE|apply qF));refine blk_put (cs:=#[.string t350,.int .i64 t351,.int .i64 t352,.int .i64 t353,.int .i64 x343004_1]) ?_ 4 _ rfl;(with_reducible repeat (first|apply qD|apply qE|apply qF));refine blk_put (cs:=#[.string t350,.int .i64 t351,.int .i64 t352,.int .i64 x343003_1,.int .i64 x343004_1]) ?_ 3 _ rfl;(with_reducible repeat (first|apply qD|apply qE|apply qF));refine blk_put (cs:=#[.string t350,.int .i64 t351,.int .i64 x343002_1,.int .i64 x343003_1,.int .i64 x343004_1]) ?_ 2 _ rfl;(with_reducible repeat (first|apply qD|apply qE|apply qF));refine blk_put (cs:=#[.string t350,.int .i64 x343001_1,.int .i64 x343002_1,.int .i64 x343003_1,.int .i64 x343004_1]) ?_ 1 _ rfl;(with_reducible repeat (first|apply qD|apply qE|apply qF));refine blk_put (cs:=#[.string x343000_1,.int .i64 x343001_1,.int .i64 x343002_1,.int .i64 x343003_1,.int .i64 x343004_1]) ?_ 0 _ rfl;(with_reducible repeat (first|apply qD|apply qE|apply qF));exact BK342.out⟩,⟨by repeat (first|(with_reducible first|exact HB.out|apply qJ|apply qK|apply qL|refine qR ?_ GE341.out|refine qR ?_ GE342.out)|exact HB.out)⟩⟩
      ·replace c15:=Bool.eq_false_iff.mpr c15
       subst c15
       have H1 : ((copperplateref18_Print.f x343000_1 x343001_1 x343002_1 x343003_1 x343004_1 l0 x8_1 false).bind fun bt355=>(copperplateref18_Upto.l0 kj8 l0 a1 a2 (wrap64 (x8_1+1)) bt355.1 bt355.2.1 bt355.2.2.1 bt355.2.2.2.1 bt355.2.2.2.2))=some (r1,r2,r3,r4,r5):=by rw [if_neg (show ¬ (false=true) by decide)] at H;exact H
       clear H
       have H:=H1
       clear H1
       replace H:=Option.bind_eq_some_iff.mp H
       obtain ⟨⟨t355,t356,t357,t358,t359⟩,A300,H⟩:=H
       replace H : (copperplateref18_Upto.l0 kj8 l0 a1 a2 (wrap64 (x8_1+1)) t355 t356 t357 t358 t359)=some (r1,r2,r3,r4,r5):=H
       have A30:=qM A300
       clear A300
       have H':=qM H
       clear H
       have hnb31:=NB342_341.out
       have hnc31:=NB341_342.out
       have hcz32_0 : wc.cell? ⟨gb342,0,none⟩=some (.string x343000_1):=(blk_cell BK342.out 0).trans rfl
       have hcz32_1 : wc.cell? ⟨gb342,1,none⟩=some (.int .i64 x343001_1):=(blk_cell BK342.out 1).trans rfl
       have hcz32_2 : wc.cell? ⟨gb342,2,none⟩=some (.int .i64 x343002_1):=(blk_cell BK342.out 2).trans rfl
       have hcz32_3 : wc.cell? ⟨gb342,3,none⟩=some (.int .i64 x343003_1):=(blk_cell BK342.out 3).trans rfl
       have hcz32_4 : wc.cell? ⟨gb342,4,none⟩=some (.int .i64 x343004_1):=(blk_cell BK342.out 4).trans rfl
       have hfz32_0:=blk_frozen BK342.out 0
       have hfz32_1:=blk_frozen BK342.out 1
       have hfz32_2:=blk_frozen BK342.out 2
       have hfz32_3:=blk_frozen BK342.out 3
       have hfz32_4:=blk_frozen BK342.out 4
       go_wp2_with (first|((with_reducible refine gate_callee (f:=35) rfl ?_);refine goesL_ (some 45) rfl rfl Try.func35 (by kernel_rfl) rfl #[.agg #[.string x343000_1,.int .i64 x343001_1,.int .i64 x343002_1,.int .i64 x343003_1,.int .i64 x343004_1],.slice A0 l0.length c0,.int .i64 x8_1,.bool false] rfl (by (try simp only [List.map_toArray,List.map_cons,List.map_nil]);first|done|rfl|(simp only [List.length_drop,List.length_take];rfl)) ?_;(with_reducible refine (copperplateref18_Print.calls x343000_1 x343001_1 x343002_1 x343003_1 x343004_1 _ _ l0 x8_1 false t355 t356 t357 t358 t359 _ ?side1 ?side2 A30.out).mono ?_);(case side1=>repeat (first|exact (Kd.C_below HR0.out HB.out)|(with_reducible first|apply qO|apply qP|apply qQ)));(case side2=>exact HC0.out);(try clear A30); rintro e w33 ⟨rfl,hb⟩;refine ⟨_,rfl,?_⟩;have n0_:=qM (blk_below (g:=gb341) (o:=.cells #[.string (⟨#[]⟩ : ByteArray),.int .i64 0,.int .i64 0,.int .i64 0,.int .i64 0] 39 (0,0)) (by (with_reducible repeat (first|apply qD|apply qE|apply qF));exact BK341.out) hb);have n1_:=qM (blk_below (g:=gb342) (o:=.cells #[.string x343000_1,.int .i64 x343001_1,.int .i64 x343002_1,.int .i64 x343003_1,.int .i64 x343004_1] 39 (0,0)) (by (with_reducible repeat (first|apply qD|apply qE|apply qF));exact BK342.out) hb);have n2_:=qM (below_step (by repeat first|exact HB.out|apply qJ|apply qK|apply qL|refine qR ?_ GE341.out|refine qR ?_ GE342.out) hb);clear BK341;clear BK342;clear HB;have BK341:=n0_;have BK342:=n1_;have HB:=n2_;clear n0_ n1_ n2_;(try clear hb);(try clear hb2);(try clear hk);(try clear hi);have hcz34_0 : w33.cell? ⟨gb342,0,none⟩=some (.string x343000_1):=(blk_cell BK342.out 0).trans rfl;have hcz34_1 : w33.cell? ⟨gb342,1,none⟩=some (.int .i64 x343001_1):=(blk_cell BK342.out 1).trans rfl;have hcz34_2 : w33.cell? ⟨gb342,2,none⟩=some (.int .i64 x343002_1):=(blk_cell BK342.out 2).trans rfl;have hcz34_3 : w33.cell? ⟨gb342,3,none⟩=some (.int .i64 x343003_1):=(blk_cell BK342.out 3).trans rfl;have hcz34_4 : w33.cell? ⟨gb342,4,none⟩=some (.int .i64 x343004_1):=(blk_cell BK342.out 4).trans rfl;have hfz34_0:=blk_frozen BK342.out 0;have hfz34_1:=blk_frozen BK342.out 1;have hfz34_2:=blk_frozen BK342.out 2;have hfz34_3:=blk_frozen BK342.out 3;have hfz34_4:=blk_frozen BK342.out 4))
       go_roundg kj8
       case measure=>have:=HK1.out;have:=HJ8.out;omega
       case rel=>exact ⟨(wrap64 (x8_1+1)),(t355),(t356),(t357),(t358),(t359),(by first|rfl|(simp;done)|(simp [*];done)),H',⟨by have:=HK1.out;have:=HJ8.out;omega⟩,⟨by (with_reducible repeat (first|apply qD|apply qE|apply qF));refine blk_far ?_ NB341_342.out _;(with_reducible repeat (first|apply qD|apply qE|apply qF));refine blk_far ?_ NB341_342.out _;(with_reducible repeat (first|apply qD|apply qE|apply qF));refine blk_far ?_ NB341_342.out _;(with_reducible repeat (first|apply qD|apply qE|apply qF));refine blk_far ?_ NB341_342.out _;(with_reducible repeat (first|apply qD|apply qE|apply qF));refine blk_far ?_ NB341_342.out _;(with_reducible repeat (first|apply qD|apply qE|apply qF));exact BK341.out⟩,⟨by (with_reducible repeat (first|apply qD|apply qE|apply qF));refine blk_put (cs:=#[.string t355,.int .i64 t356,.int .i64 t357,.int .i64 t358,.int .i64 x343004_1]) ?_ 4 _ rfl;(with_reducible repeat (first|apply qD|apply qE|apply qF));refine blk_put (cs:=#[.string t355,.int .i64 t356,.int .i64 t357,.int .i64 x343003_1,.int .i64 x343004_1]) ?_ 3 _ rfl;(with_reducible repeat (first|apply qD|apply qE|apply qF));refine blk_put (cs:=#[.string t355,.int .i64 t356,.int .i64 x343002_1,.int .i64 x343003_1,.int .i64 x343004_1]) ?_ 2 _ rfl;(with_reducible repeat (first|apply qD|apply qE|apply qF));refine blk_put (cs:=#[.string t355,.int .i64 x343001_1,.int .i64 x343002_1,.int .i64 x343003_1,.int .i64 x343004_1]) ?_ 1 _ rfl;(with_reducible repeat (first|apply qD|apply qE|apply qF));refine blk_put (cs:=#[.string x343000_1,.int .i64 x343001_1,.int .i64 x343002_1,.int .i64 x343003_1,.int .i64 x343004_1]) ?_ 0 _ rfl;(with_reducible repeat (first|apply qD|apply qE|apply qF));exact BK342.out⟩,⟨by repeat (first|(with_reducible first|exact HB.out|apply qJ|apply qK|apply qL|refine qR ?_ GE341.out|refine qR ?_ GE342.out)|exact HB.out)⟩⟩
   ·rw [if_neg c8] at H
    have c8b0 : decide (x8_1 < a2)=false:=decide_eq_false c8
    clear c8
    simp only [Option.some.injEq,Prod.mk.injEq] at H
    obtain ⟨rfl,rfl,rfl,rfl,rfl⟩:=H
    have hnb35:=NB342_341.out
    have hnc35:=NB341_342.out
    have hcz36_0 : wr.cell? ⟨gb342,0,none⟩=some (.string x343000_1):=(blk_cell BK342.out 0).trans rfl
    have hcz36_1 : wr.cell? ⟨gb342,1,none⟩=some (.int .i64 x343001_1):=(blk_cell BK342.out 1).trans rfl
    have hcz36_2 : wr.cell? ⟨gb342,2,none⟩=some (.int .i64 x343002_1):=(blk_cell BK342.out 2).trans rfl
    have hcz36_3 : wr.cell? ⟨gb342,3,none⟩=some (.int .i64 x343003_1):=(blk_cell BK342.out 3).trans rfl
    have hcz36_4 : wr.cell? ⟨gb342,4,none⟩=some (.int .i64 x343004_1):=(blk_cell BK342.out 4).trans rfl
    have hfz36_0:=blk_frozen BK342.out 0
    have hfz36_1:=blk_frozen BK342.out 1
    have hfz36_2:=blk_frozen BK342.out 2
    have hfz36_3:=blk_frozen BK342.out 3
    have hfz36_4:=blk_frozen BK342.out 4
    have hcz37_0 : wr.cell? ⟨gb341,0,none⟩=some (.string (⟨#[]⟩ : ByteArray)):=(blk_cell BK341.out 0).trans rfl
    have hcz37_1 : wr.cell? ⟨gb341,1,none⟩=some (.int .i64 0):=(blk_cell BK341.out 1).trans rfl
    have hcz37_2 : wr.cell? ⟨gb341,2,none⟩=some (.int .i64 0):=(blk_cell BK341.out 2).trans rfl
    have hcz37_3 : wr.cell? ⟨gb341,3,none⟩=some (.int .i64 0):=(blk_cell BK341.out 3).trans rfl
    have hcz37_4 : wr.cell? ⟨gb341,4,none⟩=some (.int .i64 0):=(blk_cell BK341.out 4).trans rfl
    have hfz37_0:=blk_frozen BK341.out 0
    have hfz37_1:=blk_frozen BK341.out 1
    have hfz37_2:=blk_frozen BK341.out 2
    have hfz37_3:=blk_frozen BK341.out 3
    have hfz37_4:=blk_frozen BK341.out 4
    go_wp2
    refine bodyPost_ret (results_cell_row rfl _ _ gb341 39 #[.string x343000_1,.int .i64 x343001_1,.int .i64 x343002_1,.int .i64 x343003_1,.int .i64 x343004_1] (0,0) _ rfl (by (with_reducible repeat (first|apply qD|apply qE|apply qF));refine blk_put (cs:=#[.string x343000_1,.int .i64 x343001_1,.int .i64 x343002_1,.int .i64 x343003_1,.int .i64 0]) ?_ 4 _ rfl;(with_reducible repeat (first|apply qD|apply qE|apply qF));refine blk_put (cs:=#[.string x343000_1,.int .i64 x343001_1,.int .i64 x343002_1,.int .i64 0,.int .i64 0]) ?_ 3 _ rfl;(with_reducible repeat (first|apply qD|apply qE|apply qF));refine blk_put (cs:=#[.string x343000_1,.int .i64 x343001_1,.int .i64 0,.int .i64 0,.int .i64 0]) ?_ 2 _ rfl;(with_reducible repeat (first|apply qD|apply qE|apply qF));refine blk_put (cs:=#[.string x343000_1,.int .i64 0,.int .i64 0,.int .i64 0,.int .i64 0]) ?_ 1 _ rfl;(with_reducible repeat (first|apply qD|apply qE|apply qF));refine blk_put (cs:=#[.string (⟨#[]⟩ : ByteArray),.int .i64 0,.int .i64 0,.int .i64 0,.int .i64 0]) ?_ 0 _ rfl;(with_reducible repeat (first|apply qD|apply qE|apply qF));exact BK341.out) Try.underlying39 rfl (by kernel_rfl)) rfl ?_
    exact ⟨by first|rfl|(simp [errW_none,errW_some] <;> rfl)|(simp [*,errW_none,errW_some] <;> rfl),by repeat (first|(with_reducible first|exact HB.out|apply qJ|apply qK|apply qL|refine qR ?_ GE341.out|refine qR ?_ GE342.out)|exact HB.out)⟩

/-! ### copperplateref18_Lay: function 12 -/
def copperplateref18_Lay.f (k : Nat) (l0 : List (S31)) (a1 : Int) : Option (ByteArray × Bool):=(copperplateref18_Room.f k l0 a1).bind fun t360=>(if t360=true then ((copperplateref18_Upto.f k l0 a1 (l0.length : Int)).bind fun bt361=>(some (bt361.1,true))) else (some ((⟨#[]⟩ : ByteArray),false)))
theorem copperplateref18_Lay.mono : ∀ a0 a1 k,LeO (copperplateref18_Lay.f k a0 a1) (copperplateref18_Lay.f (k+1) a0 a1):=by
 intro a0 a1 k
 unfold copperplateref18_Lay.f
 repeat' first
   | (with_reducible exact copperplateref18_Room.mono _ _ _)
   | (with_reducible exact copperplateref18_Upto.mono _ _ _ _)
   | (with_reducible exact LeO.refl _)
   | (with_reducible exact LeO.none _)
   | (with_reducible refine LeO.ite ?_ ?_)
   | (with_reducible refine LeO.bind ?_ (fun _=>?_))
   | exact copperplateref18_Room.mono _ _ _
   | exact copperplateref18_Upto.mono _ _ _ _
   | exact LeO.none _
   | refine LeO.ite ?_ ?_
   | refine LeO.bind ?_ (fun _=>?_)
set_option maxHeartbeats 8000000 in
set_option maxRecDepth 100000 in
theorem copperplateref18_Lay.calls (k : Nat) (A0 : Option Addr) (c0 : Nat) (l0 : List (S31)) (a1 : Int) (r1 : ByteArray) (r2 : Bool) (w : World) (hr0 : Kd.C k31 w A0 l0.length l0) (hc0 : l0.length≤c0) (h : copperplateref18_Lay.f k l0 a1=some (r1,r2)) :
  Calls Try.prog 12 #[.slice A0 l0.length c0,.int .i64 a1] w fun e w'=>e=.returned (.tuple #[.string r1,.bool r2])∧Below w.heap.size w w':=by
 have hu39:=Try.underlying39
 have HR0:=qM hr0
 have HC0:=qM hc0
 clear hr0 hc0
 have HB:=qM (Below.refl w.heap.size w)
 have H : ((copperplateref18_Room.f k l0 a1).bind fun t360=>(if t360=true then ((copperplateref18_Upto.f k l0 a1 (l0.length : Int)).bind fun bt361=>(some (bt361.1,true))) else (some ((⟨#[]⟩ : ByteArray),false))))=some (r1,r2):=h
 clear h
 replace H:=Option.bind_eq_some_iff.mp H
 obtain ⟨t360,A30,H⟩:=H
 replace H : (if t360=true then ((copperplateref18_Upto.f k l0 a1 (l0.length : Int)).bind fun bt361=>(some (bt361.1,true))) else (some ((⟨#[]⟩ : ByteArray),false)))=some (r1,r2):=H
 have A3:=qM A30
 clear A30
 by_cases c4 : t360=true
 ·subst c4
  have H1 : ((copperplateref18_Upto.f k l0 a1 (l0.length : Int)).bind fun bt361=>(some (bt361.1,true)))=some (r1,r2):=by rw [if_pos rfl] at H;exact H
  clear H
  have H:=H1
  clear H1
  replace H:=Option.bind_eq_some_iff.mp H
  obtain ⟨⟨t361,t362,t363,t364,t365⟩,A50,H⟩:=H
  replace H : (some (t361,true))=some (r1,r2):=H
  have A5:=qM A50
  clear A50
  simp only [Option.some.injEq,Prod.mk.injEq] at H
  obtain ⟨rfl,rfl⟩:=H
  go_enter Try.func12,Try.ntmps12
  go_wp2_with (first|((with_reducible refine gate_callee (f:=13) rfl ?_);refine goesL_ (some 10) rfl rfl Try.func13 (by kernel_rfl) rfl #[.slice A0 l0.length c0,.int .i64 a1] rfl (by (try simp only [List.map_toArray,List.map_cons,List.map_nil]);first|done|rfl|(simp only [List.length_drop,List.length_take];rfl)) ?_;(with_reducible refine (copperplateref18_Room.calls k _ _ l0 a1 true _ ?side1 ?side2 A3.out).mono ?_);(case side1=>repeat (first|exact HR0.out|(with_reducible first|apply qO|apply qP|apply qQ)));(case side2=>exact HC0.out);(try clear A3); rintro e w' ⟨rfl,⟨nd,rfl⟩⟩;refine ⟨_,rfl,?_⟩)|((with_reducible refine gate_callee (f:=21) rfl ?_);refine goesL_ (some 17) rfl rfl Try.func21 (by kernel_rfl) rfl #[.slice A0 l0.length c0,.int .i64 a1,.int .i64 (l0.length : Int)] rfl (by (try simp only [List.map_toArray,List.map_cons,List.map_nil]);first|done|rfl|(simp only [List.length_drop,List.length_take];rfl)) ?_;(with_reducible refine (copperplateref18_Upto.calls k _ _ l0 a1 (l0.length : Int) t361 t362 t363 t364 t365 _ ?side1 ?side2 A5.out).mono ?_);(case side1=>repeat (first|exact HR0.out|(with_reducible first|apply qO|apply qP|apply qQ)));(case side2=>exact HC0.out);(try clear A5); rintro e w6 ⟨rfl,hb⟩;refine ⟨_,rfl,?_⟩;have n0_:=qM (below_step (by repeat first|exact HB.out|apply qJ|apply qK|apply qL) hb);clear HB;have HB:=n0_;clear n0_;(try clear hb);(try clear hb2);(try clear hk);(try clear hi))|((with_reducible refine gate_dst (N:=7) rfl ?_);refine box_event ?hg (N:=7) ?hd (cs:=#[.string (⟨#[]⟩ : ByteArray),.int .i64 0,.int .i64 0,.int .i64 0,.int .i64 0]) (t:=39) ?hr ?_;(case hd=>rfl);(case hg=>rfl);(case hr=>first|(go_simp;done)|(go_simp;rfl));intro gb366 hg w7 hbox hb;have n0_:=qM (below_step (by repeat first|exact HB.out|apply qJ|apply qK|apply qL) hb);have n1_:=qM (hbox);have n2_:=qM ((by rw [hg];exact (below_size (by repeat first|exact HB.out|apply qJ|apply qK|apply qL)) : w.heap.size≤gb366));have n3_:=qM ((by rw [hg];exact (below_size (by repeat first|exact HB.out|apply qJ|apply qK|apply qL)) : w.heap.size≤gb366));clear HB;have HB:=n0_;have BK366:=n1_;have GW366:=n2_;have GE366:=n3_;clear n0_ n1_ n2_ n3_;clear hb hbox hg;have hcz8_0 : w7.cell? ⟨gb366,0,none⟩=some (.string (⟨#[]⟩ : ByteArray)):=(blk_cell BK366.out 0).trans rfl;have hcz8_1 : w7.cell? ⟨gb366,1,none⟩=some (.int .i64 0):=(blk_cell BK366.out 1).trans rfl;have hcz8_2 : w7.cell? ⟨gb366,2,none⟩=some (.int .i64 0):=(blk_cell BK366.out 2).trans rfl;have hcz8_3 : w7.cell? ⟨gb366,3,none⟩=some (.int .i64 0):=(blk_cell BK366.out 3).trans rfl;have hcz8_4 : w7.cell? ⟨gb366,4,none⟩=some (.int .i64 0):=(blk_cell BK366.out 4).trans rfl;have hfz8_0:=blk_frozen BK366.out 0;have hfz8_1:=blk_frozen BK366.out 1;have hfz8_2:=blk_frozen BK366.out 2;have hfz8_3:=blk_frozen BK366.out 3;have hfz8_4:=blk_frozen BK366.out 4))
  go_ret2
  exact ⟨by first|rfl|(simp [errW_none,errW_some] <;> rfl)|(simp [*,errW_none,errW_some] <;> rfl),by repeat (first|(with_reducible first|exact HB.out|apply qJ|apply qK|apply qL|refine qR ?_ GE366.out)|exact HB.out)⟩
 ·replace c4:=Bool.eq_false_iff.mpr c4
  subst c4
  have H1 : (some ((⟨#[]⟩ : ByteArray),false))=some (r1,r2):=by rw [if_neg (show ¬ (false=true) by decide)] at H;exact H
  clear H
  have H:=H1
  clear H1
  simp only [Option.some.injEq,Prod.mk.injEq] at H
  obtain ⟨rfl,rfl⟩:=H
  go_enter Try.func12,Try.ntmps12
  go_wp2_with (first|((with_reducible refine gate_callee (f:=13) rfl ?_);refine goesL_ (some 10) rfl rfl Try.func13 (by kernel_rfl) rfl #[.slice A0 l0.length c0,.int .i64 a1] rfl (by (try simp only [List.map_toArray,List.map_cons,List.map_nil]);first|done|rfl|(simp only [List.length_drop,List.length_take];rfl)) ?_;(with_reducible refine (copperplateref18_Room.calls k _ _ l0 a1 false _ ?side1 ?side2 A3.out).mono ?_);(case side1=>repeat (first|exact HR0.out|(with_reducible first|apply qO|apply qP|apply qQ)));(case side2=>exact HC0.out);(try clear A3); rintro e w' ⟨rfl,⟨nd,rfl⟩⟩;refine ⟨_,rfl,?_⟩))
  go_ret2
  exact ⟨by first|rfl|(simp [errW_none,errW_some] <;> rfl)|(simp [*,errW_none,errW_some] <;> rfl),by repeat (first|(with_reducible first|exact HB.out|apply qJ|apply qK|apply qL)|exact HB.out)⟩

/-! ### copperplateref18_Col: function 16 -/
def copperplateref18_Col.f (k : Nat) (l0 : List (S31)) (a1 : Int) (a2 : Int) : Option (Int):=(copperplateref18_Room.f k l0 a1).bind fun t367=>(if t367=true then (if a2 < 0 then (some (-1)) else (if a2 > (l0.length : Int) then (some (-1)) else ((copperplateref18_Upto.f k l0 a1 a2).bind fun bt368=>(some bt368.2.2.1)))) else (some (-1)))
theorem copperplateref18_Col.mono : ∀ a0 a1 a2 k,LeO (copperplateref18_Col.f k a0 a1 a2) (copperplateref18_Col.f (k+1) a0 a1 a2):=by
 intro a0 a1 a2 k
 unfold copperplateref18_Col.f
 repeat' first
   | (with_reducible exact copperplateref18_Room.mono _ _ _)
   | (with_reducible exact copperplateref18_Upto.mono _ _ _ _)
   | (with_reducible exact LeO.refl _)
   | (with_reducible exact LeO.none _)
   | (with_reducible refine LeO.ite ?_ ?_)
   | (with_reducible refine LeO.bind ?_ (fun _=>?_))
   | exact copperplateref18_Room.mono _ _ _
   | exact copperplateref18_Upto.mono _ _ _ _
   | exact LeO.none _
   | refine LeO.ite ?_ ?_
   | refine LeO.bind ?_ (fun _=>?_)
set_option maxHeartbeats 8000000 in
set_option maxRecDepth 100000 in
theorem copperplateref18_Col.calls (k : Nat) (A0 : Option Addr) (c0 : Nat) (l0 : List (S31)) (a1 : Int) (a2 : Int) (r : Int) (w : World) (hr0 : Kd.C k31 w A0 l0.length l0) (hc0 : l0.length≤c0) (h : copperplateref18_Col.f k l0 a1 a2=some r) :
  Calls Try.prog 16 #[.slice A0 l0.length c0,.int .i64 a1,.int .i64 a2] w fun e w'=>e=.returned (.int .i64 r)∧Below w.heap.size w w':=by
 have hu39:=Try.underlying39
 have HR0:=qM hr0
 have HC0:=qM hc0
 clear hr0 hc0
 have HB:=qM (Below.refl w.heap.size w)
 have H : ((copperplateref18_Room.f k l0 a1).bind fun t367=>(if t367=true then (if a2 < 0 then (some (-1)) else (if a2 > (l0.length : Int) then (some (-1)) else ((copperplateref18_Upto.f k l0 a1 a2).bind fun bt368=>(some bt368.2.2.1)))) else (some (-1))))=some r:=h
 clear h
 replace H:=Option.bind_eq_some_iff.mp H
 obtain ⟨t367,A40,H⟩:=H
 replace H : (if t367=true then (if a2 < 0 then (some (-1)) else (if a2 > (l0.length : Int) then (some (-1)) else ((copperplateref18_Upto.f k l0 a1 a2).bind fun bt368=>(some bt368.2.2.1)))) else (some (-1)))=some r:=H
 have A4:=qM A40
 clear A40
 by_cases c5 : t367=true
 ·subst c5
  have H1 : (if a2 < 0 then (some (-1)) else (if a2 > (l0.length : Int) then (some (-1)) else ((copperplateref18_Upto.f k l0 a1 a2).bind fun bt368=>(some bt368.2.2.1))))=some r:=by rw [if_pos rfl] at H;exact H
  clear H
  have H:=H1
  clear H1
  by_cases c6 : a2 < 0
  ·rw [if_pos c6] at H
   have c6b0 : decide (a2 < 0)=true:=decide_eq_true c6
   clear c6
   obtain rfl:=Option.some.inj H
   go_enter Try.func16,Try.ntmps16
   go_wp2_with (first|((with_reducible refine gate_callee (f:=13) rfl ?_);refine goesL_ (some 11) rfl rfl Try.func13 (by kernel_rfl) rfl #[.slice A0 l0.length c0,.int .i64 a1] rfl (by (try simp only [List.map_toArray,List.map_cons,List.map_nil]);first|done|rfl|(simp only [List.length_drop,List.length_take];rfl)) ?_;(with_reducible refine (copperplateref18_Room.calls k _ _ l0 a1 true _ ?side1 ?side2 A4.out).mono ?_);(case side1=>repeat (first|exact HR0.out|(with_reducible first|apply qO|apply qP|apply qQ)));(case side2=>exact HC0.out);(try clear A4); rintro e w' ⟨rfl,⟨nd,rfl⟩⟩;refine ⟨_,rfl,?_⟩))
   go_ret
   exact ⟨by first|rfl|(simp [errW_none,errW_some] <;> rfl)|(simp [*,errW_none,errW_some] <;> rfl),by repeat (first|(with_reducible first|exact HB.out|apply qJ|apply qK|apply qL)|exact HB.out)⟩
  ·rw [if_neg c6] at H
   have c6b0 : decide (a2 < 0)=false:=decide_eq_false c6
   clear c6
   by_cases c7 : a2 > (l0.length : Int)
   ·rw [if_pos c7] at H
    have c7b0 : decide ((l0.length : Int) < a2)=true:=decide_eq_true c7
    clear c7
    obtain rfl:=Option.some.inj H
    go_enter Try.func16,Try.ntmps16
    go_wp2_with (first|((with_reducible refine gate_callee (f:=13) rfl ?_);refine goesL_ (some 11) rfl rfl Try.func13 (by kernel_rfl) rfl #[.slice A0 l0.length c0,.int .i64 a1] rfl (by (try simp only [List.map_toArray,List.map_cons,List.map_nil]);first|done|rfl|(simp only [List.length_drop,List.length_take];rfl)) ?_;(with_reducible refine (copperplateref18_Room.calls k _ _ l0 a1 true _ ?side1 ?side2 A4.out).mono ?_);(case side1=>repeat (first|exact HR0.out|(with_reducible first|apply qO|apply qP|apply qQ)));(case side2=>exact HC0.out);(try clear A4); rintro e w' ⟨rfl,⟨nd,rfl⟩⟩;refine ⟨_,rfl,?_⟩))
    go_ret
    exact ⟨by first|rfl|(simp [errW_none,errW_some] <;> rfl)|(simp [*,errW_none,errW_some] <;> rfl),by repeat (first|(with_reducible first|exact HB.out|apply qJ|apply qK|apply qL)|exact HB.out)⟩
   ·rw [if_neg c7] at H
    have c7b0 : decide ((l0.length : Int) < a2)=false:=decide_eq_false c7
    clear c7
    replace H:=Option.bind_eq_some_iff.mp H
    obtain ⟨⟨t368,t369,t370,t371,t372⟩,A80,H⟩:=H
    replace H : (some t370)=some r:=H
    have A8:=qM A80
    clear A80
    obtain rfl:=Option.some.inj H
    go_enter Try.func16,Try.ntmps16
    go_wp2_with (first|((with_reducible refine gate_callee (f:=13) rfl ?_);refine goesL_ (some 11) rfl rfl Try.func13 (by kernel_rfl) rfl #[.slice A0 l0.length c0,.int .i64 a1] rfl (by (try simp only [List.map_toArray,List.map_cons,List.map_nil]);first|done|rfl|(simp only [List.length_drop,List.length_take];rfl)) ?_;(with_reducible refine (copperplateref18_Room.calls k _ _ l0 a1 true _ ?side1 ?side2 A4.out).mono ?_);(case side1=>repeat (first|exact HR0.out|(with_reducible first|apply qO|apply qP|apply qQ)));(case side2=>exact HC0.out);(try clear A4); rintro e w' ⟨rfl,⟨nd,rfl⟩⟩;refine ⟨_,rfl,?_⟩)|((with_reducible refine gate_callee (f:=21) rfl ?_);refine goesL_ (some 27) rfl rfl Try.func21 (by kernel_rfl) rfl #[.slice A0 l0.length c0,.int .i64 a1,.int .i64 a2] rfl (by (try simp only [List.map_toArray,List.map_cons,List.map_nil]);first|done|rfl|(simp only [List.length_drop,List.length_take];rfl)) ?_;(with_reducible refine (copperplateref18_Upto.calls k _ _ l0 a1 a2 t368 t369 t370 t371 t372 _ ?side1 ?side2 A8.out).mono ?_);(case side1=>repeat (first|exact HR0.out|(with_reducible first|apply qO|apply qP|apply qQ)));(case side2=>exact HC0.out);(try clear A8); rintro e w9 ⟨rfl,hb⟩;refine ⟨_,rfl,?_⟩;have n0_:=qM (below_step (by repeat first|exact HB.out|apply qJ|apply qK|apply qL) hb);clear HB;have HB:=n0_;clear n0_;(try clear hb);(try clear hb2);(try clear hk);(try clear hi))|((with_reducible refine gate_dst (N:=8) rfl ?_);refine box_event ?hg (N:=8) ?hd (cs:=#[.string (⟨#[]⟩ : ByteArray),.int .i64 0,.int .i64 0,.int .i64 0,.int .i64 0]) (t:=39) ?hr ?_;(case hd=>rfl);(case hg=>rfl);(case hr=>first|(go_simp;done)|(go_simp;rfl));intro gb373 hg w10 hbox hb;have n0_:=qM (below_step (by repeat first|exact HB.out|apply qJ|apply qK|apply qL) hb);have n1_:=qM (hbox);have n2_:=qM ((by rw [hg];exact (below_size (by repeat first|exact HB.out|apply qJ|apply qK|apply qL)) : w.heap.size≤gb373));have n3_:=qM ((by rw [hg];exact (below_size (by repeat first|exact HB.out|apply qJ|apply qK|apply qL)) : w.heap.size≤gb373));clear HB;have HB:=n0_;have BK373:=n1_;have GW373:=n2_;have GE373:=n3_;clear n0_ n1_ n2_ n3_;clear hb hbox hg;have hcz11_0 : w10.cell? ⟨gb373,0,none⟩=some (.string (⟨#[]⟩ : ByteArray)):=(blk_cell BK373.out 0).trans rfl;have hcz11_1 : w10.cell? ⟨gb373,1,none⟩=some (.int .i64 0):=(blk_cell BK373.out 1).trans rfl;have hcz11_2 : w10.cell? ⟨gb373,2,none⟩=some (.int .i64 0):=(blk_cell BK373.out 2).trans rfl;have hcz11_3 : w10.cell? ⟨gb373,3,none⟩=some (.int .i64 0):=(blk_cell BK373.out 3).trans rfl;have hcz11_4 : w10.cell? ⟨gb373,4,none⟩=some (.int .i64 0):=(blk_cell BK373.out 4).trans rfl;have hfz11_0:=blk_frozen BK373.out 0;have hfz11_1:=blk_frozen BK373.out 1;have hfz11_2:=blk_frozen BK373.out 2;have hfz11_3:=blk_frozen BK373.out 3;have hfz11_4:=blk_frozen BK373.out 4))
    go_ret
    exact ⟨by first|rfl|(simp [errW_none,errW_some] <;> rfl)|(simp [*,errW_none,errW_some] <;> rfl),by repeat (first|(with_reducible first|exact HB.out|apply qJ|apply qK|apply qL|refine qR ?_ GE373.out)|exact HB.out)⟩
 ·replace c5:=Bool.eq_false_iff.mpr c5
  subst c5
  have H1 : (some (-1))=some r:=by rw [if_neg (show ¬ (false=true) by decide)] at H;exact H
  clear H
  have H:=H1
  clear H1
  obtain rfl:=Option.some.inj H
  go_enter Try.func16,Try.ntmps16
  go_wp2_with (first|((with_reducible refine gate_callee (f:=13) rfl ?_);refine goesL_ (some 11) rfl rfl Try.func13 (by kernel_rfl) rfl #[.slice A0 l0.length c0,.int .i64 a1] rfl (by (try simp only [List.map_toArray,List.map_cons,List.map_nil]);first|done|rfl|(simp only [List.length_drop,List.length_take];rfl)) ?_;(with_reducible refine (copperplateref18_Room.calls k _ _ l0 a1 false _ ?side1 ?side2 A4.out).mono ?_);(case side1=>repeat (first|exact HR0.out|(with_reducible first|apply qO|apply qP|apply qQ)));(case side2=>exact HC0.out);(try clear A4); rintro e w' ⟨rfl,⟨nd,rfl⟩⟩;refine ⟨_,rfl,?_⟩))
  go_ret
  exact ⟨by first|rfl|(simp [errW_none,errW_some] <;> rfl)|(simp [*,errW_none,errW_some] <;> rfl),by repeat (first|(with_reducible first|exact HB.out|apply qJ|apply qK|apply qL)|exact HB.out)⟩

/-! ### copperplatelaw18_WideTells: function 3 -/
def copperplatelaw18_WideTells.j0 : Nat→List (S31)→Int→Int→Bool→Bool→Option (Bool)
 | 0,_,_,_,_,_=>none
 | k+1,x0,x1,x2,x7,x20=>if x20=true then (some x7) else ((wide_Lay.f x0 x1).bind fun bt375=>((copperplateref18_Lay.f k x0 x1).bind fun bt377=>((copperplateref18_Room.f k x0 x1).bind fun t379=>(if bt375.1.toList=bt377.1.toList then (if (bt375.2 == bt377.2)=true then ((wide_Room.f x0 x1).bind fun t380=>(if (t380 == t379)=true then ((wide_Col.f x0 x1 x2).bind fun t381=>((copperplateref18_Col.f k x0 x1 x2).bind fun t382=>(some (t381 == t382)))) else (some false))) else (some false)) else (some false)))))
def copperplatelaw18_WideTells.f (k : Nat) (l0 : List (S31)) (a1 : Int) (a2 : Int) : Option (Bool):=(copperplatelaw18_awake.f).bind fun t374=>(if t374=true then (copperplatelaw18_WideTells.j0 k l0 a1 a2 t374 (decide ((l0.length : Int) > 300))) else (copperplatelaw18_WideTells.j0 k l0 a1 a2 t374 true))
theorem copperplatelaw18_WideTells.mono_l : ∀ k,(∀ y0 y1 y2 y3 y4,LeO (copperplatelaw18_WideTells.j0 k y0 y1 y2 y3 y4) (copperplatelaw18_WideTells.j0 (k+1) y0 y1 y2 y3 y4))
 | 0=>fun _ _ _ _ _ r h=>by simp [copperplatelaw18_WideTells.j0] at h
 | k+1=>by
  have ih0:=copperplatelaw18_WideTells.mono_l k
  ·intro y0 y1 y2 y3 y4
   unfold copperplatelaw18_WideTells.j0
   repeat' first
   | (with_reducible exact ih0 _ _ _ _ _)
   | (with_reducible exact copperplateref18_Col.mono _ _ _ _)
   | (with_reducible exact copperplateref18_Lay.mono _ _ _)
   | (with_reducible exact copperplateref18_Room.mono _ _ _)
   | (with_reducible exact LeO.refl _)
   | (with_reducible exact LeO.none _)
   | (with_reducible refine LeO.ite ?_ ?_)
   | (with_reducible refine LeO.bind ?_ (fun _=>?_))
   | exact ih0 _ _ _ _ _
   | exact copperplateref18_Col.mono _ _ _ _
   | exact copperplateref18_Lay.mono _ _ _
   | exact copperplateref18_Room.mono _ _ _
   | exact LeO.none _
   | refine LeO.ite ?_ ?_
   | refine LeO.bind ?_ (fun _=>?_)
theorem copperplatelaw18_WideTells.mono : ∀ a0 a1 a2 k,LeO (copperplatelaw18_WideTells.f k a0 a1 a2) (copperplatelaw18_WideTells.f (k+1) a0 a1 a2):=by
 intro a0 a1 a2 k
 have ih0:=copperplatelaw18_WideTells.mono_l k
 unfold copperplatelaw18_WideTells.f
 repeat' first
   | (with_reducible exact ih0 _ _ _ _ _)
   | (with_reducible exact copperplateref18_Col.mono _ _ _ _)
   | (with_reducible exact copperplateref18_Lay.mono _ _ _)
   | (with_reducible exact copperplateref18_Room.mono _ _ _)
   | (with_reducible exact LeO.refl _)
   | (with_reducible exact LeO.none _)
   | (with_reducible refine LeO.ite ?_ ?_)
   | (with_reducible refine LeO.bind ?_ (fun _=>?_))
   | exact ih0 _ _ _ _ _
   | exact copperplateref18_Col.mono _ _ _ _
   | exact copperplateref18_Lay.mono _ _ _
   | exact copperplateref18_Room.mono _ _ _
   | exact LeO.none _
   | refine LeO.ite ?_ ?_
   | refine LeO.bind ?_ (fun _=>?_)
set_option maxHeartbeats 8000000 in
set_option maxRecDepth 100000 in
theorem copperplatelaw18_WideTells.calls (k : Nat) (A0 : Option Addr) (c0 : Nat) (l0 : List (S31)) (a1 : Int) (a2 : Int) (r : Bool) (w : World) (hr0 : Kd.C k31 w A0 l0.length l0) (hc0 : l0.length≤c0) (h : copperplatelaw18_WideTells.f k l0 a1 a2=some r) (hT_ : r=true) :
  Calls Try.prog 3 #[.slice A0 l0.length c0,.int .i64 a1,.int .i64 a2] w fun e w'=>e=.returned (.bool r)∧Below w.heap.size w w':=by
 have HT_:=qM hT_
 clear hT_
 have HR0:=qM hr0
 have HC0:=qM hc0
 clear hr0 hc0
 have HB:=qM (Below.refl w.heap.size w)
 have H : ((copperplatelaw18_awake.f).bind fun t374=>(if t374=true then (copperplatelaw18_WideTells.j0 k l0 a1 a2 t374 (decide ((l0.length : Int) > 300))) else (copperplatelaw18_WideTells.j0 k l0 a1 a2 t374 true)))=some r:=h
 clear h
 replace H:=Option.bind_eq_some_iff.mp H
 obtain ⟨t374,A40,H⟩:=H
 replace H : (if t374=true then (copperplatelaw18_WideTells.j0 k l0 a1 a2 t374 (decide ((l0.length : Int) > 300))) else (copperplatelaw18_WideTells.j0 k l0 a1 a2 t374 true))=some r:=H
 have A4:=qM A40
 clear A40
 have HC5:=qM H
 clear H
 go_enter Try.func3,Try.ntmps3
 go_upto_region 2 with (first|((with_reducible refine gate_callee (f:=10) rfl ?_);refine goesL_ (some 13) rfl rfl Try.func10 (by kernel_rfl) rfl #[] rfl (by (try simp only [List.map_toArray,List.map_cons,List.map_nil]);first|done|rfl|(simp only [List.length_drop,List.length_take];rfl)) ?_;(with_reducible refine (copperplatelaw18_awake.calls  t374 _ A4.out).mono ?_);(try clear A4); rintro e w6 ⟨rfl,hb⟩;refine ⟨_,rfl,?_⟩;have n0_:=qM (below_step (by repeat first|exact HB.out|apply qJ|apply qK|apply qL) hb);clear HB;have HB:=n0_;clear n0_;(try clear hb);(try clear hb2);(try clear hk);(try clear hi)))
 (try simp only [Act.put,qA,qB,qC])
 go_cut [20] (fun v20 wc=>∃ (kq : Nat) (x20_4 : Bool),v20=.bool x20_4∧Aside0 (copperplatelaw18_WideTells.j0 kq l0 a1 a2 t374 x20_4=some r)∧Aside0 (kq≤k)∧Aside0 (Below w.heap.size w wc))
 case first =>
  have H:=HC5.out
  clear HC5
  by_cases c7 : t374=true
  ·subst c7
   have H1 : (copperplatelaw18_WideTells.j0 k l0 a1 a2 true (decide ((l0.length : Int) > 300)))=some r:=by rw [if_pos rfl] at H;exact H
   clear H
   have H:=H1
   clear H1
   have H':=qM H
   clear H
   go_wp2
   go_meet
   case rel=>exact ⟨_,(decide ((l0.length : Int) > 300)),(by first|rfl|(simp;done)|(simp [*];done)),H',⟨by first|omega|exact Nat.le_refl _⟩,⟨by repeat (first|(with_reducible first|exact HB.out|apply qJ|apply qK|apply qL)|exact HB.out)⟩⟩
  ·replace c7:=Bool.eq_false_iff.mpr c7
   subst c7
   have H1 : (copperplatelaw18_WideTells.j0 k l0 a1 a2 false true)=some r:=by rw [if_neg (show ¬ (false=true) by decide)] at H;exact H
   clear H
   have H:=H1
   clear H1
   have H':=qM H
   clear H
   go_wp2
   go_meet
   case rel=>exact ⟨_,(true),(by first|rfl|(simp;done)|(simp [*];done)),H',⟨by first|omega|exact Nat.le_refl _⟩,⟨by repeat (first|(with_reducible first|exact HB.out|apply qJ|apply qK|apply qL)|exact HB.out)⟩⟩
 case rest =>
  clear HC5
  try clear c1
  try clear p2
  try clear c3
  try clear c7
  obtain ⟨kq,x20_4,rfl,HA,HJ4,HB⟩:=hcut
  cases kq with
  | zero=>exact absurd HA.out (by simp [copperplatelaw18_WideTells.j0])
  | succ kj4 =>
   have H:=HA.out
   clear HA
   simp only [copperplatelaw18_WideTells.j0] at H
   by_cases c8 : x20_4=true
   ·subst c8
    have H1 : (some t374)=some r:=by rw [if_pos rfl] at H;exact H
    clear H
    have H:=H1
    clear H1
    obtain rfl:=Option.some.inj H
    go_wp2
    go_ret
    exact ⟨by first|rfl|(simp [errW_none,errW_some] <;> rfl)|(simp [*,errW_none,errW_some] <;> rfl),by repeat (first|(with_reducible first|exact HB.out|apply qJ|apply qK|apply qL)|exact HB.out)⟩
   ·replace c8:=Bool.eq_false_iff.mpr c8
    subst c8
    have H1 : ((wide_Lay.f l0 a1).bind fun bt375=>((copperplateref18_Lay.f kj4 l0 a1).bind fun bt377=>((copperplateref18_Room.f kj4 l0 a1).bind fun t379=>(if bt375.1.toList=bt377.1.toList then (if (bt375.2 == bt377.2)=true then ((wide_Room.f l0 a1).bind fun t380=>(if (t380 == t379)=true then ((wide_Col.f l0 a1 a2).bind fun t381=>((copperplateref18_Col.f kj4 l0 a1 a2).bind fun t382=>(some (t381 == t382)))) else (some false))) else (some false)) else (some false)))))=some r:=by rw [if_neg (show ¬ (false=true) by decide)] at H;exact H
    clear H
    have H:=H1
    clear H1
    replace H:=Option.bind_eq_some_iff.mp H
    obtain ⟨⟨t375,t376⟩,A90,H⟩:=H
    replace H : ((copperplateref18_Lay.f kj4 l0 a1).bind fun bt377=>((copperplateref18_Room.f kj4 l0 a1).bind fun t379=>(if t375.toList=bt377.1.toList then (if (t376 == bt377.2)=true then ((wide_Room.f l0 a1).bind fun t380=>(if (t380 == t379)=true then ((wide_Col.f l0 a1 a2).bind fun t381=>((copperplateref18_Col.f kj4 l0 a1 a2).bind fun t382=>(some (t381 == t382)))) else (some false))) else (some false)) else (some false))))=some r:=H
    have A9:=qM A90
    clear A90
    replace H:=Option.bind_eq_some_iff.mp H
    obtain ⟨⟨t377,t378⟩,A100,H⟩:=H
    replace H : ((copperplateref18_Room.f kj4 l0 a1).bind fun t379=>(if t375.toList=t377.toList then (if (t376 == t378)=true then ((wide_Room.f l0 a1).bind fun t380=>(if (t380 == t379)=true then ((wide_Col.f l0 a1 a2).bind fun t381=>((copperplateref18_Col.f kj4 l0 a1 a2).bind fun t382=>(some (t381 == t382)))) else (some false))) else (some false)) else (some false)))=some r:=H
    have A10:=qM A100
    clear A100
    replace H:=Option.bind_eq_some_iff.mp H
    obtain ⟨t379,A110,H⟩:=H
    replace H : (if t375.toList=t377.toList then (if (t376 == t378)=true then ((wide_Room.f l0 a1).bind fun t380=>(if (t380 == t379)=true then ((wide_Col.f l0 a1 a2).bind fun t381=>((copperplateref18_Col.f kj4 l0 a1 a2).bind fun t382=>(some (t381 == t382)))) else (some false))) else (some false)) else (some false))=some r:=H
    have A11:=qM A110
    clear A110
    by_cases c12 : t375.toList=t377.toList
    ·rw [if_pos c12] at H
     have c12b0 : (t375.toList == t377.toList)=true:=beq_iff_eq.mpr c12
     have c12b1 : (t375.toList != t377.toList)=false:=bne_eq_false_iff_eq.mpr c12
     clear c12
     by_cases c13 : (t376 == t378)=true
     ·rw [if_pos c13] at H
      have c13b0 : (t376 == t378)=true:=c13
      (try (have c13b1 : decide (t376=t378)=true:=by simpa using c13))
      (try (have c13b2 : (t376 == t378)=true:=by simpa using c13))
      clear c13
      replace H:=Option.bind_eq_some_iff.mp H
      obtain ⟨t380,A140,H⟩:=H
      replace H : (if (t380 == t379)=true then ((wide_Col.f l0 a1 a2).bind fun t381=>((copperplateref18_Col.f kj4 l0 a1 a2).bind fun t382=>(some (t381 == t382)))) else (some false))=some r:=H
      have A14:=qM A140
      clear A140
      by_cases c15 : (t380 == t379)=true
      ·rw [if_pos c15] at H
       have c15b0 : (t380 == t379)=true:=c15
       (try (have c15b1 : decide (t380=t379)=true:=by simpa using c15))
       (try (have c15b2 : (t380 == t379)=true:=by simpa using c15))
       clear c15
       replace H:=Option.bind_eq_some_iff.mp H
       obtain ⟨t381,A160,H⟩:=H
       replace H : ((copperplateref18_Col.f kj4 l0 a1 a2).bind fun t382=>(some (t381 == t382)))=some r:=H
       have A16:=qM A160
       clear A160
       replace H:=Option.bind_eq_some_iff.mp H
       obtain ⟨t382,A170,H⟩:=H
       replace H : (some (t381 == t382))=some r:=H
       have A17:=qM A170
       clear A170
       obtain rfl:=Option.some.inj H
       go_wp2_with (first|((with_reducible refine gate_callee (f:=11) rfl ?_);refine goesL_ (some 25) rfl rfl Try.func11 (by kernel_rfl) rfl #[.slice A0 l0.length c0,.int .i64 a1] rfl (by (try simp only [List.map_toArray,List.map_cons,List.map_nil]);first|done|rfl|(simp only [List.length_drop,List.length_take];rfl)) ?_;(with_reducible refine (wide_Lay.calls _ _ l0 a1 t375 t376 _ ?side1 ?side2 A9.out).mono ?_);(case side1=>repeat (first|exact (Kd.C_below HR0.out HB.out)|(with_reducible first|apply qO|apply qP|apply qQ)));(case side2=>exact HC0.out);(try clear A9); rintro e w18 ⟨rfl,hb⟩;refine ⟨_,rfl,?_⟩;have n0_:=qM (below_step (by repeat first|exact HB.out|apply qJ|apply qK|apply qL) hb);clear HB;have HB:=n0_;clear n0_;(try clear hb);(try clear hb2);(try clear hk);(try clear hi))|((with_reducible refine gate_callee (f:=12) rfl ?_);refine goesL_ (some 31) rfl rfl Try.func12 (by kernel_rfl) rfl #[.slice A0 l0.length c0,.int .i64 a1] rfl (by (try simp only [List.map_toArray,List.map_cons,List.map_nil]);first|done|rfl|(simp only [List.length_drop,List.length_take];rfl)) ?_;(with_reducible refine (copperplateref18_Lay.calls kj4 _ _ l0 a1 t377 t378 _ ?side1 ?side2 A10.out).mono ?_);(case side1=>repeat (first|exact (Kd.C_below HR0.out HB.out)|(with_reducible first|apply qO|apply qP|apply qQ)));(case side2=>exact HC0.out);(try clear A10); rintro e w19 ⟨rfl,hb⟩;refine ⟨_,rfl,?_⟩;have n0_:=qM (below_step (by repeat first|exact HB.out|apply qJ|apply qK|apply qL) hb);clear HB;have HB:=n0_;clear n0_;(try clear hb);(try clear hb2);(try clear hk);(try clear hi))|((with_reducible refine gate_callee (f:=13) rfl ?_);refine goesL_ (some 36) rfl rfl Try.func13 (by kernel_rfl) rfl #[.slice A0 l0.length c0,.int .i64 a1] rfl (by (try simp only [List.map_toArray,List.map_cons,List.map_nil]);first|done|rfl|(simp only [List.length_drop,List.length_take];rfl)) ?_;(with_reducible refine (copperplateref18_Room.calls kj4 _ _ l0 a1 t379 _ ?side1 ?side2 A11.out).mono ?_);(case side1=>repeat (first|exact (Kd.C_below HR0.out HB.out)|(with_reducible first|apply qO|apply qP|apply qQ)));(case side2=>exact HC0.out);(try clear A11); rintro e w' ⟨rfl,⟨nd,rfl⟩⟩;refine ⟨_,rfl,?_⟩)|(go_at_call 14;(with_reducible refine (wide_Room.calls _ _ l0 a1 t380 _ ?side1 ?side2 A14.out).mono ?_);(case side1=>repeat (first|exact (Kd.C_below HR0.out (by repeat first|exact HB.out|apply qJ|apply qK|apply qL))|(with_reducible first|apply qO|apply qP|apply qQ)));(case side2=>exact HC0.out);(try clear A14); rintro e w20 ⟨rfl,hb⟩;have n0_:=qM (below_step (by repeat first|exact HB.out|apply qJ|apply qK|apply qL) hb);clear HB;have HB:=n0_;clear n0_;(try clear hb);(try clear hb2);(try clear hk);(try clear hi))|(go_at_call 15;(with_reducible refine (wide_Col.calls _ _ l0 a1 a2 t381 _ ?side1 ?side2 A16.out).mono ?_);(case side1=>repeat (first|exact (Kd.C_below HR0.out HB.out)|(with_reducible first|apply qO|apply qP|apply qQ)));(case side2=>exact HC0.out);(try clear A16); rintro e w21 ⟨rfl,hb⟩;have n0_:=qM (below_step (by repeat first|exact HB.out|apply qJ|apply qK|apply qL) hb);clear HB;have HB:=n0_;clear n0_;(try clear hb);(try clear hb2);(try clear hk);(try clear hi))|(go_at_call 16;(with_reducible refine (copperplateref18_Col.calls kj4 _ _ l0 a1 a2 t382 _ ?side1 ?side2 A17.out).mono ?_);(case side1=>repeat (first|exact (Kd.C_below HR0.out HB.out)|(with_reducible first|apply qO|apply qP|apply qQ)));(case side2=>exact HC0.out);(try clear A17); rintro e w22 ⟨rfl,hb⟩;have n0_:=qM (below_step (by repeat first|exact HB.out|apply qJ|apply qK|apply qL) hb);clear HB;have HB:=n0_;clear n0_;(try clear hb);(try clear hb2);(try clear hk);(try clear hi)))
       go_ret
       exact ⟨by first|rfl|(simp [errW_none,errW_some] <;> rfl)|(simp [*,errW_none,errW_some] <;> rfl),by repeat (first|(with_reducible first|exact HB.out|apply qJ|apply qK|apply qL)|exact HB.out)⟩
      ·rw [if_neg c15] at H
       have c15b0 : (t380 == t379)=false:=by simpa using c15
       (try (have c15b1 : decide (t380=t379)=false:=by simpa using c15))
       (try (have c15b2 : (t380 == t379)=false:=by simpa using c15))
       (try (have c15b3 : ¬ (t380=t379):=by simpa using c15))
       clear c15
       exact absurd H (by have h_:=HT_.out;subst h_;decide)
     ·rw [if_neg c13] at H
      have c13b0 : (t376 == t378)=false:=by simpa using c13
      (try (have c13b1 : decide (t376=t378)=false:=by simpa using c13))
      (try (have c13b2 : (t376 == t378)=false:=by simpa using c13))
      (try (have c13b3 : ¬ (t376=t378):=by simpa using c13))
      clear c13
      exact absurd H (by have h_:=HT_.out;subst h_;decide)
    ·rw [if_neg c12] at H
     have c12b0 : (t375.toList == t377.toList)=false:=beq_eq_false_iff_ne.mpr c12
     have c12b1 : (t375.toList != t377.toList)=true:=bne_iff_ne.mpr c12
     exact absurd H (by have h_:=HT_.out;subst h_;decide)

/-- The pure statement of copperplatelaw18_WideTells. -/
def copperplatelaw18_WideTells.Pure : Prop:=∀ (l0 : List (S31)) (a1 : Int) (a2 : Int),l0.length * 24≤140737488351232→(∀ x ∈ l0,(Lit.int .i64 x.f0).wf=true∧x.f1.size≤140737488351232)→(Lit.int .i64 a1).wf=true→(Lit.int .i64 a2).wf=true→∃ k,copperplatelaw18_WideTells.f k l0 a1 a2=some true
def copperplatelaw18_WideTells.PureUp : Prop:=∀ (l0 : List (S31)) (a1 : Int) (a2 : Int),l0.length * 24≤140737488351232→(∀ x ∈ l0,(Lit.int .i64 x.f0).wf=true∧x.f1.size≤140737488351232)→(Lit.int .i64 a1).wf=true→(Lit.int .i64 a2).wf=true→(l0.map fun x=>x.f1.size).sum≤1048576→∃ k,copperplatelaw18_WideTells.f k l0 a1 a2=some true

end Go.Proofs.Ytipjfdamkpgecaa.PWide
