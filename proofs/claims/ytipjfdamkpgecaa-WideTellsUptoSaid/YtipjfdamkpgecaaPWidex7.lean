-- Written by a program of the session (drive.py, over the kit's print.py with contracts by hand). Not trusted: Lean checks it.
import Derived.Test.YtipjfdamkpgecaaPWidex0
import Derived.Test.YtipjfdamkpgecaaPWidex6
import Derived.Test.YtipjfdamkpgecaaHWideFlat
namespace Go.Proofs.Ytipjfdamkpgecaa.PWide
open Go.RowKit Go.Proofs.YtipjfdamkpgecaaW.PrintWords Go.Proofs.YtipjfdamkpgecaaW.PrintLast Go.Proofs.YtipjfdamkpgecaaW.PrintMore
attribute [local go_sem] max2_int min2_int max_two min_two max_three min_three max_four min_four   -- for this text's walks alone
set_option linter.unusedVariables false
set_option linter.unusedSimpArgs false

/-! ### wide_sum: function 25 -/
mutual
def wide_sum.l0 : Nat→List (S31)→Int→List (S31)→Int→Int→List Int→List Int→List Int→Option (List Int × List Int × List Int)
 | 0,_,_,_,_,_,_,_,_=>none
 | k+1,x0,x3,x22,x23,x24,x117000,x117001,x117002=>if x24 < x23 then (if 0≤x24 then (if x24 < (x22.length : Int) then ((span_Flat.f ((rd_T31 x22 x24).f0) ((rd_T31 x22 x24).f1)).bind fun bt119=>(if x24 < (x117000.length : Int) then ((span_Cols.f k bt119.1).bind fun t122=>(if 0≤(wrap64 (x24+1)) then (if (wrap64 (x24+1)) < (x117000.length : Int) then (wide_sum.l0 k x0 x3 x22 x23 (wrap64 (x24+1)) (x117000.set ((wrap64 (x24+1)) : Int).toNat (wrap64 ((rd x117000 x24)+t122))) x117001 x117002) else (none)) else (none))) else (none))) else (none)) else (none)) else (if 0≤x3 then (if x3 < (x117002.length : Int) then (wide_sum.l1 k x0 (wrap64 (x3 - 1)) x117000 x117001 (x117002.set (x3 : Int).toNat x3)) else (none)) else (none))
def wide_sum.l1 : Nat→List (S31)→Int→List Int→List Int→List Int→Option (List Int × List Int × List Int)
 | 0,_,_,_,_,_=>none
 | k+1,x0,x9,x117000,x117001,x117002=>if x9 ≥ 0 then (if 0≤(wrap64 (x9+1)) then (if (wrap64 (x9+1)) < (x117002.length : Int) then (if 0≤x9 then (if x9 < (x117002.length : Int) then ((some (x117002.set (x9 : Int).toNat (rd x117002 (wrap64 (x9+1))) : List Int)).bind fun y126=>(if x9 < (x0.length : Int) then (if ((rd_T31 x0 x9).f0)=5 then ((some (y126.set (x9 : Int).toNat x9 : List Int)).bind fun y128=>((span_Breaks.f ((rd_T31 x0 x9).f0) ((rd_T31 x0 x9).f1)).bind fun t130=>(if t130=true then (wide_sum.l1 k x0 (wrap64 (x9 - 1)) x117000 x117001 y128) else (if (wrap64 (x9+1)) < (x117001.length : Int) then (if (wrap64 (x9+1)) < (x117000.length : Int) then (if x9 < (x117000.length : Int) then (if x9 < (x117001.length : Int) then (wide_sum.l1 k x0 (wrap64 (x9 - 1)) x117000 (x117001.set (x9 : Int).toNat (wrap64 ((wrap64 ((rd x117001 (wrap64 (x9+1)))+(rd x117000 (wrap64 (x9+1))))) - (rd x117000 x9)))) y128) else (none)) else (none)) else (none)) else (none))))) else ((span_Breaks.f ((rd_T31 x0 x9).f0) ((rd_T31 x0 x9).f1)).bind fun t136=>(if t136=true then (wide_sum.l1 k x0 (wrap64 (x9 - 1)) x117000 x117001 y126) else (if (wrap64 (x9+1)) < (x117001.length : Int) then (if (wrap64 (x9+1)) < (x117000.length : Int) then (if x9 < (x117000.length : Int) then (if x9 < (x117001.length : Int) then (wide_sum.l1 k x0 (wrap64 (x9 - 1)) x117000 (x117001.set (x9 : Int).toNat (wrap64 ((wrap64 ((rd x117001 (wrap64 (x9+1)))+(rd x117000 (wrap64 (x9+1))))) - (rd x117000 x9)))) y126) else (none)) else (none)) else (none)) else (none))))) else (none))) else (none)) else (none)) else (none)) else (none)) else (some (x117000,x117001,x117002))
end
def wide_sum.f (k : Nat) (l0 : List (S31)) : Option (List Int × List Int × List Int):=if 0≤(wrap64 ((l0.length : Int)+1)) then (if (wrap64 ((l0.length : Int)+1) : Int).toNat≤35184372088832 then (wide_sum.l0 k l0 (l0.length : Int) l0 (l0.length : Int) 0 (List.replicate (wrap64 ((l0.length : Int)+1) : Int).toNat 0) (List.replicate (wrap64 ((l0.length : Int)+1) : Int).toNat 0) (List.replicate (wrap64 ((l0.length : Int)+1) : Int).toNat 0)) else (none)) else (none)
theorem wide_sum.mono_l : ∀ k,(∀ y0 y1 y2 y3 y4 y5 y6 y7,LeO (wide_sum.l0 k y0 y1 y2 y3 y4 y5 y6 y7) (wide_sum.l0 (k+1) y0 y1 y2 y3 y4 y5 y6 y7))∧(∀ y0 y1 y2 y3 y4,LeO (wide_sum.l1 k y0 y1 y2 y3 y4) (wide_sum.l1 (k+1) y0 y1 y2 y3 y4))
 | 0=>⟨fun _ _ _ _ _ _ _ _ r h=>by simp [wide_sum.l0] at h,fun _ _ _ _ _ r h=>by simp [wide_sum.l1] at h⟩
 | k+1=>by
  obtain ⟨ih0,ih1⟩:=wide_sum.mono_l k
  refine ⟨?_,?_⟩
  ·intro y0 y1 y2 y3 y4 y5 y6 y7
   unfold wide_sum.l0
   repeat' first
   | (with_reducible exact ih0 _ _ _ _ _ _ _ _)
   | (with_reducible exact ih1 _ _ _ _ _)
   | (with_reducible exact span_Cols.mono _ _)
   | (with_reducible exact LeO.refl _)
   | (with_reducible exact LeO.none _)
   | (with_reducible refine LeO.ite ?_ ?_)
   | (with_reducible refine LeO.bind ?_ (fun _=>?_))
   | exact ih0 _ _ _ _ _ _ _ _
   | exact ih1 _ _ _ _ _
   | exact span_Cols.mono _ _
   | exact LeO.none _
   | refine LeO.ite ?_ ?_
   | refine LeO.bind ?_ (fun _=>?_)
  ·intro y0 y1 y2 y3 y4
   unfold wide_sum.l1
   repeat' first
   | (with_reducible exact ih0 _ _ _ _ _ _ _ _)
   | (with_reducible exact ih1 _ _ _ _ _)
   | (with_reducible exact span_Cols.mono _ _)
   | (with_reducible exact LeO.refl _)
   | (with_reducible exact LeO.none _)
   | (with_reducible refine LeO.ite ?_ ?_)
   | (with_reducible refine LeO.bind ?_ (fun _=>?_))
   | exact ih0 _ _ _ _ _ _ _ _
   | exact ih1 _ _ _ _ _
   | exact span_Cols.mono _ _
   | exact LeO.none _
   | refine LeO.ite ?_ ?_
   | refine LeO.bind ?_ (fun _=>?_)
theorem wide_sum.mono : ∀ a0 k,LeO (wide_sum.f k a0) (wide_sum.f (k+1) a0):=by
 intro a0 k
 obtain ⟨ih0,ih1⟩:=wide_sum.mono_l k
 unfold wide_sum.f
 repeat' first
   | (with_reducible exact ih0 _ _ _ _ _ _ _ _)
   | (with_reducible exact ih1 _ _ _ _ _)
   | (with_reducible exact span_Cols.mono _ _)
   | (with_reducible exact LeO.refl _)
   | (with_reducible exact LeO.none _)
   | (with_reducible refine LeO.ite ?_ ?_)
   | (with_reducible refine LeO.bind ?_ (fun _=>?_))
   | exact ih0 _ _ _ _ _ _ _ _
   | exact ih1 _ _ _ _ _
   | exact span_Cols.mono _ _
   | exact LeO.none _
   | refine LeO.ite ?_ ?_
   | refine LeO.bind ?_ (fun _=>?_)
def wide_sum.T2 : Bool × List (List Nat × List Nat):=(true,[([],[]),([0],[0]),([1,1],[1]),([],[]),([3],[3]),([4,4],[4]),([],[]),([6],[6]),([7,7],[7]),([2,5,8],[2,5,8]),([],[]),([10,9,0,1,2,3,4,5,6,7,8,9,10],[9,10])])
def wide_sum.B2 : List Nat:=[0,1,3,0,8,24,0,64,192,511,0,2047]
theorem wide_sum.tab2 : rtab .any (opsOf Try.f25 2)=wide_sum.T2:=by kernel_rfl
theorem wide_sum.bits2 : waitsOk wide_sum.T2.2 wide_sum.B2=true:=by kernel_rfl
def wide_sum.T7 : Bool × List (List Nat × List Nat):=(true,[([],[]),([0],[0]),([],[]),([2],[2]),([],[]),([4],[4]),([],[]),([5,6],[5,6]),([7],[7]),([],[]),([9],[9]),([8,10],[8,10]),([1,3,0,1,2,3,4,5,6,7,8,9,10,11],[1,3]),([12,11,10,0,1,2,3,4,5,6,7,8,9,10,11],[11,12])])
def wide_sum.B7 : List Nat:=[0,1,0,4,0,16,0,112,240,0,512,2032,4095,8191]
theorem wide_sum.tab7 : rtab .any (opsOf Try.f25 7)=wide_sum.T7:=by kernel_rfl
theorem wide_sum.bits7 : waitsOk wide_sum.T7.2 wide_sum.B7=true:=by kernel_rfl
def wide_sum.T13 : Bool × List (List Nat × List Nat):=(true,[([],[]),([0],[0]),([],[]),([],[]),([3],[3]),([],[]),([5],[5]),([4,6],[4,6]),([7],[7]),([1,2,0,1,2,3,4,5,6,7,8],[1,2]),([9,8,0,1,2,3,4,5,6,7,8],[8,9])])
def wide_sum.B13 : List Nat:=[0,1,0,0,8,0,32,120,248,511,1023]
theorem wide_sum.tab13 : rtab .any (opsOf Try.f25 13)=wide_sum.T13:=by kernel_rfl
theorem wide_sum.bits13 : waitsOk wide_sum.T13.2 wide_sum.B13=true:=by kernel_rfl
def wide_sum.T17 : Bool × List (List Nat × List Nat):=(true,[([],[]),([0],[0]),([],[]),([],[]),([3],[3]),([],[]),([5],[5]),([4,6],[4,6]),([7],[7]),([],[]),([9],[9]),([],[]),([11],[11]),([10,12],[10,12]),([13],[13]),([8,14],[8,14]),([],[]),([16],[16]),([],[]),([17,18],[17,18]),([19],[19]),([15,20],[15,20]),([1,2,0,1,2,3,4,5,6,7,8,9,10,11,12,13,14,15,16,17,18,19,20,21],[1,2]),([22,21,0,1,2,3,4,5,6,7,8,9,10,11,12,13,14,15,16,17,18,19,20,21],[21,22])])
def wide_sum.B17 : List Nat:=[0,1,0,0,8,0,32,120,248,0,512,0,2048,7680,15872,32760,0,65536,0,458752,983040,2097144,4194303,8388607]
theorem wide_sum.tab17 : rtab .any (opsOf Try.f25 17)=wide_sum.T17:=by kernel_rfl
theorem wide_sum.bits17 : waitsOk wide_sum.T17.2 wide_sum.B17=true:=by kernel_rfl
set_option maxHeartbeats 8000000 in
set_option maxRecDepth 100000 in
theorem wide_sum.calls (k : Nat) (A0 : Option Addr) (c0 : Nat) (l0 : List (S31)) (r1 : List Int) (r2 : List Int) (r3 : List Int) (w : World) (hr0 : Kd.C k31 w A0 l0.length l0) (hc0 : l0.length≤c0) (h : wide_sum.f k l0=some (r1,r2,r3)) :
  Calls Try.prog 25 #[.slice A0 l0.length c0] w fun e w'=>∃ v0_ v1_ v2_ : Value,e=.returned (.agg #[v0_,v1_,v2_])∧Kd.R (Kd.int .i64) 3 w' w.heap.size (fun k_=>some k_ ≠ (v1_ : Value).ownBlock∧some k_ ≠ (v2_ : Value).ownBlock) v0_ r1∧Kd.R (Kd.int .i64) 3 w' w.heap.size (fun k_=>some k_ ≠ (v0_ : Value).ownBlock∧some k_ ≠ (v2_ : Value).ownBlock) v1_ r2∧Kd.R (Kd.int .i64) 3 w' w.heap.size (fun k_=>some k_ ≠ (v0_ : Value).ownBlock∧some k_ ≠ (v1_ : Value).ownBlock) v2_ r3∧Below w.heap.size w w':=by
 have hu50:=Try.underlying50
 have hu31:=Try.underlying31
 have HR0:=qM hr0
 have HC0:=qM hc0
 clear hr0 hc0
 have HB:=qM (Below.refl w.heap.size w)
 have H : (if 0≤(wrap64 ((l0.length : Int)+1)) then (if (wrap64 ((l0.length : Int)+1) : Int).toNat≤35184372088832 then (wide_sum.l0 k l0 (l0.length : Int) l0 (l0.length : Int) 0 (List.replicate (wrap64 ((l0.length : Int)+1) : Int).toNat 0) (List.replicate (wrap64 ((l0.length : Int)+1) : Int).toNat 0) (List.replicate (wrap64 ((l0.length : Int)+1) : Int).toNat 0)) else (none)) else (none))=some (r1,r2,r3):=h
 clear h
 obtain ⟨ji2,hji2⟩ : ∃ j_ : Int,(wrap64 ((l0.length : Int)+1))=j_:=⟨_,rfl⟩
 replace H : (if 0≤(ji2) then (if (ji2 : Int).toNat≤35184372088832 then (wide_sum.l0 k l0 (l0.length : Int) l0 (l0.length : Int) 0 (List.replicate (ji2 : Int).toNat 0) (List.replicate (ji2 : Int).toNat 0) (List.replicate (ji2 : Int).toNat 0)) else (none)) else (none))=some (r1,r2,r3):=by first|(rw [hji2] at H;exact H)|(simp only [hji2] at H ⊢;exact H)
 have hji2w : (IntKind.i64.wrap ((l0.length : Int)+1))=ji2:=(i64_w _).trans hji2
 by_cases c3 : 0≤(ji2)
 ·rw [if_pos c3] at H
  have c3b0:=eq_true c3
  have c3b1 : decide (0≤(ji2))=true:=decide_eq_true c3
  clear c3
  by_cases c4 : (ji2 : Int).toNat≤35184372088832
  ·rw [if_pos c4] at H
   have c4b0:=eq_true c4
   have c4b1 : decide ((ji2 : Int).toNat≤35184372088832)=true:=decide_eq_true c4
   clear c4
   obtain ⟨y107,hy107⟩ : ∃ y_ : List Int,y_=(List.replicate (ji2 : Int).toNat 0):=⟨_,rfl⟩
   replace H : (wide_sum.l0 k l0 (l0.length : Int) l0 (l0.length : Int) 0 y107 (List.replicate (ji2 : Int).toNat 0) (List.replicate (ji2 : Int).toNat 0))=some (r1,r2,r3):=by first|(rw [hy107];with_reducible exact H)|(have H2_:=(Option.bind_some _ _).symm.trans H;rw [hy107];with_reducible exact H2_)|(have H2_:=(Option.bind_some _ _).symm.trans H;with_reducible exact H2_)|with_reducible exact H|(rw [hy107];exact H)|exact H
   have Ny107:=qM hy107
   clear hy107
   obtain ⟨y110,hy110⟩ : ∃ y_ : List Int,y_=(List.replicate (ji2 : Int).toNat 0):=⟨_,rfl⟩
   replace H : (wide_sum.l0 k l0 (l0.length : Int) l0 (l0.length : Int) 0 y107 y110 (List.replicate (ji2 : Int).toNat 0))=some (r1,r2,r3):=by first|(rw [hy110];with_reducible exact H)|(have H2_:=(Option.bind_some _ _).symm.trans H;rw [hy110];with_reducible exact H2_)|(have H2_:=(Option.bind_some _ _).symm.trans H;with_reducible exact H2_)|with_reducible exact H|(rw [hy110];exact H)|exact H
   have Ny110:=qM hy110
   clear hy110
   obtain ⟨y113,hy113⟩ : ∃ y_ : List Int,y_=(List.replicate (ji2 : Int).toNat 0):=⟨_,rfl⟩
   replace H : (wide_sum.l0 k l0 (l0.length : Int) l0 (l0.length : Int) 0 y107 y110 y113)=some (r1,r2,r3):=by first|(rw [hy113];with_reducible exact H)|(have H2_:=(Option.bind_some _ _).symm.trans H;rw [hy113];with_reducible exact H2_)|(have H2_:=(Option.bind_some _ _).symm.trans H;with_reducible exact H2_)|with_reducible exact H|(rw [hy113];exact H)|exact H
   have Ny113:=qM hy113
   clear hy113
   have H':=qM H
   clear H
   go_enter Try.func25,Try.ntmps25
   try go_wp2_with (first|((with_reducible refine gate_dst (N:=2) rfl ?_);refine box_event ?hg (N:=2) ?hd (cs:=#[.slice none 0 0,.slice none 0 0,.slice none 0 0]) (t:=50) ?hr ?_;(case hd=>rfl);(case hg=>rfl);(case hr=>first|(go_simp;done)|(go_simp;rfl));intro gb106 hg w5 hbox hb;have n0_:=qM (below_step (by repeat first|exact HB.out|apply qJ|apply qK|apply qL) hb);have n1_:=qM (hbox);have n2_:=qM ((by rw [hg];exact (below_size (by repeat first|exact HB.out|apply qJ|apply qK|apply qL)) : w.heap.size≤gb106));have n3_:=qM ((by rw [hg];exact (below_size (by repeat first|exact HB.out|apply qJ|apply qK|apply qL)) : w.heap.size≤gb106));clear HB;have HB:=n0_;have BK106:=n1_;have GW106:=n2_;have GE106:=n3_;clear n0_ n1_ n2_ n3_;clear hb hbox hg))
   have n0_:=qM (qE BK106.out);have n1_:=qM (qL HB.out);clear BK106
   clear HB;have BK106:=n0_
   have HB:=n1_;clear n0_ n1_
   refine start_ (n:=12) (S:=fun w'=>True) (ds:=[]) #[tF,tF,tF,tF,tF,tF,tF,tF,tF,tF,tF,tF] (by kernel_rfl) rfl rfl trivial (fun hHeld=>?_);refine with_tabW wide_sum.tab2 wide_sum.bits2 (fun HT_ HW_=>?_)
   generalize w5.drew=w6 at BK106 HB hHeld ⊢
   refine pure_ (i:=0) (N:=some 12) (v:=?_) (a':=?_) #[tT,tF,tF,tF,tF,tF,tF,tF,tF,tF,tF,tF] rfl rfl (any_of HT_.out (by kernel_rfl)) (fun _ _ _ h=>h) (Or.inl ⟨by rfl,?_⟩) ?_ ?_
   rotate_left;(intro w';go_simp;with_reducible rfl);rotate_left;(simp only [Act.put,qA,qB,qC,i64_w,i32_w];rfl)
   refine pure_ (i:=1) (N:=some 13) (v:=?_) (a':=?_) #[tT,tT,tF,tF,tF,tF,tF,tF,tF,tF,tF,tF] rfl rfl (any_of HT_.out (by kernel_rfl)) (fun _ _ _ h=>h) (Or.inl ⟨by rfl,?_⟩) ?_ ?_
   rotate_left;(intro w';go_simp;with_reducible rfl);rotate_left;(simp only [Act.put,qA,qB,qC,i64_w,i32_w];rfl)
   refine pure_ (i:=3) (N:=some 15) (v:=?_) (a':=?_) #[tT,tT,tF,tT,tF,tF,tF,tF,tF,tF,tF,tF] rfl rfl (any_of HT_.out (by kernel_rfl)) (fun _ _ _ h=>h) (Or.inl ⟨by rfl,?_⟩) ?_ ?_
   rotate_left;(intro w';go_simp;with_reducible rfl);rotate_left;(simp only [Act.put,qA,qB,qC,i64_w,i32_w];rfl)
   refine pure_ (i:=4) (N:=some 16) (v:=?_) (a':=?_) #[tT,tT,tF,tT,tT,tF,tF,tF,tF,tF,tF,tF] rfl rfl (any_of HT_.out (by kernel_rfl)) (fun _ _ _ h=>h) (Or.inl ⟨by rfl,?_⟩) ?_ ?_
   rotate_left;(intro w';go_simp;with_reducible rfl);rotate_left;(simp only [Act.put,qA,qB,qC,i64_w,i32_w];rfl)
   refine pure_ (i:=6) (N:=some 18) (v:=?_) (a':=?_) #[tT,tT,tF,tT,tT,tF,tT,tF,tF,tF,tF,tF] rfl rfl (any_of HT_.out (by kernel_rfl)) (fun _ _ _ h=>h) (Or.inl ⟨by rfl,?_⟩) ?_ ?_
   rotate_left;(intro w';go_simp;with_reducible rfl);rotate_left;(simp only [Act.put,qA,qB,qC,i64_w,i32_w];rfl)
   refine pure_ (i:=7) (N:=some 19) (v:=?_) (a':=?_) #[tT,tT,tF,tT,tT,tF,tT,tT,tF,tF,tF,tF] rfl rfl (any_of HT_.out (by kernel_rfl)) (fun _ _ _ h=>h) (Or.inl ⟨by rfl,?_⟩) ?_ ?_
   rotate_left;(intro w';go_simp;with_reducible rfl);rotate_left;(simp only [Act.put,qA,qB,qC,i64_w,i32_w];rfl)
   refine join_ (σ:=Value × Value × Value × Nat) 1 #[tT,tT,tT,tT,tT,tT,tT,tT,tT,tT,tT,tF] (fun s_=>[(14,s_.1),(17,s_.2.1),(20,s_.2.2.1),(4,.pointer (some ⟨s_.2.2.2,0,none⟩)),(21,.agg #[s_.1,s_.2.1,s_.2.2.1])]) (fun s_ w'=>(Kd.R (Kd.int .i64) 3 w' w.heap.size (fun k_=>some k_ ≠ (s_.2.1 : Value).ownBlock∧some k_ ≠ (s_.2.2.1 : Value).ownBlock) s_.1 y107)∧(Kd.R (Kd.int .i64) 3 w' w.heap.size (fun k_=>some k_ ≠ (s_.1 : Value).ownBlock∧some k_ ≠ (s_.2.2.1 : Value).ownBlock) s_.2.1 y110)∧(Kd.R (Kd.int .i64) 3 w' w.heap.size (fun k_=>some k_ ≠ (s_.1 : Value).ownBlock∧some k_ ≠ (s_.2.1 : Value).ownBlock) s_.2.2.1 y113)∧(w'.heap[gb106]?=some (.cells #[.slice none 0 0,.slice none 0 0,.slice none 0 0] 50 (0,0)))∧(w'.heap[s_.2.2.2]?=some (.cells #[.slice none 0 0,.slice none 0 0,.slice none 0 0] 50 (0,0)))∧(w.heap.size≤s_.2.2.2)∧(w.heap.size≤s_.2.2.2)∧(gb106 ≠ s_.2.2.2)∧(s_.2.2.2 ≠ gb106)∧(Below w.heap.size w w')) ?_ ?_
   rotate_left
   ·intro hJ2_5_8_10
    refine join_ (σ:=Value × Value × Value) 2 #[tT,tT,tT,tT,tT,tT,tT,tT,tT,tT,tF,tF] (fun s_=>[(14,s_.1),(17,s_.2.1),(20,s_.2.2),(21,.agg #[s_.1,s_.2.1,s_.2.2])]) (fun s_ w'=>(Kd.R (Kd.int .i64) 3 w' w.heap.size (fun k_=>some k_ ≠ (s_.2.1 : Value).ownBlock∧some k_ ≠ (s_.2.2 : Value).ownBlock) s_.1 y107)∧(Kd.R (Kd.int .i64) 3 w' w.heap.size (fun k_=>some k_ ≠ (s_.1 : Value).ownBlock∧some k_ ≠ (s_.2.2 : Value).ownBlock) s_.2.1 y110)∧(Kd.R (Kd.int .i64) 3 w' w.heap.size (fun k_=>some k_ ≠ (s_.1 : Value).ownBlock∧some k_ ≠ (s_.2.1 : Value).ownBlock) s_.2.2 y113)∧(w'.heap[gb106]?=some (.cells #[.slice none 0 0,.slice none 0 0,.slice none 0 0] 50 (0,0)))∧(Below w.heap.size w w')) ?_ ?_
    rotate_left
    ·intro hJ2_5_8
     refine join_ (σ:=Value × Value × Nat) 3 #[tT,tT,tT,tT,tT,tT,tT,tT,tF,tF,tT,tF] (fun s_=>[(14,s_.1),(17,s_.2.1),(4,.pointer (some ⟨s_.2.2,0,none⟩))]) (fun s_ w'=>(Kd.R (Kd.int .i64) 3 w' w.heap.size (fun k_=>some k_ ≠ (s_.2.1 : Value).ownBlock) s_.1 y107)∧(Kd.R (Kd.int .i64) 3 w' w.heap.size (fun k_=>some k_ ≠ (s_.1 : Value).ownBlock) s_.2.1 y110)∧(w'.heap[gb106]?=some (.cells #[.slice none 0 0,.slice none 0 0,.slice none 0 0] 50 (0,0)))∧(w'.heap[s_.2.2]?=some (.cells #[.slice none 0 0,.slice none 0 0,.slice none 0 0] 50 (0,0)))∧(w.heap.size≤s_.2.2)∧(w.heap.size≤s_.2.2)∧(gb106 ≠ s_.2.2)∧(s_.2.2 ≠ gb106)∧(Below w.heap.size w w')) ?_ ?_
     rotate_left
     ·intro hJ2_5_10
      refine join_ (σ:=Value × Value × Nat) 3 #[tT,tT,tT,tT,tT,tF,tT,tT,tT,tF,tT,tF] (fun s_=>[(14,s_.1),(20,s_.2.1),(4,.pointer (some ⟨s_.2.2,0,none⟩))]) (fun s_ w'=>(Kd.R (Kd.int .i64) 3 w' w.heap.size (fun k_=>some k_ ≠ (s_.2.1 : Value).ownBlock) s_.1 y107)∧(Kd.R (Kd.int .i64) 3 w' w.heap.size (fun k_=>some k_ ≠ (s_.1 : Value).ownBlock) s_.2.1 y113)∧(w'.heap[gb106]?=some (.cells #[.slice none 0 0,.slice none 0 0,.slice none 0 0] 50 (0,0)))∧(w'.heap[s_.2.2]?=some (.cells #[.slice none 0 0,.slice none 0 0,.slice none 0 0] 50 (0,0)))∧(w.heap.size≤s_.2.2)∧(w.heap.size≤s_.2.2)∧(gb106 ≠ s_.2.2)∧(s_.2.2 ≠ gb106)∧(Below w.heap.size w w')) ?_ ?_
      rotate_left
      ·intro hJ2_8_10
       refine join_ (σ:=Value × Value × Nat) 3 #[tT,tT,tF,tT,tT,tT,tT,tT,tT,tF,tT,tF] (fun s_=>[(17,s_.1),(20,s_.2.1),(4,.pointer (some ⟨s_.2.2,0,none⟩))]) (fun s_ w'=>(Kd.R (Kd.int .i64) 3 w' w.heap.size (fun k_=>some k_ ≠ (s_.2.1 : Value).ownBlock) s_.1 y110)∧(Kd.R (Kd.int .i64) 3 w' w.heap.size (fun k_=>some k_ ≠ (s_.1 : Value).ownBlock) s_.2.1 y113)∧(w'.heap[gb106]?=some (.cells #[.slice none 0 0,.slice none 0 0,.slice none 0 0] 50 (0,0)))∧(w'.heap[s_.2.2]?=some (.cells #[.slice none 0 0,.slice none 0 0,.slice none 0 0] 50 (0,0)))∧(w.heap.size≤s_.2.2)∧(w.heap.size≤s_.2.2)∧(gb106 ≠ s_.2.2)∧(s_.2.2 ≠ gb106)∧(Below w.heap.size w w')) ?_ ?_
       rotate_left
       ·intro hJ5_8_10
        refine join_ (σ:=Value × Value) 4 #[tT,tT,tT,tT,tT,tT,tT,tT,tF,tF,tF,tF] (fun s_=>[(14,s_.1),(17,s_.2)]) (fun s_ w'=>(Kd.R (Kd.int .i64) 3 w' w.heap.size (fun k_=>some k_ ≠ (s_.2 : Value).ownBlock) s_.1 y107)∧(Kd.R (Kd.int .i64) 3 w' w.heap.size (fun k_=>some k_ ≠ (s_.1 : Value).ownBlock) s_.2 y110)∧(w'.heap[gb106]?=some (.cells #[.slice none 0 0,.slice none 0 0,.slice none 0 0] 50 (0,0)))∧(Below w.heap.size w w')) ?_ ?_
        rotate_left
        ·intro hJ2_5
         refine join_ (σ:=Value × Value) 4 #[tT,tT,tT,tT,tT,tF,tT,tT,tT,tF,tF,tF] (fun s_=>[(14,s_.1),(20,s_.2)]) (fun s_ w'=>(Kd.R (Kd.int .i64) 3 w' w.heap.size (fun k_=>some k_ ≠ (s_.2 : Value).ownBlock) s_.1 y107)∧(Kd.R (Kd.int .i64) 3 w' w.heap.size (fun k_=>some k_ ≠ (s_.1 : Value).ownBlock) s_.2 y113)∧(w'.heap[gb106]?=some (.cells #[.slice none 0 0,.slice none 0 0,.slice none 0 0] 50 (0,0)))∧(Below w.heap.size w w')) ?_ ?_
         rotate_left
         ·intro hJ2_8
          refine join_ (σ:=Value × Nat) 4 #[tT,tT,tT,tT,tT,tF,tT,tT,tF,tF,tT,tF] (fun s_=>[(14,s_.1),(4,.pointer (some ⟨s_.2,0,none⟩))]) (fun s_ w'=>(Kd.R (Kd.int .i64) 3 w' w.heap.size (fun _=>True) s_.1 y107)∧(w'.heap[gb106]?=some (.cells #[.slice none 0 0,.slice none 0 0,.slice none 0 0] 50 (0,0)))∧(w'.heap[s_.2]?=some (.cells #[.slice none 0 0,.slice none 0 0,.slice none 0 0] 50 (0,0)))∧(w.heap.size≤s_.2)∧(w.heap.size≤s_.2)∧(gb106 ≠ s_.2)∧(s_.2 ≠ gb106)∧(Below w.heap.size w w')) ?_ ?_
          rotate_left
          ·intro hJ2_10
           refine join_ (σ:=Value × Value) 4 #[tT,tT,tF,tT,tT,tT,tT,tT,tT,tF,tF,tF] (fun s_=>[(17,s_.1),(20,s_.2)]) (fun s_ w'=>(Kd.R (Kd.int .i64) 3 w' w.heap.size (fun k_=>some k_ ≠ (s_.2 : Value).ownBlock) s_.1 y110)∧(Kd.R (Kd.int .i64) 3 w' w.heap.size (fun k_=>some k_ ≠ (s_.1 : Value).ownBlock) s_.2 y113)∧(w'.heap[gb106]?=some (.cells #[.slice none 0 0,.slice none 0 0,.slice none 0 0] 50 (0,0)))∧(Below w.heap.size w w')) ?_ ?_
           rotate_left
           ·intro hJ5_8
            refine join_ (σ:=Value × Nat) 4 #[tT,tT,tF,tT,tT,tT,tT,tT,tF,tF,tT,tF] (fun s_=>[(17,s_.1),(4,.pointer (some ⟨s_.2,0,none⟩))]) (fun s_ w'=>(Kd.R (Kd.int .i64) 3 w' w.heap.size (fun _=>True) s_.1 y110)∧(w'.heap[gb106]?=some (.cells #[.slice none 0 0,.slice none 0 0,.slice none 0 0] 50 (0,0)))∧(w'.heap[s_.2]?=some (.cells #[.slice none 0 0,.slice none 0 0,.slice none 0 0] 50 (0,0)))∧(w.heap.size≤s_.2)∧(w.heap.size≤s_.2)∧(gb106 ≠ s_.2)∧(s_.2 ≠ gb106)∧(Below w.heap.size w w')) ?_ ?_
            rotate_left
            ·intro hJ5_10
             refine join_ (σ:=Value × Nat) 4 #[tT,tT,tF,tT,tT,tF,tT,tT,tT,tF,tT,tF] (fun s_=>[(20,s_.1),(4,.pointer (some ⟨s_.2,0,none⟩))]) (fun s_ w'=>(Kd.R (Kd.int .i64) 3 w' w.heap.size (fun _=>True) s_.1 y113)∧(w'.heap[gb106]?=some (.cells #[.slice none 0 0,.slice none 0 0,.slice none 0 0] 50 (0,0)))∧(w'.heap[s_.2]?=some (.cells #[.slice none 0 0,.slice none 0 0,.slice none 0 0] 50 (0,0)))∧(w.heap.size≤s_.2)∧(w.heap.size≤s_.2)∧(gb106 ≠ s_.2)∧(s_.2 ≠ gb106)∧(Below w.heap.size w w')) ?_ ?_
             rotate_left
             ·intro hJ8_10
              refine join_ (σ:=Value) 5 #[tT,tT,tT,tT,tT,tF,tT,tT,tF,tF,tF,tF] (fun s_=>[(14,s_)]) (fun s_ w'=>(Kd.R (Kd.int .i64) 3 w' w.heap.size (fun _=>True) s_ y107)∧(w'.heap[gb106]?=some (.cells #[.slice none 0 0,.slice none 0 0,.slice none 0 0] 50 (0,0)))∧(Below w.heap.size w w')) ?_ ?_
              rotate_left
              ·intro hJ2
               refine join_ (σ:=Value) 5 #[tT,tT,tF,tT,tT,tT,tT,tT,tF,tF,tF,tF] (fun s_=>[(17,s_)]) (fun s_ w'=>(Kd.R (Kd.int .i64) 3 w' w.heap.size (fun _=>True) s_ y110)∧(w'.heap[gb106]?=some (.cells #[.slice none 0 0,.slice none 0 0,.slice none 0 0] 50 (0,0)))∧(Below w.heap.size w w')) ?_ ?_
               rotate_left
               ·intro hJ5
                refine join_ (σ:=Value) 5 #[tT,tT,tF,tT,tT,tF,tT,tT,tT,tF,tF,tF] (fun s_=>[(20,s_)]) (fun s_ w'=>(Kd.R (Kd.int .i64) 3 w' w.heap.size (fun _=>True) s_ y113)∧(w'.heap[gb106]?=some (.cells #[.slice none 0 0,.slice none 0 0,.slice none 0 0] 50 (0,0)))∧(Below w.heap.size w w')) ?_ ?_
                rotate_left
                ·intro hJ8
                 refine join_ (σ:=Nat) 5 #[tT,tT,tF,tT,tT,tF,tT,tT,tF,tF,tT,tF] (fun s_=>[(4,.pointer (some ⟨s_,0,none⟩))]) (fun s_ w'=>(w'.heap[gb106]?=some (.cells #[.slice none 0 0,.slice none 0 0,.slice none 0 0] 50 (0,0)))∧(w'.heap[s_]?=some (.cells #[.slice none 0 0,.slice none 0 0,.slice none 0 0] 50 (0,0)))∧(w.heap.size≤s_)∧(w.heap.size≤s_)∧(gb106 ≠ s_)∧(s_ ≠ gb106)∧(Below w.heap.size w w')) ?_ ?_
                 rotate_left
                 ·intro hJ10
                  refine four_ (i:=2) (j:=5) (k:=8) (m:=10) (Ni:=some 14) (Nj:=some 17) (Nk:=some 20) (Nm:=some 4) #[tT,tT,tT,tT,tT,tF,tT,tT,tF,tF,tF,tF] #[tT,tT,tF,tT,tT,tT,tT,tT,tF,tF,tF,tF] #[tT,tT,tF,tT,tT,tF,tT,tT,tT,tF,tF,tF] #[tT,tT,tF,tT,tT,tF,tT,tT,tF,tF,tT,tF] rfl rfl rfl rfl rfl rfl rfl rfl (four_of HT_.out (by kernel_rfl)) (by decide) (by decide) (by decide) (by decide) (fun K hK=>?_) (fun K hK=>?_) (fun K hK=>?_) (fun K hK=>?_)
                  ·skip
                   refine Kd.R_make_step (Kd.int .i64) _ 3 (by rfl) (N:=14) rfl 35 _ _ rfl ji2 rfl rfl Try.underlying35 (.int .i64 0) 8 info3 rfl (by decide) (by omega) 0 (ok:=fun _=>True) (okp:=fun _=>True) rfl (fun _ hk=>hk) trivial (qN (by assumption)) (Nat.le_trans (Nat.mul_le_mul_right _ (qN (by assumption) : ji2.toNat≤35184372088832)) (by omega)) (Below.refl _ _) (Nat.le_refl _) ?_
                   intro v108 w7 ho8 hb hg_ hnew_
                   clear hg_ hnew_
                   (first|rw [← Ny107.out] at ho8|(simp only [Int.reduceToNat] at ho8;rw [← Ny107.out] at ho8))
                   have n0_:=qM (Kd.R_lower ho8 (below_size (by repeat first|exact HB.out|apply qJ|apply qK|apply qL|refine qR ?_ GE106.out)));have n1_:=qM (blk_below (g:=gb106) (o:=.cells #[.slice none 0 0,.slice none 0 0,.slice none 0 0] 50 (0,0)) (by (with_reducible repeat (first|apply qD|apply qE|apply qF));exact BK106.out) hb)
                   have n2_:=qM (below_step (by repeat first|exact HB.out|apply qJ|apply qK|apply qL|refine qR ?_ GE106.out) hb);clear BK106
                   clear HB;have HO109:=n0_
                   have BK106:=n1_;have HB:=n2_
                   clear n0_ n1_ n2_;clear hb ho8
                   refine hK.out _ _ trivial (fun hHeld=>?_)
                   clear hK K
                   refine norm_ (a':=?_) ?_ ?_
                   rotate_left
                   ·show Act.put _ (some 14) _=_
                    simp only [Act.put,qA,qB,qC,i64_w,i32_w]
                    rfl
                   exact norm_ (by simp only [putAll,Act.put,qA,qB,qC] <;> rfl) (hJ2 (v108) _ ⟨(by (with_reducible repeat (first|apply qG|apply qH|apply qI));exact HO109.out),(by (with_reducible repeat (first|apply qD|apply qE|apply qF));exact BK106.out),(by repeat first|exact HB.out|apply qJ|apply qK|apply qL|refine qR ?_ GE106.out)⟩)
                  ·skip
                   refine Kd.R_make_step (Kd.int .i64) _ 3 (by rfl) (N:=17) rfl 35 _ _ rfl ji2 rfl rfl Try.underlying35 (.int .i64 0) 8 info3 rfl (by decide) (by omega) 0 (ok:=fun _=>True) (okp:=fun _=>True) rfl (fun _ hk=>hk) trivial (qN (by assumption)) (Nat.le_trans (Nat.mul_le_mul_right _ (qN (by assumption) : ji2.toNat≤35184372088832)) (by omega)) (Below.refl _ _) (Nat.le_refl _) ?_
                   intro v111 w7 ho8 hb hg_ hnew_
                   clear hg_ hnew_
                   (first|rw [← Ny110.out] at ho8|(simp only [Int.reduceToNat] at ho8;rw [← Ny110.out] at ho8))
                   have n0_:=qM (Kd.R_lower ho8 (below_size (by repeat first|exact HB.out|apply qJ|apply qK|apply qL|refine qR ?_ GE106.out)));have n1_:=qM (blk_below (g:=gb106) (o:=.cells #[.slice none 0 0,.slice none 0 0,.slice none 0 0] 50 (0,0)) (by (with_reducible repeat (first|apply qD|apply qE|apply qF));exact BK106.out) hb)
                   have n2_:=qM (below_step (by repeat first|exact HB.out|apply qJ|apply qK|apply qL|refine qR ?_ GE106.out) hb);clear BK106
                   clear HB;have HO112:=n0_
                   have BK106:=n1_;have HB:=n2_
                   clear n0_ n1_ n2_;clear hb ho8
                   refine hK.out _ _ trivial (fun hHeld=>?_)
                   clear hK K
                   refine norm_ (a':=?_) ?_ ?_
                   rotate_left
                   ·show Act.put _ (some 17) _=_
                    simp only [Act.put,qA,qB,qC,i64_w,i32_w]
                    rfl
                   exact norm_ (by simp only [putAll,Act.put,qA,qB,qC] <;> rfl) (hJ5 (v111) _ ⟨(by (with_reducible repeat (first|apply qG|apply qH|apply qI));exact HO112.out),(by (with_reducible repeat (first|apply qD|apply qE|apply qF));exact BK106.out),(by repeat first|exact HB.out|apply qJ|apply qK|apply qL|refine qR ?_ GE106.out)⟩)
                  ·skip
                   refine Kd.R_make_step (Kd.int .i64) _ 3 (by rfl) (N:=20) rfl 35 _ _ rfl ji2 rfl rfl Try.underlying35 (.int .i64 0) 8 info3 rfl (by decide) (by omega) 0 (ok:=fun _=>True) (okp:=fun _=>True) rfl (fun _ hk=>hk) trivial (qN (by assumption)) (Nat.le_trans (Nat.mul_le_mul_right _ (qN (by assumption) : ji2.toNat≤35184372088832)) (by omega)) (Below.refl _ _) (Nat.le_refl _) ?_
                   intro v114 w7 ho8 hb hg_ hnew_
                   clear hg_ hnew_
                   (first|rw [← Ny113.out] at ho8|(simp only [Int.reduceToNat] at ho8;rw [← Ny113.out] at ho8))
                   have n0_:=qM (Kd.R_lower ho8 (below_size (by repeat first|exact HB.out|apply qJ|apply qK|apply qL|refine qR ?_ GE106.out)));have n1_:=qM (blk_below (g:=gb106) (o:=.cells #[.slice none 0 0,.slice none 0 0,.slice none 0 0] 50 (0,0)) (by (with_reducible repeat (first|apply qD|apply qE|apply qF));exact BK106.out) hb)
                   have n2_:=qM (below_step (by repeat first|exact HB.out|apply qJ|apply qK|apply qL|refine qR ?_ GE106.out) hb);clear BK106
                   clear HB;have HO115:=n0_
                   have BK106:=n1_;have HB:=n2_
                   clear n0_ n1_ n2_;clear hb ho8
                   refine hK.out _ _ trivial (fun hHeld=>?_)
                   clear hK K
                   refine norm_ (a':=?_) ?_ ?_
                   rotate_left
                   ·show Act.put _ (some 20) _=_
                    simp only [Act.put,qA,qB,qC,i64_w,i32_w]
                    rfl
                   exact norm_ (by simp only [putAll,Act.put,qA,qB,qC] <;> rfl) (hJ8 (v114) _ ⟨(by (with_reducible repeat (first|apply qG|apply qH|apply qI));exact HO115.out),(by (with_reducible repeat (first|apply qD|apply qE|apply qF));exact BK106.out),(by repeat first|exact HB.out|apply qJ|apply qK|apply qL|refine qR ?_ GE106.out)⟩)
                  ·skip
                   refine box_step ?hg (N:=4) ?hd (cs:=#[.slice none 0 0,.slice none 0 0,.slice none 0 0]) (t:=50) ?hr ?_;(case hd=>rfl);(case hg=>rfl);(case hr=>first|(go_simp;done)|(go_simp;rfl))
                   intro gb116 hg w7 hbox hb
                   have n0_:=qM (blk_below (g:=gb106) (o:=.cells #[.slice none 0 0,.slice none 0 0,.slice none 0 0] 50 (0,0)) (by (with_reducible repeat (first|apply qD|apply qE|apply qF));exact BK106.out) hb);have n1_:=qM (below_step (by repeat first|exact HB.out|apply qJ|apply qK|apply qL|refine qR ?_ GE106.out) hb)
                   have n2_:=qM (hbox);have n3_:=qM ((by rw [hg];exact (below_size (by repeat first|exact HB.out|apply qJ|apply qK|apply qL|refine qR ?_ GE106.out)) : w.heap.size≤gb116))
                   have n4_:=qM ((by rw [hg];exact (below_size (by repeat first|exact HB.out|apply qJ|apply qK|apply qL|refine qR ?_ GE106.out)) : w.heap.size≤gb116));have n5_:=qM ((by rw [hg];exact Nat.ne_of_lt (blk_lt (g:=gb106) (o:=.cells #[.slice none 0 0,.slice none 0 0,.slice none 0 0] 50 (0,0)) (by (with_reducible repeat (first|apply qD|apply qE|apply qF));exact BK106.out)) : gb106 ≠ gb116))
                   have n6_:=qM ((by rw [hg];exact Nat.ne_of_gt (blk_lt (g:=gb106) (o:=.cells #[.slice none 0 0,.slice none 0 0,.slice none 0 0] 50 (0,0)) (by (with_reducible repeat (first|apply qD|apply qE|apply qF));exact BK106.out)) : gb116 ≠ gb106));clear BK106
                   clear HB;have BK106:=n0_
                   have HB:=n1_;have BK116:=n2_
                   have GW116:=n3_;have GE116:=n4_
                   have NB106_116:=n5_;have NB116_106:=n6_
                   clear n0_ n1_ n2_ n3_ n4_ n5_ n6_;clear hb hbox hg
                   refine hK.out _ _ trivial (fun hHeld=>?_)
                   clear hK K
                   refine norm_ (a':=?_) ?_ ?_
                   rotate_left
                   ·show Act.put _ (some 4) _=_
                    simp only [Act.put,qA,qB,qC,i64_w,i32_w]
                    rfl
                   exact norm_ (by simp only [putAll,Act.put,qA,qB,qC] <;> rfl) (hJ10 (gb116) _ ⟨(by (with_reducible repeat (first|apply qD|apply qE|apply qF));exact BK106.out),(by (with_reducible repeat (first|apply qD|apply qE|apply qF));exact BK116.out),GW116.out,GE116.out,NB106_116.out,NB116_106.out,(by repeat first|exact HB.out|apply qJ|apply qK|apply qL|refine qR ?_ GE106.out|refine qR ?_ GE116.out)⟩)
                 ·skip
                  rintro gb116 w8 ⟨h0_,h1_,h2_,h3_,h4_,h5_,h6_⟩
                  have n0_ : Aside0 (w8.heap[gb106]?=some (.cells #[.slice none 0 0,.slice none 0 0,.slice none 0 0] 50 (0,0))):=⟨h0_⟩
                  have n1_ : Aside0 (w8.heap[gb116]?=some (.cells #[.slice none 0 0,.slice none 0 0,.slice none 0 0] 50 (0,0))):=⟨h1_⟩
                  have n2_ : Aside0 (w.heap.size≤gb116):=⟨h2_⟩
                  have n3_ : Aside0 (w.heap.size≤gb116):=⟨h3_⟩
                  have n4_ : Aside0 (gb106 ≠ gb116):=⟨h4_⟩
                  have n5_ : Aside0 (gb116 ≠ gb106):=⟨h5_⟩
                  have n6_ : Aside0 (Below w.heap.size w w8):=⟨h6_⟩
                  clear BK106;clear HB
                  clear h0_ h1_ h2_ h3_ h4_ h5_ h6_;have BK106:=n0_
                  have BK116:=n1_;have GW116:=n2_
                  have GE116:=n3_;have NB106_116:=n4_
                  have NB116_106:=n5_;have HB:=n6_;clear n0_ n1_ n2_ n3_ n4_ n5_ n6_
                  have hHeld:=trivial
                  refine norm_ (a':=?_) ?_ ?_
                  rotate_left;(simp only [putAll,Act.put,qA,qB,qC];rfl)
                  refine three_ (i:=2) (j:=5) (k:=8) (Ni:=some 14) (Nj:=some 17) (Nk:=some 20) #[tT,tT,tT,tT,tT,tF,tT,tT,tF,tF,tT,tF] #[tT,tT,tF,tT,tT,tT,tT,tT,tF,tF,tT,tF] #[tT,tT,tF,tT,tT,tF,tT,tT,tT,tF,tT,tF] rfl rfl rfl rfl rfl rfl (three_of HT_.out (by kernel_rfl)) (by decide) (by decide) (by decide) (fun K hK=>?_) (fun K hK=>?_) (fun K hK=>?_)
                  ·skip
                   refine Kd.R_make_step (Kd.int .i64) _ 3 (by rfl) (N:=14) rfl 35 _ _ rfl ji2 rfl rfl Try.underlying35 (.int .i64 0) 8 info3 rfl (by decide) (by omega) 0 (ok:=fun _=>True) (okp:=fun _=>True) rfl (fun _ hk=>hk) trivial (qN (by assumption)) (Nat.le_trans (Nat.mul_le_mul_right _ (qN (by assumption) : ji2.toNat≤35184372088832)) (by omega)) (Below.refl _ _) (Nat.le_refl _) ?_
                   intro v108 w9 ho10 hb hg_ hnew_
                   clear hg_ hnew_
                   (first|rw [← Ny107.out] at ho10|(simp only [Int.reduceToNat] at ho10;rw [← Ny107.out] at ho10))
                   have n0_:=qM (Kd.R_lower ho10 (below_size (by repeat first|exact HB.out|apply qJ|apply qK|apply qL|refine qR ?_ GE106.out|refine qR ?_ GE116.out)));have n1_:=qM (blk_below (g:=gb106) (o:=.cells #[.slice none 0 0,.slice none 0 0,.slice none 0 0] 50 (0,0)) (by (with_reducible repeat (first|apply qD|apply qE|apply qF));exact BK106.out) hb)
                   have n2_:=qM (blk_below (g:=gb116) (o:=.cells #[.slice none 0 0,.slice none 0 0,.slice none 0 0] 50 (0,0)) (by (with_reducible repeat (first|apply qD|apply qE|apply qF));exact BK116.out) hb);have n3_:=qM (below_step (by repeat first|exact HB.out|apply qJ|apply qK|apply qL|refine qR ?_ GE106.out|refine qR ?_ GE116.out) hb);clear BK106
                   clear BK116;clear HB
                   have HO109:=n0_;have BK106:=n1_
                   have BK116:=n2_;have HB:=n3_
                   clear n0_ n1_ n2_ n3_;clear hb ho10
                   refine hK.out _ _ trivial (fun hHeld=>?_)
                   clear hK K
                   refine norm_ (a':=?_) ?_ ?_
                   rotate_left
                   ·show Act.put _ (some 14) _=_
                    simp only [Act.put,qA,qB,qC,i64_w,i32_w]
                    rfl
                   exact norm_ (by simp only [putAll,Act.put,qA,qB,qC] <;> rfl) (hJ2_10 (v108,gb116) _ ⟨(by (with_reducible repeat (first|apply qG|apply qH|apply qI));exact HO109.out),(by (with_reducible repeat (first|apply qD|apply qE|apply qF));exact BK106.out),(by (with_reducible repeat (first|apply qD|apply qE|apply qF));exact BK116.out),GW116.out,GE116.out,NB106_116.out,NB116_106.out,(by repeat first|exact HB.out|apply qJ|apply qK|apply qL|refine qR ?_ GE106.out|refine qR ?_ GE116.out)⟩)
                  ·skip
                   refine Kd.R_make_step (Kd.int .i64) _ 3 (by rfl) (N:=17) rfl 35 _ _ rfl ji2 rfl rfl Try.underlying35 (.int .i64 0) 8 info3 rfl (by decide) (by omega) 0 (ok:=fun _=>True) (okp:=fun _=>True) rfl (fun _ hk=>hk) trivial (qN (by assumption)) (Nat.le_trans (Nat.mul_le_mul_right _ (qN (by assumption) : ji2.toNat≤35184372088832)) (by omega)) (Below.refl _ _) (Nat.le_refl _) ?_
                   intro v111 w9 ho10 hb hg_ hnew_
                   clear hg_ hnew_
                   (first|rw [← Ny110.out] at ho10|(simp only [Int.reduceToNat] at ho10;rw [← Ny110.out] at ho10))
                   have n0_:=qM (Kd.R_lower ho10 (below_size (by repeat first|exact HB.out|apply qJ|apply qK|apply qL|refine qR ?_ GE106.out|refine qR ?_ GE116.out)));have n1_:=qM (blk_below (g:=gb106) (o:=.cells #[.slice none 0 0,.slice none 0 0,.slice none 0 0] 50 (0,0)) (by (with_reducible repeat (first|apply qD|apply qE|apply qF));exact BK106.out) hb)
                   have n2_:=qM (blk_below (g:=gb116) (o:=.cells #[.slice none 0 0,.slice none 0 0,.slice none 0 0] 50 (0,0)) (by (with_reducible repeat (first|apply qD|apply qE|apply qF));exact BK116.out) hb);have n3_:=qM (below_step (by repeat first|exact HB.out|apply qJ|apply qK|apply qL|refine qR ?_ GE106.out|refine qR ?_ GE116.out) hb);clear BK106
                   clear BK116;clear HB
                   have HO112:=n0_;have BK106:=n1_
                   have BK116:=n2_;have HB:=n3_
                   clear n0_ n1_ n2_ n3_;clear hb ho10
                   refine hK.out _ _ trivial (fun hHeld=>?_)
                   clear hK K
                   refine norm_ (a':=?_) ?_ ?_
                   rotate_left
                   ·show Act.put _ (some 17) _=_
                    simp only [Act.put,qA,qB,qC,i64_w,i32_w]
                    rfl
                   exact norm_ (by simp only [putAll,Act.put,qA,qB,qC] <;> rfl) (hJ5_10 (v111,gb116) _ ⟨(by (with_reducible repeat (first|apply qG|apply qH|apply qI));exact HO112.out),(by (with_reducible repeat (first|apply qD|apply qE|apply qF));exact BK106.out),(by (with_reducible repeat (first|apply qD|apply qE|apply qF));exact BK116.out),GW116.out,GE116.out,NB106_116.out,NB116_106.out,(by repeat first|exact HB.out|apply qJ|apply qK|apply qL|refine qR ?_ GE106.out|refine qR ?_ GE116.out)⟩)
                  ·skip
                   refine Kd.R_make_step (Kd.int .i64) _ 3 (by rfl) (N:=20) rfl 35 _ _ rfl ji2 rfl rfl Try.underlying35 (.int .i64 0) 8 info3 rfl (by decide) (by omega) 0 (ok:=fun _=>True) (okp:=fun _=>True) rfl (fun _ hk=>hk) trivial (qN (by assumption)) (Nat.le_trans (Nat.mul_le_mul_right _ (qN (by assumption) : ji2.toNat≤35184372088832)) (by omega)) (Below.refl _ _) (Nat.le_refl _) ?_
                   intro v114 w9 ho10 hb hg_ hnew_
                   clear hg_ hnew_
                   (first|rw [← Ny113.out] at ho10|(simp only [Int.reduceToNat] at ho10;rw [← Ny113.out] at ho10))
                   have n0_:=qM (Kd.R_lower ho10 (below_size (by repeat first|exact HB.out|apply qJ|apply qK|apply qL|refine qR ?_ GE106.out|refine qR ?_ GE116.out)));have n1_:=qM (blk_below (g:=gb106) (o:=.cells #[.slice none 0 0,.slice none 0 0,.slice none 0 0] 50 (0,0)) (by (with_reducible repeat (first|apply qD|apply qE|apply qF));exact BK106.out) hb)
                   have n2_:=qM (blk_below (g:=gb116) (o:=.cells #[.slice none 0 0,.slice none 0 0,.slice none 0 0] 50 (0,0)) (by (with_reducible repeat (first|apply qD|apply qE|apply qF));exact BK116.out) hb);have n3_:=qM (below_step (by repeat first|exact HB.out|apply qJ|apply qK|apply qL|refine qR ?_ GE106.out|refine qR ?_ GE116.out) hb);clear BK106
                   clear BK116;clear HB
                   have HO115:=n0_;have BK106:=n1_
                   have BK116:=n2_;have HB:=n3_
                   clear n0_ n1_ n2_ n3_;clear hb ho10
                   refine hK.out _ _ trivial (fun hHeld=>?_)
                   clear hK K
                   refine norm_ (a':=?_) ?_ ?_
                   rotate_left
                   ·show Act.put _ (some 20) _=_
                    simp only [Act.put,qA,qB,qC,i64_w,i32_w]
                    rfl
                   exact norm_ (by simp only [putAll,Act.put,qA,qB,qC] <;> rfl) (hJ8_10 (v114,gb116) _ ⟨(by (with_reducible repeat (first|apply qG|apply qH|apply qI));exact HO115.out),(by (with_reducible repeat (first|apply qD|apply qE|apply qF));exact BK106.out),(by (with_reducible repeat (first|apply qD|apply qE|apply qF));exact BK116.out),GW116.out,GE116.out,NB106_116.out,NB116_106.out,(by repeat first|exact HB.out|apply qJ|apply qK|apply qL|refine qR ?_ GE106.out|refine qR ?_ GE116.out)⟩)
                ·skip
                 rintro v114 w9 ⟨h0_,h1_,h2_⟩
                 have n0_ : Aside0 (Kd.R (Kd.int .i64) 3 w9 w.heap.size (fun _=>True) v114 y113):=⟨h0_⟩
                 have n1_ : Aside0 (w9.heap[gb106]?=some (.cells #[.slice none 0 0,.slice none 0 0,.slice none 0 0] 50 (0,0))):=⟨h1_⟩
                 have n2_ : Aside0 (Below w.heap.size w w9):=⟨h2_⟩
                 clear BK106;clear HB
                 clear h0_ h1_ h2_;have HO115:=n0_
                 have BK106:=n1_;have HB:=n2_;clear n0_ n1_ n2_
                 have hHeld:=trivial
                 refine norm_ (a':=?_) ?_ ?_
                 rotate_left;(simp only [putAll,Act.put,qA,qB,qC];rfl)
                 refine three_ (i:=2) (j:=5) (k:=10) (Ni:=some 14) (Nj:=some 17) (Nk:=some 4) #[tT,tT,tT,tT,tT,tF,tT,tT,tT,tF,tF,tF] #[tT,tT,tF,tT,tT,tT,tT,tT,tT,tF,tF,tF] #[tT,tT,tF,tT,tT,tF,tT,tT,tT,tF,tT,tF] rfl rfl rfl rfl rfl rfl (three_of HT_.out (by kernel_rfl)) (by decide) (by decide) (by decide) (fun K hK=>?_) (fun K hK=>?_) (fun K hK=>?_)
                 ·skip
                  refine Kd.R_make_step (Kd.int .i64) _ 3 (by rfl) (N:=14) rfl 35 _ _ rfl ji2 rfl rfl Try.underlying35 (.int .i64 0) 8 info3 rfl (by decide) (by omega) 0 (ok:=fun _=>True) (okp:=fun _=>True) rfl (fun _ hk=>hk) trivial (qN (by assumption)) (Nat.le_trans (Nat.mul_le_mul_right _ (qN (by assumption) : ji2.toNat≤35184372088832)) (by omega)) (Below.refl _ _) (Nat.le_refl _) ?_
                  intro v108 w10 ho11 hb hg_ hnew_
                  clear hg_ hnew_
                  (first|rw [← Ny107.out] at ho11|(simp only [Int.reduceToNat] at ho11;rw [← Ny107.out] at ho11))
                  have n0_:=qM (Kd.R_elder' (by (with_reducible repeat (first|apply qG|apply qH|apply qI));exact HO115.out) (Kd.R_base ho11) hb);have n1_:=qM (Kd.R_lower (Kd.R_new' ho11 (Kd.R_lt (by (with_reducible repeat (first|apply qG|apply qH|apply qI));exact HO115.out))) (below_size (by repeat first|exact HB.out|apply qJ|apply qK|apply qL|refine qR ?_ GE106.out)))
                  have n2_:=qM (blk_below (g:=gb106) (o:=.cells #[.slice none 0 0,.slice none 0 0,.slice none 0 0] 50 (0,0)) (by (with_reducible repeat (first|apply qD|apply qE|apply qF));exact BK106.out) hb);have n3_:=qM (below_step (by repeat first|exact HB.out|apply qJ|apply qK|apply qL|refine qR ?_ GE106.out) hb);clear HO115
                  clear BK106;clear HB
                  have HO115:=n0_;have HO109:=n1_
                  have BK106:=n2_;have HB:=n3_
                  clear n0_ n1_ n2_ n3_;clear hb ho11
                  refine hK.out _ _ trivial (fun hHeld=>?_)
                  clear hK K
                  refine norm_ (a':=?_) ?_ ?_
                  rotate_left
                  ·show Act.put _ (some 14) _=_
                   simp only [Act.put,qA,qB,qC,i64_w,i32_w]
                   rfl
                  exact norm_ (by simp only [putAll,Act.put,qA,qB,qC] <;> rfl) (hJ2_8 (v108,v114) _ ⟨(by (with_reducible repeat (first|apply qG|apply qH|apply qI));exact Kd.R_mono HO109.out (fun _ hk=>hk.2)),(by (with_reducible repeat (first|apply qG|apply qH|apply qI));exact Kd.R_mono HO115.out (fun _ hk=>hk.2)),(by (with_reducible repeat (first|apply qD|apply qE|apply qF));exact BK106.out),(by repeat first|exact HB.out|apply qJ|apply qK|apply qL|refine qR ?_ GE106.out)⟩)
                 ·skip
                  refine Kd.R_make_step (Kd.int .i64) _ 3 (by rfl) (N:=17) rfl 35 _ _ rfl ji2 rfl rfl Try.underlying35 (.int .i64 0) 8 info3 rfl (by decide) (by omega) 0 (ok:=fun _=>True) (okp:=fun _=>True) rfl (fun _ hk=>hk) trivial (qN (by assumption)) (Nat.le_trans (Nat.mul_le_mul_right _ (qN (by assumption) : ji2.toNat≤35184372088832)) (by omega)) (Below.refl _ _) (Nat.le_refl _) ?_
                  intro v111 w10 ho11 hb hg_ hnew_
                  clear hg_ hnew_
                  (first|rw [← Ny110.out] at ho11|(simp only [Int.reduceToNat] at ho11;rw [← Ny110.out] at ho11))
                  have n0_:=qM (Kd.R_elder' (by (with_reducible repeat (first|apply qG|apply qH|apply qI));exact HO115.out) (Kd.R_base ho11) hb);have n1_:=qM (Kd.R_lower (Kd.R_new' ho11 (Kd.R_lt (by (with_reducible repeat (first|apply qG|apply qH|apply qI));exact HO115.out))) (below_size (by repeat first|exact HB.out|apply qJ|apply qK|apply qL|refine qR ?_ GE106.out)))
                  have n2_:=qM (blk_below (g:=gb106) (o:=.cells #[.slice none 0 0,.slice none 0 0,.slice none 0 0] 50 (0,0)) (by (with_reducible repeat (first|apply qD|apply qE|apply qF));exact BK106.out) hb);have n3_:=qM (below_step (by repeat first|exact HB.out|apply qJ|apply qK|apply qL|refine qR ?_ GE106.out) hb);clear HO115
                  clear BK106;clear HB
                  have HO115:=n0_;have HO112:=n1_
                  have BK106:=n2_;have HB:=n3_
                  clear n0_ n1_ n2_ n3_;clear hb ho11
                  refine hK.out _ _ trivial (fun hHeld=>?_)
                  clear hK K
                  refine norm_ (a':=?_) ?_ ?_
                  rotate_left
                  ·show Act.put _ (some 17) _=_
                   simp only [Act.put,qA,qB,qC,i64_w,i32_w]
                   rfl
                  exact norm_ (by simp only [putAll,Act.put,qA,qB,qC] <;> rfl) (hJ5_8 (v111,v114) _ ⟨(by (with_reducible repeat (first|apply qG|apply qH|apply qI));exact Kd.R_mono HO112.out (fun _ hk=>hk.2)),(by (with_reducible repeat (first|apply qG|apply qH|apply qI));exact Kd.R_mono HO115.out (fun _ hk=>hk.2)),(by (with_reducible repeat (first|apply qD|apply qE|apply qF));exact BK106.out),(by repeat first|exact HB.out|apply qJ|apply qK|apply qL|refine qR ?_ GE106.out)⟩)
                 ·skip
                  refine box_step ?hg (N:=4) ?hd (cs:=#[.slice none 0 0,.slice none 0 0,.slice none 0 0]) (t:=50) ?hr ?_;(case hd=>rfl);(case hg=>rfl);(case hr=>first|(go_simp;done)|(go_simp;rfl))
                  intro gb116 hg w10 hbox hb
                  have n0_:=qM (Kd.R_below (by (with_reducible repeat (first|apply qG|apply qH|apply qI));exact HO115.out) hb);have n1_:=qM (blk_below (g:=gb106) (o:=.cells #[.slice none 0 0,.slice none 0 0,.slice none 0 0] 50 (0,0)) (by (with_reducible repeat (first|apply qD|apply qE|apply qF));exact BK106.out) hb)
                  have n2_:=qM (below_step (by repeat first|exact HB.out|apply qJ|apply qK|apply qL|refine qR ?_ GE106.out) hb);have n3_:=qM (hbox)
                  have n4_:=qM ((by rw [hg];exact (below_size (by repeat first|exact HB.out|apply qJ|apply qK|apply qL|refine qR ?_ GE106.out)) : w.heap.size≤gb116));have n5_:=qM ((by rw [hg];exact (below_size (by repeat first|exact HB.out|apply qJ|apply qK|apply qL|refine qR ?_ GE106.out)) : w.heap.size≤gb116))
                  have n6_:=qM ((by rw [hg];exact Nat.ne_of_lt (blk_lt (g:=gb106) (o:=.cells #[.slice none 0 0,.slice none 0 0,.slice none 0 0] 50 (0,0)) (by (with_reducible repeat (first|apply qD|apply qE|apply qF));exact BK106.out)) : gb106 ≠ gb116));have n7_:=qM ((by rw [hg];exact Nat.ne_of_gt (blk_lt (g:=gb106) (o:=.cells #[.slice none 0 0,.slice none 0 0,.slice none 0 0] 50 (0,0)) (by (with_reducible repeat (first|apply qD|apply qE|apply qF));exact BK106.out)) : gb116 ≠ gb106));clear HO115
                  clear BK106;clear HB
                  have HO115:=n0_;have BK106:=n1_
                  have HB:=n2_;have BK116:=n3_
                  have GW116:=n4_;have GE116:=n5_
                  have NB106_116:=n6_;have NB116_106:=n7_
                  clear n0_ n1_ n2_ n3_ n4_ n5_ n6_ n7_;clear hb hbox hg
                  refine hK.out _ _ trivial (fun hHeld=>?_)
                  clear hK K
                  refine norm_ (a':=?_) ?_ ?_
                  rotate_left
                  ·show Act.put _ (some 4) _=_
                   simp only [Act.put,qA,qB,qC,i64_w,i32_w]
                   rfl
                  exact norm_ (by simp only [putAll,Act.put,qA,qB,qC] <;> rfl) (hJ8_10 (v114,gb116) _ ⟨(by (with_reducible repeat (first|apply qG|apply qH|apply qI));exact HO115.out),(by (with_reducible repeat (first|apply qD|apply qE|apply qF));exact BK106.out),(by (with_reducible repeat (first|apply qD|apply qE|apply qF));exact BK116.out),GW116.out,GE116.out,NB106_116.out,NB116_106.out,(by repeat first|exact HB.out|apply qJ|apply qK|apply qL|refine qR ?_ GE106.out|refine qR ?_ GE116.out)⟩)
               ·skip
                rintro v111 w9 ⟨h0_,h1_,h2_⟩
                have n0_ : Aside0 (Kd.R (Kd.int .i64) 3 w9 w.heap.size (fun _=>True) v111 y110):=⟨h0_⟩
                have n1_ : Aside0 (w9.heap[gb106]?=some (.cells #[.slice none 0 0,.slice none 0 0,.slice none 0 0] 50 (0,0))):=⟨h1_⟩
                have n2_ : Aside0 (Below w.heap.size w w9):=⟨h2_⟩
                clear BK106;clear HB
                clear h0_ h1_ h2_;have HO112:=n0_
                have BK106:=n1_;have HB:=n2_;clear n0_ n1_ n2_
                have hHeld:=trivial
                refine norm_ (a':=?_) ?_ ?_
                rotate_left;(simp only [putAll,Act.put,qA,qB,qC];rfl)
                refine three_ (i:=2) (j:=8) (k:=10) (Ni:=some 14) (Nj:=some 20) (Nk:=some 4) #[tT,tT,tT,tT,tT,tT,tT,tT,tF,tF,tF,tF] #[tT,tT,tF,tT,tT,tT,tT,tT,tT,tF,tF,tF] #[tT,tT,tF,tT,tT,tT,tT,tT,tF,tF,tT,tF] rfl rfl rfl rfl rfl rfl (three_of HT_.out (by kernel_rfl)) (by decide) (by decide) (by decide) (fun K hK=>?_) (fun K hK=>?_) (fun K hK=>?_)
                ·skip
                 refine Kd.R_make_step (Kd.int .i64) _ 3 (by rfl) (N:=14) rfl 35 _ _ rfl ji2 rfl rfl Try.underlying35 (.int .i64 0) 8 info3 rfl (by decide) (by omega) 0 (ok:=fun _=>True) (okp:=fun _=>True) rfl (fun _ hk=>hk) trivial (qN (by assumption)) (Nat.le_trans (Nat.mul_le_mul_right _ (qN (by assumption) : ji2.toNat≤35184372088832)) (by omega)) (Below.refl _ _) (Nat.le_refl _) ?_
                 intro v108 w10 ho11 hb hg_ hnew_
                 clear hg_ hnew_
                 (first|rw [← Ny107.out] at ho11|(simp only [Int.reduceToNat] at ho11;rw [← Ny107.out] at ho11))
                 have n0_:=qM (Kd.R_elder' (by (with_reducible repeat (first|apply qG|apply qH|apply qI));exact HO112.out) (Kd.R_base ho11) hb);have n1_:=qM (Kd.R_lower (Kd.R_new' ho11 (Kd.R_lt (by (with_reducible repeat (first|apply qG|apply qH|apply qI));exact HO112.out))) (below_size (by repeat first|exact HB.out|apply qJ|apply qK|apply qL|refine qR ?_ GE106.out)))
                 have n2_:=qM (blk_below (g:=gb106) (o:=.cells #[.slice none 0 0,.slice none 0 0,.slice none 0 0] 50 (0,0)) (by (with_reducible repeat (first|apply qD|apply qE|apply qF));exact BK106.out) hb);have n3_:=qM (below_step (by repeat first|exact HB.out|apply qJ|apply qK|apply qL|refine qR ?_ GE106.out) hb);clear HO112
                 clear BK106;clear HB
                 have HO112:=n0_;have HO109:=n1_
                 have BK106:=n2_;have HB:=n3_
                 clear n0_ n1_ n2_ n3_;clear hb ho11
                 refine hK.out _ _ trivial (fun hHeld=>?_)
                 clear hK K
                 refine norm_ (a':=?_) ?_ ?_
                 rotate_left
                 ·show Act.put _ (some 14) _=_
                  simp only [Act.put,qA,qB,qC,i64_w,i32_w]
                  rfl
                 exact norm_ (by simp only [putAll,Act.put,qA,qB,qC] <;> rfl) (hJ2_5 (v108,v111) _ ⟨(by (with_reducible repeat (first|apply qG|apply qH|apply qI));exact Kd.R_mono HO109.out (fun _ hk=>hk.2)),(by (with_reducible repeat (first|apply qG|apply qH|apply qI));exact Kd.R_mono HO112.out (fun _ hk=>hk.2)),(by (with_reducible repeat (first|apply qD|apply qE|apply qF));exact BK106.out),(by repeat first|exact HB.out|apply qJ|apply qK|apply qL|refine qR ?_ GE106.out)⟩)
                ·skip
                 refine Kd.R_make_step (Kd.int .i64) _ 3 (by rfl) (N:=20) rfl 35 _ _ rfl ji2 rfl rfl Try.underlying35 (.int .i64 0) 8 info3 rfl (by decide) (by omega) 0 (ok:=fun _=>True) (okp:=fun _=>True) rfl (fun _ hk=>hk) trivial (qN (by assumption)) (Nat.le_trans (Nat.mul_le_mul_right _ (qN (by assumption) : ji2.toNat≤35184372088832)) (by omega)) (Below.refl _ _) (Nat.le_refl _) ?_
                 intro v114 w10 ho11 hb hg_ hnew_
                 clear hg_ hnew_
                 (first|rw [← Ny113.out] at ho11|(simp only [Int.reduceToNat] at ho11;rw [← Ny113.out] at ho11))
                 have n0_:=qM (Kd.R_elder' (by (with_reducible repeat (first|apply qG|apply qH|apply qI));exact HO112.out) (Kd.R_base ho11) hb);have n1_:=qM (Kd.R_lower (Kd.R_new' ho11 (Kd.R_lt (by (with_reducible repeat (first|apply qG|apply qH|apply qI));exact HO112.out))) (below_size (by repeat first|exact HB.out|apply qJ|apply qK|apply qL|refine qR ?_ GE106.out)))
                 have n2_:=qM (blk_below (g:=gb106) (o:=.cells #[.slice none 0 0,.slice none 0 0,.slice none 0 0] 50 (0,0)) (by (with_reducible repeat (first|apply qD|apply qE|apply qF));exact BK106.out) hb);have n3_:=qM (below_step (by repeat first|exact HB.out|apply qJ|apply qK|apply qL|refine qR ?_ GE106.out) hb);clear HO112
                 clear BK106;clear HB
                 have HO112:=n0_;have HO115:=n1_
                 have BK106:=n2_;have HB:=n3_
                 clear n0_ n1_ n2_ n3_;clear hb ho11
                 refine hK.out _ _ trivial (fun hHeld=>?_)
                 clear hK K
                 refine norm_ (a':=?_) ?_ ?_
                 rotate_left
                 ·show Act.put _ (some 20) _=_
                  simp only [Act.put,qA,qB,qC,i64_w,i32_w]
                  rfl
                 exact norm_ (by simp only [putAll,Act.put,qA,qB,qC] <;> rfl) (hJ5_8 (v111,v114) _ ⟨(by (with_reducible repeat (first|apply qG|apply qH|apply qI));exact Kd.R_mono HO112.out (fun _ hk=>hk.2)),(by (with_reducible repeat (first|apply qG|apply qH|apply qI));exact Kd.R_mono HO115.out (fun _ hk=>hk.2)),(by (with_reducible repeat (first|apply qD|apply qE|apply qF));exact BK106.out),(by repeat first|exact HB.out|apply qJ|apply qK|apply qL|refine qR ?_ GE106.out)⟩)
                ·skip
                 refine box_step ?hg (N:=4) ?hd (cs:=#[.slice none 0 0,.slice none 0 0,.slice none 0 0]) (t:=50) ?hr ?_;(case hd=>rfl);(case hg=>rfl);(case hr=>first|(go_simp;done)|(go_simp;rfl))
                 intro gb116 hg w10 hbox hb
                 have n0_:=qM (Kd.R_below (by (with_reducible repeat (first|apply qG|apply qH|apply qI));exact HO112.out) hb);have n1_:=qM (blk_below (g:=gb106) (o:=.cells #[.slice none 0 0,.slice none 0 0,.slice none 0 0] 50 (0,0)) (by (with_reducible repeat (first|apply qD|apply qE|apply qF));exact BK106.out) hb)
                 have n2_:=qM (below_step (by repeat first|exact HB.out|apply qJ|apply qK|apply qL|refine qR ?_ GE106.out) hb);have n3_:=qM (hbox)
                 have n4_:=qM ((by rw [hg];exact (below_size (by repeat first|exact HB.out|apply qJ|apply qK|apply qL|refine qR ?_ GE106.out)) : w.heap.size≤gb116));have n5_:=qM ((by rw [hg];exact (below_size (by repeat first|exact HB.out|apply qJ|apply qK|apply qL|refine qR ?_ GE106.out)) : w.heap.size≤gb116))
                 have n6_:=qM ((by rw [hg];exact Nat.ne_of_lt (blk_lt (g:=gb106) (o:=.cells #[.slice none 0 0,.slice none 0 0,.slice none 0 0] 50 (0,0)) (by (with_reducible repeat (first|apply qD|apply qE|apply qF));exact BK106.out)) : gb106 ≠ gb116));have n7_:=qM ((by rw [hg];exact Nat.ne_of_gt (blk_lt (g:=gb106) (o:=.cells #[.slice none 0 0,.slice none 0 0,.slice none 0 0] 50 (0,0)) (by (with_reducible repeat (first|apply qD|apply qE|apply qF));exact BK106.out)) : gb116 ≠ gb106));clear HO112
                 clear BK106;clear HB
                 have HO112:=n0_;have BK106:=n1_
                 have HB:=n2_;have BK116:=n3_
                 have GW116:=n4_;have GE116:=n5_
                 have NB106_116:=n6_;have NB116_106:=n7_
                 clear n0_ n1_ n2_ n3_ n4_ n5_ n6_ n7_;clear hb hbox hg
                 refine hK.out _ _ trivial (fun hHeld=>?_)
                 clear hK K
                 refine norm_ (a':=?_) ?_ ?_
                 rotate_left
                 ·show Act.put _ (some 4) _=_
                  simp only [Act.put,qA,qB,qC,i64_w,i32_w]
                  rfl
                 exact norm_ (by simp only [putAll,Act.put,qA,qB,qC] <;> rfl) (hJ5_10 (v111,gb116) _ ⟨(by (with_reducible repeat (first|apply qG|apply qH|apply qI));exact HO112.out),(by (with_reducible repeat (first|apply qD|apply qE|apply qF));exact BK106.out),(by (with_reducible repeat (first|apply qD|apply qE|apply qF));exact BK116.out),GW116.out,GE116.out,NB106_116.out,NB116_106.out,(by repeat first|exact HB.out|apply qJ|apply qK|apply qL|refine qR ?_ GE106.out|refine qR ?_ GE116.out)⟩)
              ·skip
               rintro v108 w9 ⟨h0_,h1_,h2_⟩
               have n0_ : Aside0 (Kd.R (Kd.int .i64) 3 w9 w.heap.size (fun _=>True) v108 y107):=⟨h0_⟩
               have n1_ : Aside0 (w9.heap[gb106]?=some (.cells #[.slice none 0 0,.slice none 0 0,.slice none 0 0] 50 (0,0))):=⟨h1_⟩
               have n2_ : Aside0 (Below w.heap.size w w9):=⟨h2_⟩
               clear BK106;clear HB
               clear h0_ h1_ h2_;have HO109:=n0_
               have BK106:=n1_;have HB:=n2_;clear n0_ n1_ n2_
               have hHeld:=trivial
               refine norm_ (a':=?_) ?_ ?_
               rotate_left;(simp only [putAll,Act.put,qA,qB,qC];rfl)
               refine three_ (i:=5) (j:=8) (k:=10) (Ni:=some 17) (Nj:=some 20) (Nk:=some 4) #[tT,tT,tT,tT,tT,tT,tT,tT,tF,tF,tF,tF] #[tT,tT,tT,tT,tT,tF,tT,tT,tT,tF,tF,tF] #[tT,tT,tT,tT,tT,tF,tT,tT,tF,tF,tT,tF] rfl rfl rfl rfl rfl rfl (three_of HT_.out (by kernel_rfl)) (by decide) (by decide) (by decide) (fun K hK=>?_) (fun K hK=>?_) (fun K hK=>?_)
               ·skip
                refine Kd.R_make_step (Kd.int .i64) _ 3 (by rfl) (N:=17) rfl 35 _ _ rfl ji2 rfl rfl Try.underlying35 (.int .i64 0) 8 info3 rfl (by decide) (by omega) 0 (ok:=fun _=>True) (okp:=fun _=>True) rfl (fun _ hk=>hk) trivial (qN (by assumption)) (Nat.le_trans (Nat.mul_le_mul_right _ (qN (by assumption) : ji2.toNat≤35184372088832)) (by omega)) (Below.refl _ _) (Nat.le_refl _) ?_
                intro v111 w10 ho11 hb hg_ hnew_
                clear hg_ hnew_
                (first|rw [← Ny110.out] at ho11|(simp only [Int.reduceToNat] at ho11;rw [← Ny110.out] at ho11))
                have n0_:=qM (Kd.R_elder' (by (with_reducible repeat (first|apply qG|apply qH|apply qI));exact HO109.out) (Kd.R_base ho11) hb);have n1_:=qM (Kd.R_lower (Kd.R_new' ho11 (Kd.R_lt (by (with_reducible repeat (first|apply qG|apply qH|apply qI));exact HO109.out))) (below_size (by repeat first|exact HB.out|apply qJ|apply qK|apply qL|refine qR ?_ GE106.out)))
                have n2_:=qM (blk_below (g:=gb106) (o:=.cells #[.slice none 0 0,.slice none 0 0,.slice none 0 0] 50 (0,0)) (by (with_reducible repeat (first|apply qD|apply qE|apply qF));exact BK106.out) hb);have n3_:=qM (below_step (by repeat first|exact HB.out|apply qJ|apply qK|apply qL|refine qR ?_ GE106.out) hb);clear HO109
                clear BK106;clear HB
                have HO109:=n0_;have HO112:=n1_
                have BK106:=n2_;have HB:=n3_
                clear n0_ n1_ n2_ n3_;clear hb ho11
                refine hK.out _ _ trivial (fun hHeld=>?_)
                clear hK K
                refine norm_ (a':=?_) ?_ ?_
                rotate_left
                ·show Act.put _ (some 17) _=_
                 simp only [Act.put,qA,qB,qC,i64_w,i32_w]
                 rfl
                exact norm_ (by simp only [putAll,Act.put,qA,qB,qC] <;> rfl) (hJ2_5 (v108,v111) _ ⟨(by (with_reducible repeat (first|apply qG|apply qH|apply qI));exact Kd.R_mono HO109.out (fun _ hk=>hk.2)),(by (with_reducible repeat (first|apply qG|apply qH|apply qI));exact Kd.R_mono HO112.out (fun _ hk=>hk.2)),(by (with_reducible repeat (first|apply qD|apply qE|apply qF));exact BK106.out),(by repeat first|exact HB.out|apply qJ|apply qK|apply qL|refine qR ?_ GE106.out)⟩)
               ·skip
                refine Kd.R_make_step (Kd.int .i64) _ 3 (by rfl) (N:=20) rfl 35 _ _ rfl ji2 rfl rfl Try.underlying35 (.int .i64 0) 8 info3 rfl (by decide) (by omega) 0 (ok:=fun _=>True) (okp:=fun _=>True) rfl (fun _ hk=>hk) trivial (qN (by assumption)) (Nat.le_trans (Nat.mul_le_mul_right _ (qN (by assumption) : ji2.toNat≤35184372088832)) (by omega)) (Below.refl _ _) (Nat.le_refl _) ?_
                intro v114 w10 ho11 hb hg_ hnew_
                clear hg_ hnew_
                (first|rw [← Ny113.out] at ho11|(simp only [Int.reduceToNat] at ho11;rw [← Ny113.out] at ho11))
                have n0_:=qM (Kd.R_elder' (by (with_reducible repeat (first|apply qG|apply qH|apply qI));exact HO109.out) (Kd.R_base ho11) hb);have n1_:=qM (Kd.R_lower (Kd.R_new' ho11 (Kd.R_lt (by (with_reducible repeat (first|apply qG|apply qH|apply qI));exact HO109.out))) (below_size (by repeat first|exact HB.out|apply qJ|apply qK|apply qL|refine qR ?_ GE106.out)))
                have n2_:=qM (blk_below (g:=gb106) (o:=.cells #[.slice none 0 0,.slice none 0 0,.slice none 0 0] 50 (0,0)) (by (with_reducible repeat (first|apply qD|apply qE|apply qF));exact BK106.out) hb);have n3_:=qM (below_step (by repeat first|exact HB.out|apply qJ|apply qK|apply qL|refine qR ?_ GE106.out) hb);clear HO109
                clear BK106;clear HB
                have HO109:=n0_;have HO115:=n1_
                have BK106:=n2_;have HB:=n3_
                clear n0_ n1_ n2_ n3_;clear hb ho11
                refine hK.out _ _ trivial (fun hHeld=>?_)
                clear hK K
                refine norm_ (a':=?_) ?_ ?_
                rotate_left
                ·show Act.put _ (some 20) _=_
                 simp only [Act.put,qA,qB,qC,i64_w,i32_w]
                 rfl
                exact norm_ (by simp only [putAll,Act.put,qA,qB,qC] <;> rfl) (hJ2_8 (v108,v114) _ ⟨(by (with_reducible repeat (first|apply qG|apply qH|apply qI));exact Kd.R_mono HO109.out (fun _ hk=>hk.2)),(by (with_reducible repeat (first|apply qG|apply qH|apply qI));exact Kd.R_mono HO115.out (fun _ hk=>hk.2)),(by (with_reducible repeat (first|apply qD|apply qE|apply qF));exact BK106.out),(by repeat first|exact HB.out|apply qJ|apply qK|apply qL|refine qR ?_ GE106.out)⟩)
               ·skip
                refine box_step ?hg (N:=4) ?hd (cs:=#[.slice none 0 0,.slice none 0 0,.slice none 0 0]) (t:=50) ?hr ?_;(case hd=>rfl);(case hg=>rfl);(case hr=>first|(go_simp;done)|(go_simp;rfl))
                intro gb116 hg w10 hbox hb
                have n0_:=qM (Kd.R_below (by (with_reducible repeat (first|apply qG|apply qH|apply qI));exact HO109.out) hb);have n1_:=qM (blk_below (g:=gb106) (o:=.cells #[.slice none 0 0,.slice none 0 0,.slice none 0 0] 50 (0,0)) (by (with_reducible repeat (first|apply qD|apply qE|apply qF));exact BK106.out) hb)
                have n2_:=qM (below_step (by repeat first|exact HB.out|apply qJ|apply qK|apply qL|refine qR ?_ GE106.out) hb);have n3_:=qM (hbox)
                have n4_:=qM ((by rw [hg];exact (below_size (by repeat first|exact HB.out|apply qJ|apply qK|apply qL|refine qR ?_ GE106.out)) : w.heap.size≤gb116));have n5_:=qM ((by rw [hg];exact (below_size (by repeat first|exact HB.out|apply qJ|apply qK|apply qL|refine qR ?_ GE106.out)) : w.heap.size≤gb116))
                have n6_:=qM ((by rw [hg];exact Nat.ne_of_lt (blk_lt (g:=gb106) (o:=.cells #[.slice none 0 0,.slice none 0 0,.slice none 0 0] 50 (0,0)) (by (with_reducible repeat (first|apply qD|apply qE|apply qF));exact BK106.out)) : gb106 ≠ gb116));have n7_:=qM ((by rw [hg];exact Nat.ne_of_gt (blk_lt (g:=gb106) (o:=.cells #[.slice none 0 0,.slice none 0 0,.slice none 0 0] 50 (0,0)) (by (with_reducible repeat (first|apply qD|apply qE|apply qF));exact BK106.out)) : gb116 ≠ gb106));clear HO109
                clear BK106;clear HB
                have HO109:=n0_;have BK106:=n1_
                have HB:=n2_;have BK116:=n3_
                have GW116:=n4_;have GE116:=n5_
                have NB106_116:=n6_;have NB116_106:=n7_
                clear n0_ n1_ n2_ n3_ n4_ n5_ n6_ n7_;clear hb hbox hg
                refine hK.out _ _ trivial (fun hHeld=>?_)
                clear hK K
                refine norm_ (a':=?_) ?_ ?_
                rotate_left
                ·show Act.put _ (some 4) _=_
                 simp only [Act.put,qA,qB,qC,i64_w,i32_w]
                 rfl
                exact norm_ (by simp only [putAll,Act.put,qA,qB,qC] <;> rfl) (hJ2_10 (v108,gb116) _ ⟨(by (with_reducible repeat (first|apply qG|apply qH|apply qI));exact HO109.out),(by (with_reducible repeat (first|apply qD|apply qE|apply qF));exact BK106.out),(by (with_reducible repeat (first|apply qD|apply qE|apply qF));exact BK116.out),GW116.out,GE116.out,NB106_116.out,NB116_106.out,(by repeat first|exact HB.out|apply qJ|apply qK|apply qL|refine qR ?_ GE106.out|refine qR ?_ GE116.out)⟩)
             ·skip
              rintro ⟨v114,gb116⟩ w10 ⟨h0_,h1_,h2_,h3_,h4_,h5_,h6_,h7_⟩
              have n0_ : Aside0 (Kd.R (Kd.int .i64) 3 w10 w.heap.size (fun _=>True) v114 y113):=⟨h0_⟩
              have n1_ : Aside0 (w10.heap[gb106]?=some (.cells #[.slice none 0 0,.slice none 0 0,.slice none 0 0] 50 (0,0))):=⟨h1_⟩
              have n2_ : Aside0 (w10.heap[gb116]?=some (.cells #[.slice none 0 0,.slice none 0 0,.slice none 0 0] 50 (0,0))):=⟨h2_⟩
              have n3_ : Aside0 (w.heap.size≤gb116):=⟨h3_⟩
              have n4_ : Aside0 (w.heap.size≤gb116):=⟨h4_⟩
              have n5_ : Aside0 (gb106 ≠ gb116):=⟨h5_⟩
              have n6_ : Aside0 (gb116 ≠ gb106):=⟨h6_⟩
              have n7_ : Aside0 (Below w.heap.size w w10):=⟨h7_⟩
              clear BK106;clear HB
              clear h0_ h1_ h2_ h3_ h4_ h5_ h6_ h7_;have HO115:=n0_
              have BK106:=n1_;have BK116:=n2_
              have GW116:=n3_;have GE116:=n4_
              have NB106_116:=n5_;have NB116_106:=n6_
              have HB:=n7_;clear n0_ n1_ n2_ n3_ n4_ n5_ n6_ n7_
              have hHeld:=trivial
              refine norm_ (a':=?_) ?_ ?_
              rotate_left;(simp only [putAll,Act.put,qA,qB,qC];rfl)
              refine two_ (i:=2) (j:=5) (Ni:=some 14) (Nj:=some 17) #[tT,tT,tT,tT,tT,tF,tT,tT,tT,tF,tT,tF] #[tT,tT,tF,tT,tT,tT,tT,tT,tT,tF,tT,tF] rfl rfl rfl rfl (two_of HT_.out (by kernel_rfl)) (by decide) (by decide) (fun K hK=>?_) (fun K hK=>?_)
              ·skip
               refine Kd.R_make_step (Kd.int .i64) _ 3 (by rfl) (N:=14) rfl 35 _ _ rfl ji2 rfl rfl Try.underlying35 (.int .i64 0) 8 info3 rfl (by decide) (by omega) 0 (ok:=fun _=>True) (okp:=fun _=>True) rfl (fun _ hk=>hk) trivial (qN (by assumption)) (Nat.le_trans (Nat.mul_le_mul_right _ (qN (by assumption) : ji2.toNat≤35184372088832)) (by omega)) (Below.refl _ _) (Nat.le_refl _) ?_
               intro v108 w11 ho12 hb hg_ hnew_
               clear hg_ hnew_
               (first|rw [← Ny107.out] at ho12|(simp only [Int.reduceToNat] at ho12;rw [← Ny107.out] at ho12))
               have n0_:=qM (Kd.R_elder' (by (with_reducible repeat (first|apply qG|apply qH|apply qI));exact HO115.out) (Kd.R_base ho12) hb);have n1_:=qM (Kd.R_lower (Kd.R_new' ho12 (Kd.R_lt (by (with_reducible repeat (first|apply qG|apply qH|apply qI));exact HO115.out))) (below_size (by repeat first|exact HB.out|apply qJ|apply qK|apply qL|refine qR ?_ GE106.out|refine qR ?_ GE116.out)))
               have n2_:=qM (blk_below (g:=gb106) (o:=.cells #[.slice none 0 0,.slice none 0 0,.slice none 0 0] 50 (0,0)) (by (with_reducible repeat (first|apply qD|apply qE|apply qF));exact BK106.out) hb);have n3_:=qM (blk_below (g:=gb116) (o:=.cells #[.slice none 0 0,.slice none 0 0,.slice none 0 0] 50 (0,0)) (by (with_reducible repeat (first|apply qD|apply qE|apply qF));exact BK116.out) hb)
               have n4_:=qM (below_step (by repeat first|exact HB.out|apply qJ|apply qK|apply qL|refine qR ?_ GE106.out|refine qR ?_ GE116.out) hb);clear HO115
               clear BK106;clear BK116
               clear HB;have HO115:=n0_
               have HO109:=n1_;have BK106:=n2_
               have BK116:=n3_;have HB:=n4_
               clear n0_ n1_ n2_ n3_ n4_;clear hb ho12
               refine hK.out _ _ trivial (fun hHeld=>?_)
               clear hK K
               refine norm_ (a':=?_) ?_ ?_
               rotate_left
               ·show Act.put _ (some 14) _=_
                simp only [Act.put,qA,qB,qC,i64_w,i32_w]
                rfl
               exact norm_ (by simp only [putAll,Act.put,qA,qB,qC] <;> rfl) (hJ2_8_10 (v108,v114,gb116) _ ⟨(by (with_reducible repeat (first|apply qG|apply qH|apply qI));exact Kd.R_mono HO109.out (fun _ hk=>hk.2)),(by (with_reducible repeat (first|apply qG|apply qH|apply qI));exact Kd.R_mono HO115.out (fun _ hk=>hk.2)),(by (with_reducible repeat (first|apply qD|apply qE|apply qF));exact BK106.out),(by (with_reducible repeat (first|apply qD|apply qE|apply qF));exact BK116.out),GW116.out,GE116.out,NB106_116.out,NB116_106.out,(by repeat first|exact HB.out|apply qJ|apply qK|apply qL|refine qR ?_ GE106.out|refine qR ?_ GE116.out)⟩)
              ·skip
               refine Kd.R_make_step (Kd.int .i64) _ 3 (by rfl) (N:=17) rfl 35 _ _ rfl ji2 rfl rfl Try.underlying35 (.int .i64 0) 8 info3 rfl (by decide) (by omega) 0 (ok:=fun _=>True) (okp:=fun _=>True) rfl (fun _ hk=>hk) trivial (qN (by assumption)) (Nat.le_trans (Nat.mul_le_mul_right _ (qN (by assumption) : ji2.toNat≤35184372088832)) (by omega)) (Below.refl _ _) (Nat.le_refl _) ?_
               intro v111 w11 ho12 hb hg_ hnew_
               clear hg_ hnew_
               (first|rw [← Ny110.out] at ho12|(simp only [Int.reduceToNat] at ho12;rw [← Ny110.out] at ho12))
               have n0_:=qM (Kd.R_elder' (by (with_reducible repeat (first|apply qG|apply qH|apply qI));exact HO115.out) (Kd.R_base ho12) hb);have n1_:=qM (Kd.R_lower (Kd.R_new' ho12 (Kd.R_lt (by (with_reducible repeat (first|apply qG|apply qH|apply qI));exact HO115.out))) (below_size (by repeat first|exact HB.out|apply qJ|apply qK|apply qL|refine qR ?_ GE106.out|refine qR ?_ GE116.out)))
               have n2_:=qM (blk_below (g:=gb106) (o:=.cells #[.slice none 0 0,.slice none 0 0,.slice none 0 0] 50 (0,0)) (by (with_reducible repeat (first|apply qD|apply qE|apply qF));exact BK106.out) hb);have n3_:=qM (blk_below (g:=gb116) (o:=.cells #[.slice none 0 0,.slice none 0 0,.slice none 0 0] 50 (0,0)) (by (with_reducible repeat (first|apply qD|apply qE|apply qF));exact BK116.out) hb)
               have n4_:=qM (below_step (by repeat first|exact HB.out|apply qJ|apply qK|apply qL|refine qR ?_ GE106.out|refine qR ?_ GE116.out) hb);clear HO115
               clear BK106;clear BK116
               clear HB;have HO115:=n0_
               have HO112:=n1_;have BK106:=n2_
               have BK116:=n3_;have HB:=n4_
               clear n0_ n1_ n2_ n3_ n4_;clear hb ho12
               refine hK.out _ _ trivial (fun hHeld=>?_)
               clear hK K
               refine norm_ (a':=?_) ?_ ?_
               rotate_left
               ·show Act.put _ (some 17) _=_
                simp only [Act.put,qA,qB,qC,i64_w,i32_w]
                rfl
               exact norm_ (by simp only [putAll,Act.put,qA,qB,qC] <;> rfl) (hJ5_8_10 (v111,v114,gb116) _ ⟨(by (with_reducible repeat (first|apply qG|apply qH|apply qI));exact Kd.R_mono HO112.out (fun _ hk=>hk.2)),(by (with_reducible repeat (first|apply qG|apply qH|apply qI));exact Kd.R_mono HO115.out (fun _ hk=>hk.2)),(by (with_reducible repeat (first|apply qD|apply qE|apply qF));exact BK106.out),(by (with_reducible repeat (first|apply qD|apply qE|apply qF));exact BK116.out),GW116.out,GE116.out,NB106_116.out,NB116_106.out,(by repeat first|exact HB.out|apply qJ|apply qK|apply qL|refine qR ?_ GE106.out|refine qR ?_ GE116.out)⟩)
            ·skip
             rintro ⟨v111,gb116⟩ w10 ⟨h0_,h1_,h2_,h3_,h4_,h5_,h6_,h7_⟩
             have n0_ : Aside0 (Kd.R (Kd.int .i64) 3 w10 w.heap.size (fun _=>True) v111 y110):=⟨h0_⟩
             have n1_ : Aside0 (w10.heap[gb106]?=some (.cells #[.slice none 0 0,.slice none 0 0,.slice none 0 0] 50 (0,0))):=⟨h1_⟩
             have n2_ : Aside0 (w10.heap[gb116]?=some (.cells #[.slice none 0 0,.slice none 0 0,.slice none 0 0] 50 (0,0))):=⟨h2_⟩
             have n3_ : Aside0 (w.heap.size≤gb116):=⟨h3_⟩
             have n4_ : Aside0 (w.heap.size≤gb116):=⟨h4_⟩
             have n5_ : Aside0 (gb106 ≠ gb116):=⟨h5_⟩
             have n6_ : Aside0 (gb116 ≠ gb106):=⟨h6_⟩
             have n7_ : Aside0 (Below w.heap.size w w10):=⟨h7_⟩
             clear BK106;clear HB
             clear h0_ h1_ h2_ h3_ h4_ h5_ h6_ h7_;have HO112:=n0_
             have BK106:=n1_;have BK116:=n2_
             have GW116:=n3_;have GE116:=n4_
             have NB106_116:=n5_;have NB116_106:=n6_
             have HB:=n7_;clear n0_ n1_ n2_ n3_ n4_ n5_ n6_ n7_
             have hHeld:=trivial
             refine norm_ (a':=?_) ?_ ?_
             rotate_left;(simp only [putAll,Act.put,qA,qB,qC];rfl)
             refine two_ (i:=2) (j:=8) (Ni:=some 14) (Nj:=some 20) #[tT,tT,tT,tT,tT,tT,tT,tT,tF,tF,tT,tF] #[tT,tT,tF,tT,tT,tT,tT,tT,tT,tF,tT,tF] rfl rfl rfl rfl (two_of HT_.out (by kernel_rfl)) (by decide) (by decide) (fun K hK=>?_) (fun K hK=>?_)
             ·skip
              refine Kd.R_make_step (Kd.int .i64) _ 3 (by rfl) (N:=14) rfl 35 _ _ rfl ji2 rfl rfl Try.underlying35 (.int .i64 0) 8 info3 rfl (by decide) (by omega) 0 (ok:=fun _=>True) (okp:=fun _=>True) rfl (fun _ hk=>hk) trivial (qN (by assumption)) (Nat.le_trans (Nat.mul_le_mul_right _ (qN (by assumption) : ji2.toNat≤35184372088832)) (by omega)) (Below.refl _ _) (Nat.le_refl _) ?_
              intro v108 w11 ho12 hb hg_ hnew_
              clear hg_ hnew_
              (first|rw [← Ny107.out] at ho12|(simp only [Int.reduceToNat] at ho12;rw [← Ny107.out] at ho12))
              have n0_:=qM (Kd.R_elder' (by (with_reducible repeat (first|apply qG|apply qH|apply qI));exact HO112.out) (Kd.R_base ho12) hb);have n1_:=qM (Kd.R_lower (Kd.R_new' ho12 (Kd.R_lt (by (with_reducible repeat (first|apply qG|apply qH|apply qI));exact HO112.out))) (below_size (by repeat first|exact HB.out|apply qJ|apply qK|apply qL|refine qR ?_ GE106.out|refine qR ?_ GE116.out)))
              have n2_:=qM (blk_below (g:=gb106) (o:=.cells #[.slice none 0 0,.slice none 0 0,.slice none 0 0] 50 (0,0)) (by (with_reducible repeat (first|apply qD|apply qE|apply qF));exact BK106.out) hb);have n3_:=qM (blk_below (g:=gb116) (o:=.cells #[.slice none 0 0,.slice none 0 0,.slice none 0 0] 50 (0,0)) (by (with_reducible repeat (first|apply qD|apply qE|apply qF));exact BK116.out) hb)
              have n4_:=qM (below_step (by repeat first|exact HB.out|apply qJ|apply qK|apply qL|refine qR ?_ GE106.out|refine qR ?_ GE116.out) hb);clear HO112
              clear BK106;clear BK116
              clear HB;have HO112:=n0_
              have HO109:=n1_;have BK106:=n2_
              have BK116:=n3_;have HB:=n4_
              clear n0_ n1_ n2_ n3_ n4_;clear hb ho12
              refine hK.out _ _ trivial (fun hHeld=>?_)
              clear hK K
              refine norm_ (a':=?_) ?_ ?_
              rotate_left
              ·show Act.put _ (some 14) _=_
               simp only [Act.put,qA,qB,qC,i64_w,i32_w]
               rfl
              exact norm_ (by simp only [putAll,Act.put,qA,qB,qC] <;> rfl) (hJ2_5_10 (v108,v111,gb116) _ ⟨(by (with_reducible repeat (first|apply qG|apply qH|apply qI));exact Kd.R_mono HO109.out (fun _ hk=>hk.2)),(by (with_reducible repeat (first|apply qG|apply qH|apply qI));exact Kd.R_mono HO112.out (fun _ hk=>hk.2)),(by (with_reducible repeat (first|apply qD|apply qE|apply qF));exact BK106.out),(by (with_reducible repeat (first|apply qD|apply qE|apply qF));exact BK116.out),GW116.out,GE116.out,NB106_116.out,NB116_106.out,(by repeat first|exact HB.out|apply qJ|apply qK|apply qL|refine qR ?_ GE106.out|refine qR ?_ GE116.out)⟩)
             ·skip
              refine Kd.R_make_step (Kd.int .i64) _ 3 (by rfl) (N:=20) rfl 35 _ _ rfl ji2 rfl rfl Try.underlying35 (.int .i64 0) 8 info3 rfl (by decide) (by omega) 0 (ok:=fun _=>True) (okp:=fun _=>True) rfl (fun _ hk=>hk) trivial (qN (by assumption)) (Nat.le_trans (Nat.mul_le_mul_right _ (qN (by assumption) : ji2.toNat≤35184372088832)) (by omega)) (Below.refl _ _) (Nat.le_refl _) ?_
              intro v114 w11 ho12 hb hg_ hnew_
              clear hg_ hnew_
              (first|rw [← Ny113.out] at ho12|(simp only [Int.reduceToNat] at ho12;rw [← Ny113.out] at ho12))
              have n0_:=qM (Kd.R_elder' (by (with_reducible repeat (first|apply qG|apply qH|apply qI));exact HO112.out) (Kd.R_base ho12) hb);have n1_:=qM (Kd.R_lower (Kd.R_new' ho12 (Kd.R_lt (by (with_reducible repeat (first|apply qG|apply qH|apply qI));exact HO112.out))) (below_size (by repeat first|exact HB.out|apply qJ|apply qK|apply qL|refine qR ?_ GE106.out|refine qR ?_ GE116.out)))
              have n2_:=qM (blk_below (g:=gb106) (o:=.cells #[.slice none 0 0,.slice none 0 0,.slice none 0 0] 50 (0,0)) (by (with_reducible repeat (first|apply qD|apply qE|apply qF));exact BK106.out) hb);have n3_:=qM (blk_below (g:=gb116) (o:=.cells #[.slice none 0 0,.slice none 0 0,.slice none 0 0] 50 (0,0)) (by (with_reducible repeat (first|apply qD|apply qE|apply qF));exact BK116.out) hb)
              have n4_:=qM (below_step (by repeat first|exact HB.out|apply qJ|apply qK|apply qL|refine qR ?_ GE106.out|refine qR ?_ GE116.out) hb);clear HO112
              clear BK106;clear BK116
              clear HB;have HO112:=n0_
              have HO115:=n1_;have BK106:=n2_
              have BK116:=n3_;have HB:=n4_
              clear n0_ n1_ n2_ n3_ n4_;clear hb ho12
              refine hK.out _ _ trivial (fun hHeld=>?_)
              clear hK K
              refine norm_ (a':=?_) ?_ ?_
              rotate_left
              ·show Act.put _ (some 20) _=_
               simp only [Act.put,qA,qB,qC,i64_w,i32_w]
               rfl
              exact norm_ (by simp only [putAll,Act.put,qA,qB,qC] <;> rfl) (hJ5_8_10 (v111,v114,gb116) _ ⟨(by (with_reducible repeat (first|apply qG|apply qH|apply qI));exact Kd.R_mono HO112.out (fun _ hk=>hk.2)),(by (with_reducible repeat (first|apply qG|apply qH|apply qI));exact Kd.R_mono HO115.out (fun _ hk=>hk.2)),(by (with_reducible repeat (first|apply qD|apply qE|apply qF));exact BK106.out),(by (with_reducible repeat (first|apply qD|apply qE|apply qF));exact BK116.out),GW116.out,GE116.out,NB106_116.out,NB116_106.out,(by repeat first|exact HB.out|apply qJ|apply qK|apply qL|refine qR ?_ GE106.out|refine qR ?_ GE116.out)⟩)
           ·skip
            rintro ⟨v111,v114⟩ w11 ⟨h0_,h1_,h2_,h3_⟩
            have n0_ : Aside0 (Kd.R (Kd.int .i64) 3 w11 w.heap.size (fun k_=>some k_ ≠ (v114 : Value).ownBlock) v111 y110):=⟨h0_⟩
            have n1_ : Aside0 (Kd.R (Kd.int .i64) 3 w11 w.heap.size (fun k_=>some k_ ≠ (v111 : Value).ownBlock) v114 y113):=⟨h1_⟩
            have n2_ : Aside0 (w11.heap[gb106]?=some (.cells #[.slice none 0 0,.slice none 0 0,.slice none 0 0] 50 (0,0))):=⟨h2_⟩
            have n3_ : Aside0 (Below w.heap.size w w11):=⟨h3_⟩
            clear BK106;clear HB
            clear h0_ h1_ h2_ h3_;have HO112:=n0_
            have HO115:=n1_;have BK106:=n2_
            have HB:=n3_;clear n0_ n1_ n2_ n3_
            have hHeld:=trivial
            refine norm_ (a':=?_) ?_ ?_
            rotate_left;(simp only [putAll,Act.put,qA,qB,qC];rfl)
            refine two_ (i:=2) (j:=10) (Ni:=some 14) (Nj:=some 4) #[tT,tT,tT,tT,tT,tT,tT,tT,tT,tF,tF,tF] #[tT,tT,tF,tT,tT,tT,tT,tT,tT,tF,tT,tF] rfl rfl rfl rfl (two_of HT_.out (by kernel_rfl)) (by decide) (by decide) (fun K hK=>?_) (fun K hK=>?_)
            ·skip
             refine Kd.R_make_step (Kd.int .i64) _ 3 (by rfl) (N:=14) rfl 35 _ _ rfl ji2 rfl rfl Try.underlying35 (.int .i64 0) 8 info3 rfl (by decide) (by omega) 0 (ok:=fun _=>True) (okp:=fun _=>True) rfl (fun _ hk=>hk) trivial (qN (by assumption)) (Nat.le_trans (Nat.mul_le_mul_right _ (qN (by assumption) : ji2.toNat≤35184372088832)) (by omega)) (Below.refl _ _) (Nat.le_refl _) ?_
             intro v108 w12 ho13 hb hg_ hnew_
             clear hg_ hnew_
             (first|rw [← Ny107.out] at ho13|(simp only [Int.reduceToNat] at ho13;rw [← Ny107.out] at ho13))
             have n0_:=qM (Kd.R_elder' (by (with_reducible repeat (first|apply qG|apply qH|apply qI));exact HO112.out) (Kd.R_base ho13) hb);have n1_:=qM (Kd.R_elder' (by (with_reducible repeat (first|apply qG|apply qH|apply qI));exact HO115.out) (Kd.R_base ho13) hb)
             have n2_:=qM (Kd.R_lower (Kd.R_new' (Kd.R_new' ho13 (Kd.R_lt (by (with_reducible repeat (first|apply qG|apply qH|apply qI));exact HO112.out))) (Kd.R_lt (by (with_reducible repeat (first|apply qG|apply qH|apply qI));exact HO115.out))) (below_size (by repeat first|exact HB.out|apply qJ|apply qK|apply qL|refine qR ?_ GE106.out)));have n3_:=qM (blk_below (g:=gb106) (o:=.cells #[.slice none 0 0,.slice none 0 0,.slice none 0 0] 50 (0,0)) (by (with_reducible repeat (first|apply qD|apply qE|apply qF));exact BK106.out) hb)
             have n4_:=qM (below_step (by repeat first|exact HB.out|apply qJ|apply qK|apply qL|refine qR ?_ GE106.out) hb);clear HO112
             clear HO115;clear BK106
             clear HB;have HO112:=n0_
             have HO115:=n1_;have HO109:=n2_
             have BK106:=n3_;have HB:=n4_
             clear n0_ n1_ n2_ n3_ n4_;clear hb ho13
             obtain ⟨Ao14,co14,eo14⟩:=Kd.R_slice HO115.out
             (first|subst eo14|(injection eo14 with f1_ f2_ f3_;have f4_:=f1_.symm;have f5_:=f3_.symm;clear f1_ f2_ f3_;subst f4_;subst f5_))
             obtain ⟨Ao15,co15,eo15⟩:=Kd.R_slice HO112.out
             (first|subst eo15|(injection eo15 with f1_ f2_ f3_;have f4_:=f1_.symm;have f5_:=f3_.symm;clear f1_ f2_ f3_;subst f4_;subst f5_))
             obtain ⟨Ao16,co16,eo16⟩:=Kd.R_slice HO109.out
             (first|subst eo16|(injection eo16 with f1_ f2_ f3_;have f4_:=f1_.symm;have f5_:=f3_.symm;clear f1_ f2_ f3_;subst f4_;subst f5_))
             refine hK.out _ _ trivial (fun hHeld=>?_)
             clear hK K
             refine norm_ (a':=?_) ?_ ?_
             rotate_left
             ·show Act.put _ (some 14) _=_
              simp only [Act.put,qA,qB,qC,i64_w,i32_w]
              rfl
             refine pure_ (i:=9) (N:=some 21) (v:=?_) (a':=?_) #[tT,tT,tT,tT,tT,tT,tT,tT,tT,tT,tF,tF] rfl rfl (any_of HT_.out (by kernel_rfl)) (fun _ _ _ h=>h) (Or.inl ⟨by rfl,?_⟩) ?_ ?_
             rotate_left;(intro w';go_simp;with_reducible rfl);rotate_left;(simp only [Act.put,qA,qB,qC,i64_w,i32_w];rfl)
             exact norm_ (by simp only [putAll,Act.put,qA,qB,qC] <;> rfl) (hJ2_5_8 (.slice Ao16 y107.length co16,.slice Ao15 y110.length co15,.slice Ao14 y113.length co14) _ ⟨(by (with_reducible repeat (first|apply qG|apply qH|apply qI));exact Kd.R_mono HO109.out (fun _ hk=>⟨hk.1.2,hk.2⟩)),(by (with_reducible repeat (first|apply qG|apply qH|apply qI));exact Kd.R_mono HO112.out (fun _ hk=>⟨hk.2,hk.1⟩)),(by (with_reducible repeat (first|apply qG|apply qH|apply qI));exact Kd.R_mono HO115.out (fun _ hk=>⟨hk.2,hk.1⟩)),(by (with_reducible repeat (first|apply qD|apply qE|apply qF));exact BK106.out),(by repeat first|exact HB.out|apply qJ|apply qK|apply qL|refine qR ?_ GE106.out)⟩)
            ·skip
             refine box_step ?hg (N:=4) ?hd (cs:=#[.slice none 0 0,.slice none 0 0,.slice none 0 0]) (t:=50) ?hr ?_;(case hd=>rfl);(case hg=>rfl);(case hr=>first|(go_simp;done)|(go_simp;rfl))
             intro gb116 hg w12 hbox hb
             have n0_:=qM (Kd.R_below (by (with_reducible repeat (first|apply qG|apply qH|apply qI));exact HO112.out) hb);have n1_:=qM (Kd.R_below (by (with_reducible repeat (first|apply qG|apply qH|apply qI));exact HO115.out) hb)
             have n2_:=qM (blk_below (g:=gb106) (o:=.cells #[.slice none 0 0,.slice none 0 0,.slice none 0 0] 50 (0,0)) (by (with_reducible repeat (first|apply qD|apply qE|apply qF));exact BK106.out) hb);have n3_:=qM (below_step (by repeat first|exact HB.out|apply qJ|apply qK|apply qL|refine qR ?_ GE106.out) hb)
             have n4_:=qM (hbox);have n5_:=qM ((by rw [hg];exact (below_size (by repeat first|exact HB.out|apply qJ|apply qK|apply qL|refine qR ?_ GE106.out)) : w.heap.size≤gb116))
             have n6_:=qM ((by rw [hg];exact (below_size (by repeat first|exact HB.out|apply qJ|apply qK|apply qL|refine qR ?_ GE106.out)) : w.heap.size≤gb116));have n7_:=qM ((by rw [hg];exact Nat.ne_of_lt (blk_lt (g:=gb106) (o:=.cells #[.slice none 0 0,.slice none 0 0,.slice none 0 0] 50 (0,0)) (by (with_reducible repeat (first|apply qD|apply qE|apply qF));exact BK106.out)) : gb106 ≠ gb116))
             have n8_:=qM ((by rw [hg];exact Nat.ne_of_gt (blk_lt (g:=gb106) (o:=.cells #[.slice none 0 0,.slice none 0 0,.slice none 0 0] 50 (0,0)) (by (with_reducible repeat (first|apply qD|apply qE|apply qF));exact BK106.out)) : gb116 ≠ gb106));clear HO112
             clear HO115;clear BK106
             clear HB;have HO112:=n0_
             have HO115:=n1_;have BK106:=n2_
             have HB:=n3_;have BK116:=n4_
             have GW116:=n5_;have GE116:=n6_
             have NB106_116:=n7_;have NB116_106:=n8_
             clear n0_ n1_ n2_ n3_ n4_ n5_ n6_ n7_ n8_;clear hb hbox hg
             refine hK.out _ _ trivial (fun hHeld=>?_)
             clear hK K
             refine norm_ (a':=?_) ?_ ?_
             rotate_left
             ·show Act.put _ (some 4) _=_
              simp only [Act.put,qA,qB,qC,i64_w,i32_w]
              rfl
             exact norm_ (by simp only [putAll,Act.put,qA,qB,qC] <;> rfl) (hJ5_8_10 (v111,v114,gb116) _ ⟨(by (with_reducible repeat (first|apply qG|apply qH|apply qI));exact HO112.out),(by (with_reducible repeat (first|apply qG|apply qH|apply qI));exact HO115.out),(by (with_reducible repeat (first|apply qD|apply qE|apply qF));exact BK106.out),(by (with_reducible repeat (first|apply qD|apply qE|apply qF));exact BK116.out),GW116.out,GE116.out,NB106_116.out,NB116_106.out,(by repeat first|exact HB.out|apply qJ|apply qK|apply qL|refine qR ?_ GE106.out|refine qR ?_ GE116.out)⟩)
          ·skip
           rintro ⟨v108,gb116⟩ w10 ⟨h0_,h1_,h2_,h3_,h4_,h5_,h6_,h7_⟩
           have n0_ : Aside0 (Kd.R (Kd.int .i64) 3 w10 w.heap.size (fun _=>True) v108 y107):=⟨h0_⟩
           have n1_ : Aside0 (w10.heap[gb106]?=some (.cells #[.slice none 0 0,.slice none 0 0,.slice none 0 0] 50 (0,0))):=⟨h1_⟩
           have n2_ : Aside0 (w10.heap[gb116]?=some (.cells #[.slice none 0 0,.slice none 0 0,.slice none 0 0] 50 (0,0))):=⟨h2_⟩
           have n3_ : Aside0 (w.heap.size≤gb116):=⟨h3_⟩
           have n4_ : Aside0 (w.heap.size≤gb116):=⟨h4_⟩
           have n5_ : Aside0 (gb106 ≠ gb116):=⟨h5_⟩
           have n6_ : Aside0 (gb116 ≠ gb106):=⟨h6_⟩
           have n7_ : Aside0 (Below w.heap.size w w10):=⟨h7_⟩
           clear BK106;clear HB
           clear h0_ h1_ h2_ h3_ h4_ h5_ h6_ h7_;have HO109:=n0_
           have BK106:=n1_;have BK116:=n2_
           have GW116:=n3_;have GE116:=n4_
           have NB106_116:=n5_;have NB116_106:=n6_
           have HB:=n7_;clear n0_ n1_ n2_ n3_ n4_ n5_ n6_ n7_
           have hHeld:=trivial
           refine norm_ (a':=?_) ?_ ?_
           rotate_left;(simp only [putAll,Act.put,qA,qB,qC];rfl)
           refine two_ (i:=5) (j:=8) (Ni:=some 17) (Nj:=some 20) #[tT,tT,tT,tT,tT,tT,tT,tT,tF,tF,tT,tF] #[tT,tT,tT,tT,tT,tF,tT,tT,tT,tF,tT,tF] rfl rfl rfl rfl (two_of HT_.out (by kernel_rfl)) (by decide) (by decide) (fun K hK=>?_) (fun K hK=>?_)
           ·skip
            refine Kd.R_make_step (Kd.int .i64) _ 3 (by rfl) (N:=17) rfl 35 _ _ rfl ji2 rfl rfl Try.underlying35 (.int .i64 0) 8 info3 rfl (by decide) (by omega) 0 (ok:=fun _=>True) (okp:=fun _=>True) rfl (fun _ hk=>hk) trivial (qN (by assumption)) (Nat.le_trans (Nat.mul_le_mul_right _ (qN (by assumption) : ji2.toNat≤35184372088832)) (by omega)) (Below.refl _ _) (Nat.le_refl _) ?_
            intro v111 w11 ho12 hb hg_ hnew_
            clear hg_ hnew_
            (first|rw [← Ny110.out] at ho12|(simp only [Int.reduceToNat] at ho12;rw [← Ny110.out] at ho12))
            have n0_:=qM (Kd.R_elder' (by (with_reducible repeat (first|apply qG|apply qH|apply qI));exact HO109.out) (Kd.R_base ho12) hb);have n1_:=qM (Kd.R_lower (Kd.R_new' ho12 (Kd.R_lt (by (with_reducible repeat (first|apply qG|apply qH|apply qI));exact HO109.out))) (below_size (by repeat first|exact HB.out|apply qJ|apply qK|apply qL|refine qR ?_ GE106.out|refine qR ?_ GE116.out)))
            have n2_:=qM (blk_below (g:=gb106) (o:=.cells #[.slice none 0 0,.slice none 0 0,.slice none 0 0] 50 (0,0)) (by (with_reducible repeat (first|apply qD|apply qE|apply qF));exact BK106.out) hb);have n3_:=qM (blk_below (g:=gb116) (o:=.cells #[.slice none 0 0,.slice none 0 0,.slice none 0 0] 50 (0,0)) (by (with_reducible repeat (first|apply qD|apply qE|apply qF));exact BK116.out) hb)
            have n4_:=qM (below_step (by repeat first|exact HB.out|apply qJ|apply qK|apply qL|refine qR ?_ GE106.out|refine qR ?_ GE116.out) hb);clear HO109
            clear BK106;clear BK116
            clear HB;have HO109:=n0_
            have HO112:=n1_;have BK106:=n2_
            have BK116:=n3_;have HB:=n4_
            clear n0_ n1_ n2_ n3_ n4_;clear hb ho12
            refine hK.out _ _ trivial (fun hHeld=>?_)
            clear hK K
            refine norm_ (a':=?_) ?_ ?_
            rotate_left
            ·show Act.put _ (some 17) _=_
             simp only [Act.put,qA,qB,qC,i64_w,i32_w]
             rfl
            exact norm_ (by simp only [putAll,Act.put,qA,qB,qC] <;> rfl) (hJ2_5_10 (v108,v111,gb116) _ ⟨(by (with_reducible repeat (first|apply qG|apply qH|apply qI));exact Kd.R_mono HO109.out (fun _ hk=>hk.2)),(by (with_reducible repeat (first|apply qG|apply qH|apply qI));exact Kd.R_mono HO112.out (fun _ hk=>hk.2)),(by (with_reducible repeat (first|apply qD|apply qE|apply qF));exact BK106.out),(by (with_reducible repeat (first|apply qD|apply qE|apply qF));exact BK116.out),GW116.out,GE116.out,NB106_116.out,NB116_106.out,(by repeat first|exact HB.out|apply qJ|apply qK|apply qL|refine qR ?_ GE106.out|refine qR ?_ GE116.out)⟩)
           ·skip
            refine Kd.R_make_step (Kd.int .i64) _ 3 (by rfl) (N:=20) rfl 35 _ _ rfl ji2 rfl rfl Try.underlying35 (.int .i64 0) 8 info3 rfl (by decide) (by omega) 0 (ok:=fun _=>True) (okp:=fun _=>True) rfl (fun _ hk=>hk) trivial (qN (by assumption)) (Nat.le_trans (Nat.mul_le_mul_right _ (qN (by assumption) : ji2.toNat≤35184372088832)) (by omega)) (Below.refl _ _) (Nat.le_refl _) ?_
            intro v114 w11 ho12 hb hg_ hnew_
            clear hg_ hnew_
            (first|rw [← Ny113.out] at ho12|(simp only [Int.reduceToNat] at ho12;rw [← Ny113.out] at ho12))
            have n0_:=qM (Kd.R_elder' (by (with_reducible repeat (first|apply qG|apply qH|apply qI));exact HO109.out) (Kd.R_base ho12) hb);have n1_:=qM (Kd.R_lower (Kd.R_new' ho12 (Kd.R_lt (by (with_reducible repeat (first|apply qG|apply qH|apply qI));exact HO109.out))) (below_size (by repeat first|exact HB.out|apply qJ|apply qK|apply qL|refine qR ?_ GE106.out|refine qR ?_ GE116.out)))
            have n2_:=qM (blk_below (g:=gb106) (o:=.cells #[.slice none 0 0,.slice none 0 0,.slice none 0 0] 50 (0,0)) (by (with_reducible repeat (first|apply qD|apply qE|apply qF));exact BK106.out) hb);have n3_:=qM (blk_below (g:=gb116) (o:=.cells #[.slice none 0 0,.slice none 0 0,.slice none 0 0] 50 (0,0)) (by (with_reducible repeat (first|apply qD|apply qE|apply qF));exact BK116.out) hb)
            have n4_:=qM (below_step (by repeat first|exact HB.out|apply qJ|apply qK|apply qL|refine qR ?_ GE106.out|refine qR ?_ GE116.out) hb);clear HO109
            clear BK106;clear BK116
            clear HB;have HO109:=n0_
            have HO115:=n1_;have BK106:=n2_
            have BK116:=n3_;have HB:=n4_
            clear n0_ n1_ n2_ n3_ n4_;clear hb ho12
            refine hK.out _ _ trivial (fun hHeld=>?_)
            clear hK K
            refine norm_ (a':=?_) ?_ ?_
            rotate_left
            ·show Act.put _ (some 20) _=_
             simp only [Act.put,qA,qB,qC,i64_w,i32_w]
             rfl
            exact norm_ (by simp only [putAll,Act.put,qA,qB,qC] <;> rfl) (hJ2_8_10 (v108,v114,gb116) _ ⟨(by (with_reducible repeat (first|apply qG|apply qH|apply qI));exact Kd.R_mono HO109.out (fun _ hk=>hk.2)),(by (with_reducible repeat (first|apply qG|apply qH|apply qI));exact Kd.R_mono HO115.out (fun _ hk=>hk.2)),(by (with_reducible repeat (first|apply qD|apply qE|apply qF));exact BK106.out),(by (with_reducible repeat (first|apply qD|apply qE|apply qF));exact BK116.out),GW116.out,GE116.out,NB106_116.out,NB116_106.out,(by repeat first|exact HB.out|apply qJ|apply qK|apply qL|refine qR ?_ GE106.out|refine qR ?_ GE116.out)⟩)
         ·skip
          rintro ⟨v108,v114⟩ w11 ⟨h0_,h1_,h2_,h3_⟩
          have n0_ : Aside0 (Kd.R (Kd.int .i64) 3 w11 w.heap.size (fun k_=>some k_ ≠ (v114 : Value).ownBlock) v108 y107):=⟨h0_⟩
          have n1_ : Aside0 (Kd.R (Kd.int .i64) 3 w11 w.heap.size (fun k_=>some k_ ≠ (v108 : Value).ownBlock) v114 y113):=⟨h1_⟩
          have n2_ : Aside0 (w11.heap[gb106]?=some (.cells #[.slice none 0 0,.slice none 0 0,.slice none 0 0] 50 (0,0))):=⟨h2_⟩
          have n3_ : Aside0 (Below w.heap.size w w11):=⟨h3_⟩
          clear BK106;clear HB
          clear h0_ h1_ h2_ h3_;have HO109:=n0_
          have HO115:=n1_;have BK106:=n2_
          have HB:=n3_;clear n0_ n1_ n2_ n3_
          have hHeld:=trivial
          refine norm_ (a':=?_) ?_ ?_
          rotate_left;(simp only [putAll,Act.put,qA,qB,qC];rfl)
          refine two_ (i:=5) (j:=10) (Ni:=some 17) (Nj:=some 4) #[tT,tT,tT,tT,tT,tT,tT,tT,tT,tF,tF,tF] #[tT,tT,tT,tT,tT,tF,tT,tT,tT,tF,tT,tF] rfl rfl rfl rfl (two_of HT_.out (by kernel_rfl)) (by decide) (by decide) (fun K hK=>?_) (fun K hK=>?_)
          ·skip
           refine Kd.R_make_step (Kd.int .i64) _ 3 (by rfl) (N:=17) rfl 35 _ _ rfl ji2 rfl rfl Try.underlying35 (.int .i64 0) 8 info3 rfl (by decide) (by omega) 0 (ok:=fun _=>True) (okp:=fun _=>True) rfl (fun _ hk=>hk) trivial (qN (by assumption)) (Nat.le_trans (Nat.mul_le_mul_right _ (qN (by assumption) : ji2.toNat≤35184372088832)) (by omega)) (Below.refl _ _) (Nat.le_refl _) ?_
           intro v111 w12 ho13 hb hg_ hnew_
           clear hg_ hnew_
           (first|rw [← Ny110.out] at ho13|(simp only [Int.reduceToNat] at ho13;rw [← Ny110.out] at ho13))
           have n0_:=qM (Kd.R_elder' (by (with_reducible repeat (first|apply qG|apply qH|apply qI));exact HO109.out) (Kd.R_base ho13) hb);have n1_:=qM (Kd.R_elder' (by (with_reducible repeat (first|apply qG|apply qH|apply qI));exact HO115.out) (Kd.R_base ho13) hb)
           have n2_:=qM (Kd.R_lower (Kd.R_new' (Kd.R_new' ho13 (Kd.R_lt (by (with_reducible repeat (first|apply qG|apply qH|apply qI));exact HO109.out))) (Kd.R_lt (by (with_reducible repeat (first|apply qG|apply qH|apply qI));exact HO115.out))) (below_size (by repeat first|exact HB.out|apply qJ|apply qK|apply qL|refine qR ?_ GE106.out)));have n3_:=qM (blk_below (g:=gb106) (o:=.cells #[.slice none 0 0,.slice none 0 0,.slice none 0 0] 50 (0,0)) (by (with_reducible repeat (first|apply qD|apply qE|apply qF));exact BK106.out) hb)
           have n4_:=qM (below_step (by repeat first|exact HB.out|apply qJ|apply qK|apply qL|refine qR ?_ GE106.out) hb);clear HO109
           clear HO115;clear BK106
           clear HB;have HO109:=n0_
           have HO115:=n1_;have HO112:=n2_
           have BK106:=n3_;have HB:=n4_
           clear n0_ n1_ n2_ n3_ n4_;clear hb ho13
           obtain ⟨Ao14,co14,eo14⟩:=Kd.R_slice HO115.out
           (first|subst eo14|(injection eo14 with f1_ f2_ f3_;have f4_:=f1_.symm;have f5_:=f3_.symm;clear f1_ f2_ f3_;subst f4_;subst f5_))
           obtain ⟨Ao15,co15,eo15⟩:=Kd.R_slice HO112.out
           (first|subst eo15|(injection eo15 with f1_ f2_ f3_;have f4_:=f1_.symm;have f5_:=f3_.symm;clear f1_ f2_ f3_;subst f4_;subst f5_))
           obtain ⟨Ao16,co16,eo16⟩:=Kd.R_slice HO109.out
           (first|subst eo16|(injection eo16 with f1_ f2_ f3_;have f4_:=f1_.symm;have f5_:=f3_.symm;clear f1_ f2_ f3_;subst f4_;subst f5_))
           refine hK.out _ _ trivial (fun hHeld=>?_)
           clear hK K
           refine norm_ (a':=?_) ?_ ?_
           rotate_left
           ·show Act.put _ (some 17) _=_
            simp only [Act.put,qA,qB,qC,i64_w,i32_w]
            rfl
           refine pure_ (i:=9) (N:=some 21) (v:=?_) (a':=?_) #[tT,tT,tT,tT,tT,tT,tT,tT,tT,tT,tF,tF] rfl rfl (any_of HT_.out (by kernel_rfl)) (fun _ _ _ h=>h) (Or.inl ⟨by rfl,?_⟩) ?_ ?_
           rotate_left;(intro w';go_simp;with_reducible rfl);rotate_left;(simp only [Act.put,qA,qB,qC,i64_w,i32_w];rfl)
           exact norm_ (by simp only [putAll,Act.put,qA,qB,qC] <;> rfl) (hJ2_5_8 (.slice Ao16 y107.length co16,.slice Ao15 y110.length co15,.slice Ao14 y113.length co14) _ ⟨(by (with_reducible repeat (first|apply qG|apply qH|apply qI));exact Kd.R_mono HO109.out (fun _ hk=>⟨hk.2,hk.1⟩)),(by (with_reducible repeat (first|apply qG|apply qH|apply qI));exact Kd.R_mono HO112.out (fun _ hk=>⟨hk.1.2,hk.2⟩)),(by (with_reducible repeat (first|apply qG|apply qH|apply qI));exact HO115.out),(by (with_reducible repeat (first|apply qD|apply qE|apply qF));exact BK106.out),(by repeat first|exact HB.out|apply qJ|apply qK|apply qL|refine qR ?_ GE106.out)⟩)
          ·skip
           refine box_step ?hg (N:=4) ?hd (cs:=#[.slice none 0 0,.slice none 0 0,.slice none 0 0]) (t:=50) ?hr ?_;(case hd=>rfl);(case hg=>rfl);(case hr=>first|(go_simp;done)|(go_simp;rfl))
           intro gb116 hg w12 hbox hb
           have n0_:=qM (Kd.R_below (by (with_reducible repeat (first|apply qG|apply qH|apply qI));exact HO109.out) hb);have n1_:=qM (Kd.R_below (by (with_reducible repeat (first|apply qG|apply qH|apply qI));exact HO115.out) hb)
           have n2_:=qM (blk_below (g:=gb106) (o:=.cells #[.slice none 0 0,.slice none 0 0,.slice none 0 0] 50 (0,0)) (by (with_reducible repeat (first|apply qD|apply qE|apply qF));exact BK106.out) hb);have n3_:=qM (below_step (by repeat first|exact HB.out|apply qJ|apply qK|apply qL|refine qR ?_ GE106.out) hb)
           have n4_:=qM (hbox);have n5_:=qM ((by rw [hg];exact (below_size (by repeat first|exact HB.out|apply qJ|apply qK|apply qL|refine qR ?_ GE106.out)) : w.heap.size≤gb116))
           have n6_:=qM ((by rw [hg];exact (below_size (by repeat first|exact HB.out|apply qJ|apply qK|apply qL|refine qR ?_ GE106.out)) : w.heap.size≤gb116));have n7_:=qM ((by rw [hg];exact Nat.ne_of_lt (blk_lt (g:=gb106) (o:=.cells #[.slice none 0 0,.slice none 0 0,.slice none 0 0] 50 (0,0)) (by (with_reducible repeat (first|apply qD|apply qE|apply qF));exact BK106.out)) : gb106 ≠ gb116))
           have n8_:=qM ((by rw [hg];exact Nat.ne_of_gt (blk_lt (g:=gb106) (o:=.cells #[.slice none 0 0,.slice none 0 0,.slice none 0 0] 50 (0,0)) (by (with_reducible repeat (first|apply qD|apply qE|apply qF));exact BK106.out)) : gb116 ≠ gb106));clear HO109
           clear HO115;clear BK106
           clear HB;have HO109:=n0_
           have HO115:=n1_;have BK106:=n2_
           have HB:=n3_;have BK116:=n4_
           have GW116:=n5_;have GE116:=n6_
           have NB106_116:=n7_;have NB116_106:=n8_
           clear n0_ n1_ n2_ n3_ n4_ n5_ n6_ n7_ n8_;clear hb hbox hg
           refine hK.out _ _ trivial (fun hHeld=>?_)
           clear hK K
           refine norm_ (a':=?_) ?_ ?_
           rotate_left
           ·show Act.put _ (some 4) _=_
            simp only [Act.put,qA,qB,qC,i64_w,i32_w]
            rfl
           exact norm_ (by simp only [putAll,Act.put,qA,qB,qC] <;> rfl) (hJ2_8_10 (v108,v114,gb116) _ ⟨(by (with_reducible repeat (first|apply qG|apply qH|apply qI));exact HO109.out),(by (with_reducible repeat (first|apply qG|apply qH|apply qI));exact HO115.out),(by (with_reducible repeat (first|apply qD|apply qE|apply qF));exact BK106.out),(by (with_reducible repeat (first|apply qD|apply qE|apply qF));exact BK116.out),GW116.out,GE116.out,NB106_116.out,NB116_106.out,(by repeat first|exact HB.out|apply qJ|apply qK|apply qL|refine qR ?_ GE106.out|refine qR ?_ GE116.out)⟩)
        ·skip
         rintro ⟨v108,v111⟩ w11 ⟨h0_,h1_,h2_,h3_⟩
         have n0_ : Aside0 (Kd.R (Kd.int .i64) 3 w11 w.heap.size (fun k_=>some k_ ≠ (v111 : Value).ownBlock) v108 y107):=⟨h0_⟩
         have n1_ : Aside0 (Kd.R (Kd.int .i64) 3 w11 w.heap.size (fun k_=>some k_ ≠ (v108 : Value).ownBlock) v111 y110):=⟨h1_⟩
         have n2_ : Aside0 (w11.heap[gb106]?=some (.cells #[.slice none 0 0,.slice none 0 0,.slice none 0 0] 50 (0,0))):=⟨h2_⟩
         have n3_ : Aside0 (Below w.heap.size w w11):=⟨h3_⟩
         clear BK106;clear HB
         clear h0_ h1_ h2_ h3_;have HO109:=n0_
         have HO112:=n1_;have BK106:=n2_
         have HB:=n3_;clear n0_ n1_ n2_ n3_
         have hHeld:=trivial
         refine norm_ (a':=?_) ?_ ?_
         rotate_left;(simp only [putAll,Act.put,qA,qB,qC];rfl)
         refine two_ (i:=8) (j:=10) (Ni:=some 20) (Nj:=some 4) #[tT,tT,tT,tT,tT,tT,tT,tT,tT,tF,tF,tF] #[tT,tT,tT,tT,tT,tT,tT,tT,tF,tF,tT,tF] rfl rfl rfl rfl (two_of HT_.out (by kernel_rfl)) (by decide) (by decide) (fun K hK=>?_) (fun K hK=>?_)
         ·skip
          refine Kd.R_make_step (Kd.int .i64) _ 3 (by rfl) (N:=20) rfl 35 _ _ rfl ji2 rfl rfl Try.underlying35 (.int .i64 0) 8 info3 rfl (by decide) (by omega) 0 (ok:=fun _=>True) (okp:=fun _=>True) rfl (fun _ hk=>hk) trivial (qN (by assumption)) (Nat.le_trans (Nat.mul_le_mul_right _ (qN (by assumption) : ji2.toNat≤35184372088832)) (by omega)) (Below.refl _ _) (Nat.le_refl _) ?_
          intro v114 w12 ho13 hb hg_ hnew_
          clear hg_ hnew_
          (first|rw [← Ny113.out] at ho13|(simp only [Int.reduceToNat] at ho13;rw [← Ny113.out] at ho13))
          have n0_:=qM (Kd.R_elder' (by (with_reducible repeat (first|apply qG|apply qH|apply qI));exact HO109.out) (Kd.R_base ho13) hb);have n1_:=qM (Kd.R_elder' (by (with_reducible repeat (first|apply qG|apply qH|apply qI));exact HO112.out) (Kd.R_base ho13) hb)
          have n2_:=qM (Kd.R_lower (Kd.R_new' (Kd.R_new' ho13 (Kd.R_lt (by (with_reducible repeat (first|apply qG|apply qH|apply qI));exact HO109.out))) (Kd.R_lt (by (with_reducible repeat (first|apply qG|apply qH|apply qI));exact HO112.out))) (below_size (by repeat first|exact HB.out|apply qJ|apply qK|apply qL|refine qR ?_ GE106.out)));have n3_:=qM (blk_below (g:=gb106) (o:=.cells #[.slice none 0 0,.slice none 0 0,.slice none 0 0] 50 (0,0)) (by (with_reducible repeat (first|apply qD|apply qE|apply qF));exact BK106.out) hb)
          have n4_:=qM (below_step (by repeat first|exact HB.out|apply qJ|apply qK|apply qL|refine qR ?_ GE106.out) hb);clear HO109
          clear HO112;clear BK106
          clear HB;have HO109:=n0_
          have HO112:=n1_;have HO115:=n2_
          have BK106:=n3_;have HB:=n4_
          clear n0_ n1_ n2_ n3_ n4_;clear hb ho13
          obtain ⟨Ao14,co14,eo14⟩:=Kd.R_slice HO115.out
          (first|subst eo14|(injection eo14 with f1_ f2_ f3_;have f4_:=f1_.symm;have f5_:=f3_.symm;clear f1_ f2_ f3_;subst f4_;subst f5_))
          obtain ⟨Ao15,co15,eo15⟩:=Kd.R_slice HO112.out
          (first|subst eo15|(injection eo15 with f1_ f2_ f3_;have f4_:=f1_.symm;have f5_:=f3_.symm;clear f1_ f2_ f3_;subst f4_;subst f5_))
          obtain ⟨Ao16,co16,eo16⟩:=Kd.R_slice HO109.out
          (first|subst eo16|(injection eo16 with f1_ f2_ f3_;have f4_:=f1_.symm;have f5_:=f3_.symm;clear f1_ f2_ f3_;subst f4_;subst f5_))
          refine hK.out _ _ trivial (fun hHeld=>?_)
          clear hK K
          refine norm_ (a':=?_) ?_ ?_
          rotate_left
          ·show Act.put _ (some 20) _=_
           simp only [Act.put,qA,qB,qC,i64_w,i32_w]
           rfl
          refine pure_ (i:=9) (N:=some 21) (v:=?_) (a':=?_) #[tT,tT,tT,tT,tT,tT,tT,tT,tT,tT,tF,tF] rfl rfl (any_of HT_.out (by kernel_rfl)) (fun _ _ _ h=>h) (Or.inl ⟨by rfl,?_⟩) ?_ ?_
          rotate_left;(intro w';go_simp;with_reducible rfl);rotate_left;(simp only [Act.put,qA,qB,qC,i64_w,i32_w];rfl)
          exact norm_ (by simp only [putAll,Act.put,qA,qB,qC] <;> rfl) (hJ2_5_8 (.slice Ao16 y107.length co16,.slice Ao15 y110.length co15,.slice Ao14 y113.length co14) _ ⟨(by (with_reducible repeat (first|apply qG|apply qH|apply qI));exact HO109.out),(by (with_reducible repeat (first|apply qG|apply qH|apply qI));exact HO112.out),(by (with_reducible repeat (first|apply qG|apply qH|apply qI));exact Kd.R_mono HO115.out (fun _ hk=>⟨hk.1.2,hk.2⟩)),(by (with_reducible repeat (first|apply qD|apply qE|apply qF));exact BK106.out),(by repeat first|exact HB.out|apply qJ|apply qK|apply qL|refine qR ?_ GE106.out)⟩)
         ·skip
          refine box_step ?hg (N:=4) ?hd (cs:=#[.slice none 0 0,.slice none 0 0,.slice none 0 0]) (t:=50) ?hr ?_;(case hd=>rfl);(case hg=>rfl);(case hr=>first|(go_simp;done)|(go_simp;rfl))
          intro gb116 hg w12 hbox hb
          have n0_:=qM (Kd.R_below (by (with_reducible repeat (first|apply qG|apply qH|apply qI));exact HO109.out) hb);have n1_:=qM (Kd.R_below (by (with_reducible repeat (first|apply qG|apply qH|apply qI));exact HO112.out) hb)
          have n2_:=qM (blk_below (g:=gb106) (o:=.cells #[.slice none 0 0,.slice none 0 0,.slice none 0 0] 50 (0,0)) (by (with_reducible repeat (first|apply qD|apply qE|apply qF));exact BK106.out) hb);have n3_:=qM (below_step (by repeat first|exact HB.out|apply qJ|apply qK|apply qL|refine qR ?_ GE106.out) hb)
          have n4_:=qM (hbox);have n5_:=qM ((by rw [hg];exact (below_size (by repeat first|exact HB.out|apply qJ|apply qK|apply qL|refine qR ?_ GE106.out)) : w.heap.size≤gb116))
          have n6_:=qM ((by rw [hg];exact (below_size (by repeat first|exact HB.out|apply qJ|apply qK|apply qL|refine qR ?_ GE106.out)) : w.heap.size≤gb116));have n7_:=qM ((by rw [hg];exact Nat.ne_of_lt (blk_lt (g:=gb106) (o:=.cells #[.slice none 0 0,.slice none 0 0,.slice none 0 0] 50 (0,0)) (by (with_reducible repeat (first|apply qD|apply qE|apply qF));exact BK106.out)) : gb106 ≠ gb116))
          have n8_:=qM ((by rw [hg];exact Nat.ne_of_gt (blk_lt (g:=gb106) (o:=.cells #[.slice none 0 0,.slice none 0 0,.slice none 0 0] 50 (0,0)) (by (with_reducible repeat (first|apply qD|apply qE|apply qF));exact BK106.out)) : gb116 ≠ gb106));clear HO109
          clear HO112;clear BK106
          clear HB;have HO109:=n0_
          have HO112:=n1_;have BK106:=n2_
          have HB:=n3_;have BK116:=n4_
          have GW116:=n5_;have GE116:=n6_
          have NB106_116:=n7_;have NB116_106:=n8_
          clear n0_ n1_ n2_ n3_ n4_ n5_ n6_ n7_ n8_;clear hb hbox hg
          refine hK.out _ _ trivial (fun hHeld=>?_)
          clear hK K
          refine norm_ (a':=?_) ?_ ?_
          rotate_left
          ·show Act.put _ (some 4) _=_
           simp only [Act.put,qA,qB,qC,i64_w,i32_w]
           rfl
          exact norm_ (by simp only [putAll,Act.put,qA,qB,qC] <;> rfl) (hJ2_5_10 (v108,v111,gb116) _ ⟨(by (with_reducible repeat (first|apply qG|apply qH|apply qI));exact HO109.out),(by (with_reducible repeat (first|apply qG|apply qH|apply qI));exact HO112.out),(by (with_reducible repeat (first|apply qD|apply qE|apply qF));exact BK106.out),(by (with_reducible repeat (first|apply qD|apply qE|apply qF));exact BK116.out),GW116.out,GE116.out,NB106_116.out,NB116_106.out,(by repeat first|exact HB.out|apply qJ|apply qK|apply qL|refine qR ?_ GE106.out|refine qR ?_ GE116.out)⟩)
       ·skip
        rintro ⟨v111,v114,gb116⟩ w12 ⟨h0_,h1_,h2_,h3_,h4_,h5_,h6_,h7_,h8_⟩
        have n0_ : Aside0 (Kd.R (Kd.int .i64) 3 w12 w.heap.size (fun k_=>some k_ ≠ (v114 : Value).ownBlock) v111 y110):=⟨h0_⟩
        have n1_ : Aside0 (Kd.R (Kd.int .i64) 3 w12 w.heap.size (fun k_=>some k_ ≠ (v111 : Value).ownBlock) v114 y113):=⟨h1_⟩
        have n2_ : Aside0 (w12.heap[gb106]?=some (.cells #[.slice none 0 0,.slice none 0 0,.slice none 0 0] 50 (0,0))):=⟨h2_⟩
        have n3_ : Aside0 (w12.heap[gb116]?=some (.cells #[.slice none 0 0,.slice none 0 0,.slice none 0 0] 50 (0,0))):=⟨h3_⟩
        have n4_ : Aside0 (w.heap.size≤gb116):=⟨h4_⟩
        have n5_ : Aside0 (w.heap.size≤gb116):=⟨h5_⟩
        have n6_ : Aside0 (gb106 ≠ gb116):=⟨h6_⟩
        have n7_ : Aside0 (gb116 ≠ gb106):=⟨h7_⟩
        have n8_ : Aside0 (Below w.heap.size w w12):=⟨h8_⟩
        clear BK106;clear HB
        clear h0_ h1_ h2_ h3_ h4_ h5_ h6_ h7_ h8_;have HO112:=n0_
        have HO115:=n1_;have BK106:=n2_
        have BK116:=n3_;have GW116:=n4_
        have GE116:=n5_;have NB106_116:=n6_
        have NB116_106:=n7_;have HB:=n8_;clear n0_ n1_ n2_ n3_ n4_ n5_ n6_ n7_ n8_
        have hHeld:=trivial
        refine norm_ (a':=?_) ?_ ?_
        rotate_left;(simp only [putAll,Act.put,qA,qB,qC];rfl)
        refine one_ (i:=2) (N:=some 14) #[tT,tT,tT,tT,tT,tT,tT,tT,tT,tF,tT,tF] rfl rfl (one_of HT_.out (by kernel_rfl)) (by decide) (fun K hK=>?_)
        refine Kd.R_make_step (Kd.int .i64) _ 3 (by rfl) (N:=14) rfl 35 _ _ rfl ji2 rfl rfl Try.underlying35 (.int .i64 0) 8 info3 rfl (by decide) (by omega) 0 (ok:=fun _=>True) (okp:=fun _=>True) rfl (fun _ hk=>hk) trivial (qN (by assumption)) (Nat.le_trans (Nat.mul_le_mul_right _ (qN (by assumption) : ji2.toNat≤35184372088832)) (by omega)) (Below.refl _ _) (Nat.le_refl _) ?_
        intro v108 w13 ho14 hb hg_ hnew_
        clear hg_ hnew_
        (first|rw [← Ny107.out] at ho14|(simp only [Int.reduceToNat] at ho14;rw [← Ny107.out] at ho14))
        have n0_:=qM (Kd.R_elder' (by (with_reducible repeat (first|apply qG|apply qH|apply qI));exact HO112.out) (Kd.R_base ho14) hb);have n1_:=qM (Kd.R_elder' (by (with_reducible repeat (first|apply qG|apply qH|apply qI));exact HO115.out) (Kd.R_base ho14) hb)
        have n2_:=qM (Kd.R_lower (Kd.R_new' (Kd.R_new' ho14 (Kd.R_lt (by (with_reducible repeat (first|apply qG|apply qH|apply qI));exact HO112.out))) (Kd.R_lt (by (with_reducible repeat (first|apply qG|apply qH|apply qI));exact HO115.out))) (below_size (by repeat first|exact HB.out|apply qJ|apply qK|apply qL|refine qR ?_ GE106.out|refine qR ?_ GE116.out)));have n3_:=qM (blk_below (g:=gb106) (o:=.cells #[.slice none 0 0,.slice none 0 0,.slice none 0 0] 50 (0,0)) (by (with_reducible repeat (first|apply qD|apply qE|apply qF));exact BK106.out) hb)
        have n4_:=qM (blk_below (g:=gb116) (o:=.cells #[.slice none 0 0,.slice none 0 0,.slice none 0 0] 50 (0,0)) (by (with_reducible repeat (first|apply qD|apply qE|apply qF));exact BK116.out) hb);have n5_:=qM (below_step (by repeat first|exact HB.out|apply qJ|apply qK|apply qL|refine qR ?_ GE106.out|refine qR ?_ GE116.out) hb);clear HO112
        clear HO115;clear BK106
        clear BK116;clear HB
        have HO112:=n0_;have HO115:=n1_
        have HO109:=n2_;have BK106:=n3_
        have BK116:=n4_;have HB:=n5_
        clear n0_ n1_ n2_ n3_ n4_ n5_;clear hb ho14
        obtain ⟨Ao15,co15,eo15⟩:=Kd.R_slice HO115.out
        (first|subst eo15|(injection eo15 with f1_ f2_ f3_;have f4_:=f1_.symm;have f5_:=f3_.symm;clear f1_ f2_ f3_;subst f4_;subst f5_))
        obtain ⟨Ao16,co16,eo16⟩:=Kd.R_slice HO112.out
        (first|subst eo16|(injection eo16 with f1_ f2_ f3_;have f4_:=f1_.symm;have f5_:=f3_.symm;clear f1_ f2_ f3_;subst f4_;subst f5_))
        obtain ⟨Ao17,co17,eo17⟩:=Kd.R_slice HO109.out
        (first|subst eo17|(injection eo17 with f1_ f2_ f3_;have f4_:=f1_.symm;have f5_:=f3_.symm;clear f1_ f2_ f3_;subst f4_;subst f5_))
        refine hK.out _ _ trivial (fun hHeld=>?_)
        clear hK K
        refine norm_ (a':=?_) ?_ ?_
        rotate_left
        ·show Act.put _ (some 14) _=_
         simp only [Act.put,qA,qB,qC,i64_w,i32_w]
         rfl
        refine pure_ (i:=9) (N:=some 21) (v:=?_) (a':=?_) #[tT,tT,tT,tT,tT,tT,tT,tT,tT,tT,tT,tF] rfl rfl (any_of HT_.out (by kernel_rfl)) (fun _ _ _ h=>h) (Or.inl ⟨by rfl,?_⟩) ?_ ?_
        rotate_left;(intro w';go_simp;with_reducible rfl);rotate_left;(simp only [Act.put,qA,qB,qC,i64_w,i32_w];rfl)
        exact norm_ (by simp only [putAll,Act.put,qA,qB,qC] <;> rfl) (hJ2_5_8_10 (.slice Ao17 y107.length co17,.slice Ao16 y110.length co16,.slice Ao15 y113.length co15,gb116) _ ⟨(by (with_reducible repeat (first|apply qG|apply qH|apply qI));exact Kd.R_mono HO109.out (fun _ hk=>⟨hk.1.2,hk.2⟩)),(by (with_reducible repeat (first|apply qG|apply qH|apply qI));exact Kd.R_mono HO112.out (fun _ hk=>⟨hk.2,hk.1⟩)),(by (with_reducible repeat (first|apply qG|apply qH|apply qI));exact Kd.R_mono HO115.out (fun _ hk=>⟨hk.2,hk.1⟩)),(by (with_reducible repeat (first|apply qD|apply qE|apply qF));exact BK106.out),(by (with_reducible repeat (first|apply qD|apply qE|apply qF));exact BK116.out),GW116.out,GE116.out,NB106_116.out,NB116_106.out,(by repeat first|exact HB.out|apply qJ|apply qK|apply qL|refine qR ?_ GE106.out|refine qR ?_ GE116.out)⟩)
      ·skip
       rintro ⟨v108,v114,gb116⟩ w12 ⟨h0_,h1_,h2_,h3_,h4_,h5_,h6_,h7_,h8_⟩
       have n0_ : Aside0 (Kd.R (Kd.int .i64) 3 w12 w.heap.size (fun k_=>some k_ ≠ (v114 : Value).ownBlock) v108 y107):=⟨h0_⟩
       have n1_ : Aside0 (Kd.R (Kd.int .i64) 3 w12 w.heap.size (fun k_=>some k_ ≠ (v108 : Value).ownBlock) v114 y113):=⟨h1_⟩
       have n2_ : Aside0 (w12.heap[gb106]?=some (.cells #[.slice none 0 0,.slice none 0 0,.slice none 0 0] 50 (0,0))):=⟨h2_⟩
       have n3_ : Aside0 (w12.heap[gb116]?=some (.cells #[.slice none 0 0,.slice none 0 0,.slice none 0 0] 50 (0,0))):=⟨h3_⟩
       have n4_ : Aside0 (w.heap.size≤gb116):=⟨h4_⟩
       have n5_ : Aside0 (w.heap.size≤gb116):=⟨h5_⟩
       have n6_ : Aside0 (gb106 ≠ gb116):=⟨h6_⟩
       have n7_ : Aside0 (gb116 ≠ gb106):=⟨h7_⟩
       have n8_ : Aside0 (Below w.heap.size w w12):=⟨h8_⟩
       clear BK106;clear HB
       clear h0_ h1_ h2_ h3_ h4_ h5_ h6_ h7_ h8_;have HO109:=n0_
       have HO115:=n1_;have BK106:=n2_
       have BK116:=n3_;have GW116:=n4_
       have GE116:=n5_;have NB106_116:=n6_
       have NB116_106:=n7_;have HB:=n8_;clear n0_ n1_ n2_ n3_ n4_ n5_ n6_ n7_ n8_
       have hHeld:=trivial
       refine norm_ (a':=?_) ?_ ?_
       rotate_left;(simp only [putAll,Act.put,qA,qB,qC];rfl)
       refine one_ (i:=5) (N:=some 17) #[tT,tT,tT,tT,tT,tT,tT,tT,tT,tF,tT,tF] rfl rfl (one_of HT_.out (by kernel_rfl)) (by decide) (fun K hK=>?_)
       refine Kd.R_make_step (Kd.int .i64) _ 3 (by rfl) (N:=17) rfl 35 _ _ rfl ji2 rfl rfl Try.underlying35 (.int .i64 0) 8 info3 rfl (by decide) (by omega) 0 (ok:=fun _=>True) (okp:=fun _=>True) rfl (fun _ hk=>hk) trivial (qN (by assumption)) (Nat.le_trans (Nat.mul_le_mul_right _ (qN (by assumption) : ji2.toNat≤35184372088832)) (by omega)) (Below.refl _ _) (Nat.le_refl _) ?_
       intro v111 w13 ho14 hb hg_ hnew_
       clear hg_ hnew_
       (first|rw [← Ny110.out] at ho14|(simp only [Int.reduceToNat] at ho14;rw [← Ny110.out] at ho14))
       have n0_:=qM (Kd.R_elder' (by (with_reducible repeat (first|apply qG|apply qH|apply qI));exact HO109.out) (Kd.R_base ho14) hb);have n1_:=qM (Kd.R_elder' (by (with_reducible repeat (first|apply qG|apply qH|apply qI));exact HO115.out) (Kd.R_base ho14) hb)
       have n2_:=qM (Kd.R_lower (Kd.R_new' (Kd.R_new' ho14 (Kd.R_lt (by (with_reducible repeat (first|apply qG|apply qH|apply qI));exact HO109.out))) (Kd.R_lt (by (with_reducible repeat (first|apply qG|apply qH|apply qI));exact HO115.out))) (below_size (by repeat first|exact HB.out|apply qJ|apply qK|apply qL|refine qR ?_ GE106.out|refine qR ?_ GE116.out)));have n3_:=qM (blk_below (g:=gb106) (o:=.cells #[.slice none 0 0,.slice none 0 0,.slice none 0 0] 50 (0,0)) (by (with_reducible repeat (first|apply qD|apply qE|apply qF));exact BK106.out) hb)
       have n4_:=qM (blk_below (g:=gb116) (o:=.cells #[.slice none 0 0,.slice none 0 0,.slice none 0 0] 50 (0,0)) (by (with_reducible repeat (first|apply qD|apply qE|apply qF));exact BK116.out) hb);have n5_:=qM (below_step (by repeat first|exact HB.out|apply qJ|apply qK|apply qL|refine qR ?_ GE106.out|refine qR ?_ GE116.out) hb);clear HO109
       clear HO115;clear BK106
       clear BK116;clear HB
       have HO109:=n0_;have HO115:=n1_
       have HO112:=n2_;have BK106:=n3_
       have BK116:=n4_;have HB:=n5_
       clear n0_ n1_ n2_ n3_ n4_ n5_;clear hb ho14
       obtain ⟨Ao15,co15,eo15⟩:=Kd.R_slice HO115.out
       (first|subst eo15|(injection eo15 with f1_ f2_ f3_;have f4_:=f1_.symm;have f5_:=f3_.symm;clear f1_ f2_ f3_;subst f4_;subst f5_))
       obtain ⟨Ao16,co16,eo16⟩:=Kd.R_slice HO112.out
       (first|subst eo16|(injection eo16 with f1_ f2_ f3_;have f4_:=f1_.symm;have f5_:=f3_.symm;clear f1_ f2_ f3_;subst f4_;subst f5_))
       obtain ⟨Ao17,co17,eo17⟩:=Kd.R_slice HO109.out
       (first|subst eo17|(injection eo17 with f1_ f2_ f3_;have f4_:=f1_.symm;have f5_:=f3_.symm;clear f1_ f2_ f3_;subst f4_;subst f5_))
       refine hK.out _ _ trivial (fun hHeld=>?_)
       clear hK K
       refine norm_ (a':=?_) ?_ ?_
       rotate_left
       ·show Act.put _ (some 17) _=_
        simp only [Act.put,qA,qB,qC,i64_w,i32_w]
        rfl
       refine pure_ (i:=9) (N:=some 21) (v:=?_) (a':=?_) #[tT,tT,tT,tT,tT,tT,tT,tT,tT,tT,tT,tF] rfl rfl (any_of HT_.out (by kernel_rfl)) (fun _ _ _ h=>h) (Or.inl ⟨by rfl,?_⟩) ?_ ?_
       rotate_left;(intro w';go_simp;with_reducible rfl);rotate_left;(simp only [Act.put,qA,qB,qC,i64_w,i32_w];rfl)
       exact norm_ (by simp only [putAll,Act.put,qA,qB,qC] <;> rfl) (hJ2_5_8_10 (.slice Ao17 y107.length co17,.slice Ao16 y110.length co16,.slice Ao15 y113.length co15,gb116) _ ⟨(by (with_reducible repeat (first|apply qG|apply qH|apply qI));exact Kd.R_mono HO109.out (fun _ hk=>⟨hk.2,hk.1⟩)),(by (with_reducible repeat (first|apply qG|apply qH|apply qI));exact Kd.R_mono HO112.out (fun _ hk=>⟨hk.1.2,hk.2⟩)),(by (with_reducible repeat (first|apply qG|apply qH|apply qI));exact HO115.out),(by (with_reducible repeat (first|apply qD|apply qE|apply qF));exact BK106.out),(by (with_reducible repeat (first|apply qD|apply qE|apply qF));exact BK116.out),GW116.out,GE116.out,NB106_116.out,NB116_106.out,(by repeat first|exact HB.out|apply qJ|apply qK|apply qL|refine qR ?_ GE106.out|refine qR ?_ GE116.out)⟩)
     ·skip
      rintro ⟨v108,v111,gb116⟩ w12 ⟨h0_,h1_,h2_,h3_,h4_,h5_,h6_,h7_,h8_⟩
      have n0_ : Aside0 (Kd.R (Kd.int .i64) 3 w12 w.heap.size (fun k_=>some k_ ≠ (v111 : Value).ownBlock) v108 y107):=⟨h0_⟩
      have n1_ : Aside0 (Kd.R (Kd.int .i64) 3 w12 w.heap.size (fun k_=>some k_ ≠ (v108 : Value).ownBlock) v111 y110):=⟨h1_⟩
      have n2_ : Aside0 (w12.heap[gb106]?=some (.cells #[.slice none 0 0,.slice none 0 0,.slice none 0 0] 50 (0,0))):=⟨h2_⟩
      have n3_ : Aside0 (w12.heap[gb116]?=some (.cells #[.slice none 0 0,.slice none 0 0,.slice none 0 0] 50 (0,0))):=⟨h3_⟩
      have n4_ : Aside0 (w.heap.size≤gb116):=⟨h4_⟩
      have n5_ : Aside0 (w.heap.size≤gb116):=⟨h5_⟩
      have n6_ : Aside0 (gb106 ≠ gb116):=⟨h6_⟩
      have n7_ : Aside0 (gb116 ≠ gb106):=⟨h7_⟩
      have n8_ : Aside0 (Below w.heap.size w w12):=⟨h8_⟩
      clear BK106;clear HB
      clear h0_ h1_ h2_ h3_ h4_ h5_ h6_ h7_ h8_;have HO109:=n0_
      have HO112:=n1_;have BK106:=n2_
      have BK116:=n3_;have GW116:=n4_
      have GE116:=n5_;have NB106_116:=n6_
      have NB116_106:=n7_;have HB:=n8_;clear n0_ n1_ n2_ n3_ n4_ n5_ n6_ n7_ n8_
      have hHeld:=trivial
      refine norm_ (a':=?_) ?_ ?_
      rotate_left;(simp only [putAll,Act.put,qA,qB,qC];rfl)
      refine one_ (i:=8) (N:=some 20) #[tT,tT,tT,tT,tT,tT,tT,tT,tT,tF,tT,tF] rfl rfl (one_of HT_.out (by kernel_rfl)) (by decide) (fun K hK=>?_)
      refine Kd.R_make_step (Kd.int .i64) _ 3 (by rfl) (N:=20) rfl 35 _ _ rfl ji2 rfl rfl Try.underlying35 (.int .i64 0) 8 info3 rfl (by decide) (by omega) 0 (ok:=fun _=>True) (okp:=fun _=>True) rfl (fun _ hk=>hk) trivial (qN (by assumption)) (Nat.le_trans (Nat.mul_le_mul_right _ (qN (by assumption) : ji2.toNat≤35184372088832)) (by omega)) (Below.refl _ _) (Nat.le_refl _) ?_
      intro v114 w13 ho14 hb hg_ hnew_
      clear hg_ hnew_
      (first|rw [← Ny113.out] at ho14|(simp only [Int.reduceToNat] at ho14;rw [← Ny113.out] at ho14))
      have n0_:=qM (Kd.R_elder' (by (with_reducible repeat (first|apply qG|apply qH|apply qI));exact HO109.out) (Kd.R_base ho14) hb);have n1_:=qM (Kd.R_elder' (by (with_reducible repeat (first|apply qG|apply qH|apply qI));exact HO112.out) (Kd.R_base ho14) hb)
      have n2_:=qM (Kd.R_lower (Kd.R_new' (Kd.R_new' ho14 (Kd.R_lt (by (with_reducible repeat (first|apply qG|apply qH|apply qI));exact HO109.out))) (Kd.R_lt (by (with_reducible repeat (first|apply qG|apply qH|apply qI));exact HO112.out))) (below_size (by repeat first|exact HB.out|apply qJ|apply qK|apply qL|refine qR ?_ GE106.out|refine qR ?_ GE116.out)));have n3_:=qM (blk_below (g:=gb106) (o:=.cells #[.slice none 0 0,.slice none 0 0,.slice none 0 0] 50 (0,0)) (by (with_reducible repeat (first|apply qD|apply qE|apply qF));exact BK106.out) hb)
      have n4_:=qM (blk_below (g:=gb116) (o:=.cells #[.slice none 0 0,.slice none 0 0,.slice none 0 0] 50 (0,0)) (by (with_reducible repeat (first|apply qD|apply qE|apply qF));exact BK116.out) hb);have n5_:=qM (below_step (by repeat first|exact HB.out|apply qJ|apply qK|apply qL|refine qR ?_ GE106.out|refine qR ?_ GE116.out) hb);clear HO109
      clear HO112;clear BK106
      clear BK116;clear HB
      have HO109:=n0_;have HO112:=n1_
      have HO115:=n2_;have BK106:=n3_
      have BK116:=n4_;have HB:=n5_
      clear n0_ n1_ n2_ n3_ n4_ n5_;clear hb ho14
      obtain ⟨Ao15,co15,eo15⟩:=Kd.R_slice HO115.out
      (first|subst eo15|(injection eo15 with f1_ f2_ f3_;have f4_:=f1_.symm;have f5_:=f3_.symm;clear f1_ f2_ f3_;subst f4_;subst f5_))
      obtain ⟨Ao16,co16,eo16⟩:=Kd.R_slice HO112.out
      (first|subst eo16|(injection eo16 with f1_ f2_ f3_;have f4_:=f1_.symm;have f5_:=f3_.symm;clear f1_ f2_ f3_;subst f4_;subst f5_))
      obtain ⟨Ao17,co17,eo17⟩:=Kd.R_slice HO109.out
      (first|subst eo17|(injection eo17 with f1_ f2_ f3_;have f4_:=f1_.symm;have f5_:=f3_.symm;clear f1_ f2_ f3_;subst f4_;subst f5_))
      refine hK.out _ _ trivial (fun hHeld=>?_)
      clear hK K
      refine norm_ (a':=?_) ?_ ?_
      rotate_left
      ·show Act.put _ (some 20) _=_
       simp only [Act.put,qA,qB,qC,i64_w,i32_w]
       rfl
      refine pure_ (i:=9) (N:=some 21) (v:=?_) (a':=?_) #[tT,tT,tT,tT,tT,tT,tT,tT,tT,tT,tT,tF] rfl rfl (any_of HT_.out (by kernel_rfl)) (fun _ _ _ h=>h) (Or.inl ⟨by rfl,?_⟩) ?_ ?_
      rotate_left;(intro w';go_simp;with_reducible rfl);rotate_left;(simp only [Act.put,qA,qB,qC,i64_w,i32_w];rfl)
      exact norm_ (by simp only [putAll,Act.put,qA,qB,qC] <;> rfl) (hJ2_5_8_10 (.slice Ao17 y107.length co17,.slice Ao16 y110.length co16,.slice Ao15 y113.length co15,gb116) _ ⟨(by (with_reducible repeat (first|apply qG|apply qH|apply qI));exact HO109.out),(by (with_reducible repeat (first|apply qG|apply qH|apply qI));exact HO112.out),(by (with_reducible repeat (first|apply qG|apply qH|apply qI));exact Kd.R_mono HO115.out (fun _ hk=>⟨hk.1.2,hk.2⟩)),(by (with_reducible repeat (first|apply qD|apply qE|apply qF));exact BK106.out),(by (with_reducible repeat (first|apply qD|apply qE|apply qF));exact BK116.out),GW116.out,GE116.out,NB106_116.out,NB116_106.out,(by repeat first|exact HB.out|apply qJ|apply qK|apply qL|refine qR ?_ GE106.out|refine qR ?_ GE116.out)⟩)
    ·skip
     rintro ⟨v108,v111,v114⟩ w16 ⟨h0_,h1_,h2_,h3_,h4_⟩
     have n0_ : Aside0 (Kd.R (Kd.int .i64) 3 w16 w.heap.size (fun k_=>some k_ ≠ (v111 : Value).ownBlock∧some k_ ≠ (v114 : Value).ownBlock) v108 y107):=⟨h0_⟩
     have n1_ : Aside0 (Kd.R (Kd.int .i64) 3 w16 w.heap.size (fun k_=>some k_ ≠ (v108 : Value).ownBlock∧some k_ ≠ (v114 : Value).ownBlock) v111 y110):=⟨h1_⟩
     have n2_ : Aside0 (Kd.R (Kd.int .i64) 3 w16 w.heap.size (fun k_=>some k_ ≠ (v108 : Value).ownBlock∧some k_ ≠ (v111 : Value).ownBlock) v114 y113):=⟨h2_⟩
     have n3_ : Aside0 (w16.heap[gb106]?=some (.cells #[.slice none 0 0,.slice none 0 0,.slice none 0 0] 50 (0,0))):=⟨h3_⟩
     have n4_ : Aside0 (Below w.heap.size w w16):=⟨h4_⟩
     clear BK106;clear HB
     clear h0_ h1_ h2_ h3_ h4_;have HO109:=n0_
     have HO112:=n1_;have HO115:=n2_
     have BK106:=n3_;have HB:=n4_;clear n0_ n1_ n2_ n3_ n4_
     have hHeld:=trivial
     obtain ⟨Ao17,co17,eo17⟩:=Kd.R_slice HO115.out
     (first|subst eo17|(injection eo17 with f1_ f2_ f3_;have f4_:=f1_.symm;have f5_:=f3_.symm;clear f1_ f2_ f3_;subst f4_;subst f5_))
     obtain ⟨Ao18,co18,eo18⟩:=Kd.R_slice HO112.out
     (first|subst eo18|(injection eo18 with f1_ f2_ f3_;have f4_:=f1_.symm;have f5_:=f3_.symm;clear f1_ f2_ f3_;subst f4_;subst f5_))
     obtain ⟨Ao19,co19,eo19⟩:=Kd.R_slice HO109.out
     (first|subst eo19|(injection eo19 with f1_ f2_ f3_;have f4_:=f1_.symm;have f5_:=f3_.symm;clear f1_ f2_ f3_;subst f4_;subst f5_))
     refine norm_ (a':=?_) ?_ ?_
     rotate_left;(simp only [putAll,Act.put,qA,qB,qC];rfl)
     refine one_ (i:=10) (N:=some 4) #[tT,tT,tT,tT,tT,tT,tT,tT,tT,tT,tT,tF] rfl rfl (one_of HT_.out (by kernel_rfl)) (by decide) (fun K hK=>?_)
     refine box_step ?hg (N:=4) ?hd (cs:=#[.slice none 0 0,.slice none 0 0,.slice none 0 0]) (t:=50) ?hr ?_;(case hd=>rfl);(case hg=>rfl);(case hr=>first|(go_simp;done)|(go_simp;rfl))
     intro gb116 hg w20 hbox hb
     have n0_:=qM (Kd.R_below (by (with_reducible repeat (first|apply qG|apply qH|apply qI));exact HO109.out) hb);have n1_:=qM (Kd.R_below (by (with_reducible repeat (first|apply qG|apply qH|apply qI));exact HO112.out) hb)
     have n2_:=qM (Kd.R_below (by (with_reducible repeat (first|apply qG|apply qH|apply qI));exact HO115.out) hb);have n3_:=qM (blk_below (g:=gb106) (o:=.cells #[.slice none 0 0,.slice none 0 0,.slice none 0 0] 50 (0,0)) (by (with_reducible repeat (first|apply qD|apply qE|apply qF));exact BK106.out) hb)
     have n4_:=qM (below_step (by repeat first|exact HB.out|apply qJ|apply qK|apply qL|refine qR ?_ GE106.out) hb);have n5_:=qM (hbox)
     have n6_:=qM ((by rw [hg];exact (below_size (by repeat first|exact HB.out|apply qJ|apply qK|apply qL|refine qR ?_ GE106.out)) : w.heap.size≤gb116));have n7_:=qM ((by rw [hg];exact (below_size (by repeat first|exact HB.out|apply qJ|apply qK|apply qL|refine qR ?_ GE106.out)) : w.heap.size≤gb116))
     have n8_:=qM ((by rw [hg];exact Nat.ne_of_lt (blk_lt (g:=gb106) (o:=.cells #[.slice none 0 0,.slice none 0 0,.slice none 0 0] 50 (0,0)) (by (with_reducible repeat (first|apply qD|apply qE|apply qF));exact BK106.out)) : gb106 ≠ gb116));have n9_:=qM ((by rw [hg];exact Nat.ne_of_gt (blk_lt (g:=gb106) (o:=.cells #[.slice none 0 0,.slice none 0 0,.slice none 0 0] 50 (0,0)) (by (with_reducible repeat (first|apply qD|apply qE|apply qF));exact BK106.out)) : gb116 ≠ gb106));clear HO109
     clear HO112;clear HO115
     clear BK106;clear HB
     have HO109:=n0_;have HO112:=n1_
     have HO115:=n2_;have BK106:=n3_
     have HB:=n4_;have BK116:=n5_
     have GW116:=n6_;have GE116:=n7_
     have NB106_116:=n8_;have NB116_106:=n9_
     clear n0_ n1_ n2_ n3_ n4_ n5_ n6_ n7_ n8_ n9_;clear hb hbox hg
     refine hK.out _ _ trivial (fun hHeld=>?_)
     clear hK K
     refine norm_ (a':=?_) ?_ ?_
     rotate_left
     ·show Act.put _ (some 4) _=_
      simp only [Act.put,qA,qB,qC,i64_w,i32_w]
      rfl
     exact norm_ (by simp only [putAll,Act.put,qA,qB,qC] <;> rfl) (hJ2_5_8_10 (.slice Ao19 y107.length co19,.slice Ao18 y110.length co18,.slice Ao17 y113.length co17,gb116) _ ⟨(by (with_reducible repeat (first|apply qG|apply qH|apply qI));exact HO109.out),(by (with_reducible repeat (first|apply qG|apply qH|apply qI));exact HO112.out),(by (with_reducible repeat (first|apply qG|apply qH|apply qI));exact HO115.out),(by (with_reducible repeat (first|apply qD|apply qE|apply qF));exact BK106.out),(by (with_reducible repeat (first|apply qD|apply qE|apply qF));exact BK116.out),GW116.out,GE116.out,NB106_116.out,NB116_106.out,(by repeat first|exact HB.out|apply qJ|apply qK|apply qL|refine qR ?_ GE106.out|refine qR ?_ GE116.out)⟩)
   rintro ⟨v108,v111,v114,gb116⟩ w17 ⟨h0_,h1_,h2_,h3_,h4_,h5_,h6_,h7_,h8_,h9_⟩
   have n0_ : Aside0 (Kd.R (Kd.int .i64) 3 w17 w.heap.size (fun k_=>some k_ ≠ (v111 : Value).ownBlock∧some k_ ≠ (v114 : Value).ownBlock) v108 y107):=⟨h0_⟩
   have n1_ : Aside0 (Kd.R (Kd.int .i64) 3 w17 w.heap.size (fun k_=>some k_ ≠ (v108 : Value).ownBlock∧some k_ ≠ (v114 : Value).ownBlock) v111 y110):=⟨h1_⟩
   have n2_ : Aside0 (Kd.R (Kd.int .i64) 3 w17 w.heap.size (fun k_=>some k_ ≠ (v108 : Value).ownBlock∧some k_ ≠ (v111 : Value).ownBlock) v114 y113):=⟨h2_⟩
   have n3_ : Aside0 (w17.heap[gb106]?=some (.cells #[.slice none 0 0,.slice none 0 0,.slice none 0 0] 50 (0,0))):=⟨h3_⟩
   have n4_ : Aside0 (w17.heap[gb116]?=some (.cells #[.slice none 0 0,.slice none 0 0,.slice none 0 0] 50 (0,0))):=⟨h4_⟩
   have n5_ : Aside0 (w.heap.size≤gb116):=⟨h5_⟩
   have n6_ : Aside0 (w.heap.size≤gb116):=⟨h6_⟩
   have n7_ : Aside0 (gb106 ≠ gb116):=⟨h7_⟩
   have n8_ : Aside0 (gb116 ≠ gb106):=⟨h8_⟩
   have n9_ : Aside0 (Below w.heap.size w w17):=⟨h9_⟩
   clear BK106;clear HB
   clear h0_ h1_ h2_ h3_ h4_ h5_ h6_ h7_ h8_ h9_;have HO109:=n0_
   have HO112:=n1_;have HO115:=n2_
   have BK106:=n3_;have BK116:=n4_
   have GW116:=n5_;have GE116:=n6_
   have NB106_116:=n7_;have NB116_106:=n8_
   have HB:=n9_;clear n0_ n1_ n2_ n3_ n4_ n5_ n6_ n7_ n8_ n9_
   have hHeld:=trivial
   obtain ⟨Ao18,co18,eo18⟩:=Kd.R_slice HO115.out
   (first|subst eo18|(injection eo18 with f1_ f2_ f3_;have f4_:=f1_.symm;have f5_:=f3_.symm;clear f1_ f2_ f3_;subst f4_;subst f5_))
   obtain ⟨Ao19,co19,eo19⟩:=Kd.R_slice HO112.out
   (first|subst eo19|(injection eo19 with f1_ f2_ f3_;have f4_:=f1_.symm;have f5_:=f3_.symm;clear f1_ f2_ f3_;subst f4_;subst f5_))
   obtain ⟨Ao20,co20,eo20⟩:=Kd.R_slice HO109.out
   (first|subst eo20|(injection eo20 with f1_ f2_ f3_;have f4_:=f1_.symm;have f5_:=f3_.symm;clear f1_ f2_ f3_;subst f4_;subst f5_))
   refine norm_ (a':=?_) ?_ ?_
   rotate_left;(simp only [putAll,Act.put,qA,qB,qC];rfl)
   refine one_ (i:=11) (N:=none) #[tT,tT,tT,tT,tT,tT,tT,tT,tT,tT,tT,tT] rfl rfl (one_of HT_.out (by kernel_rfl)) (by decide) (fun K hK=>?_)
   have hs21 : w17.cell? ⟨gb116,0,none⟩=some (.slice none 0 0):=(blk_cell BK116.out 0).trans rfl
   have hfs21:=blk_frozen BK116.out 0
   have hns21_0:=NB106_116.out
   have hms21_0:=NB116_106.out
   have hs22 : w17.cell? ⟨gb116,1,none⟩=some (.slice none 0 0):=(blk_cell BK116.out 1).trans rfl
   have hfs22:=blk_frozen BK116.out 1
   have hns22_0:=NB106_116.out
   have hms22_0:=NB116_106.out
   have hs23 : w17.cell? ⟨gb116,2,none⟩=some (.slice none 0 0):=(blk_cell BK116.out 2).trans rfl
   have hfs23:=blk_frozen BK116.out 2
   have hns23_0:=NB106_116.out
   have hms23_0:=NB116_106.out
   refine skip_ (w1:=?_) (by rfl) rfl ?_ ?_
   rotate_left
   ·go_simp
    rfl
   refine hK.out _ _ trivial (fun hHeld=>?_)
   clear hK K
   refine done_ (done_of HT_.out (by kernel_rfl)) ?_
   try go_wp2
   go_loopg [24] k (fun kq v24 w'=>∃ (x24_1 : Int) (x117000_1 : List Int) (x117001_1 : List Int) (x117002_1 : List Int) (u117000 : Value) (u117001 : Value) (u117002 : Value),v24=.int .i64 x24_1∧Aside0 (wide_sum.l0 kq l0 (l0.length : Int) l0 (l0.length : Int) x24_1 x117000_1 x117001_1 x117002_1=some (r1,r2,r3))∧Aside0 (kq≤k)∧Aside0 (Kd.R (Kd.int .i64) 3 w' w.heap.size (fun k_=>some k_ ≠ (u117001 : Value).ownBlock∧some k_ ≠ (u117002 : Value).ownBlock) u117000 x117000_1)∧Aside0 (Kd.R (Kd.int .i64) 3 w' w.heap.size (fun k_=>some k_ ≠ (u117000 : Value).ownBlock∧some k_ ≠ (u117002 : Value).ownBlock) u117001 x117001_1)∧Aside0 (Kd.R (Kd.int .i64) 3 w' w.heap.size (fun k_=>some k_ ≠ (u117000 : Value).ownBlock∧some k_ ≠ (u117001 : Value).ownBlock) u117002 x117002_1)∧Aside0 (w'.heap[gb106]?=some (.cells #[(.slice none 0 0),(.slice none 0 0),(.slice none 0 0)] 50 (0,0)))∧Aside0 (w'.heap[gb116]?=some (.cells #[u117000,u117001,u117002] 50 (0,0)))∧Aside0 (Below w.heap.size w w'))
   case atStart=>exact ⟨(0),(y107),(y110),(y113),(.slice Ao20 y107.length co20),(.slice Ao19 y110.length co19),(.slice Ao18 y113.length co18),(by first|rfl|(simp;done)|(simp [*];done)),H',⟨Nat.le_refl _⟩,⟨by (with_reducible repeat (first|apply qG|apply qH|apply qI));exact Kd.R_mono (Kd.R_far (p:=⟨gb116,2,none⟩) (Kd.R_far (p:=⟨gb116,1,none⟩) (Kd.R_far (p:=⟨gb116,0,none⟩) (Kd.R_types HO109.out BK116.out (by decide)) (fun _ hk=>hk.2) (.slice Ao20 y107.length co20)) (fun _ hk=>hk.2) (.slice Ao19 y110.length co19)) (fun _ hk=>hk.2) (.slice Ao18 y113.length co18)) (fun _ hk=>⟨hk.1.1,hk.1.2⟩)⟩,⟨by (with_reducible repeat (first|apply qG|apply qH|apply qI));exact Kd.R_mono (Kd.R_far (p:=⟨gb116,2,none⟩) (Kd.R_far (p:=⟨gb116,1,none⟩) (Kd.R_far (p:=⟨gb116,0,none⟩) (Kd.R_types HO112.out BK116.out (by decide)) (fun _ hk=>hk.2) (.slice Ao20 y107.length co20)) (fun _ hk=>hk.2) (.slice Ao19 y110.length co19)) (fun _ hk=>hk.2) (.slice Ao18 y113.length co18)) (fun _ hk=>⟨hk.1.1,hk.1.2⟩)⟩,⟨by (with_reducible repeat (first|apply qG|apply qH|apply qI));exact Kd.R_mono (Kd.R_far (p:=⟨gb116,2,none⟩) (Kd.R_far (p:=⟨gb116,1,none⟩) (Kd.R_far (p:=⟨gb116,0,none⟩) (Kd.R_types HO115.out BK116.out (by decide)) (fun _ hk=>hk.2) (.slice Ao20 y107.length co20)) (fun _ hk=>hk.2) (.slice Ao19 y110.length co19)) (fun _ hk=>hk.2) (.slice Ao18 y113.length co18)) (fun _ hk=>⟨hk.1.1,hk.1.2⟩)⟩,⟨by (with_reducible repeat (first|apply qD|apply qE|apply qF));refine blk_far ?_ NB106_116.out _;(with_reducible repeat (first|apply qD|apply qE|apply qF));refine blk_far ?_ NB106_116.out _;(with_reducible repeat (first|apply qD|apply qE|apply qF));refine blk_far ?_ NB106_116.out _;(with_reducible repeat (first|apply qD|apply qE|apply qF));exact BK106.out⟩,⟨by (with_reducible repeat (first|apply qD|apply qE|apply qF));refine blk_put (cs:=#[.slice Ao20 y107.length co20,.slice Ao19 y110.length co19,.slice none 0 0]) ?_ 2 _ rfl;(with_reducible repeat (first|apply qD|apply qE|apply qF));refine blk_put (cs:=#[.slice Ao20 y107.length co20,.slice none 0 0,.slice none 0 0]) ?_ 1 _ rfl;(with_reducible repeat (first|apply qD|apply qE|apply qF));refine blk_put (cs:=#[.slice none 0 0,.slice none 0 0,.slice none 0 0]) ?_ 0 _ rfl;(with_reducible repeat (first|apply qD|apply qE|apply qF));exact BK116.out⟩,⟨by repeat (first|(with_reducible first|exact HB.out|apply qJ|apply qK|apply qL|refine qR ?_ GE106.out|refine qR ?_ GE116.out)|exact HB.out)⟩⟩
   case round =>
    clear H'
    try clear p2
    obtain ⟨x24_1,x117000_1,x117001_1,x117002_1,u117000,u117001,u117002,rfl,HA,HK1,HO_117000,HO_117001,HO_117002,BK106,BK116,HB⟩:=hrel
    cases gk with
    | zero=>exact absurd HA.out (by simp [wide_sum.l0])
    | succ k1 =>
     have H:=HA.out
     clear HA
     simp only [wide_sum.l0] at H
     by_cases c24 : x24_1 < (l0.length : Int)
     ·rw [if_pos c24] at H
      have c24b0 : decide (x24_1 < (l0.length : Int))=true:=decide_eq_true c24
      clear c24
      by_cases c25 : 0≤x24_1
      ·rw [if_pos c25] at H
       have c25b0 : decide (0≤x24_1)=true:=decide_eq_true c25
       clear c25
       by_cases c26 : x24_1 < (l0.length : Int)
       ·rw [if_pos c26] at H
        have c26b0 : decide (x24_1 < (l0.length : Int))=true:=decide_eq_true c26
        clear c26
        replace H:=Option.bind_eq_some_iff.mp H
        obtain ⟨⟨t119,t120⟩,A270,H⟩:=H
        replace H : (if x24_1 < (x117000_1.length : Int) then ((span_Cols.f k1 t119).bind fun t122=>(if 0≤(wrap64 (x24_1+1)) then (if (wrap64 (x24_1+1)) < (x117000_1.length : Int) then (wide_sum.l0 k1 l0 (l0.length : Int) l0 (l0.length : Int) (wrap64 (x24_1+1)) (x117000_1.set ((wrap64 (x24_1+1)) : Int).toNat (wrap64 ((rd x117000_1 x24_1)+t122))) x117001_1 x117002_1) else (none)) else (none))) else (none))=some (r1,r2,r3):=H
        have A27:=qM A270
        clear A270
        by_cases c28 : x24_1 < (x117000_1.length : Int)
        ·rw [if_pos c28] at H
         have c28b0 : decide (x24_1 < (x117000_1.length : Int))=true:=decide_eq_true c28
         clear c28
         replace H:=Option.bind_eq_some_iff.mp H
         obtain ⟨t122,A290,H⟩:=H
         replace H : (if 0≤(wrap64 (x24_1+1)) then (if (wrap64 (x24_1+1)) < (x117000_1.length : Int) then (wide_sum.l0 k1 l0 (l0.length : Int) l0 (l0.length : Int) (wrap64 (x24_1+1)) (x117000_1.set ((wrap64 (x24_1+1)) : Int).toNat (wrap64 ((rd x117000_1 x24_1)+t122))) x117001_1 x117002_1) else (none)) else (none))=some (r1,r2,r3):=H
         have A29:=qM A290
         clear A290
         obtain ⟨ji30,hji30⟩ : ∃ j_ : Int,(wrap64 (x24_1+1))=j_:=⟨_,rfl⟩
         replace H : (if 0≤(ji30) then (if (ji30) < (x117000_1.length : Int) then (wide_sum.l0 k1 l0 (l0.length : Int) l0 (l0.length : Int) ji30 (x117000_1.set ((ji30) : Int).toNat (wrap64 ((rd x117000_1 x24_1)+t122))) x117001_1 x117002_1) else (none)) else (none))=some (r1,r2,r3):=by first|(rw [hji30] at H;exact H)|(simp only [hji30] at H ⊢;exact H)
         (try rw [hji30] at A27)
         (try rw [hji30] at A29)
         have hji30w : (IntKind.i64.wrap (x24_1+1))=ji30:=(i64_w _).trans hji30
         by_cases c31 : 0≤(ji30)
         ·rw [if_pos c31] at H
          have c31b0 : decide (0≤(ji30))=true:=decide_eq_true c31
          clear c31
          by_cases c32 : (ji30) < (x117000_1.length : Int)
          ·rw [if_pos c32] at H
           have c32b0 : decide ((ji30) < (x117000_1.length : Int))=true:=decide_eq_true c32
           clear c32
           obtain ⟨y123,hy123⟩ : ∃ y_ : List Int,y_=(x117000_1.set ((ji30) : Int).toNat (wrap64 ((rd x117000_1 x24_1)+t122))):=⟨_,rfl⟩
           replace H : (wide_sum.l0 k1 l0 (l0.length : Int) l0 (l0.length : Int) ji30 y123 x117001_1 x117002_1)=some (r1,r2,r3):=by first|(rw [hy123];with_reducible exact H)|(have H2_:=(Option.bind_some _ _).symm.trans H;rw [hy123];with_reducible exact H2_)|(have H2_:=(Option.bind_some _ _).symm.trans H;with_reducible exact H2_)|with_reducible exact H|(rw [hy123];exact H)|exact H
           have Ny123:=qM hy123
           clear hy123
           have H':=qM H
           clear H
           have p117 : 0≤(x24_1 : Int):=qN (by assumption)
           have q117 : x24_1 < (l0.length : Int):=qN (by assumption)
           obtain ⟨ad117,e117,hx117_0,hx117_1⟩:=at_T31 HR0.out x24_1 p117 q117
           cases e117
           replace hx117_0:=(HB.out.cell (World.block_lt_of_cell? w _ hx117_0)).trans hx117_0
           replace hx117_1:=(HB.out.cell (World.block_lt_of_cell? w _ hx117_1)).trans hx117_1
           replace p117:=eq_true p117
           replace q117:=eq_true q117
           try go_wp2_with (first|((with_reducible refine gate_dst (N:=6) rfl ?_);refine box_event ?hg (N:=6) ?hd (cs:=#[.int .i64 0,.string (⟨#[]⟩ : ByteArray)]) (t:=31) ?hr ?_;(case hd=>rfl);(case hg=>rfl);(case hr=>first|(go_simp;done)|(go_simp;rfl));intro gb118 hg w34 hbox hb;have n0_:=qM (Kd.R_below (by (with_reducible repeat (first|apply qG|apply qH|apply qI));exact HO_117000.out) hb);have n1_:=qM (Kd.R_below (by (with_reducible repeat (first|apply qG|apply qH|apply qI));exact HO_117001.out) hb);have n2_:=qM (Kd.R_below (by (with_reducible repeat (first|apply qG|apply qH|apply qI));exact HO_117002.out) hb);have n3_:=qM (blk_below (g:=gb106) (o:=.cells #[.slice none 0 0,.slice none 0 0,.slice none 0 0] 50 (0,0)) (by (with_reducible repeat (first|apply qD|apply qE|apply qF));exact BK106.out) hb);have n4_:=qM (blk_below (g:=gb116) (o:=.cells #[u117000,u117001,u117002] 50 (0,0)) (by (with_reducible repeat (first|apply qD|apply qE|apply qF));exact BK116.out) hb);have n5_:=qM (below_step (by repeat first|exact HB.out|apply qJ|apply qK|apply qL|refine qR ?_ GE106.out|refine qR ?_ GE116.out) hb);have n6_:=qM (hbox);have n7_:=qM ((by rw [hg];exact (below_size (by repeat first|exact HB.out|apply qJ|apply qK|apply qL|refine qR ?_ GE106.out|refine qR ?_ GE116.out)) : w.heap.size≤gb118));have n8_:=qM ((by rw [hg];exact (below_size (by repeat first|exact HB.out|apply qJ|apply qK|apply qL|refine qR ?_ GE106.out|refine qR ?_ GE116.out)) : w.heap.size≤gb118));have n9_:=qM ((by rw [hg];exact Nat.ne_of_lt (blk_lt (g:=gb106) (o:=.cells #[.slice none 0 0,.slice none 0 0,.slice none 0 0] 50 (0,0)) (by (with_reducible repeat (first|apply qD|apply qE|apply qF));exact BK106.out)) : gb106 ≠ gb118));have n10_:=qM ((by rw [hg];exact Nat.ne_of_gt (blk_lt (g:=gb106) (o:=.cells #[.slice none 0 0,.slice none 0 0,.slice none 0 0] 50 (0,0)) (by (with_reducible repeat (first|apply qD|apply qE|apply qF));exact BK106.out)) : gb118 ≠ gb106));have n11_:=qM ((by rw [hg];exact Nat.ne_of_lt (blk_lt (g:=gb116) (o:=.cells #[u117000,u117001,u117002] 50 (0,0)) (by (with_reducible repeat (first|apply qD|apply qE|apply qF));exact BK116.out)) : gb116 ≠ gb118));have n12_:=qM ((by rw [hg];exact Nat.ne_of_gt (blk_lt (g:=gb116) (o:=.cells #[u117000,u117001,u117002] 50 (0,0)) (by (with_reducible repeat (first|apply qD|apply qE|apply qF));exact BK116.out)) : gb118 ≠ gb116));clear HO_117000;clear HO_117001;clear HO_117002;clear BK106;clear BK116;clear HB;have HO_117000:=n0_;have HO_117001:=n1_;have HO_117002:=n2_;have BK106:=n3_;have BK116:=n4_;have HB:=n5_;have BK118:=n6_;have GW118:=n7_;have GE118:=n8_;have NB106_118:=n9_;have NB118_106:=n10_;have NB116_118:=n11_;have NB118_116:=n12_;clear n0_ n1_ n2_ n3_ n4_ n5_ n6_ n7_ n8_ n9_ n10_ n11_ n12_;clear hb hbox hg;have hnb35:=NB118_106.out;have hnc35:=NB106_118.out;have hnb36:=NB118_116.out;have hnc36:=NB116_118.out;have hcz37_0 : w34.cell? ⟨gb118,0,none⟩=some (.int .i64 0):=(blk_cell BK118.out 0).trans rfl;have hcz37_1 : w34.cell? ⟨gb118,1,none⟩=some (.string (⟨#[]⟩ : ByteArray)):=(blk_cell BK118.out 1).trans rfl;have hfz37_0:=blk_frozen BK118.out 0;have hfz37_1:=blk_frozen BK118.out 1)|((with_reducible refine gate_callee (f:=17) rfl ?_);refine goesL_ (some 31) rfl rfl Try.func17 (by kernel_rfl) rfl #[.agg #[.int .i64 ((rd_T31 l0 x24_1).f0),.string ((rd_T31 l0 x24_1).f1)]] rfl (by (try simp only [List.map_toArray,List.map_cons,List.map_nil]);first|done|rfl|(simp only [List.length_drop,List.length_take];rfl)) ?_;(with_reducible refine (span_Flat.calls ((rd_T31 l0 x24_1).f0) ((rd_T31 l0 x24_1).f1) t119 t120 _ A27.out).mono ?_);(try clear A27); rintro e w38 ⟨rfl,hb⟩;refine ⟨_,rfl,?_⟩;have n0_:=qM (Kd.R_below (by (with_reducible repeat (first|apply qG|apply qH|apply qI));exact (Kd.R_mono (Kd.R_far (p:=⟨gb118,1,none⟩) (Kd.R_far (p:=⟨gb118,0,none⟩) (Kd.R_types HO_117000.out BK118.out (by decide)) (fun _ hk=>hk.2) (.int .i64 ((rd_T31 l0 x24_1).f0))) (fun _ hk=>hk.2) (.string ((rd_T31 l0 x24_1).f1))) (fun _ h_=>h_.1))) hb);have n1_:=qM (Kd.R_below (by (with_reducible repeat (first|apply qG|apply qH|apply qI));exact (Kd.R_mono (Kd.R_far (p:=⟨gb118,1,none⟩) (Kd.R_far (p:=⟨gb118,0,none⟩) (Kd.R_types HO_117001.out BK118.out (by decide)) (fun _ hk=>hk.2) (.int .i64 ((rd_T31 l0 x24_1).f0))) (fun _ hk=>hk.2) (.string ((rd_T31 l0 x24_1).f1))) (fun _ h_=>h_.1))) hb);have n2_:=qM (Kd.R_below (by (with_reducible repeat (first|apply qG|apply qH|apply qI));exact (Kd.R_mono (Kd.R_far (p:=⟨gb118,1,none⟩) (Kd.R_far (p:=⟨gb118,0,none⟩) (Kd.R_types HO_117002.out BK118.out (by decide)) (fun _ hk=>hk.2) (.int .i64 ((rd_T31 l0 x24_1).f0))) (fun _ hk=>hk.2) (.string ((rd_T31 l0 x24_1).f1))) (fun _ h_=>h_.1))) hb);have n3_:=qM (blk_below (g:=gb106) (o:=.cells #[.slice none 0 0,.slice none 0 0,.slice none 0 0] 50 (0,0)) (by (with_reducible repeat (first|apply qD|apply qE|apply qF));refine blk_far ?_ NB106_118.out _;(with_reducible repeat (first|apply qD|apply qE|apply qF));refine blk_far ?_ NB106_118.out _;(with_reducible repeat (first|apply qD|apply qE|apply qF));exact BK106.out) hb);have n4_:=qM (blk_below (g:=gb116) (o:=.cells #[u117000,u117001,u117002] 50 (0,0)) (by (with_reducible repeat (first|apply qD|apply qE|apply qF));refine blk_far ?_ NB116_118.out _;(with_reducible repeat (first|apply qD|apply qE|apply qF));refine blk_far ?_ NB116_118.out _;(with_reducible repeat (first|apply qD|apply qE|apply qF));exact BK116.out) hb);have n5_:=qM (blk_below (g:=gb118) (o:=.cells #[.int .i64 ((rd_T31 l0 x24_1).f0),.string ((rd_T31 l0 x24_1).f1)] 31 (0,0)) (by (with_reducible repeat (first|apply qD|apply qE|apply qF));refine blk_put (cs:=#[.int .i64 ((rd_T31 l0 x24_1).f0),.string (⟨#[]⟩ : ByteArray)]) ?_ 1 _ rfl;(with_reducible repeat (first|apply qD|apply qE|apply qF));refine blk_put (cs:=#[.int .i64 0,.string (⟨#[]⟩ : ByteArray)]) ?_ 0 _ rfl;(with_reducible repeat (first|apply qD|apply qE|apply qF));exact BK118.out) hb);have n6_:=qM (below_step (by repeat first|exact HB.out|apply qJ|apply qK|apply qL|refine qR ?_ GE106.out|refine qR ?_ GE116.out|refine qR ?_ GE118.out) hb);clear HO_117000;clear HO_117001;clear HO_117002;clear BK106;clear BK116;clear BK118;clear HB;have HO_117000:=n0_;have HO_117001:=n1_;have HO_117002:=n2_;have BK106:=n3_;have BK116:=n4_;have BK118:=n5_;have HB:=n6_;clear n0_ n1_ n2_ n3_ n4_ n5_ n6_;(try clear hb);(try clear hb2);(try clear hk);(try clear hi)))
           have n0_:=qM (qI HO_117000.out);have n1_:=qM (qI HO_117001.out)
           have n2_:=qM (qI HO_117002.out);have n3_:=qM (qE BK106.out)
           have n4_:=qM (qE BK116.out);have n5_:=qM (qE BK118.out)
           have n6_:=qM (qL HB.out);clear HO_117000
           clear HO_117001;clear HO_117002
           clear BK106;clear BK116
           clear BK118;clear HB
           have HO_117000:=n0_;have HO_117001:=n1_
           have HO_117002:=n2_;have BK106:=n3_
           have BK116:=n4_;have BK118:=n5_
           have HB:=n6_;clear n0_ n1_ n2_ n3_ n4_ n5_ n6_
           obtain ⟨Ao40,co40,eo40⟩:=Kd.R_slice HO_117000.out
           (first|subst eo40|(injection eo40 with f1_ f2_ f3_;have f4_:=f1_.symm;have f5_:=f3_.symm;clear f1_ f2_ f3_;subst f4_;subst f5_))
           have p121 : 0≤(x24_1 : Int):=qN (by assumption)
           have q121 : x24_1 < (x117000_1.length : Int):=qN (by assumption)
           obtain ⟨ad121,e121,hx121_0⟩:=Kd.at_int (Kd.R_reads' HO_117000.out).2.2 x24_1 p121 q121
           cases e121
           replace p121:=eq_true p121
           replace q121:=eq_true q121
           refine start_ (n:=14) (S:=fun w'=>w'.cell? ⟨gb116,0,none⟩=some (.slice (some ad121) x117000_1.length co40)∧w'.cell? ⟨gb116,1,none⟩=some (u117001)∧w'.cell? ⟨gb116,2,none⟩=some (u117002)∧w'.cell? (ad121.add (x24_1).toNat)=some (.int .i64 (rd x117000_1 x24_1))) (ds:=[13]) #[tF,tF,tF,tF,tF,tF,tF,tF,tF,tF,tF,tF,tF,tF] (by kernel_rfl) rfl rfl ⟨(blk_cell BK116.out 0).trans rfl,(blk_cell BK116.out 1).trans rfl,(blk_cell BK116.out 2).trans rfl,hx121_0⟩ (fun hHeld=>?_);refine with_tabW wide_sum.tab7 wide_sum.bits7 (fun HT_ HW_=>?_)
           generalize w38.drew=w39 at HO_117000 HO_117001 HO_117002 BK106 BK116 BK118 HB hx121_0 hHeld ⊢
           refine pure_ (i:=0) (N:=some 34) (v:=?_) (a':=?_) #[tT,tF,tF,tF,tF,tF,tF,tF,tF,tF,tF,tF,tF,tF] rfl rfl (any_of HT_.out (by kernel_rfl)) (fun _ _ _ h=>h) (Or.inl ⟨by rfl,?_⟩) ?_ ?_
           rotate_left;(intro w';go_simp;with_reducible rfl);rotate_left;(simp only [Act.put,qA,qB,qC,i64_w,i32_w];rfl)
           refine pure_ (i:=2) (N:=some 36) (v:=?_) (a':=?_) #[tT,tF,tT,tF,tF,tF,tF,tF,tF,tF,tF,tF,tF,tF] rfl rfl (any_of HT_.out (by kernel_rfl)) (fun _ _ _ h=>h) (Or.inl ⟨by rfl,?_⟩) ?_ ?_
           rotate_left;(intro w';go_simp;with_reducible rfl);rotate_left;(simp only [Act.put,qA,qB,qC,i64_w,i32_w];rfl)
           refine pure_ (i:=3) (N:=some 37) (v:=?_) (a':=?_) #[tT,tF,tT,tT,tF,tF,tF,tF,tF,tF,tF,tF,tF,tF] rfl rfl (any_of HT_.out (by kernel_rfl)) (fun _ _ _ h=>h) (Or.inl ⟨by rfl,?_⟩) ?_ ?_
           rotate_left;(intro w';go_simp;with_reducible rfl);rotate_left;(simp only [Act.put,qA,qB,qC,i64_w,i32_w];rfl)
           refine pure_ (i:=4) (N:=some 38) (v:=?_) (a':=?_) #[tT,tF,tT,tT,tT,tF,tF,tF,tF,tF,tF,tF,tF,tF] rfl rfl (any_of HT_.out (by kernel_rfl)) (fun _ _ _ h=>h) (Or.inl ⟨by rfl,?_⟩) ?_ ?_
           rotate_left;(intro w';go_simp;with_reducible rfl);rotate_left;(simp only [Act.put,qA,qB,qC,i64_w,i32_w];rfl)
           refine pure_ (i:=6) (N:=some 40) (v:=?_) (a':=?_) #[tT,tF,tT,tT,tT,tF,tT,tF,tF,tF,tF,tF,tF,tF] rfl rfl (any_of HT_.out (by kernel_rfl)) (fun _ _ _ h=>h) (Or.inl ⟨by rfl,?_⟩) ?_ ?_
           rotate_left;(intro w';go_simp;with_reducible rfl);rotate_left;(simp only [Act.put,qA,qB,qC,i64_w,i32_w];rfl)
           refine pure_ (i:=9) (N:=some 43) (v:=?_) (a':=?_) #[tT,tF,tT,tT,tT,tF,tT,tF,tF,tT,tF,tF,tF,tF] rfl rfl (any_of HT_.out (by kernel_rfl)) (fun _ _ _ h=>h) (Or.inl ⟨by rfl,?_⟩) ?_ ?_
           rotate_left;(intro w';go_simp;with_reducible rfl);rotate_left;(simp only [Act.put,qA,qB,qC,i64_w,i32_w];rfl)
           refine take_ (i:=1) (N:=some 35) (v:=?_) (a':=?_) #[tT,tT,tT,tT,tT,tF,tT,tF,tF,tT,tF,tF,tF,tF] rfl rfl (take_ofW HT_.out HW_.out (by kernel_rfl)) (fun _ _ _ h=>h) (Or.inl ⟨by rfl,?_⟩) hHeld ?_ ?_
           rotate_left
           ·rintro w' ⟨s0,s1,s2,s3⟩
            go_simp
            with_reducible rfl
           rotate_left;(simp only [Act.put,qA,qB,qC,i64_w,i32_w];rfl)
           refine take_ (i:=5) (N:=some 39) (v:=?_) (a':=?_) #[tT,tT,tT,tT,tT,tT,tT,tF,tF,tT,tF,tF,tF,tF] rfl rfl (take_ofW HT_.out HW_.out (by kernel_rfl)) (fun _ _ _ h=>h) (Or.inl ⟨by rfl,?_⟩) hHeld ?_ ?_
           rotate_left
           ·rintro w' ⟨s0,s1,s2,s3⟩
            go_simp
            with_reducible rfl
           rotate_left;(simp only [Act.put,qA,qB,qC,i64_w,i32_w];rfl)
           refine pure_ (i:=7) (N:=some 41) (v:=?_) (a':=?_) #[tT,tT,tT,tT,tT,tT,tT,tT,tF,tT,tF,tF,tF,tF] rfl rfl (any_of HT_.out (by kernel_rfl)) (fun _ _ _ h=>h) (Or.inl ⟨by rfl,?_⟩) ?_ ?_
           rotate_left;(intro w';go_simp;with_reducible rfl);rotate_left;(simp only [Act.put,qA,qB,qC,i64_w,i32_w];rfl)
           refine take_ (i:=8) (N:=some 42) (v:=?_) (a':=?_) #[tT,tT,tT,tT,tT,tT,tT,tT,tT,tT,tF,tF,tF,tF] rfl rfl (take_ofW HT_.out HW_.out (by kernel_rfl)) (fun _ _ _ h=>h) (Or.inl ⟨by rfl,?_⟩) hHeld ?_ ?_
           rotate_left
           ·rintro w' ⟨s0,s1,s2,s3⟩
            go_simp
            with_reducible rfl
           rotate_left;(simp only [Act.put,qA,qB,qC,i64_w,i32_w];rfl)
           refine one_ (i:=10) (N:=some 44) #[tT,tT,tT,tT,tT,tT,tT,tT,tT,tT,tT,tF,tF,tF] rfl rfl (one_of HT_.out (by kernel_rfl)) (by decide) (fun K hK=>?_)
           refine goes_ Try.func18 (by kernel_rfl) rfl #[.string t119] (by rfl) rfl rfl (by (try simp only [List.map_toArray,List.map_cons,List.map_nil]);first|done|rfl|(simp only [List.length_drop,List.length_take];rfl)) ?_
           with_reducible refine (span_Cols.calls k1 t119 t122 _ A29.out).mono ?_
           rintro e w41 ⟨rfl,hb⟩
           have HS3_:=(hb.cell (World.block_lt_of_cell? _ _ (hHeld.2.2.2))).trans (hHeld.2.2.2)
           refine ⟨_,rfl,?_⟩
           have n0_:=qM (Kd.R_below (by (with_reducible repeat (first|apply qG|apply qH|apply qI));exact HO_117000.out) hb);have n1_:=qM (Kd.R_below (by (with_reducible repeat (first|apply qG|apply qH|apply qI));exact HO_117001.out) hb)
           have n2_:=qM (Kd.R_below (by (with_reducible repeat (first|apply qG|apply qH|apply qI));exact HO_117002.out) hb);have n3_:=qM (blk_below (g:=gb106) (o:=.cells #[.slice none 0 0,.slice none 0 0,.slice none 0 0] 50 (0,0)) (by (with_reducible repeat (first|apply qD|apply qE|apply qF));exact BK106.out) hb)
           have n4_:=qM (blk_below (g:=gb116) (o:=.cells #[.slice (some ad121) x117000_1.length co40,u117001,u117002] 50 (0,0)) (by (with_reducible repeat (first|apply qD|apply qE|apply qF));exact BK116.out) hb);have n5_:=qM (blk_below (g:=gb118) (o:=.cells #[.int .i64 ((rd_T31 l0 x24_1).f0),.string ((rd_T31 l0 x24_1).f1)] 31 (0,0)) (by (with_reducible repeat (first|apply qD|apply qE|apply qF));exact BK118.out) hb)
           have n6_:=qM (below_step (by repeat first|exact HB.out|apply qJ|apply qK|apply qL|refine qR ?_ GE106.out|refine qR ?_ GE116.out|refine qR ?_ GE118.out) hb);clear HO_117000
           clear HO_117001;clear HO_117002
           clear BK106;clear BK116
           clear BK118;clear HB
           have HO_117000:=n0_;have HO_117001:=n1_
           have HO_117002:=n2_;have BK106:=n3_
           have BK116:=n4_;have BK118:=n5_
           have HB:=n6_;clear n0_ n1_ n2_ n3_ n4_ n5_ n6_
           (try clear hb)
           (try clear hb2)
           (try clear hk)
           (try clear hi)
           have p33 : 0≤((ji30) : Int):=qN (by assumption)
           have q33 : ((ji30) : Int) < ((x117000_1.length : Int) : Int):=qN (by assumption)
           obtain ⟨go33,co33,eo33,gb33,gl33,cl33,HG33⟩:=Kd.R_form HO_117000.out (by omega)
           (first|cases eo33|(injection eo33 with ea_ en_ ec_;(first|subst ea_|(injection ea_ with ea_;subst ea_));subst ec_;clear en_))
           have GB33:=qM gb33
           have GG33:=qM HG33
           clear gb33 gl33 HG33
           (first|simp only [add_plain] at hx121_0|skip)
           obtain ⟨hx33_0,hf33_0⟩:=Kd.R_celln 0 HO_117000.out ((ji30) : Int) p33 q33
           replace p33:=eq_true p33
           replace q33:=eq_true q33
           have HP42:=Kd.R_putn HO_117000.out ((ji30) : Int) (wrap64 ((rd x117000_1 x24_1)+t122))
           rw [← Ny123.out] at HP42
           have HQ42:=qM HP42
           clear HP42
           refine hK.out _ _ ⟨(blk_cell BK116.out 0).trans rfl,(blk_cell BK116.out 1).trans rfl,(blk_cell BK116.out 2).trans rfl,HS3_⟩ (fun hHeld=>?_)
           clear hK K
           refine norm_ (a':=?_) ?_ ?_
           rotate_left
           ·show Act.put _ (some 44) _=_
            simp only [Act.put,qA,qB,qC,i64_w,i32_w]
            rfl
           refine pure_ (i:=11) (N:=some 45) (v:=?_) (a':=?_) #[tT,tT,tT,tT,tT,tT,tT,tT,tT,tT,tT,tT,tF,tF] rfl rfl (any_of HT_.out (by kernel_rfl)) (fun _ _ _ h=>h) (Or.inl ⟨by rfl,?_⟩) ?_ ?_
           rotate_left;(intro w';go_simp;with_reducible rfl);rotate_left;(simp only [Act.put,qA,qB,qC,i64_w,i32_w];rfl)
           refine pure_ (i:=12) (N:=some 46) (v:=?_) (a':=?_) #[tT,tT,tT,tT,tT,tT,tT,tT,tT,tT,tT,tT,tT,tF] rfl rfl (any_of HT_.out (by kernel_rfl)) (fun _ _ _ h=>h) (Or.inl ⟨by rfl,?_⟩) ?_ ?_
           rotate_left;(intro w';go_simp;with_reducible rfl);rotate_left;(simp only [Act.put,qA,qB,qC,i64_w,i32_w];rfl)
           refine last_ (i:=13) (N:=none) #[tT,tT,tT,tT,tT,tT,tT,tT,tT,tT,tT,tT,tT,tT] rfl rfl (one_of HT_.out (by kernel_rfl)) (by decide) (fun K hK=>?_)
           refine skip_ (w1:=?_) (by rfl) rfl ?_ ?_
           rotate_left
           ·go_simp
            rfl
           refine hK.out _ _ ?_
           clear hK K
           refine done_ (done_of HT_.out (by kernel_rfl)) ?_
           try go_wp2
           go_roundg k1
           case measure=>have:=HK1.out;omega
           case rel=>exact ⟨(ji30),(y123),(x117001_1),(x117002_1),(.slice (some ⟨go33,0,none⟩) x117000_1.length co40),(u117001),(u117002),(by first|rfl|(simp;done)|(simp only [← hji30] <;> (first|rfl|simp))|(simp [*];done)),H',⟨by have:=HK1.out;omega⟩,⟨by (with_reducible repeat (first|apply qG|apply qH|apply qI));exact HQ42.out⟩,⟨by (with_reducible repeat (first|apply qG|apply qH|apply qI));exact Kd.R_mono (Kd.R_far (p:=⟨go33,((ji30) : Int).toNat,none⟩) (Kd.R_mono HO_117001.out (fun k_ hk=>(⟨hk,fun e_=>hk.1 (by rw [e_];rfl)⟩ : _∧k_ ≠ go33))) (fun _ hk=>hk.2) (.int .i64 (wrap64 ((rd x117000_1 x24_1)+t122)))) (fun _ hk=>⟨hk.1.1,hk.1.2⟩)⟩,⟨by (with_reducible repeat (first|apply qG|apply qH|apply qI));exact Kd.R_mono (Kd.R_far (p:=⟨go33,((ji30) : Int).toNat,none⟩) (Kd.R_mono HO_117002.out (fun k_ hk=>(⟨hk,fun e_=>hk.1 (by rw [e_];rfl)⟩ : _∧k_ ≠ go33))) (fun _ hk=>hk.2) (.int .i64 (wrap64 ((rd x117000_1 x24_1)+t122)))) (fun _ hk=>⟨hk.1.1,hk.1.2⟩)⟩,⟨by (with_reducible repeat (first|apply qD|apply qE|apply qF));refine blk_far ?_ (by have h_:=Kd.R_ne HO_117000.out BK106.out (by decide);intro e_;exact h_ (by rw [e_];rfl)) _;(with_reducible repeat (first|apply qD|apply qE|apply qF));exact BK106.out⟩,⟨by (with_reducible repeat (first|apply qD|apply qE|apply qF));refine blk_far ?_ (by have h_:=Kd.R_ne HO_117000.out BK116.out (by decide);intro e_;exact h_ (by rw [e_];rfl)) _;(with_reducible repeat (first|apply qD|apply qE|apply qF));exact BK116.out⟩,⟨by repeat (first|(with_reducible first|exact HB.out|apply qJ|apply qK|apply qL|refine qR ?_ GB33.out|refine qR ?_ GE106.out|refine qR ?_ GE116.out|refine qR ?_ GE118.out)|exact HB.out)⟩⟩
          ·rw [if_neg c32] at H
           exact absurd H (by simp)
         ·rw [if_neg c31] at H
          exact absurd H (by simp)
        ·rw [if_neg c28] at H
         exact absurd H (by simp)
       ·rw [if_neg c26] at H
        exact absurd H (by simp)
      ·rw [if_neg c25] at H
       exact absurd H (by simp)
     ·rw [if_neg c24] at H
      have c24b0 : decide (x24_1 < (l0.length : Int))=false:=decide_eq_false c24
      clear c24
      by_cases c43 : 0≤(l0.length : Int)
      ·rw [if_pos c43] at H
       have c43b0 : decide (0≤(l0.length : Int))=true:=decide_eq_true c43
       have c43b1 : decide (0≤l0.length)=true:=decide_eq_true (by omega)
       clear c43
       by_cases c44 : (l0.length : Int) < (x117002_1.length : Int)
       ·rw [if_pos c44] at H
        have c44b0 : decide ((l0.length : Int) < (x117002_1.length : Int))=true:=decide_eq_true c44
        have c44b1 : decide (l0.length < x117002_1.length)=true:=decide_eq_true (Int.ofNat_lt.mp c44)
        clear c44
        obtain ⟨y124,hy124⟩ : ∃ y_ : List Int,y_=(x117002_1.set ((l0.length : Int) : Int).toNat (l0.length : Int)):=⟨_,rfl⟩
        replace H : (wide_sum.l1 k1 l0 (wrap64 ((l0.length : Int) - 1)) x117000_1 x117001_1 y124)=some (r1,r2,r3):=by first|(rw [hy124];with_reducible exact H)|(have H2_:=(Option.bind_some _ _).symm.trans H;rw [hy124];with_reducible exact H2_)|(have H2_:=(Option.bind_some _ _).symm.trans H;with_reducible exact H2_)|with_reducible exact H|(rw [hy124];exact H)|exact H
        have Ny124:=qM hy124
        clear hy124
        have H':=qM H
        clear H
        have hnb46:=NB116_106.out
        have hnc46:=NB106_116.out
        have hcz47_0 : wr.cell? ⟨gb116,0,none⟩=some (u117000):=(blk_cell BK116.out 0).trans rfl
        have hcz47_1 : wr.cell? ⟨gb116,1,none⟩=some (u117001):=(blk_cell BK116.out 1).trans rfl
        have hcz47_2 : wr.cell? ⟨gb116,2,none⟩=some (u117002):=(blk_cell BK116.out 2).trans rfl
        have hfz47_0:=blk_frozen BK116.out 0
        have hfz47_1:=blk_frozen BK116.out 1
        have hfz47_2:=blk_frozen BK116.out 2
        have p45 : 0≤((l0.length : Int) : Int):=qN (by assumption)
        have q45 : ((l0.length : Int) : Int) < ((x117002_1.length : Int) : Int):=qN (by assumption)
        obtain ⟨go45,co45,eo45,gb45,gl45,cl45,HG45⟩:=Kd.R_form HO_117002.out (by omega)
        (first|cases eo45|(injection eo45 with ea_ en_ ec_;(first|subst ea_|(injection ea_ with ea_;subst ea_));subst ec_;clear en_))
        have GB45:=qM gb45
        have GG45:=qM HG45
        clear gb45 gl45 HG45
        obtain ⟨hx45_0,hf45_0⟩:=Kd.R_celln 0 HO_117002.out ((l0.length : Int) : Int) p45 q45
        replace p45:=eq_true p45
        replace q45:=eq_true q45
        have q45n : l0.length < x117002_1.length:=by have h_:=of_eq_true q45;omega
        (try rw [Int.toNat_natCast] at hx45_0 hf45_0)
        have HP48:=Kd.R_putg HO_117002.out ((l0.length : Int) : Int) (l0.length : Int)
        go_wp2_with (first|((with_reducible refine gate_store (t:=3) (p:=52) rfl ?_);refine store_event (t:=3) (p:=52) (v:=?vo_w49) (w1:=(wr.setCell ⟨go45,((l0.length : Int) : Int).toNat,none⟩ (.int .i64 (l0.length : Int)))) ?hg ?ho ?hn ?hr ?_;(case ho=>rfl);(case hg=>rfl);(case hn=>rfl);(case hr=>first|(go_simp;done)|(go_simp;rfl));intro w49 hw;have hg : wr.grownBy w49 (some go45):=(by rw [hw];exact HP48.2);have hp_ : Kd.R (Kd.int .i64) 3 w49 w.heap.size (fun k_=>some k_ ≠ (u117000 : Value).ownBlock∧some k_ ≠ (u117001 : Value).ownBlock) (.slice (some ⟨go45,0,none⟩) x117002_1.length co45) y124:=(by rw [hw,Ny124.out];exact HP48.1);clear HP48;have n0_:=qM (Kd.R_after (v:=(.slice (some ⟨go45,0,none⟩) x117002_1.length co45)) (v1:=(.slice (some ⟨go45,0,none⟩) x117002_1.length co45)) (ok:=(fun k_=>some k_ ≠ (u117001 : Value).ownBlock)) (by (with_reducible repeat (first|apply qG|apply qH|apply qI));exact HO_117000.out) hg (.inl rfl));have n1_:=qM (Kd.R_after (v:=(.slice (some ⟨go45,0,none⟩) x117002_1.length co45)) (v1:=(.slice (some ⟨go45,0,none⟩) x117002_1.length co45)) (ok:=(fun k_=>some k_ ≠ (u117000 : Value).ownBlock)) (by (with_reducible repeat (first|apply qG|apply qH|apply qI));exact HO_117001.out) hg (.inl rfl));have n2_:=qM (hp_);have n3_:=qM (blk_grown (g:=gb106) (o:=.cells #[.slice none 0 0,.slice none 0 0,.slice none 0 0] 50 (0,0)) (by (with_reducible repeat (first|apply qD|apply qE|apply qF));exact BK106.out) hg (Kd.R_ne HO_117002.out BK106.out (by decide)));have n4_:=qM (blk_grown (g:=gb116) (o:=.cells #[u117000,u117001,.slice (some ⟨go45,0,none⟩) x117002_1.length co45] 50 (0,0)) (by (with_reducible repeat (first|apply qD|apply qE|apply qF));exact BK116.out) hg (Kd.R_ne HO_117002.out BK116.out (by decide)));have n5_:=qM ((by rw [hw];exact qR (HB.out) GB45.out : Below w.heap.size w w49));clear HO_117000;clear HO_117001;clear HO_117002;clear BK106;clear BK116;clear HB;have HO_117000:=n0_;have HO_117001:=n1_;have HO_117002:=n2_;have BK106:=n3_;have BK116:=n4_;have HB:=n5_;clear n0_ n1_ n2_ n3_ n4_ n5_;clear hg hw hp_))
        go_loopg [9] k1 (fun kq v9 w'=>∃ (x9_2 : Int) (x117000_2 : List Int) (x117001_2 : List Int) (x117002_2 : List Int) (u117000 : Value) (u117001 : Value) (u117002 : Value),v9=.int .i64 x9_2∧Aside0 (wide_sum.l1 kq l0 x9_2 x117000_2 x117001_2 x117002_2=some (r1,r2,r3))∧Aside0 (kq≤k1)∧Aside0 (Kd.R (Kd.int .i64) 3 w' w.heap.size (fun k_=>some k_ ≠ (u117001 : Value).ownBlock∧some k_ ≠ (u117002 : Value).ownBlock) u117000 x117000_2)∧Aside0 (Kd.R (Kd.int .i64) 3 w' w.heap.size (fun k_=>some k_ ≠ (u117000 : Value).ownBlock∧some k_ ≠ (u117002 : Value).ownBlock) u117001 x117001_2)∧Aside0 (Kd.R (Kd.int .i64) 3 w' w.heap.size (fun k_=>some k_ ≠ (u117000 : Value).ownBlock∧some k_ ≠ (u117001 : Value).ownBlock) u117002 x117002_2)∧Aside0 (w'.heap[gb106]?=some (.cells #[(.slice none 0 0),(.slice none 0 0),(.slice none 0 0)] 50 (0,0)))∧Aside0 (w'.heap[gb116]?=some (.cells #[u117000,u117001,u117002] 50 (0,0)))∧Aside0 (Below w.heap.size w w'))
        case atStart=>exact ⟨(wrap64 ((l0.length : Int) - 1)),(x117000_1),(x117001_1),(y124),(u117000),(u117001),(.slice (some ⟨go45,0,none⟩) x117002_1.length co45),(by first|rfl|(simp;done)|(simp [*];done)),H',⟨Nat.le_refl _⟩,⟨by (with_reducible repeat (first|apply qG|apply qH|apply qI));exact HO_117000.out⟩,⟨by (with_reducible repeat (first|apply qG|apply qH|apply qI));exact HO_117001.out⟩,⟨by (with_reducible repeat (first|apply qG|apply qH|apply qI));exact HO_117002.out⟩,⟨by (with_reducible repeat (first|apply qD|apply qE|apply qF));exact BK106.out⟩,⟨by (with_reducible repeat (first|apply qD|apply qE|apply qF));exact BK116.out⟩,⟨by repeat (first|(with_reducible first|exact HB.out|apply qJ|apply qK|apply qL|refine qR ?_ GE106.out|refine qR ?_ GE116.out)|exact HB.out)⟩⟩
        case round =>
         clear H'
         try clear c1
         try clear p1
         try clear q1
         try clear hx1
         try clear c2
         try clear p2
         try clear c3
         try clear p3
         try clear q3
         try clear hx3
         try clear hf3
         try clear c4
         try clear p4
         try clear q4
         try clear hx4
         try clear hf4
         try clear p6
         try clear p11
         try clear q11
         try clear hx11
         try clear p12
         try clear q12
         try clear hx12
         try clear c17
         try clear c18
         try clear c24
         try clear c24b0
         try clear c25
         try clear c25b0
         try clear c26
         try clear c26b0
         try clear c28
         try clear c28b0
         try clear c31
         try clear c31b0
         try clear c32
         try clear c32b0
         try clear p33
         try clear q33
         try clear hx33
         try clear hf33
         try clear c35
         try clear c36
         try clear c43
         try clear c43b0
         try clear c43b1
         try clear c44
         try clear c44b0
         try clear c44b1
         try clear p45
         try clear q45
         try clear hx45
         try clear hf45
         try clear c46
         try clear hcz37_0
         try clear hcz37_1
         try clear hcz47_0
         try clear hcz47_1
         try clear hcz47_2
         try clear hfz37_0
         try clear hfz37_1
         try clear hfz47_0
         try clear hfz47_1
         try clear hfz47_2
         try clear hx117_0
         try clear hx117_1
         try clear hx121_0
         try clear hx33_0
         try clear hx45_0
         try clear p117
         try clear p121
         try clear p2
         try clear p33
         try clear p45
         try clear q117
         try clear q121
         try clear q33
         try clear q45
         obtain ⟨x9_2,x117000_2,x117001_2,x117002_2,u117000,u117001,u117002,rfl,HA,HK2,HO_117000,HO_117001,HO_117002,BK106,BK116,HB⟩:=hrel
         cases gk with
         | zero=>exact absurd HA.out (by simp [wide_sum.l1])
         | succ k2 =>
          have H:=HA.out
          clear HA
          simp only [wide_sum.l1] at H
          by_cases c50 : x9_2 ≥ 0
          ·rw [if_pos c50] at H
           have c50b0 : decide (0≤x9_2)=true:=decide_eq_true c50
           clear c50
           obtain ⟨ji51,hji51⟩ : ∃ j_ : Int,(wrap64 (x9_2+1))=j_:=⟨_,rfl⟩
           replace H : (if 0≤(ji51) then (if (ji51) < (x117002_2.length : Int) then (if 0≤x9_2 then (if x9_2 < (x117002_2.length : Int) then ((some (x117002_2.set (x9_2 : Int).toNat (rd x117002_2 (ji51)) : List Int)).bind fun y126=>(if x9_2 < (l0.length : Int) then (if ((rd_T31 l0 x9_2).f0)=5 then ((some (y126.set (x9_2 : Int).toNat x9_2 : List Int)).bind fun y128=>((span_Breaks.f ((rd_T31 l0 x9_2).f0) ((rd_T31 l0 x9_2).f1)).bind fun t130=>(if t130=true then (wide_sum.l1 k2 l0 (wrap64 (x9_2 - 1)) x117000_2 x117001_2 y128) else (if (ji51) < (x117001_2.length : Int) then (if (ji51) < (x117000_2.length : Int) then (if x9_2 < (x117000_2.length : Int) then (if x9_2 < (x117001_2.length : Int) then (wide_sum.l1 k2 l0 (wrap64 (x9_2 - 1)) x117000_2 (x117001_2.set (x9_2 : Int).toNat (wrap64 ((wrap64 ((rd x117001_2 (ji51))+(rd x117000_2 (ji51)))) - (rd x117000_2 x9_2)))) y128) else (none)) else (none)) else (none)) else (none))))) else ((span_Breaks.f ((rd_T31 l0 x9_2).f0) ((rd_T31 l0 x9_2).f1)).bind fun t136=>(if t136=true then (wide_sum.l1 k2 l0 (wrap64 (x9_2 - 1)) x117000_2 x117001_2 y126) else (if (ji51) < (x117001_2.length : Int) then (if (ji51) < (x117000_2.length : Int) then (if x9_2 < (x117000_2.length : Int) then (if x9_2 < (x117001_2.length : Int) then (wide_sum.l1 k2 l0 (wrap64 (x9_2 - 1)) x117000_2 (x117001_2.set (x9_2 : Int).toNat (wrap64 ((wrap64 ((rd x117001_2 (ji51))+(rd x117000_2 (ji51)))) - (rd x117000_2 x9_2)))) y126) else (none)) else (none)) else (none)) else (none))))) else (none))) else (none)) else (none)) else (none)) else (none))=some (r1,r2,r3):=by first|(rw [hji51] at H;exact H)|(simp only [hji51] at H ⊢;exact H)
           have hji51w : (IntKind.i64.wrap (x9_2+1))=ji51:=(i64_w _).trans hji51
           by_cases c52 : 0≤(ji51)
           ·rw [if_pos c52] at H
            have c52b0 : decide (0≤(ji51))=true:=decide_eq_true c52
            clear c52
            by_cases c53 : (ji51) < (x117002_2.length : Int)
            ·rw [if_pos c53] at H
             have c53b0 : decide ((ji51) < (x117002_2.length : Int))=true:=decide_eq_true c53
             clear c53
             by_cases c54 : 0≤x9_2
             ·rw [if_pos c54] at H
              have c54b0 : decide (0≤x9_2)=true:=decide_eq_true c54
              clear c54
              by_cases c55 : x9_2 < (x117002_2.length : Int)
              ·rw [if_pos c55] at H
               have c55b0 : decide (x9_2 < (x117002_2.length : Int))=true:=decide_eq_true c55
               clear c55
               obtain ⟨y126,hy126⟩ : ∃ y_ : List Int,y_=(x117002_2.set (x9_2 : Int).toNat (rd x117002_2 (ji51))):=⟨_,rfl⟩
               replace H : (if x9_2 < (l0.length : Int) then (if ((rd_T31 l0 x9_2).f0)=5 then ((some (y126.set (x9_2 : Int).toNat x9_2 : List Int)).bind fun y128=>((span_Breaks.f ((rd_T31 l0 x9_2).f0) ((rd_T31 l0 x9_2).f1)).bind fun t130=>(if t130=true then (wide_sum.l1 k2 l0 (wrap64 (x9_2 - 1)) x117000_2 x117001_2 y128) else (if (ji51) < (x117001_2.length : Int) then (if (ji51) < (x117000_2.length : Int) then (if x9_2 < (x117000_2.length : Int) then (if x9_2 < (x117001_2.length : Int) then (wide_sum.l1 k2 l0 (wrap64 (x9_2 - 1)) x117000_2 (x117001_2.set (x9_2 : Int).toNat (wrap64 ((wrap64 ((rd x117001_2 (ji51))+(rd x117000_2 (ji51)))) - (rd x117000_2 x9_2)))) y128) else (none)) else (none)) else (none)) else (none))))) else ((span_Breaks.f ((rd_T31 l0 x9_2).f0) ((rd_T31 l0 x9_2).f1)).bind fun t136=>(if t136=true then (wide_sum.l1 k2 l0 (wrap64 (x9_2 - 1)) x117000_2 x117001_2 y126) else (if (ji51) < (x117001_2.length : Int) then (if (ji51) < (x117000_2.length : Int) then (if x9_2 < (x117000_2.length : Int) then (if x9_2 < (x117001_2.length : Int) then (wide_sum.l1 k2 l0 (wrap64 (x9_2 - 1)) x117000_2 (x117001_2.set (x9_2 : Int).toNat (wrap64 ((wrap64 ((rd x117001_2 (ji51))+(rd x117000_2 (ji51)))) - (rd x117000_2 x9_2)))) y126) else (none)) else (none)) else (none)) else (none))))) else (none))=some (r1,r2,r3):=by first|(rw [hy126];with_reducible exact H)|(have H2_:=(Option.bind_some _ _).symm.trans H;rw [hy126];with_reducible exact H2_)|(have H2_:=(Option.bind_some _ _).symm.trans H;with_reducible exact H2_)|with_reducible exact H|(rw [hy126];exact H)|exact H
               have Ny126:=qM hy126
               clear hy126
               by_cases c57 : x9_2 < (l0.length : Int)
               ·rw [if_pos c57] at H
                have c57b0 : decide (x9_2 < (l0.length : Int))=true:=decide_eq_true c57
                clear c57
                by_cases c58 : ((rd_T31 l0 x9_2).f0)=5
                ·rw [if_pos c58] at H
                 have c58b0 : (((rd_T31 l0 x9_2).f0) == 5)=true:=beq_iff_eq.mpr c58
                 have c58b1 : (((rd_T31 l0 x9_2).f0) != 5)=false:=bne_eq_false_iff_eq.mpr c58
                 clear c58
                 obtain ⟨y128,hy128⟩ : ∃ y_ : List Int,y_=(y126.set (x9_2 : Int).toNat x9_2):=⟨_,rfl⟩
                 replace H : ((span_Breaks.f ((rd_T31 l0 x9_2).f0) ((rd_T31 l0 x9_2).f1)).bind fun t130=>(if t130=true then (wide_sum.l1 k2 l0 (wrap64 (x9_2 - 1)) x117000_2 x117001_2 y128) else (if (ji51) < (x117001_2.length : Int) then (if (ji51) < (x117000_2.length : Int) then (if x9_2 < (x117000_2.length : Int) then (if x9_2 < (x117001_2.length : Int) then (wide_sum.l1 k2 l0 (wrap64 (x9_2 - 1)) x117000_2 (x117001_2.set (x9_2 : Int).toNat (wrap64 ((wrap64 ((rd x117001_2 (ji51))+(rd x117000_2 (ji51)))) - (rd x117000_2 x9_2)))) y128) else (none)) else (none)) else (none)) else (none))))=some (r1,r2,r3):=by first|(rw [hy128];with_reducible exact H)|(have H2_:=(Option.bind_some _ _).symm.trans H;rw [hy128];with_reducible exact H2_)|(have H2_:=(Option.bind_some _ _).symm.trans H;with_reducible exact H2_)|with_reducible exact H|(rw [hy128];exact H)|exact H
                 have Ny128:=qM hy128
                 clear hy128
                 replace H:=Option.bind_eq_some_iff.mp H
                 obtain ⟨t130,A600,H⟩:=H
                 replace H : (if t130=true then (wide_sum.l1 k2 l0 (wrap64 (x9_2 - 1)) x117000_2 x117001_2 y128) else (if (ji51) < (x117001_2.length : Int) then (if (ji51) < (x117000_2.length : Int) then (if x9_2 < (x117000_2.length : Int) then (if x9_2 < (x117001_2.length : Int) then (wide_sum.l1 k2 l0 (wrap64 (x9_2 - 1)) x117000_2 (x117001_2.set (x9_2 : Int).toNat (wrap64 ((wrap64 ((rd x117001_2 (ji51))+(rd x117000_2 (ji51)))) - (rd x117000_2 x9_2)))) y128) else (none)) else (none)) else (none)) else (none)))=some (r1,r2,r3):=H
                 have A60:=qM A600
                 clear A600
                 by_cases c61 : t130=true
                 ·subst c61
                  have H1 : (wide_sum.l1 k2 l0 (wrap64 (x9_2 - 1)) x117000_2 x117001_2 y128)=some (r1,r2,r3):=by rw [if_pos rfl] at H;exact H
                  clear H
                  have H:=H1
                  clear H1
                  have H':=qM H
                  clear H
                  try go_wp2
                  have n0_:=qM (qI HO_117000.out);have n1_:=qM (qI HO_117001.out)
                  have n2_:=qM (qI HO_117002.out);have n3_:=qM (qE BK106.out)
                  have n4_:=qM (qE BK116.out);have n5_:=qM (qL HB.out);clear HO_117000
                  clear HO_117001;clear HO_117002
                  clear BK106;clear BK116
                  clear HB;have HO_117000:=n0_
                  have HO_117001:=n1_;have HO_117002:=n2_
                  have BK106:=n3_;have BK116:=n4_
                  have HB:=n5_;clear n0_ n1_ n2_ n3_ n4_ n5_
                  obtain ⟨Ao63,co63,eo63⟩:=Kd.R_slice HO_117002.out
                  (first|subst eo63|(injection eo63 with f1_ f2_ f3_;have f4_:=f1_.symm;have f5_:=f3_.symm;clear f1_ f2_ f3_;subst f4_;subst f5_))
                  have p125 : 0≤((ji51) : Int):=qN (by assumption)
                  have q125 : (ji51) < (x117002_2.length : Int):=qN (by assumption)
                  obtain ⟨ad125,e125,hx125_0⟩:=Kd.at_int (Kd.R_reads' HO_117002.out).2.2 (ji51) p125 q125
                  cases e125
                  replace p125:=eq_true p125
                  replace q125:=eq_true q125
                  have p56 : 0≤(x9_2 : Int):=qN (by assumption)
                  have q56 : (x9_2 : Int) < ((x117002_2.length : Int) : Int):=qN (by assumption)
                  obtain ⟨go56,co56,eo56,gb56,gl56,cl56,HG56⟩:=Kd.R_form HO_117002.out (by omega)
                  (first|cases eo56|(injection eo56 with ea_ en_ ec_;(first|subst ea_|(injection ea_ with ea_;subst ea_));subst ec_;clear en_))
                  have GB56:=qM gb56
                  have GG56:=qM HG56
                  clear gb56 gl56 HG56
                  (first|simp only [add_plain] at hx125_0|skip)
                  obtain ⟨hx56_0,hf56_0⟩:=Kd.R_celln 0 HO_117002.out (x9_2 : Int) p56 q56
                  replace p56:=eq_true p56
                  replace q56:=eq_true q56
                  have HP64:=Kd.R_putn HO_117002.out (x9_2 : Int) (rd x117002_2 (ji51))
                  rw [← Ny126.out] at HP64
                  have HQ64:=qM HP64
                  clear HP64
                  refine start_ (n:=11) (S:=fun w'=>w'.cell? ⟨gb116,0,none⟩=some (u117000)∧w'.cell? ⟨gb116,1,none⟩=some (u117001)∧w'.cell? ⟨gb116,2,none⟩=some (.slice (some ⟨go56,0,none⟩) x117002_2.length co63)∧w'.cell? ⟨go56,((ji51)).toNat,none⟩=some (.int .i64 (rd x117002_2 (ji51)))) (ds:=[10]) #[tF,tF,tF,tF,tF,tF,tF,tF,tF,tF,tF] (by kernel_rfl) rfl rfl ⟨(blk_cell BK116.out 0).trans rfl,(blk_cell BK116.out 1).trans rfl,(blk_cell BK116.out 2).trans rfl,hx125_0⟩ (fun hHeld=>?_);refine with_tabW wide_sum.tab13 wide_sum.bits13 (fun HT_ HW_=>?_)
                  generalize wr.drew=w62 at HO_117000 HO_117001 HO_117002 BK106 BK116 HB GG56 HQ64 hf56_0 hx125_0 hx56_0 hHeld ⊢
                  refine pure_ (i:=0) (N:=some 59) (v:=?_) (a':=?_) #[tT,tF,tF,tF,tF,tF,tF,tF,tF,tF,tF] rfl rfl (any_of HT_.out (by kernel_rfl)) (fun _ _ _ h=>h) (Or.inl ⟨by rfl,?_⟩) ?_ ?_
                  rotate_left;(intro w';go_simp;with_reducible rfl);rotate_left;(simp only [Act.put,qA,qB,qC,i64_w,i32_w];rfl)
                  refine pure_ (i:=2) (N:=some 61) (v:=?_) (a':=?_) #[tT,tF,tT,tF,tF,tF,tF,tF,tF,tF,tF] rfl rfl (any_of HT_.out (by kernel_rfl)) (fun _ _ _ h=>h) (Or.inl ⟨by rfl,?_⟩) ?_ ?_
                  rotate_left;(intro w';go_simp;with_reducible rfl);rotate_left;(simp only [Act.put,qA,qB,qC,i64_w,i32_w];rfl)
                  refine pure_ (i:=3) (N:=some 62) (v:=?_) (a':=?_) #[tT,tF,tT,tT,tF,tF,tF,tF,tF,tF,tF] rfl rfl (any_of HT_.out (by kernel_rfl)) (fun _ _ _ h=>h) (Or.inl ⟨by rfl,?_⟩) ?_ ?_
                  rotate_left;(intro w';go_simp;with_reducible rfl);rotate_left;(simp only [Act.put,qA,qB,qC,i64_w,i32_w];rfl)
                  refine pure_ (i:=5) (N:=some 64) (v:=?_) (a':=?_) #[tT,tF,tT,tT,tF,tT,tF,tF,tF,tF,tF] rfl rfl (any_of HT_.out (by kernel_rfl)) (fun _ _ _ h=>h) (Or.inl ⟨by rfl,?_⟩) ?_ ?_
                  rotate_left;(intro w';go_simp;with_reducible rfl);rotate_left;(simp only [Act.put,qA,qB,qC,i64_w,i32_w];rfl)
                  refine pure_ (i:=6) (N:=some 65) (v:=?_) (a':=?_) #[tT,tF,tT,tT,tF,tT,tT,tF,tF,tF,tF] rfl rfl (any_of HT_.out (by kernel_rfl)) (fun _ _ _ h=>h) (Or.inl ⟨by rfl,?_⟩) ?_ ?_
                  rotate_left;(intro w';go_simp;with_reducible rfl);rotate_left;(simp only [Act.put,qA,qB,qC,i64_w,i32_w];rfl)
                  refine take_ (i:=1) (N:=some 60) (v:=?_) (a':=?_) #[tT,tT,tT,tT,tF,tT,tT,tF,tF,tF,tF] rfl rfl (take_ofW HT_.out HW_.out (by kernel_rfl)) (fun _ _ _ h=>h) (Or.inl ⟨by rfl,?_⟩) hHeld ?_ ?_
                  rotate_left
                  ·rintro w' ⟨s0,s1,s2,s3⟩
                   go_simp
                   with_reducible rfl
                  rotate_left;(simp only [Act.put,qA,qB,qC,i64_w,i32_w];rfl)
                  refine take_ (i:=4) (N:=some 63) (v:=?_) (a':=?_) #[tT,tT,tT,tT,tT,tT,tT,tF,tF,tF,tF] rfl rfl (take_ofW HT_.out HW_.out (by kernel_rfl)) (fun _ _ _ h=>h) (Or.inl ⟨by rfl,?_⟩) hHeld ?_ ?_
                  rotate_left
                  ·rintro w' ⟨s0,s1,s2,s3⟩
                   go_simp
                   with_reducible rfl
                  rotate_left;(simp only [Act.put,qA,qB,qC,i64_w,i32_w];rfl)
                  refine pure_ (i:=7) (N:=some 66) (v:=?_) (a':=?_) #[tT,tT,tT,tT,tT,tT,tT,tT,tF,tF,tF] rfl rfl (any_of HT_.out (by kernel_rfl)) (fun _ _ _ h=>h) (Or.inl ⟨by rfl,?_⟩) ?_ ?_
                  rotate_left;(intro w';go_simp;with_reducible rfl);rotate_left;(simp only [Act.put,qA,qB,qC,i64_w,i32_w];rfl)
                  refine take_ (i:=8) (N:=some 67) (v:=?_) (a':=?_) #[tT,tT,tT,tT,tT,tT,tT,tT,tT,tF,tF] rfl rfl (take_ofW HT_.out HW_.out (by kernel_rfl)) (fun _ _ _ h=>h) (Or.inl ⟨by rfl,?_⟩) hHeld ?_ ?_
                  rotate_left
                  ·rintro w' ⟨s0,s1,s2,s3⟩
                   go_simp
                   with_reducible rfl
                  rotate_left;(simp only [Act.put,qA,qB,qC,i64_w,i32_w];rfl)
                  refine pure_ (i:=9) (N:=some 68) (v:=?_) (a':=?_) #[tT,tT,tT,tT,tT,tT,tT,tT,tT,tT,tF] rfl rfl (any_of HT_.out (by kernel_rfl)) (fun _ _ _ h=>h) (Or.inl ⟨by rfl,?_⟩) ?_ ?_
                  rotate_left;(intro w';go_simp;with_reducible rfl);rotate_left;(simp only [Act.put,qA,qB,qC,i64_w,i32_w];rfl)
                  refine last_ (i:=10) (N:=none) #[tT,tT,tT,tT,tT,tT,tT,tT,tT,tT,tT] rfl rfl (one_of HT_.out (by kernel_rfl)) (by decide) (fun K hK=>?_)
                  refine skip_ (w1:=?_) (by rfl) rfl ?_ ?_
                  rotate_left
                  ·go_simp
                   rfl
                  refine hK.out _ _ ?_
                  clear hK K
                  refine done_ (done_of HT_.out (by kernel_rfl)) ?_
                  have n0_ : Aside0 (Kd.R (Kd.int .i64) 3 (w62.setCell ⟨go56,(x9_2 : Int).toNat,none⟩ (.int .i64 (rd x117002_2 (ji51)))) w.heap.size (fun k_=>some k_ ≠ (u117001 : Value).ownBlock∧some k_ ≠ (.slice (some ⟨go56,0,none⟩) x117002_2.length co63 : Value).ownBlock) u117000 x117000_2):=⟨by (with_reducible repeat (first|apply qG|apply qH|apply qI));exact Kd.R_mono (Kd.R_far (p:=⟨go56,(x9_2 : Int).toNat,none⟩) (Kd.R_mono HO_117000.out (fun k_ hk=>(⟨hk,fun e_=>hk.2 (by rw [e_];rfl)⟩ : _∧k_ ≠ go56))) (fun _ hk=>hk.2) (.int .i64 (rd x117002_2 (ji51)))) (fun _ hk=>⟨hk.1.1,hk.1.2⟩)⟩
                  have n1_ : Aside0 (Kd.R (Kd.int .i64) 3 (w62.setCell ⟨go56,(x9_2 : Int).toNat,none⟩ (.int .i64 (rd x117002_2 (ji51)))) w.heap.size (fun k_=>some k_ ≠ (u117000 : Value).ownBlock∧some k_ ≠ (.slice (some ⟨go56,0,none⟩) x117002_2.length co63 : Value).ownBlock) u117001 x117001_2):=⟨by (with_reducible repeat (first|apply qG|apply qH|apply qI));exact Kd.R_mono (Kd.R_far (p:=⟨go56,(x9_2 : Int).toNat,none⟩) (Kd.R_mono HO_117001.out (fun k_ hk=>(⟨hk,fun e_=>hk.2 (by rw [e_];rfl)⟩ : _∧k_ ≠ go56))) (fun _ hk=>hk.2) (.int .i64 (rd x117002_2 (ji51)))) (fun _ hk=>⟨hk.1.1,hk.1.2⟩)⟩
                  have n2_ : Aside0 (Kd.R (Kd.int .i64) 3 (w62.setCell ⟨go56,(x9_2 : Int).toNat,none⟩ (.int .i64 (rd x117002_2 (ji51)))) w.heap.size (fun k_=>some k_ ≠ (u117000 : Value).ownBlock∧some k_ ≠ (u117001 : Value).ownBlock) (.slice (some ⟨go56,0,none⟩) x117002_2.length co63) y126):=⟨by (with_reducible repeat (first|apply qG|apply qH|apply qI));exact HQ64.out⟩
                  have n3_ : Aside0 ((w62.setCell ⟨go56,(x9_2 : Int).toNat,none⟩ (.int .i64 (rd x117002_2 (ji51)))).heap[gb106]?=some (.cells #[.slice none 0 0,.slice none 0 0,.slice none 0 0] 50 (0,0))):=⟨by (with_reducible repeat (first|apply qD|apply qE|apply qF));refine blk_far ?_ (by have h_:=Kd.R_ne HO_117002.out BK106.out (by decide);intro e_;exact h_ (by rw [e_];rfl)) _;(with_reducible repeat (first|apply qD|apply qE|apply qF));exact BK106.out⟩
                  have n4_ : Aside0 ((w62.setCell ⟨go56,(x9_2 : Int).toNat,none⟩ (.int .i64 (rd x117002_2 (ji51)))).heap[gb116]?=some (.cells #[u117000,u117001,.slice (some ⟨go56,0,none⟩) x117002_2.length co63] 50 (0,0))):=⟨by (with_reducible repeat (first|apply qD|apply qE|apply qF));refine blk_far ?_ (by have h_:=Kd.R_ne HO_117002.out BK116.out (by decide);intro e_;exact h_ (by rw [e_];rfl)) _;(with_reducible repeat (first|apply qD|apply qE|apply qF));exact BK116.out⟩
                  have n5_ : Aside0 (Below w.heap.size w (w62.setCell ⟨go56,(x9_2 : Int).toNat,none⟩ (.int .i64 (rd x117002_2 (ji51))))):=⟨by repeat (first|(with_reducible first|exact HB.out|apply qJ|apply qK|apply qL|refine qR ?_ GB56.out|refine qR ?_ GE106.out|refine qR ?_ GE116.out)|exact HB.out)⟩
                  (try clear HO_117000)
                  (try clear HO_117001)
                  (try clear HO_117002)
                  (try clear BK106)
                  (try clear BK116)
                  (try clear HB)
                  generalize (w62.setCell ⟨go56,(x9_2 : Int).toNat,none⟩ (.int .i64 (rd x117002_2 (ji51))))=w65 at n0_ n1_ n2_ n3_ n4_ n5_ ⊢
                  have HO_117000:=n0_;have HO_117001:=n1_
                  have HO_117002:=n2_;have BK106:=n3_
                  have BK116:=n4_;have HB:=n5_;clear n0_ n1_ n2_ n3_ n4_ n5_
                  have p127 : 0≤(x9_2 : Int):=qN (by assumption)
                  have q127 : x9_2 < (l0.length : Int):=qN (by assumption)
                  obtain ⟨ad127,e127,hx127_0,hx127_1⟩:=at_T31 HR0.out x9_2 p127 q127
                  cases e127
                  replace hx127_0:=(HB.out.cell (World.block_lt_of_cell? w _ hx127_0)).trans hx127_0
                  replace hx127_1:=(HB.out.cell (World.block_lt_of_cell? w _ hx127_1)).trans hx127_1
                  replace p127:=eq_true p127
                  replace q127:=eq_true q127
                  have hnb66:=NB116_106.out
                  have hnc66:=NB106_116.out
                  have hcz67_0 : w65.cell? ⟨gb116,0,none⟩=some (u117000):=(blk_cell BK116.out 0).trans rfl
                  have hcz67_1 : w65.cell? ⟨gb116,1,none⟩=some (u117001):=(blk_cell BK116.out 1).trans rfl
                  have hcz67_2 : w65.cell? ⟨gb116,2,none⟩=some (.slice (some ⟨go56,0,none⟩) x117002_2.length co63):=(blk_cell BK116.out 2).trans rfl
                  have hfz67_0:=blk_frozen BK116.out 0
                  have hfz67_1:=blk_frozen BK116.out 1
                  have hfz67_2:=blk_frozen BK116.out 2
                  have p59 : 0≤(x9_2 : Int):=qN (by assumption)
                  have q59 : (x9_2 : Int) < ((x117002_2.length : Int) : Int):=qN (by assumption)
                  replace p59:=eq_true p59
                  replace q59:=eq_true q59
                  obtain ⟨hy68_,hz68_⟩:=Kd.R_celln 0 HO_117002.out (x9_2 : Int) (qN (by assumption)) (qN (by assumption))
                  have HP68:=Kd.R_putg HO_117002.out (x9_2 : Int) x9_2
                  try go_wp2_with (first|((with_reducible refine gate_store (t:=3) (p:=79) rfl ?_);refine store_event (t:=3) (p:=79) (v:=?vo_w69) (w1:=(w65.setCell ⟨go56,(x9_2 : Int).toNat,none⟩ (.int .i64 x9_2))) ?hg ?ho ?hn ?hr ?_;(case ho=>rfl);(case hg=>rfl);(case hn=>rfl);(case hr=>first|(go_simp;done)|(go_simp;rfl));intro w69 hw;have hg : w65.grownBy w69 (some go56):=(by rw [hw];exact HP68.2);have hp_ : Kd.R (Kd.int .i64) 3 w69 w.heap.size (fun k_=>some k_ ≠ (u117000 : Value).ownBlock∧some k_ ≠ (u117001 : Value).ownBlock) (.slice (some ⟨go56,0,none⟩) x117002_2.length co63) y128:=(by rw [hw,Ny128.out];exact HP68.1);clear HP68;have n0_:=qM (Kd.R_after (v:=(.slice (some ⟨go56,0,none⟩) x117002_2.length co63)) (v1:=(.slice (some ⟨go56,0,none⟩) x117002_2.length co63)) (ok:=(fun k_=>some k_ ≠ (u117001 : Value).ownBlock)) (by (with_reducible repeat (first|apply qG|apply qH|apply qI));exact HO_117000.out) hg (.inl rfl));have n1_:=qM (Kd.R_after (v:=(.slice (some ⟨go56,0,none⟩) x117002_2.length co63)) (v1:=(.slice (some ⟨go56,0,none⟩) x117002_2.length co63)) (ok:=(fun k_=>some k_ ≠ (u117000 : Value).ownBlock)) (by (with_reducible repeat (first|apply qG|apply qH|apply qI));exact HO_117001.out) hg (.inl rfl));have n2_:=qM (hp_);have n3_:=qM (blk_grown (g:=gb106) (o:=.cells #[.slice none 0 0,.slice none 0 0,.slice none 0 0] 50 (0,0)) (by (with_reducible repeat (first|apply qD|apply qE|apply qF));exact BK106.out) hg (Kd.R_ne HO_117002.out BK106.out (by decide)));have n4_:=qM (blk_grown (g:=gb116) (o:=.cells #[u117000,u117001,.slice (some ⟨go56,0,none⟩) x117002_2.length co63] 50 (0,0)) (by (with_reducible repeat (first|apply qD|apply qE|apply qF));exact BK116.out) hg (Kd.R_ne HO_117002.out BK116.out (by decide)));have n5_:=qM ((by rw [hw];exact qR (HB.out) GB56.out : Below w.heap.size w w69));clear HO_117000;clear HO_117001;clear HO_117002;clear BK106;clear BK116;clear HB;have HO_117000:=n0_;have HO_117001:=n1_;have HO_117002:=n2_;have BK106:=n3_;have BK116:=n4_;have HB:=n5_;clear n0_ n1_ n2_ n3_ n4_ n5_;clear hg hw hp_;have p129 : 0≤(x9_2 : Int):=qN (by assumption);have q129 : x9_2 < (l0.length : Int):=qN (by assumption);obtain ⟨ad129,e129,hx129_0,hx129_1⟩:=at_T31 HR0.out x9_2 p129 q129;obtain rfl : ad127=ad129:=(by injection e129);replace hx129_0:=(HB.out.cell (World.block_lt_of_cell? w _ hx129_0)).trans hx129_0;replace hx129_1:=(HB.out.cell (World.block_lt_of_cell? w _ hx129_1)).trans hx129_1;replace p129:=eq_true p129;replace q129:=eq_true q129)|((with_reducible refine gate_callee (f:=32) rfl ?_);refine goesL_ (some 84) rfl rfl Try.func32 (by kernel_rfl) rfl #[.agg #[.int .i64 ((rd_T31 l0 x9_2).f0),.string ((rd_T31 l0 x9_2).f1)]] rfl (by (try simp only [List.map_toArray,List.map_cons,List.map_nil]);first|done|rfl|(simp only [List.length_drop,List.length_take];rfl)) ?_;(with_reducible refine (span_Breaks.calls ((rd_T31 l0 x9_2).f0) ((rd_T31 l0 x9_2).f1) true _ A60.out).mono ?_);(try clear A60); rintro e w70 ⟨rfl,hb⟩;refine ⟨_,rfl,?_⟩;have n0_:=qM (Kd.R_below (by (with_reducible repeat (first|apply qG|apply qH|apply qI));exact HO_117000.out) hb);have n1_:=qM (Kd.R_below (by (with_reducible repeat (first|apply qG|apply qH|apply qI));exact HO_117001.out) hb);have n2_:=qM (Kd.R_below (by (with_reducible repeat (first|apply qG|apply qH|apply qI));exact HO_117002.out) hb);have n3_:=qM (blk_below (g:=gb106) (o:=.cells #[.slice none 0 0,.slice none 0 0,.slice none 0 0] 50 (0,0)) (by (with_reducible repeat (first|apply qD|apply qE|apply qF));exact BK106.out) hb);have n4_:=qM (blk_below (g:=gb116) (o:=.cells #[u117000,u117001,.slice (some ⟨go56,0,none⟩) x117002_2.length co63] 50 (0,0)) (by (with_reducible repeat (first|apply qD|apply qE|apply qF));exact BK116.out) hb);have n5_:=qM (below_step (by repeat first|exact HB.out|apply qJ|apply qK|apply qL|refine qR ?_ GE106.out|refine qR ?_ GE116.out) hb);clear HO_117000;clear HO_117001;clear HO_117002;clear BK106;clear BK116;clear HB;have HO_117000:=n0_;have HO_117001:=n1_;have HO_117002:=n2_;have BK106:=n3_;have BK116:=n4_;have HB:=n5_;clear n0_ n1_ n2_ n3_ n4_ n5_;(try clear hb);(try clear hb2);(try clear hk);(try clear hi)))
                  go_roundg k2
                  case measure=>have:=HK1.out;have:=HK2.out;omega
                  case rel=>exact ⟨(wrap64 (x9_2 - 1)),(x117000_2),(x117001_2),(y128),(u117000),(u117001),(.slice (some ⟨go56,0,none⟩) x117002_2.length co63),(by first|rfl|(simp;done)|(simp [*];done)),H',⟨by have:=HK1.out;have:=HK2.out;omega⟩,⟨by (with_reducible repeat (first|apply qG|apply qH|apply qI));exact HO_117000.out⟩,⟨by (with_reducible repeat (first|apply qG|apply qH|apply qI));exact HO_117001.out⟩,⟨by (with_reducible repeat (first|apply qG|apply qH|apply qI));exact HO_117002.out⟩,⟨by (with_reducible repeat (first|apply qD|apply qE|apply qF));exact BK106.out⟩,⟨by (with_reducible repeat (first|apply qD|apply qE|apply qF));exact BK116.out⟩,⟨by repeat (first|(with_reducible first|exact HB.out|apply qJ|apply qK|apply qL|refine qR ?_ GE106.out|refine qR ?_ GE116.out)|exact HB.out)⟩⟩
                 ·replace c61:=Bool.eq_false_iff.mpr c61
                  subst c61
                  have H1 : (if (ji51) < (x117001_2.length : Int) then (if (ji51) < (x117000_2.length : Int) then (if x9_2 < (x117000_2.length : Int) then (if x9_2 < (x117001_2.length : Int) then (wide_sum.l1 k2 l0 (wrap64 (x9_2 - 1)) x117000_2 (x117001_2.set (x9_2 : Int).toNat (wrap64 ((wrap64 ((rd x117001_2 (ji51))+(rd x117000_2 (ji51)))) - (rd x117000_2 x9_2)))) y128) else (none)) else (none)) else (none)) else (none))=some (r1,r2,r3):=by rw [if_neg (show ¬ (false=true) by decide)] at H;exact H
                  clear H
                  have H:=H1
                  clear H1
                  by_cases c71 : (ji51) < (x117001_2.length : Int)
                  ·rw [if_pos c71] at H
                   have c71b0 : decide ((ji51) < (x117001_2.length : Int))=true:=decide_eq_true c71
                   clear c71
                   by_cases c72 : (ji51) < (x117000_2.length : Int)
                   ·rw [if_pos c72] at H
                    have c72b0 : decide ((ji51) < (x117000_2.length : Int))=true:=decide_eq_true c72
                    clear c72
                    by_cases c73 : x9_2 < (x117000_2.length : Int)
                    ·rw [if_pos c73] at H
                     have c73b0 : decide (x9_2 < (x117000_2.length : Int))=true:=decide_eq_true c73
                     clear c73
                     by_cases c74 : x9_2 < (x117001_2.length : Int)
                     ·rw [if_pos c74] at H
                      have c74b0 : decide (x9_2 < (x117001_2.length : Int))=true:=decide_eq_true c74
                      clear c74
                      obtain ⟨y134,hy134⟩ : ∃ y_ : List Int,y_=(x117001_2.set (x9_2 : Int).toNat (wrap64 ((wrap64 ((rd x117001_2 (ji51))+(rd x117000_2 (ji51)))) - (rd x117000_2 x9_2)))):=⟨_,rfl⟩
                      replace H : (wide_sum.l1 k2 l0 (wrap64 (x9_2 - 1)) x117000_2 y134 y128)=some (r1,r2,r3):=by first|(rw [hy134];with_reducible exact H)|(have H2_:=(Option.bind_some _ _).symm.trans H;rw [hy134];with_reducible exact H2_)|(have H2_:=(Option.bind_some _ _).symm.trans H;with_reducible exact H2_)|with_reducible exact H|(rw [hy134];exact H)|exact H
                      have Ny134:=qM hy134
                      clear hy134
                      have H':=qM H
                      clear H
                      try go_wp2
                      have n0_:=qM (qI HO_117000.out);have n1_:=qM (qI HO_117001.out)
                      have n2_:=qM (qI HO_117002.out);have n3_:=qM (qE BK106.out)
                      have n4_:=qM (qE BK116.out);have n5_:=qM (qL HB.out);clear HO_117000
                      clear HO_117001;clear HO_117002
                      clear BK106;clear BK116
                      clear HB;have HO_117000:=n0_
                      have HO_117001:=n1_;have HO_117002:=n2_
                      have BK106:=n3_;have BK116:=n4_
                      have HB:=n5_;clear n0_ n1_ n2_ n3_ n4_ n5_
                      obtain ⟨Ao77,co77,eo77⟩:=Kd.R_slice HO_117002.out
                      (first|subst eo77|(injection eo77 with f1_ f2_ f3_;have f4_:=f1_.symm;have f5_:=f3_.symm;clear f1_ f2_ f3_;subst f4_;subst f5_))
                      have p125 : 0≤((ji51) : Int):=qN (by assumption)
                      have q125 : (ji51) < (x117002_2.length : Int):=qN (by assumption)
                      obtain ⟨ad125,e125,hx125_0⟩:=Kd.at_int (Kd.R_reads' HO_117002.out).2.2 (ji51) p125 q125
                      cases e125
                      replace p125:=eq_true p125
                      replace q125:=eq_true q125
                      have p56 : 0≤(x9_2 : Int):=qN (by assumption)
                      have q56 : (x9_2 : Int) < ((x117002_2.length : Int) : Int):=qN (by assumption)
                      obtain ⟨go56,co56,eo56,gb56,gl56,cl56,HG56⟩:=Kd.R_form HO_117002.out (by omega)
                      (first|cases eo56|(injection eo56 with ea_ en_ ec_;(first|subst ea_|(injection ea_ with ea_;subst ea_));subst ec_;clear en_))
                      have GB56:=qM gb56
                      have GG56:=qM HG56
                      clear gb56 gl56 HG56
                      (first|simp only [add_plain] at hx125_0|skip)
                      obtain ⟨hx56_0,hf56_0⟩:=Kd.R_celln 0 HO_117002.out (x9_2 : Int) p56 q56
                      replace p56:=eq_true p56
                      replace q56:=eq_true q56
                      have HP78:=Kd.R_putn HO_117002.out (x9_2 : Int) (rd x117002_2 (ji51))
                      rw [← Ny126.out] at HP78
                      have HQ78:=qM HP78
                      clear HP78
                      refine start_ (n:=11) (S:=fun w'=>w'.cell? ⟨gb116,0,none⟩=some (u117000)∧w'.cell? ⟨gb116,1,none⟩=some (u117001)∧w'.cell? ⟨gb116,2,none⟩=some (.slice (some ⟨go56,0,none⟩) x117002_2.length co77)∧w'.cell? ⟨go56,((ji51)).toNat,none⟩=some (.int .i64 (rd x117002_2 (ji51)))) (ds:=[10]) #[tF,tF,tF,tF,tF,tF,tF,tF,tF,tF,tF] (by kernel_rfl) rfl rfl ⟨(blk_cell BK116.out 0).trans rfl,(blk_cell BK116.out 1).trans rfl,(blk_cell BK116.out 2).trans rfl,hx125_0⟩ (fun hHeld=>?_);refine with_tabW wide_sum.tab13 wide_sum.bits13 (fun HT_ HW_=>?_)
                      generalize wr.drew=w76 at HO_117000 HO_117001 HO_117002 BK106 BK116 HB GG56 HQ78 hf56_0 hx125_0 hx56_0 hHeld ⊢
                      refine pure_ (i:=0) (N:=some 59) (v:=?_) (a':=?_) #[tT,tF,tF,tF,tF,tF,tF,tF,tF,tF,tF] rfl rfl (any_of HT_.out (by kernel_rfl)) (fun _ _ _ h=>h) (Or.inl ⟨by rfl,?_⟩) ?_ ?_
                      rotate_left;(intro w';go_simp;with_reducible rfl);rotate_left;(simp only [Act.put,qA,qB,qC,i64_w,i32_w];rfl)
                      refine pure_ (i:=2) (N:=some 61) (v:=?_) (a':=?_) #[tT,tF,tT,tF,tF,tF,tF,tF,tF,tF,tF] rfl rfl (any_of HT_.out (by kernel_rfl)) (fun _ _ _ h=>h) (Or.inl ⟨by rfl,?_⟩) ?_ ?_
                      rotate_left;(intro w';go_simp;with_reducible rfl);rotate_left;(simp only [Act.put,qA,qB,qC,i64_w,i32_w];rfl)
                      refine pure_ (i:=3) (N:=some 62) (v:=?_) (a':=?_) #[tT,tF,tT,tT,tF,tF,tF,tF,tF,tF,tF] rfl rfl (any_of HT_.out (by kernel_rfl)) (fun _ _ _ h=>h) (Or.inl ⟨by rfl,?_⟩) ?_ ?_
                      rotate_left;(intro w';go_simp;with_reducible rfl);rotate_left;(simp only [Act.put,qA,qB,qC,i64_w,i32_w];rfl)
                      refine pure_ (i:=5) (N:=some 64) (v:=?_) (a':=?_) #[tT,tF,tT,tT,tF,tT,tF,tF,tF,tF,tF] rfl rfl (any_of HT_.out (by kernel_rfl)) (fun _ _ _ h=>h) (Or.inl ⟨by rfl,?_⟩) ?_ ?_
                      rotate_left;(intro w';go_simp;with_reducible rfl);rotate_left;(simp only [Act.put,qA,qB,qC,i64_w,i32_w];rfl)
                      refine pure_ (i:=6) (N:=some 65) (v:=?_) (a':=?_) #[tT,tF,tT,tT,tF,tT,tT,tF,tF,tF,tF] rfl rfl (any_of HT_.out (by kernel_rfl)) (fun _ _ _ h=>h) (Or.inl ⟨by rfl,?_⟩) ?_ ?_
                      rotate_left;(intro w';go_simp;with_reducible rfl);rotate_left;(simp only [Act.put,qA,qB,qC,i64_w,i32_w];rfl)
                      refine take_ (i:=1) (N:=some 60) (v:=?_) (a':=?_) #[tT,tT,tT,tT,tF,tT,tT,tF,tF,tF,tF] rfl rfl (take_ofW HT_.out HW_.out (by kernel_rfl)) (fun _ _ _ h=>h) (Or.inl ⟨by rfl,?_⟩) hHeld ?_ ?_
                      rotate_left
                      ·rintro w' ⟨s0,s1,s2,s3⟩
                       go_simp
                       with_reducible rfl
                      rotate_left;(simp only [Act.put,qA,qB,qC,i64_w,i32_w];rfl)
                      refine take_ (i:=4) (N:=some 63) (v:=?_) (a':=?_) #[tT,tT,tT,tT,tT,tT,tT,tF,tF,tF,tF] rfl rfl (take_ofW HT_.out HW_.out (by kernel_rfl)) (fun _ _ _ h=>h) (Or.inl ⟨by rfl,?_⟩) hHeld ?_ ?_
                      rotate_left
                      ·rintro w' ⟨s0,s1,s2,s3⟩
                       go_simp
                       with_reducible rfl
                      rotate_left;(simp only [Act.put,qA,qB,qC,i64_w,i32_w];rfl)
                      refine pure_ (i:=7) (N:=some 66) (v:=?_) (a':=?_) #[tT,tT,tT,tT,tT,tT,tT,tT,tF,tF,tF] rfl rfl (any_of HT_.out (by kernel_rfl)) (fun _ _ _ h=>h) (Or.inl ⟨by rfl,?_⟩) ?_ ?_
                      rotate_left;(intro w';go_simp;with_reducible rfl);rotate_left;(simp only [Act.put,qA,qB,qC,i64_w,i32_w];rfl)
                      refine take_ (i:=8) (N:=some 67) (v:=?_) (a':=?_) #[tT,tT,tT,tT,tT,tT,tT,tT,tT,tF,tF] rfl rfl (take_ofW HT_.out HW_.out (by kernel_rfl)) (fun _ _ _ h=>h) (Or.inl ⟨by rfl,?_⟩) hHeld ?_ ?_
                      rotate_left
                      ·rintro w' ⟨s0,s1,s2,s3⟩
                       go_simp
                       with_reducible rfl
                      rotate_left;(simp only [Act.put,qA,qB,qC,i64_w,i32_w];rfl)
                      refine pure_ (i:=9) (N:=some 68) (v:=?_) (a':=?_) #[tT,tT,tT,tT,tT,tT,tT,tT,tT,tT,tF] rfl rfl (any_of HT_.out (by kernel_rfl)) (fun _ _ _ h=>h) (Or.inl ⟨by rfl,?_⟩) ?_ ?_
                      rotate_left;(intro w';go_simp;with_reducible rfl);rotate_left;(simp only [Act.put,qA,qB,qC,i64_w,i32_w];rfl)
                      refine last_ (i:=10) (N:=none) #[tT,tT,tT,tT,tT,tT,tT,tT,tT,tT,tT] rfl rfl (one_of HT_.out (by kernel_rfl)) (by decide) (fun K hK=>?_)
                      refine skip_ (w1:=?_) (by rfl) rfl ?_ ?_
                      rotate_left
                      ·go_simp
                       rfl
                      refine hK.out _ _ ?_
                      clear hK K
                      refine done_ (done_of HT_.out (by kernel_rfl)) ?_
                      have n0_ : Aside0 (Kd.R (Kd.int .i64) 3 (w76.setCell ⟨go56,(x9_2 : Int).toNat,none⟩ (.int .i64 (rd x117002_2 (ji51)))) w.heap.size (fun k_=>some k_ ≠ (u117001 : Value).ownBlock∧some k_ ≠ (.slice (some ⟨go56,0,none⟩) x117002_2.length co77 : Value).ownBlock) u117000 x117000_2):=⟨by (with_reducible repeat (first|apply qG|apply qH|apply qI));exact Kd.R_mono (Kd.R_far (p:=⟨go56,(x9_2 : Int).toNat,none⟩) (Kd.R_mono HO_117000.out (fun k_ hk=>(⟨hk,fun e_=>hk.2 (by rw [e_];rfl)⟩ : _∧k_ ≠ go56))) (fun _ hk=>hk.2) (.int .i64 (rd x117002_2 (ji51)))) (fun _ hk=>⟨hk.1.1,hk.1.2⟩)⟩
                      have n1_ : Aside0 (Kd.R (Kd.int .i64) 3 (w76.setCell ⟨go56,(x9_2 : Int).toNat,none⟩ (.int .i64 (rd x117002_2 (ji51)))) w.heap.size (fun k_=>some k_ ≠ (u117000 : Value).ownBlock∧some k_ ≠ (.slice (some ⟨go56,0,none⟩) x117002_2.length co77 : Value).ownBlock) u117001 x117001_2):=⟨by (with_reducible repeat (first|apply qG|apply qH|apply qI));exact Kd.R_mono (Kd.R_far (p:=⟨go56,(x9_2 : Int).toNat,none⟩) (Kd.R_mono HO_117001.out (fun k_ hk=>(⟨hk,fun e_=>hk.2 (by rw [e_];rfl)⟩ : _∧k_ ≠ go56))) (fun _ hk=>hk.2) (.int .i64 (rd x117002_2 (ji51)))) (fun _ hk=>⟨hk.1.1,hk.1.2⟩)⟩
                      have n2_ : Aside0 (Kd.R (Kd.int .i64) 3 (w76.setCell ⟨go56,(x9_2 : Int).toNat,none⟩ (.int .i64 (rd x117002_2 (ji51)))) w.heap.size (fun k_=>some k_ ≠ (u117000 : Value).ownBlock∧some k_ ≠ (u117001 : Value).ownBlock) (.slice (some ⟨go56,0,none⟩) x117002_2.length co77) y126):=⟨by (with_reducible repeat (first|apply qG|apply qH|apply qI));exact HQ78.out⟩
                      have n3_ : Aside0 ((w76.setCell ⟨go56,(x9_2 : Int).toNat,none⟩ (.int .i64 (rd x117002_2 (ji51)))).heap[gb106]?=some (.cells #[.slice none 0 0,.slice none 0 0,.slice none 0 0] 50 (0,0))):=⟨by (with_reducible repeat (first|apply qD|apply qE|apply qF));refine blk_far ?_ (by have h_:=Kd.R_ne HO_117002.out BK106.out (by decide);intro e_;exact h_ (by rw [e_];rfl)) _;(with_reducible repeat (first|apply qD|apply qE|apply qF));exact BK106.out⟩
                      have n4_ : Aside0 ((w76.setCell ⟨go56,(x9_2 : Int).toNat,none⟩ (.int .i64 (rd x117002_2 (ji51)))).heap[gb116]?=some (.cells #[u117000,u117001,.slice (some ⟨go56,0,none⟩) x117002_2.length co77] 50 (0,0))):=⟨by (with_reducible repeat (first|apply qD|apply qE|apply qF));refine blk_far ?_ (by have h_:=Kd.R_ne HO_117002.out BK116.out (by decide);intro e_;exact h_ (by rw [e_];rfl)) _;(with_reducible repeat (first|apply qD|apply qE|apply qF));exact BK116.out⟩
                      have n5_ : Aside0 (Below w.heap.size w (w76.setCell ⟨go56,(x9_2 : Int).toNat,none⟩ (.int .i64 (rd x117002_2 (ji51))))):=⟨by repeat (first|(with_reducible first|exact HB.out|apply qJ|apply qK|apply qL|refine qR ?_ GB56.out|refine qR ?_ GE106.out|refine qR ?_ GE116.out)|exact HB.out)⟩
                      (try clear HO_117000)
                      (try clear HO_117001)
                      (try clear HO_117002)
                      (try clear BK106)
                      (try clear BK116)
                      (try clear HB)
                      generalize (w76.setCell ⟨go56,(x9_2 : Int).toNat,none⟩ (.int .i64 (rd x117002_2 (ji51))))=w79 at n0_ n1_ n2_ n3_ n4_ n5_ ⊢
                      have HO_117000:=n0_;have HO_117001:=n1_
                      have HO_117002:=n2_;have BK106:=n3_
                      have BK116:=n4_;have HB:=n5_;clear n0_ n1_ n2_ n3_ n4_ n5_
                      have p127 : 0≤(x9_2 : Int):=qN (by assumption)
                      have q127 : x9_2 < (l0.length : Int):=qN (by assumption)
                      obtain ⟨ad127,e127,hx127_0,hx127_1⟩:=at_T31 HR0.out x9_2 p127 q127
                      cases e127
                      replace hx127_0:=(HB.out.cell (World.block_lt_of_cell? w _ hx127_0)).trans hx127_0
                      replace hx127_1:=(HB.out.cell (World.block_lt_of_cell? w _ hx127_1)).trans hx127_1
                      replace p127:=eq_true p127
                      replace q127:=eq_true q127
                      have hnb80:=NB116_106.out
                      have hnc80:=NB106_116.out
                      have hcz81_0 : w79.cell? ⟨gb116,0,none⟩=some (u117000):=(blk_cell BK116.out 0).trans rfl
                      have hcz81_1 : w79.cell? ⟨gb116,1,none⟩=some (u117001):=(blk_cell BK116.out 1).trans rfl
                      have hcz81_2 : w79.cell? ⟨gb116,2,none⟩=some (.slice (some ⟨go56,0,none⟩) x117002_2.length co77):=(blk_cell BK116.out 2).trans rfl
                      have hfz81_0:=blk_frozen BK116.out 0
                      have hfz81_1:=blk_frozen BK116.out 1
                      have hfz81_2:=blk_frozen BK116.out 2
                      have p59 : 0≤(x9_2 : Int):=qN (by assumption)
                      have q59 : (x9_2 : Int) < ((x117002_2.length : Int) : Int):=qN (by assumption)
                      replace p59:=eq_true p59
                      replace q59:=eq_true q59
                      obtain ⟨hy82_,hz82_⟩:=Kd.R_celln 0 HO_117002.out (x9_2 : Int) (qN (by assumption)) (qN (by assumption))
                      have HP82:=Kd.R_putg HO_117002.out (x9_2 : Int) x9_2
                      try go_wp2_with (first|((with_reducible refine gate_store (t:=3) (p:=79) rfl ?_);refine store_event (t:=3) (p:=79) (v:=?vo_w83) (w1:=(w79.setCell ⟨go56,(x9_2 : Int).toNat,none⟩ (.int .i64 x9_2))) ?hg ?ho ?hn ?hr ?_;(case ho=>rfl);(case hg=>rfl);(case hn=>rfl);(case hr=>first|(go_simp;done)|(go_simp;rfl));intro w83 hw;have hg : w79.grownBy w83 (some go56):=(by rw [hw];exact HP82.2);have hp_ : Kd.R (Kd.int .i64) 3 w83 w.heap.size (fun k_=>some k_ ≠ (u117000 : Value).ownBlock∧some k_ ≠ (u117001 : Value).ownBlock) (.slice (some ⟨go56,0,none⟩) x117002_2.length co77) y128:=(by rw [hw,Ny128.out];exact HP82.1);clear HP82;have n0_:=qM (Kd.R_after (v:=(.slice (some ⟨go56,0,none⟩) x117002_2.length co77)) (v1:=(.slice (some ⟨go56,0,none⟩) x117002_2.length co77)) (ok:=(fun k_=>some k_ ≠ (u117001 : Value).ownBlock)) (by (with_reducible repeat (first|apply qG|apply qH|apply qI));exact HO_117000.out) hg (.inl rfl));have n1_:=qM (Kd.R_after (v:=(.slice (some ⟨go56,0,none⟩) x117002_2.length co77)) (v1:=(.slice (some ⟨go56,0,none⟩) x117002_2.length co77)) (ok:=(fun k_=>some k_ ≠ (u117000 : Value).ownBlock)) (by (with_reducible repeat (first|apply qG|apply qH|apply qI));exact HO_117001.out) hg (.inl rfl));have n2_:=qM (hp_);have n3_:=qM (blk_grown (g:=gb106) (o:=.cells #[.slice none 0 0,.slice none 0 0,.slice none 0 0] 50 (0,0)) (by (with_reducible repeat (first|apply qD|apply qE|apply qF));exact BK106.out) hg (Kd.R_ne HO_117002.out BK106.out (by decide)));have n4_:=qM (blk_grown (g:=gb116) (o:=.cells #[u117000,u117001,.slice (some ⟨go56,0,none⟩) x117002_2.length co77] 50 (0,0)) (by (with_reducible repeat (first|apply qD|apply qE|apply qF));exact BK116.out) hg (Kd.R_ne HO_117002.out BK116.out (by decide)));have n5_:=qM ((by rw [hw];exact qR (HB.out) GB56.out : Below w.heap.size w w83));clear HO_117000;clear HO_117001;clear HO_117002;clear BK106;clear BK116;clear HB;have HO_117000:=n0_;have HO_117001:=n1_;have HO_117002:=n2_;have BK106:=n3_;have BK116:=n4_;have HB:=n5_;clear n0_ n1_ n2_ n3_ n4_ n5_;clear hg hw hp_;have p129 : 0≤(x9_2 : Int):=qN (by assumption);have q129 : x9_2 < (l0.length : Int):=qN (by assumption);obtain ⟨ad129,e129,hx129_0,hx129_1⟩:=at_T31 HR0.out x9_2 p129 q129;obtain rfl : ad127=ad129:=(by injection e129);replace hx129_0:=(HB.out.cell (World.block_lt_of_cell? w _ hx129_0)).trans hx129_0;replace hx129_1:=(HB.out.cell (World.block_lt_of_cell? w _ hx129_1)).trans hx129_1;replace p129:=eq_true p129;replace q129:=eq_true q129)|((with_reducible refine gate_callee (f:=32) rfl ?_);refine goesL_ (some 84) rfl rfl Try.func32 (by kernel_rfl) rfl #[.agg #[.int .i64 ((rd_T31 l0 x9_2).f0),.string ((rd_T31 l0 x9_2).f1)]] rfl (by (try simp only [List.map_toArray,List.map_cons,List.map_nil]);first|done|rfl|(simp only [List.length_drop,List.length_take];rfl)) ?_;(with_reducible refine (span_Breaks.calls ((rd_T31 l0 x9_2).f0) ((rd_T31 l0 x9_2).f1) false _ A60.out).mono ?_);(try clear A60); rintro e w84 ⟨rfl,hb⟩;refine ⟨_,rfl,?_⟩;have n0_:=qM (Kd.R_below (by (with_reducible repeat (first|apply qG|apply qH|apply qI));exact HO_117000.out) hb);have n1_:=qM (Kd.R_below (by (with_reducible repeat (first|apply qG|apply qH|apply qI));exact HO_117001.out) hb);have n2_:=qM (Kd.R_below (by (with_reducible repeat (first|apply qG|apply qH|apply qI));exact HO_117002.out) hb);have n3_:=qM (blk_below (g:=gb106) (o:=.cells #[.slice none 0 0,.slice none 0 0,.slice none 0 0] 50 (0,0)) (by (with_reducible repeat (first|apply qD|apply qE|apply qF));exact BK106.out) hb);have n4_:=qM (blk_below (g:=gb116) (o:=.cells #[u117000,u117001,.slice (some ⟨go56,0,none⟩) x117002_2.length co77] 50 (0,0)) (by (with_reducible repeat (first|apply qD|apply qE|apply qF));exact BK116.out) hb);have n5_:=qM (below_step (by repeat first|exact HB.out|apply qJ|apply qK|apply qL|refine qR ?_ GE106.out|refine qR ?_ GE116.out) hb);clear HO_117000;clear HO_117001;clear HO_117002;clear BK106;clear BK116;clear HB;have HO_117000:=n0_;have HO_117001:=n1_;have HO_117002:=n2_;have BK106:=n3_;have BK116:=n4_;have HB:=n5_;clear n0_ n1_ n2_ n3_ n4_ n5_;(try clear hb);(try clear hb2);(try clear hk);(try clear hi)))
                      have n0_:=qM (qI HO_117000.out);have n1_:=qM (qI HO_117001.out)
                      have n2_:=qM (qI HO_117002.out);have n3_:=qM (qE BK106.out)
                      have n4_:=qM (qE BK116.out);have n5_:=qM (qL HB.out);clear HO_117000
                      clear HO_117001;clear HO_117002
                      clear BK106;clear BK116
                      clear HB;have HO_117000:=n0_
                      have HO_117001:=n1_;have HO_117002:=n2_
                      have BK106:=n3_;have BK116:=n4_
                      have HB:=n5_;clear n0_ n1_ n2_ n3_ n4_ n5_
                      obtain ⟨Ao86,co86,eo86⟩:=Kd.R_slice HO_117001.out
                      (first|subst eo86|(injection eo86 with f1_ f2_ f3_;have f4_:=f1_.symm;have f5_:=f3_.symm;clear f1_ f2_ f3_;subst f4_;subst f5_))
                      have p131 : 0≤((ji51) : Int):=qN (by assumption)
                      have q131 : (ji51) < (x117001_2.length : Int):=qN (by assumption)
                      obtain ⟨ad131,e131,hx131_0⟩:=Kd.at_int (Kd.R_reads' HO_117001.out).2.2 (ji51) p131 q131
                      cases e131
                      replace p131:=eq_true p131
                      replace q131:=eq_true q131
                      obtain ⟨Ao87,co87,eo87⟩:=Kd.R_slice HO_117000.out
                      (first|subst eo87|(injection eo87 with f1_ f2_ f3_;have f4_:=f1_.symm;have f5_:=f3_.symm;clear f1_ f2_ f3_;subst f4_;subst f5_))
                      have p132 : 0≤((ji51) : Int):=qN (by assumption)
                      have q132 : (ji51) < (x117000_2.length : Int):=qN (by assumption)
                      obtain ⟨ad132,e132,hx132_0⟩:=Kd.at_int (Kd.R_reads' HO_117000.out).2.2 (ji51) p132 q132
                      cases e132
                      replace p132:=eq_true p132
                      replace q132:=eq_true q132
                      have p133 : 0≤(x9_2 : Int):=qN (by assumption)
                      have q133 : x9_2 < (x117000_2.length : Int):=qN (by assumption)
                      obtain ⟨ad133,e133,hx133_0⟩:=Kd.at_int (Kd.R_reads' HO_117000.out).2.2 x9_2 p133 q133
                      obtain rfl : ad132=ad133:=(by injection e133)
                      replace p133:=eq_true p133
                      replace q133:=eq_true q133
                      have p75 : 0≤(x9_2 : Int):=qN (by assumption)
                      have q75 : (x9_2 : Int) < ((x117001_2.length : Int) : Int):=qN (by assumption)
                      obtain ⟨go75,co75,eo75,gb75,gl75,cl75,HG75⟩:=Kd.R_form HO_117001.out (by omega)
                      (first|cases eo75|(injection eo75 with ea_ en_ ec_;(first|subst ea_|(injection ea_ with ea_;subst ea_));subst ec_;clear en_))
                      have GB75:=qM gb75
                      have GG75:=qM HG75
                      clear gb75 gl75 HG75
                      (first|simp only [add_plain] at hx131_0|skip)
                      obtain ⟨hx75_0,hf75_0⟩:=Kd.R_celln 0 HO_117001.out (x9_2 : Int) p75 q75
                      replace p75:=eq_true p75
                      replace q75:=eq_true q75
                      have HP88:=Kd.R_putn HO_117001.out (x9_2 : Int) (wrap64 ((wrap64 ((rd x117001_2 (ji51))+(rd x117000_2 (ji51)))) - (rd x117000_2 x9_2)))
                      rw [← Ny134.out] at HP88
                      have HQ88:=qM HP88
                      clear HP88
                      refine start_ (n:=24) (S:=fun w'=>w'.cell? ⟨gb116,0,none⟩=some (.slice (some ad132) x117000_2.length co87)∧w'.cell? ⟨gb116,1,none⟩=some (.slice (some ⟨go75,0,none⟩) x117001_2.length co86)∧w'.cell? ⟨gb116,2,none⟩=some (.slice (some ⟨go56,0,none⟩) x117002_2.length co77)∧w'.cell? ⟨go75,((ji51)).toNat,none⟩=some (.int .i64 (rd x117001_2 (ji51)))∧w'.cell? (ad132.add ((ji51)).toNat)=some (.int .i64 (rd x117000_2 (ji51)))∧w'.cell? (ad132.add (x9_2).toNat)=some (.int .i64 (rd x117000_2 x9_2))) (ds:=[23]) #[tF,tF,tF,tF,tF,tF,tF,tF,tF,tF,tF,tF,tF,tF,tF,tF,tF,tF,tF,tF,tF,tF,tF,tF] (by kernel_rfl) rfl rfl ⟨(blk_cell BK116.out 0).trans rfl,(blk_cell BK116.out 1).trans rfl,(blk_cell BK116.out 2).trans rfl,hx131_0,hx132_0,hx133_0⟩ (fun hHeld=>?_);refine with_tabW wide_sum.tab17 wide_sum.bits17 (fun HT_ HW_=>?_)
                      generalize w84.drew=w85 at HO_117000 HO_117001 HO_117002 BK106 BK116 HB GG75 HQ88 hf75_0 hx131_0 hx132_0 hx133_0 hx75_0 hHeld ⊢
                      refine pure_ (i:=0) (N:=some 86) (v:=?_) (a':=?_) #[tT,tF,tF,tF,tF,tF,tF,tF,tF,tF,tF,tF,tF,tF,tF,tF,tF,tF,tF,tF,tF,tF,tF,tF] rfl rfl (any_of HT_.out (by kernel_rfl)) (fun _ _ _ h=>h) (Or.inl ⟨by rfl,?_⟩) ?_ ?_
                      rotate_left;(intro w';go_simp;with_reducible rfl);rotate_left;(simp only [Act.put,qA,qB,qC,i64_w,i32_w];rfl)
                      refine pure_ (i:=2) (N:=some 88) (v:=?_) (a':=?_) #[tT,tF,tT,tF,tF,tF,tF,tF,tF,tF,tF,tF,tF,tF,tF,tF,tF,tF,tF,tF,tF,tF,tF,tF] rfl rfl (any_of HT_.out (by kernel_rfl)) (fun _ _ _ h=>h) (Or.inl ⟨by rfl,?_⟩) ?_ ?_
                      rotate_left;(intro w';go_simp;with_reducible rfl);rotate_left;(simp only [Act.put,qA,qB,qC,i64_w,i32_w];rfl)
                      refine pure_ (i:=3) (N:=some 89) (v:=?_) (a':=?_) #[tT,tF,tT,tT,tF,tF,tF,tF,tF,tF,tF,tF,tF,tF,tF,tF,tF,tF,tF,tF,tF,tF,tF,tF] rfl rfl (any_of HT_.out (by kernel_rfl)) (fun _ _ _ h=>h) (Or.inl ⟨by rfl,?_⟩) ?_ ?_
                      rotate_left;(intro w';go_simp;with_reducible rfl);rotate_left;(simp only [Act.put,qA,qB,qC,i64_w,i32_w];rfl)
                      refine pure_ (i:=5) (N:=some 91) (v:=?_) (a':=?_) #[tT,tF,tT,tT,tF,tT,tF,tF,tF,tF,tF,tF,tF,tF,tF,tF,tF,tF,tF,tF,tF,tF,tF,tF] rfl rfl (any_of HT_.out (by kernel_rfl)) (fun _ _ _ h=>h) (Or.inl ⟨by rfl,?_⟩) ?_ ?_
                      rotate_left;(intro w';go_simp;with_reducible rfl);rotate_left;(simp only [Act.put,qA,qB,qC,i64_w,i32_w];rfl)
                      refine pure_ (i:=6) (N:=some 92) (v:=?_) (a':=?_) #[tT,tF,tT,tT,tF,tT,tT,tF,tF,tF,tF,tF,tF,tF,tF,tF,tF,tF,tF,tF,tF,tF,tF,tF] rfl rfl (any_of HT_.out (by kernel_rfl)) (fun _ _ _ h=>h) (Or.inl ⟨by rfl,?_⟩) ?_ ?_
                      rotate_left;(intro w';go_simp;with_reducible rfl);rotate_left;(simp only [Act.put,qA,qB,qC,i64_w,i32_w];rfl)
                      refine pure_ (i:=9) (N:=some 95) (v:=?_) (a':=?_) #[tT,tF,tT,tT,tF,tT,tT,tF,tF,tT,tF,tF,tF,tF,tF,tF,tF,tF,tF,tF,tF,tF,tF,tF] rfl rfl (any_of HT_.out (by kernel_rfl)) (fun _ _ _ h=>h) (Or.inl ⟨by rfl,?_⟩) ?_ ?_
                      rotate_left;(intro w';go_simp;with_reducible rfl);rotate_left;(simp only [Act.put,qA,qB,qC,i64_w,i32_w];rfl)
                      refine pure_ (i:=11) (N:=some 97) (v:=?_) (a':=?_) #[tT,tF,tT,tT,tF,tT,tT,tF,tF,tT,tF,tT,tF,tF,tF,tF,tF,tF,tF,tF,tF,tF,tF,tF] rfl rfl (any_of HT_.out (by kernel_rfl)) (fun _ _ _ h=>h) (Or.inl ⟨by rfl,?_⟩) ?_ ?_
                      rotate_left;(intro w';go_simp;with_reducible rfl);rotate_left;(simp only [Act.put,qA,qB,qC,i64_w,i32_w];rfl)
                      refine pure_ (i:=12) (N:=some 98) (v:=?_) (a':=?_) #[tT,tF,tT,tT,tF,tT,tT,tF,tF,tT,tF,tT,tT,tF,tF,tF,tF,tF,tF,tF,tF,tF,tF,tF] rfl rfl (any_of HT_.out (by kernel_rfl)) (fun _ _ _ h=>h) (Or.inl ⟨by rfl,?_⟩) ?_ ?_
                      rotate_left;(intro w';go_simp;with_reducible rfl);rotate_left;(simp only [Act.put,qA,qB,qC,i64_w,i32_w];rfl)
                      refine pure_ (i:=16) (N:=some 102) (v:=?_) (a':=?_) #[tT,tF,tT,tT,tF,tT,tT,tF,tF,tT,tF,tT,tT,tF,tF,tF,tT,tF,tF,tF,tF,tF,tF,tF] rfl rfl (any_of HT_.out (by kernel_rfl)) (fun _ _ _ h=>h) (Or.inl ⟨by rfl,?_⟩) ?_ ?_
                      rotate_left;(intro w';go_simp;with_reducible rfl);rotate_left;(simp only [Act.put,qA,qB,qC,i64_w,i32_w];rfl)
                      refine pure_ (i:=18) (N:=some 104) (v:=?_) (a':=?_) #[tT,tF,tT,tT,tF,tT,tT,tF,tF,tT,tF,tT,tT,tF,tF,tF,tT,tF,tT,tF,tF,tF,tF,tF] rfl rfl (any_of HT_.out (by kernel_rfl)) (fun _ _ _ h=>h) (Or.inl ⟨by rfl,?_⟩) ?_ ?_
                      rotate_left;(intro w';go_simp;with_reducible rfl);rotate_left;(simp only [Act.put,qA,qB,qC,i64_w,i32_w];rfl)
                      refine take_ (i:=1) (N:=some 87) (v:=?_) (a':=?_) #[tT,tT,tT,tT,tF,tT,tT,tF,tF,tT,tF,tT,tT,tF,tF,tF,tT,tF,tT,tF,tF,tF,tF,tF] rfl rfl (take_ofW HT_.out HW_.out (by kernel_rfl)) (fun _ _ _ h=>h) (Or.inl ⟨by rfl,?_⟩) hHeld ?_ ?_
                      rotate_left
                      ·rintro w' ⟨s0,s1,s2,s3,s4,s5⟩
                       go_simp
                       with_reducible rfl
                      rotate_left;(simp only [Act.put,qA,qB,qC,i64_w,i32_w];rfl)
                      refine take_ (i:=4) (N:=some 90) (v:=?_) (a':=?_) #[tT,tT,tT,tT,tT,tT,tT,tF,tF,tT,tF,tT,tT,tF,tF,tF,tT,tF,tT,tF,tF,tF,tF,tF] rfl rfl (take_ofW HT_.out HW_.out (by kernel_rfl)) (fun _ _ _ h=>h) (Or.inl ⟨by rfl,?_⟩) hHeld ?_ ?_
                      rotate_left
                      ·rintro w' ⟨s0,s1,s2,s3,s4,s5⟩
                       go_simp
                       with_reducible rfl
                      rotate_left;(simp only [Act.put,qA,qB,qC,i64_w,i32_w];rfl)
                      refine pure_ (i:=7) (N:=some 93) (v:=?_) (a':=?_) #[tT,tT,tT,tT,tT,tT,tT,tT,tF,tT,tF,tT,tT,tF,tF,tF,tT,tF,tT,tF,tF,tF,tF,tF] rfl rfl (any_of HT_.out (by kernel_rfl)) (fun _ _ _ h=>h) (Or.inl ⟨by rfl,?_⟩) ?_ ?_
                      rotate_left;(intro w';go_simp;with_reducible rfl);rotate_left;(simp only [Act.put,qA,qB,qC,i64_w,i32_w];rfl)
                      refine take_ (i:=8) (N:=some 94) (v:=?_) (a':=?_) #[tT,tT,tT,tT,tT,tT,tT,tT,tT,tT,tF,tT,tT,tF,tF,tF,tT,tF,tT,tF,tF,tF,tF,tF] rfl rfl (take_ofW HT_.out HW_.out (by kernel_rfl)) (fun _ _ _ h=>h) (Or.inl ⟨by rfl,?_⟩) hHeld ?_ ?_
                      rotate_left
                      ·rintro w' ⟨s0,s1,s2,s3,s4,s5⟩
                       go_simp
                       with_reducible rfl
                      rotate_left;(simp only [Act.put,qA,qB,qC,i64_w,i32_w];rfl)
                      refine take_ (i:=10) (N:=some 96) (v:=?_) (a':=?_) #[tT,tT,tT,tT,tT,tT,tT,tT,tT,tT,tT,tT,tT,tF,tF,tF,tT,tF,tT,tF,tF,tF,tF,tF] rfl rfl (take_ofW HT_.out HW_.out (by kernel_rfl)) (fun _ _ _ h=>h) (Or.inl ⟨by rfl,?_⟩) hHeld ?_ ?_
                      rotate_left
                      ·rintro w' ⟨s0,s1,s2,s3,s4,s5⟩
                       go_simp
                       with_reducible rfl
                      rotate_left;(simp only [Act.put,qA,qB,qC,i64_w,i32_w];rfl)
                      refine pure_ (i:=13) (N:=some 99) (v:=?_) (a':=?_) #[tT,tT,tT,tT,tT,tT,tT,tT,tT,tT,tT,tT,tT,tT,tF,tF,tT,tF,tT,tF,tF,tF,tF,tF] rfl rfl (any_of HT_.out (by kernel_rfl)) (fun _ _ _ h=>h) (Or.inl ⟨by rfl,?_⟩) ?_ ?_
                      rotate_left;(intro w';go_simp;with_reducible rfl);rotate_left;(simp only [Act.put,qA,qB,qC,i64_w,i32_w];rfl)
                      refine take_ (i:=14) (N:=some 100) (v:=?_) (a':=?_) #[tT,tT,tT,tT,tT,tT,tT,tT,tT,tT,tT,tT,tT,tT,tT,tF,tT,tF,tT,tF,tF,tF,tF,tF] rfl rfl (take_ofW HT_.out HW_.out (by kernel_rfl)) (fun _ _ _ h=>h) (Or.inl ⟨by rfl,?_⟩) hHeld ?_ ?_
                      rotate_left
                      ·rintro w' ⟨s0,s1,s2,s3,s4,s5⟩
                       go_simp
                       with_reducible rfl
                      rotate_left;(simp only [Act.put,qA,qB,qC,i64_w,i32_w];rfl)
                      refine pure_ (i:=15) (N:=some 101) (v:=?_) (a':=?_) #[tT,tT,tT,tT,tT,tT,tT,tT,tT,tT,tT,tT,tT,tT,tT,tT,tT,tF,tT,tF,tF,tF,tF,tF] rfl rfl (any_of HT_.out (by kernel_rfl)) (fun _ _ _ h=>h) (Or.inl ⟨by rfl,?_⟩) ?_ ?_
                      rotate_left;(intro w';go_simp;with_reducible rfl);rotate_left;(simp only [Act.put,qA,qB,qC,i64_w,i32_w];rfl)
                      refine take_ (i:=17) (N:=some 103) (v:=?_) (a':=?_) #[tT,tT,tT,tT,tT,tT,tT,tT,tT,tT,tT,tT,tT,tT,tT,tT,tT,tT,tT,tF,tF,tF,tF,tF] rfl rfl (take_ofW HT_.out HW_.out (by kernel_rfl)) (fun _ _ _ h=>h) (Or.inl ⟨by rfl,?_⟩) hHeld ?_ ?_
                      rotate_left
                      ·rintro w' ⟨s0,s1,s2,s3,s4,s5⟩
                       go_simp
                       with_reducible rfl
                      rotate_left;(simp only [Act.put,qA,qB,qC,i64_w,i32_w];rfl)
                      refine pure_ (i:=19) (N:=some 105) (v:=?_) (a':=?_) #[tT,tT,tT,tT,tT,tT,tT,tT,tT,tT,tT,tT,tT,tT,tT,tT,tT,tT,tT,tT,tF,tF,tF,tF] rfl rfl (any_of HT_.out (by kernel_rfl)) (fun _ _ _ h=>h) (Or.inl ⟨by rfl,?_⟩) ?_ ?_
                      rotate_left;(intro w';go_simp;with_reducible rfl);rotate_left;(simp only [Act.put,qA,qB,qC,i64_w,i32_w];rfl)
                      refine take_ (i:=20) (N:=some 106) (v:=?_) (a':=?_) #[tT,tT,tT,tT,tT,tT,tT,tT,tT,tT,tT,tT,tT,tT,tT,tT,tT,tT,tT,tT,tT,tF,tF,tF] rfl rfl (take_ofW HT_.out HW_.out (by kernel_rfl)) (fun _ _ _ h=>h) (Or.inl ⟨by rfl,?_⟩) hHeld ?_ ?_
                      rotate_left
                      ·rintro w' ⟨s0,s1,s2,s3,s4,s5⟩
                       go_simp
                       with_reducible rfl
                      rotate_left;(simp only [Act.put,qA,qB,qC,i64_w,i32_w];rfl)
                      refine pure_ (i:=21) (N:=some 107) (v:=?_) (a':=?_) #[tT,tT,tT,tT,tT,tT,tT,tT,tT,tT,tT,tT,tT,tT,tT,tT,tT,tT,tT,tT,tT,tT,tF,tF] rfl rfl (any_of HT_.out (by kernel_rfl)) (fun _ _ _ h=>h) (Or.inl ⟨by rfl,?_⟩) ?_ ?_
                      rotate_left;(intro w';go_simp;with_reducible rfl);rotate_left;(simp only [Act.put,qA,qB,qC,i64_w,i32_w];rfl)
                      refine pure_ (i:=22) (N:=some 108) (v:=?_) (a':=?_) #[tT,tT,tT,tT,tT,tT,tT,tT,tT,tT,tT,tT,tT,tT,tT,tT,tT,tT,tT,tT,tT,tT,tT,tF] rfl rfl (any_of HT_.out (by kernel_rfl)) (fun _ _ _ h=>h) (Or.inl ⟨by rfl,?_⟩) ?_ ?_
                      rotate_left;(intro w';go_simp;with_reducible rfl);rotate_left;(simp only [Act.put,qA,qB,qC,i64_w,i32_w];rfl)
                      refine last_ (i:=23) (N:=none) #[tT,tT,tT,tT,tT,tT,tT,tT,tT,tT,tT,tT,tT,tT,tT,tT,tT,tT,tT,tT,tT,tT,tT,tT] rfl rfl (one_of HT_.out (by kernel_rfl)) (by decide) (fun K hK=>?_)
                      refine skip_ (w1:=?_) (by rfl) rfl ?_ ?_
                      rotate_left
                      ·go_simp
                       rfl
                      refine hK.out _ _ ?_
                      clear hK K
                      refine done_ (done_of HT_.out (by kernel_rfl)) ?_
                      try go_wp2
                      go_roundg k2
                      case measure=>have:=HK1.out;have:=HK2.out;omega
                      case rel=>exact ⟨(wrap64 (x9_2 - 1)),(x117000_2),(y134),(y128),(.slice (some ad132) x117000_2.length co87),(.slice (some ⟨go75,0,none⟩) x117001_2.length co86),(.slice (some ⟨go56,0,none⟩) x117002_2.length co77),(by first|rfl|(simp;done)|(simp [*];done)),H',⟨by have:=HK1.out;have:=HK2.out;omega⟩,⟨by (with_reducible repeat (first|apply qG|apply qH|apply qI));exact Kd.R_mono (Kd.R_far (p:=⟨go75,(x9_2 : Int).toNat,none⟩) (Kd.R_mono HO_117000.out (fun k_ hk=>(⟨hk,fun e_=>hk.1 (by rw [e_];rfl)⟩ : _∧k_ ≠ go75))) (fun _ hk=>hk.2) (.int .i64 (wrap64 ((wrap64 ((rd x117001_2 (ji51))+(rd x117000_2 (ji51)))) - (rd x117000_2 x9_2))))) (fun _ hk=>⟨hk.1.1,hk.1.2⟩)⟩,⟨by (with_reducible repeat (first|apply qG|apply qH|apply qI));exact HQ88.out⟩,⟨by (with_reducible repeat (first|apply qG|apply qH|apply qI));exact Kd.R_mono (Kd.R_far (p:=⟨go75,(x9_2 : Int).toNat,none⟩) (Kd.R_mono HO_117002.out (fun k_ hk=>(⟨hk,fun e_=>hk.2 (by rw [e_];rfl)⟩ : _∧k_ ≠ go75))) (fun _ hk=>hk.2) (.int .i64 (wrap64 ((wrap64 ((rd x117001_2 (ji51))+(rd x117000_2 (ji51)))) - (rd x117000_2 x9_2))))) (fun _ hk=>⟨hk.1.1,hk.1.2⟩)⟩,⟨by (with_reducible repeat (first|apply qD|apply qE|apply qF));refine blk_far ?_ (by have h_:=Kd.R_ne HO_117001.out BK106.out (by decide);intro e_;exact h_ (by rw [e_];rfl)) _;(with_reducible repeat (first|apply qD|apply qE|apply qF));exact BK106.out⟩,⟨by (with_reducible repeat (first|apply qD|apply qE|apply qF));refine blk_far ?_ (by have h_:=Kd.R_ne HO_117001.out BK116.out (by decide);intro e_;exact h_ (by rw [e_];rfl)) _;(with_reducible repeat (first|apply qD|apply qE|apply qF));exact BK116.out⟩,⟨by repeat (first|(with_reducible first|exact HB.out|apply qJ|apply qK|apply qL|refine qR ?_ GB75.out|refine qR ?_ GE106.out|refine qR ?_ GE116.out)|exact HB.out)⟩⟩
                     ·rw [if_neg c74] at H
                      exact absurd H (by simp)
                    ·rw [if_neg c73] at H
                     exact absurd H (by simp)
                   ·rw [if_neg c72] at H
                    exact absurd H (by simp)
                  ·rw [if_neg c71] at H
                   exact absurd H (by simp)
                ·rw [if_neg c58] at H
                 have c58b0 : (((rd_T31 l0 x9_2).f0) == 5)=false:=beq_eq_false_iff_ne.mpr c58
                 have c58b1 : (((rd_T31 l0 x9_2).f0) != 5)=true:=bne_iff_ne.mpr c58
                 replace H:=Option.bind_eq_some_iff.mp H
                 obtain ⟨t136,A890,H⟩:=H
                 replace H : (if t136=true then (wide_sum.l1 k2 l0 (wrap64 (x9_2 - 1)) x117000_2 x117001_2 y126) else (if (ji51) < (x117001_2.length : Int) then (if (ji51) < (x117000_2.length : Int) then (if x9_2 < (x117000_2.length : Int) then (if x9_2 < (x117001_2.length : Int) then (wide_sum.l1 k2 l0 (wrap64 (x9_2 - 1)) x117000_2 (x117001_2.set (x9_2 : Int).toNat (wrap64 ((wrap64 ((rd x117001_2 (ji51))+(rd x117000_2 (ji51)))) - (rd x117000_2 x9_2)))) y126) else (none)) else (none)) else (none)) else (none)))=some (r1,r2,r3):=H
                 have A89:=qM A890
                 clear A890
                 by_cases c90 : t136=true
                 ·subst c90
                  have H1 : (wide_sum.l1 k2 l0 (wrap64 (x9_2 - 1)) x117000_2 x117001_2 y126)=some (r1,r2,r3):=by rw [if_pos rfl] at H;exact H
                  clear H
                  have H:=H1
                  clear H1
                  have H':=qM H
                  clear H
                  try go_wp2
                  have n0_:=qM (qI HO_117000.out);have n1_:=qM (qI HO_117001.out)
                  have n2_:=qM (qI HO_117002.out);have n3_:=qM (qE BK106.out)
                  have n4_:=qM (qE BK116.out);have n5_:=qM (qL HB.out);clear HO_117000
                  clear HO_117001;clear HO_117002
                  clear BK106;clear BK116
                  clear HB;have HO_117000:=n0_
                  have HO_117001:=n1_;have HO_117002:=n2_
                  have BK106:=n3_;have BK116:=n4_
                  have HB:=n5_;clear n0_ n1_ n2_ n3_ n4_ n5_
                  obtain ⟨Ao92,co92,eo92⟩:=Kd.R_slice HO_117002.out
                  (first|subst eo92|(injection eo92 with f1_ f2_ f3_;have f4_:=f1_.symm;have f5_:=f3_.symm;clear f1_ f2_ f3_;subst f4_;subst f5_))
                  have p125 : 0≤((ji51) : Int):=qN (by assumption)
                  have q125 : (ji51) < (x117002_2.length : Int):=qN (by assumption)
                  obtain ⟨ad125,e125,hx125_0⟩:=Kd.at_int (Kd.R_reads' HO_117002.out).2.2 (ji51) p125 q125
                  cases e125
                  replace p125:=eq_true p125
                  replace q125:=eq_true q125
                  have p56 : 0≤(x9_2 : Int):=qN (by assumption)
                  have q56 : (x9_2 : Int) < ((x117002_2.length : Int) : Int):=qN (by assumption)
                  obtain ⟨go56,co56,eo56,gb56,gl56,cl56,HG56⟩:=Kd.R_form HO_117002.out (by omega)
                  (first|cases eo56|(injection eo56 with ea_ en_ ec_;(first|subst ea_|(injection ea_ with ea_;subst ea_));subst ec_;clear en_))
                  have GB56:=qM gb56
                  have GG56:=qM HG56
                  clear gb56 gl56 HG56
                  (first|simp only [add_plain] at hx125_0|skip)
                  obtain ⟨hx56_0,hf56_0⟩:=Kd.R_celln 0 HO_117002.out (x9_2 : Int) p56 q56
                  replace p56:=eq_true p56
                  replace q56:=eq_true q56
                  have HP93:=Kd.R_putn HO_117002.out (x9_2 : Int) (rd x117002_2 (ji51))
                  rw [← Ny126.out] at HP93
                  have HQ93:=qM HP93
                  clear HP93
                  refine start_ (n:=11) (S:=fun w'=>w'.cell? ⟨gb116,0,none⟩=some (u117000)∧w'.cell? ⟨gb116,1,none⟩=some (u117001)∧w'.cell? ⟨gb116,2,none⟩=some (.slice (some ⟨go56,0,none⟩) x117002_2.length co92)∧w'.cell? ⟨go56,((ji51)).toNat,none⟩=some (.int .i64 (rd x117002_2 (ji51)))) (ds:=[10]) #[tF,tF,tF,tF,tF,tF,tF,tF,tF,tF,tF] (by kernel_rfl) rfl rfl ⟨(blk_cell BK116.out 0).trans rfl,(blk_cell BK116.out 1).trans rfl,(blk_cell BK116.out 2).trans rfl,hx125_0⟩ (fun hHeld=>?_);refine with_tabW wide_sum.tab13 wide_sum.bits13 (fun HT_ HW_=>?_)
                  generalize wr.drew=w91 at HO_117000 HO_117001 HO_117002 BK106 BK116 HB GG56 HQ93 hf56_0 hx125_0 hx56_0 hHeld ⊢
                  refine pure_ (i:=0) (N:=some 59) (v:=?_) (a':=?_) #[tT,tF,tF,tF,tF,tF,tF,tF,tF,tF,tF] rfl rfl (any_of HT_.out (by kernel_rfl)) (fun _ _ _ h=>h) (Or.inl ⟨by rfl,?_⟩) ?_ ?_
                  rotate_left;(intro w';go_simp;with_reducible rfl);rotate_left;(simp only [Act.put,qA,qB,qC,i64_w,i32_w];rfl)
                  refine pure_ (i:=2) (N:=some 61) (v:=?_) (a':=?_) #[tT,tF,tT,tF,tF,tF,tF,tF,tF,tF,tF] rfl rfl (any_of HT_.out (by kernel_rfl)) (fun _ _ _ h=>h) (Or.inl ⟨by rfl,?_⟩) ?_ ?_
                  rotate_left;(intro w';go_simp;with_reducible rfl);rotate_left;(simp only [Act.put,qA,qB,qC,i64_w,i32_w];rfl)
                  refine pure_ (i:=3) (N:=some 62) (v:=?_) (a':=?_) #[tT,tF,tT,tT,tF,tF,tF,tF,tF,tF,tF] rfl rfl (any_of HT_.out (by kernel_rfl)) (fun _ _ _ h=>h) (Or.inl ⟨by rfl,?_⟩) ?_ ?_
                  rotate_left;(intro w';go_simp;with_reducible rfl);rotate_left;(simp only [Act.put,qA,qB,qC,i64_w,i32_w];rfl)
                  refine pure_ (i:=5) (N:=some 64) (v:=?_) (a':=?_) #[tT,tF,tT,tT,tF,tT,tF,tF,tF,tF,tF] rfl rfl (any_of HT_.out (by kernel_rfl)) (fun _ _ _ h=>h) (Or.inl ⟨by rfl,?_⟩) ?_ ?_
                  rotate_left;(intro w';go_simp;with_reducible rfl);rotate_left;(simp only [Act.put,qA,qB,qC,i64_w,i32_w];rfl)
                  refine pure_ (i:=6) (N:=some 65) (v:=?_) (a':=?_) #[tT,tF,tT,tT,tF,tT,tT,tF,tF,tF,tF] rfl rfl (any_of HT_.out (by kernel_rfl)) (fun _ _ _ h=>h) (Or.inl ⟨by rfl,?_⟩) ?_ ?_
                  rotate_left;(intro w';go_simp;with_reducible rfl);rotate_left;(simp only [Act.put,qA,qB,qC,i64_w,i32_w];rfl)
                  refine take_ (i:=1) (N:=some 60) (v:=?_) (a':=?_) #[tT,tT,tT,tT,tF,tT,tT,tF,tF,tF,tF] rfl rfl (take_ofW HT_.out HW_.out (by kernel_rfl)) (fun _ _ _ h=>h) (Or.inl ⟨by rfl,?_⟩) hHeld ?_ ?_
                  rotate_left
                  ·rintro w' ⟨s0,s1,s2,s3⟩
                   go_simp
                   with_reducible rfl
                  rotate_left;(simp only [Act.put,qA,qB,qC,i64_w,i32_w];rfl)
                  refine take_ (i:=4) (N:=some 63) (v:=?_) (a':=?_) #[tT,tT,tT,tT,tT,tT,tT,tF,tF,tF,tF] rfl rfl (take_ofW HT_.out HW_.out (by kernel_rfl)) (fun _ _ _ h=>h) (Or.inl ⟨by rfl,?_⟩) hHeld ?_ ?_
                  rotate_left
                  ·rintro w' ⟨s0,s1,s2,s3⟩
                   go_simp
                   with_reducible rfl
                  rotate_left;(simp only [Act.put,qA,qB,qC,i64_w,i32_w];rfl)
                  refine pure_ (i:=7) (N:=some 66) (v:=?_) (a':=?_) #[tT,tT,tT,tT,tT,tT,tT,tT,tF,tF,tF] rfl rfl (any_of HT_.out (by kernel_rfl)) (fun _ _ _ h=>h) (Or.inl ⟨by rfl,?_⟩) ?_ ?_
                  rotate_left;(intro w';go_simp;with_reducible rfl);rotate_left;(simp only [Act.put,qA,qB,qC,i64_w,i32_w];rfl)
                  refine take_ (i:=8) (N:=some 67) (v:=?_) (a':=?_) #[tT,tT,tT,tT,tT,tT,tT,tT,tT,tF,tF] rfl rfl (take_ofW HT_.out HW_.out (by kernel_rfl)) (fun _ _ _ h=>h) (Or.inl ⟨by rfl,?_⟩) hHeld ?_ ?_
                  rotate_left
                  ·rintro w' ⟨s0,s1,s2,s3⟩
                   go_simp
                   with_reducible rfl
                  rotate_left;(simp only [Act.put,qA,qB,qC,i64_w,i32_w];rfl)
                  refine pure_ (i:=9) (N:=some 68) (v:=?_) (a':=?_) #[tT,tT,tT,tT,tT,tT,tT,tT,tT,tT,tF] rfl rfl (any_of HT_.out (by kernel_rfl)) (fun _ _ _ h=>h) (Or.inl ⟨by rfl,?_⟩) ?_ ?_
                  rotate_left;(intro w';go_simp;with_reducible rfl);rotate_left;(simp only [Act.put,qA,qB,qC,i64_w,i32_w];rfl)
                  refine last_ (i:=10) (N:=none) #[tT,tT,tT,tT,tT,tT,tT,tT,tT,tT,tT] rfl rfl (one_of HT_.out (by kernel_rfl)) (by decide) (fun K hK=>?_)
                  refine skip_ (w1:=?_) (by rfl) rfl ?_ ?_
                  rotate_left
                  ·go_simp
                   rfl
                  refine hK.out _ _ ?_
                  clear hK K
                  refine done_ (done_of HT_.out (by kernel_rfl)) ?_
                  have p127 : 0≤(x9_2 : Int):=qN (by assumption)
                  have q127 : x9_2 < (l0.length : Int):=qN (by assumption)
                  obtain ⟨ad127,e127,hx127_0,hx127_1⟩:=at_T31 HR0.out x9_2 p127 q127
                  cases e127
                  have hn127_0 : ad127.block ≠ go56:=Nat.ne_of_lt (Nat.lt_of_lt_of_le (by have:=World.block_lt_of_cell? _ _ hx127_0;first|rwa [add_block] at this|exact this) GB56.out)
                  replace hx127_0:=(HB.out.cell (World.block_lt_of_cell? w _ hx127_0)).trans hx127_0
                  replace hx127_1:=(HB.out.cell (World.block_lt_of_cell? w _ hx127_1)).trans hx127_1
                  replace hx127_0:=(cell_far (p:=⟨go56,(x9_2 : Int).toNat,none⟩) (by first|(rw [add_block];exact hn127_0)|(show (Addr.add _ _).block ≠ _;rw [add_block];exact hn127_0)|exact hn127_0) (.int .i64 (rd x117002_2 (ji51)))).trans hx127_0
                  replace hx127_1:=(cell_far (p:=⟨go56,(x9_2 : Int).toNat,none⟩) (by first|(rw [add_block];exact hn127_0)|(show (Addr.add _ _).block ≠ _;rw [add_block];exact hn127_0)|exact hn127_0) (.int .i64 (rd x117002_2 (ji51)))).trans hx127_1
                  clear hn127_0
                  replace p127:=eq_true p127
                  replace q127:=eq_true q127
                  have p135 : 0≤(x9_2 : Int):=qN (by assumption)
                  have q135 : x9_2 < (l0.length : Int):=qN (by assumption)
                  obtain ⟨ad135,e135,hx135_0,hx135_1⟩:=at_T31 HR0.out x9_2 p135 q135
                  obtain rfl : ad127=ad135:=(by injection e135)
                  have hn135_0 : ad127.block ≠ go56:=Nat.ne_of_lt (Nat.lt_of_lt_of_le (by have:=World.block_lt_of_cell? _ _ hx135_0;first|rwa [add_block] at this|exact this) GB56.out)
                  replace hx135_0:=(HB.out.cell (World.block_lt_of_cell? w _ hx135_0)).trans hx135_0
                  replace hx135_1:=(HB.out.cell (World.block_lt_of_cell? w _ hx135_1)).trans hx135_1
                  replace hx135_0:=(cell_far (p:=⟨go56,(x9_2 : Int).toNat,none⟩) (by first|(rw [add_block];exact hn135_0)|(show (Addr.add _ _).block ≠ _;rw [add_block];exact hn135_0)|exact hn135_0) (.int .i64 (rd x117002_2 (ji51)))).trans hx135_0
                  replace hx135_1:=(cell_far (p:=⟨go56,(x9_2 : Int).toNat,none⟩) (by first|(rw [add_block];exact hn135_0)|(show (Addr.add _ _).block ≠ _;rw [add_block];exact hn135_0)|exact hn135_0) (.int .i64 (rd x117002_2 (ji51)))).trans hx135_1
                  clear hn135_0
                  replace p135:=eq_true p135
                  replace q135:=eq_true q135
                  try go_wp2_with (first|((with_reducible refine gate_callee (f:=32) rfl ?_);refine goesL_ (some 84) rfl rfl Try.func32 (by kernel_rfl) rfl #[.agg #[.int .i64 ((rd_T31 l0 x9_2).f0),.string ((rd_T31 l0 x9_2).f1)]] rfl (by (try simp only [List.map_toArray,List.map_cons,List.map_nil]);first|done|rfl|(simp only [List.length_drop,List.length_take];rfl)) ?_;(with_reducible refine (span_Breaks.calls ((rd_T31 l0 x9_2).f0) ((rd_T31 l0 x9_2).f1) true _ A89.out).mono ?_);(try clear A89); rintro e w94 ⟨rfl,hb⟩;refine ⟨_,rfl,?_⟩;have n0_:=qM (Kd.R_below (by (with_reducible repeat (first|apply qG|apply qH|apply qI));exact (Kd.R_mono (Kd.R_far (p:=⟨go56,(x9_2 : Int).toNat,none⟩) (Kd.R_mono HO_117000.out (fun k_ hk=>(⟨hk,fun e_=>hk.2 (by rw [e_];rfl)⟩ : _∧k_ ≠ go56))) (fun _ hk=>hk.2) (.int .i64 (rd x117002_2 (ji51)))) (fun _ h_=>h_.1))) hb);have n1_:=qM (Kd.R_below (by (with_reducible repeat (first|apply qG|apply qH|apply qI));exact (Kd.R_mono (Kd.R_far (p:=⟨go56,(x9_2 : Int).toNat,none⟩) (Kd.R_mono HO_117001.out (fun k_ hk=>(⟨hk,fun e_=>hk.2 (by rw [e_];rfl)⟩ : _∧k_ ≠ go56))) (fun _ hk=>hk.2) (.int .i64 (rd x117002_2 (ji51)))) (fun _ h_=>h_.1))) hb);have n2_:=qM (Kd.R_below (by (with_reducible repeat (first|apply qG|apply qH|apply qI));exact HQ93.out) hb);have n3_:=qM (blk_below (g:=gb106) (o:=.cells #[.slice none 0 0,.slice none 0 0,.slice none 0 0] 50 (0,0)) (by (with_reducible repeat (first|apply qD|apply qE|apply qF));refine blk_far ?_ (by have h_:=Kd.R_ne HO_117002.out BK106.out (by decide);intro e_;exact h_ (by rw [e_];rfl)) _;(with_reducible repeat (first|apply qD|apply qE|apply qF));exact BK106.out) hb);have n4_:=qM (blk_below (g:=gb116) (o:=.cells #[u117000,u117001,.slice (some ⟨go56,0,none⟩) x117002_2.length co92] 50 (0,0)) (by (with_reducible repeat (first|apply qD|apply qE|apply qF));refine blk_far ?_ (by have h_:=Kd.R_ne HO_117002.out BK116.out (by decide);intro e_;exact h_ (by rw [e_];rfl)) _;(with_reducible repeat (first|apply qD|apply qE|apply qF));exact BK116.out) hb);have n5_:=qM (below_step (by repeat first|exact HB.out|apply qJ|apply qK|apply qL|refine qR ?_ GB56.out|refine qR ?_ GE106.out|refine qR ?_ GE116.out) hb);clear HO_117000;clear HO_117001;clear HO_117002;clear BK106;clear BK116;clear HB;have HO_117000:=n0_;have HO_117001:=n1_;have HO_117002:=n2_;have BK106:=n3_;have BK116:=n4_;have HB:=n5_;clear n0_ n1_ n2_ n3_ n4_ n5_;(try clear hb);(try clear hb2);(try clear hk);(try clear hi)))
                  go_roundg k2
                  case measure=>have:=HK1.out;have:=HK2.out;omega
                  case rel=>exact ⟨(wrap64 (x9_2 - 1)),(x117000_2),(x117001_2),(y126),(u117000),(u117001),(.slice (some ⟨go56,0,none⟩) x117002_2.length co92),(by first|rfl|(simp;done)|(simp [*];done)),H',⟨by have:=HK1.out;have:=HK2.out;omega⟩,⟨by (with_reducible repeat (first|apply qG|apply qH|apply qI));exact HO_117000.out⟩,⟨by (with_reducible repeat (first|apply qG|apply qH|apply qI));exact HO_117001.out⟩,⟨by (with_reducible repeat (first|apply qG|apply qH|apply qI));exact HO_117002.out⟩,⟨by (with_reducible repeat (first|apply qD|apply qE|apply qF));exact BK106.out⟩,⟨by (with_reducible repeat (first|apply qD|apply qE|apply qF));exact BK116.out⟩,⟨by repeat (first|(with_reducible first|exact HB.out|apply qJ|apply qK|apply qL|refine qR ?_ GE106.out|refine qR ?_ GE116.out)|exact HB.out)⟩⟩
                 ·replace c90:=Bool.eq_false_iff.mpr c90
                  subst c90
                  have H1 : (if (ji51) < (x117001_2.length : Int) then (if (ji51) < (x117000_2.length : Int) then (if x9_2 < (x117000_2.length : Int) then (if x9_2 < (x117001_2.length : Int) then (wide_sum.l1 k2 l0 (wrap64 (x9_2 - 1)) x117000_2 (x117001_2.set (x9_2 : Int).toNat (wrap64 ((wrap64 ((rd x117001_2 (ji51))+(rd x117000_2 (ji51)))) - (rd x117000_2 x9_2)))) y126) else (none)) else (none)) else (none)) else (none))=some (r1,r2,r3):=by rw [if_neg (show ¬ (false=true) by decide)] at H;exact H
                  clear H
                  have H:=H1
                  clear H1
                  by_cases c95 : (ji51) < (x117001_2.length : Int)
                  ·rw [if_pos c95] at H
                   have c95b0 : decide ((ji51) < (x117001_2.length : Int))=true:=decide_eq_true c95
                   clear c95
                   by_cases c96 : (ji51) < (x117000_2.length : Int)
                   ·rw [if_pos c96] at H
                    have c96b0 : decide ((ji51) < (x117000_2.length : Int))=true:=decide_eq_true c96
                    clear c96
                    by_cases c97 : x9_2 < (x117000_2.length : Int)
                    ·rw [if_pos c97] at H
                     have c97b0 : decide (x9_2 < (x117000_2.length : Int))=true:=decide_eq_true c97
                     clear c97
                     by_cases c98 : x9_2 < (x117001_2.length : Int)
                     ·rw [if_pos c98] at H
                      have c98b0 : decide (x9_2 < (x117001_2.length : Int))=true:=decide_eq_true c98
                      clear c98
                      obtain ⟨y140,hy140⟩ : ∃ y_ : List Int,y_=(x117001_2.set (x9_2 : Int).toNat (wrap64 ((wrap64 ((rd x117001_2 (ji51))+(rd x117000_2 (ji51)))) - (rd x117000_2 x9_2)))):=⟨_,rfl⟩
                      replace H : (wide_sum.l1 k2 l0 (wrap64 (x9_2 - 1)) x117000_2 y140 y126)=some (r1,r2,r3):=by first|(rw [hy140];with_reducible exact H)|(have H2_:=(Option.bind_some _ _).symm.trans H;rw [hy140];with_reducible exact H2_)|(have H2_:=(Option.bind_some _ _).symm.trans H;with_reducible exact H2_)|with_reducible exact H|(rw [hy140];exact H)|exact H
                      have Ny140:=qM hy140
                      clear hy140
                      have H':=qM H
                      clear H
                      try go_wp2
                      have n0_:=qM (qI HO_117000.out);have n1_:=qM (qI HO_117001.out)
                      have n2_:=qM (qI HO_117002.out);have n3_:=qM (qE BK106.out)
                      have n4_:=qM (qE BK116.out);have n5_:=qM (qL HB.out);clear HO_117000
                      clear HO_117001;clear HO_117002
                      clear BK106;clear BK116
                      clear HB;have HO_117000:=n0_
                      have HO_117001:=n1_;have HO_117002:=n2_
                      have BK106:=n3_;have BK116:=n4_
                      have HB:=n5_;clear n0_ n1_ n2_ n3_ n4_ n5_
                      obtain ⟨Ao101,co101,eo101⟩:=Kd.R_slice HO_117002.out
                      (first|subst eo101|(injection eo101 with f1_ f2_ f3_;have f4_:=f1_.symm;have f5_:=f3_.symm;clear f1_ f2_ f3_;subst f4_;subst f5_))
                      have p125 : 0≤((ji51) : Int):=qN (by assumption)
                      have q125 : (ji51) < (x117002_2.length : Int):=qN (by assumption)
                      obtain ⟨ad125,e125,hx125_0⟩:=Kd.at_int (Kd.R_reads' HO_117002.out).2.2 (ji51) p125 q125
                      cases e125
                      replace p125:=eq_true p125
                      replace q125:=eq_true q125
                      have p56 : 0≤(x9_2 : Int):=qN (by assumption)
                      have q56 : (x9_2 : Int) < ((x117002_2.length : Int) : Int):=qN (by assumption)
                      obtain ⟨go56,co56,eo56,gb56,gl56,cl56,HG56⟩:=Kd.R_form HO_117002.out (by omega)
                      (first|cases eo56|(injection eo56 with ea_ en_ ec_;(first|subst ea_|(injection ea_ with ea_;subst ea_));subst ec_;clear en_))
                      have GB56:=qM gb56
                      have GG56:=qM HG56
                      clear gb56 gl56 HG56
                      (first|simp only [add_plain] at hx125_0|skip)
                      obtain ⟨hx56_0,hf56_0⟩:=Kd.R_celln 0 HO_117002.out (x9_2 : Int) p56 q56
                      replace p56:=eq_true p56
                      replace q56:=eq_true q56
                      have HP102:=Kd.R_putn HO_117002.out (x9_2 : Int) (rd x117002_2 (ji51))
                      rw [← Ny126.out] at HP102
                      have HQ102:=qM HP102
                      clear HP102
                      refine start_ (n:=11) (S:=fun w'=>w'.cell? ⟨gb116,0,none⟩=some (u117000)∧w'.cell? ⟨gb116,1,none⟩=some (u117001)∧w'.cell? ⟨gb116,2,none⟩=some (.slice (some ⟨go56,0,none⟩) x117002_2.length co101)∧w'.cell? ⟨go56,((ji51)).toNat,none⟩=some (.int .i64 (rd x117002_2 (ji51)))) (ds:=[10]) #[tF,tF,tF,tF,tF,tF,tF,tF,tF,tF,tF] (by kernel_rfl) rfl rfl ⟨(blk_cell BK116.out 0).trans rfl,(blk_cell BK116.out 1).trans rfl,(blk_cell BK116.out 2).trans rfl,hx125_0⟩ (fun hHeld=>?_);refine with_tabW wide_sum.tab13 wide_sum.bits13 (fun HT_ HW_=>?_)
                      generalize wr.drew=w100 at HO_117000 HO_117001 HO_117002 BK106 BK116 HB GG56 HQ102 hf56_0 hx125_0 hx56_0 hHeld ⊢
                      refine pure_ (i:=0) (N:=some 59) (v:=?_) (a':=?_) #[tT,tF,tF,tF,tF,tF,tF,tF,tF,tF,tF] rfl rfl (any_of HT_.out (by kernel_rfl)) (fun _ _ _ h=>h) (Or.inl ⟨by rfl,?_⟩) ?_ ?_
                      rotate_left;(intro w';go_simp;with_reducible rfl);rotate_left;(simp only [Act.put,qA,qB,qC,i64_w,i32_w];rfl)
                      refine pure_ (i:=2) (N:=some 61) (v:=?_) (a':=?_) #[tT,tF,tT,tF,tF,tF,tF,tF,tF,tF,tF] rfl rfl (any_of HT_.out (by kernel_rfl)) (fun _ _ _ h=>h) (Or.inl ⟨by rfl,?_⟩) ?_ ?_
                      rotate_left;(intro w';go_simp;with_reducible rfl);rotate_left;(simp only [Act.put,qA,qB,qC,i64_w,i32_w];rfl)
                      refine pure_ (i:=3) (N:=some 62) (v:=?_) (a':=?_) #[tT,tF,tT,tT,tF,tF,tF,tF,tF,tF,tF] rfl rfl (any_of HT_.out (by kernel_rfl)) (fun _ _ _ h=>h) (Or.inl ⟨by rfl,?_⟩) ?_ ?_
                      rotate_left;(intro w';go_simp;with_reducible rfl);rotate_left;(simp only [Act.put,qA,qB,qC,i64_w,i32_w];rfl)
                      refine pure_ (i:=5) (N:=some 64) (v:=?_) (a':=?_) #[tT,tF,tT,tT,tF,tT,tF,tF,tF,tF,tF] rfl rfl (any_of HT_.out (by kernel_rfl)) (fun _ _ _ h=>h) (Or.inl ⟨by rfl,?_⟩) ?_ ?_
                      rotate_left;(intro w';go_simp;with_reducible rfl);rotate_left;(simp only [Act.put,qA,qB,qC,i64_w,i32_w];rfl)
                      refine pure_ (i:=6) (N:=some 65) (v:=?_) (a':=?_) #[tT,tF,tT,tT,tF,tT,tT,tF,tF,tF,tF] rfl rfl (any_of HT_.out (by kernel_rfl)) (fun _ _ _ h=>h) (Or.inl ⟨by rfl,?_⟩) ?_ ?_
                      rotate_left;(intro w';go_simp;with_reducible rfl);rotate_left;(simp only [Act.put,qA,qB,qC,i64_w,i32_w];rfl)
                      refine take_ (i:=1) (N:=some 60) (v:=?_) (a':=?_) #[tT,tT,tT,tT,tF,tT,tT,tF,tF,tF,tF] rfl rfl (take_ofW HT_.out HW_.out (by kernel_rfl)) (fun _ _ _ h=>h) (Or.inl ⟨by rfl,?_⟩) hHeld ?_ ?_
                      rotate_left
                      ·rintro w' ⟨s0,s1,s2,s3⟩
                       go_simp
                       with_reducible rfl
                      rotate_left;(simp only [Act.put,qA,qB,qC,i64_w,i32_w];rfl)
                      refine take_ (i:=4) (N:=some 63) (v:=?_) (a':=?_) #[tT,tT,tT,tT,tT,tT,tT,tF,tF,tF,tF] rfl rfl (take_ofW HT_.out HW_.out (by kernel_rfl)) (fun _ _ _ h=>h) (Or.inl ⟨by rfl,?_⟩) hHeld ?_ ?_
                      rotate_left
                      ·rintro w' ⟨s0,s1,s2,s3⟩
                       go_simp
                       with_reducible rfl
                      rotate_left;(simp only [Act.put,qA,qB,qC,i64_w,i32_w];rfl)
                      refine pure_ (i:=7) (N:=some 66) (v:=?_) (a':=?_) #[tT,tT,tT,tT,tT,tT,tT,tT,tF,tF,tF] rfl rfl (any_of HT_.out (by kernel_rfl)) (fun _ _ _ h=>h) (Or.inl ⟨by rfl,?_⟩) ?_ ?_
                      rotate_left;(intro w';go_simp;with_reducible rfl);rotate_left;(simp only [Act.put,qA,qB,qC,i64_w,i32_w];rfl)
                      refine take_ (i:=8) (N:=some 67) (v:=?_) (a':=?_) #[tT,tT,tT,tT,tT,tT,tT,tT,tT,tF,tF] rfl rfl (take_ofW HT_.out HW_.out (by kernel_rfl)) (fun _ _ _ h=>h) (Or.inl ⟨by rfl,?_⟩) hHeld ?_ ?_
                      rotate_left
                      ·rintro w' ⟨s0,s1,s2,s3⟩
                       go_simp
                       with_reducible rfl
                      rotate_left;(simp only [Act.put,qA,qB,qC,i64_w,i32_w];rfl)
                      refine pure_ (i:=9) (N:=some 68) (v:=?_) (a':=?_) #[tT,tT,tT,tT,tT,tT,tT,tT,tT,tT,tF] rfl rfl (any_of HT_.out (by kernel_rfl)) (fun _ _ _ h=>h) (Or.inl ⟨by rfl,?_⟩) ?_ ?_
                      rotate_left;(intro w';go_simp;with_reducible rfl);rotate_left;(simp only [Act.put,qA,qB,qC,i64_w,i32_w];rfl)
                      refine last_ (i:=10) (N:=none) #[tT,tT,tT,tT,tT,tT,tT,tT,tT,tT,tT] rfl rfl (one_of HT_.out (by kernel_rfl)) (by decide) (fun K hK=>?_)
                      refine skip_ (w1:=?_) (by rfl) rfl ?_ ?_
                      rotate_left
                      ·go_simp
                       rfl
                      refine hK.out _ _ ?_
                      clear hK K
                      refine done_ (done_of HT_.out (by kernel_rfl)) ?_
                      have p127 : 0≤(x9_2 : Int):=qN (by assumption)
                      have q127 : x9_2 < (l0.length : Int):=qN (by assumption)
                      obtain ⟨ad127,e127,hx127_0,hx127_1⟩:=at_T31 HR0.out x9_2 p127 q127
                      cases e127
                      have hn127_0 : ad127.block ≠ go56:=Nat.ne_of_lt (Nat.lt_of_lt_of_le (by have:=World.block_lt_of_cell? _ _ hx127_0;first|rwa [add_block] at this|exact this) GB56.out)
                      replace hx127_0:=(HB.out.cell (World.block_lt_of_cell? w _ hx127_0)).trans hx127_0
                      replace hx127_1:=(HB.out.cell (World.block_lt_of_cell? w _ hx127_1)).trans hx127_1
                      replace hx127_0:=(cell_far (p:=⟨go56,(x9_2 : Int).toNat,none⟩) (by first|(rw [add_block];exact hn127_0)|(show (Addr.add _ _).block ≠ _;rw [add_block];exact hn127_0)|exact hn127_0) (.int .i64 (rd x117002_2 (ji51)))).trans hx127_0
                      replace hx127_1:=(cell_far (p:=⟨go56,(x9_2 : Int).toNat,none⟩) (by first|(rw [add_block];exact hn127_0)|(show (Addr.add _ _).block ≠ _;rw [add_block];exact hn127_0)|exact hn127_0) (.int .i64 (rd x117002_2 (ji51)))).trans hx127_1
                      clear hn127_0
                      replace p127:=eq_true p127
                      replace q127:=eq_true q127
                      have p135 : 0≤(x9_2 : Int):=qN (by assumption)
                      have q135 : x9_2 < (l0.length : Int):=qN (by assumption)
                      obtain ⟨ad135,e135,hx135_0,hx135_1⟩:=at_T31 HR0.out x9_2 p135 q135
                      obtain rfl : ad127=ad135:=(by injection e135)
                      have hn135_0 : ad127.block ≠ go56:=Nat.ne_of_lt (Nat.lt_of_lt_of_le (by have:=World.block_lt_of_cell? _ _ hx135_0;first|rwa [add_block] at this|exact this) GB56.out)
                      replace hx135_0:=(HB.out.cell (World.block_lt_of_cell? w _ hx135_0)).trans hx135_0
                      replace hx135_1:=(HB.out.cell (World.block_lt_of_cell? w _ hx135_1)).trans hx135_1
                      replace hx135_0:=(cell_far (p:=⟨go56,(x9_2 : Int).toNat,none⟩) (by first|(rw [add_block];exact hn135_0)|(show (Addr.add _ _).block ≠ _;rw [add_block];exact hn135_0)|exact hn135_0) (.int .i64 (rd x117002_2 (ji51)))).trans hx135_0
                      replace hx135_1:=(cell_far (p:=⟨go56,(x9_2 : Int).toNat,none⟩) (by first|(rw [add_block];exact hn135_0)|(show (Addr.add _ _).block ≠ _;rw [add_block];exact hn135_0)|exact hn135_0) (.int .i64 (rd x117002_2 (ji51)))).trans hx135_1
                      clear hn135_0
                      replace p135:=eq_true p135
                      replace q135:=eq_true q135
                      try go_wp2_with (first|((with_reducible refine gate_callee (f:=32) rfl ?_);refine goesL_ (some 84) rfl rfl Try.func32 (by kernel_rfl) rfl #[.agg #[.int .i64 ((rd_T31 l0 x9_2).f0),.string ((rd_T31 l0 x9_2).f1)]] rfl (by (try simp only [List.map_toArray,List.map_cons,List.map_nil]);first|done|rfl|(simp only [List.length_drop,List.length_take];rfl)) ?_;(with_reducible refine (span_Breaks.calls ((rd_T31 l0 x9_2).f0) ((rd_T31 l0 x9_2).f1) false _ A89.out).mono ?_);(try clear A89); rintro e w103 ⟨rfl,hb⟩;refine ⟨_,rfl,?_⟩;have n0_:=qM (Kd.R_below (by (with_reducible repeat (first|apply qG|apply qH|apply qI));exact (Kd.R_mono (Kd.R_far (p:=⟨go56,(x9_2 : Int).toNat,none⟩) (Kd.R_mono HO_117000.out (fun k_ hk=>(⟨hk,fun e_=>hk.2 (by rw [e_];rfl)⟩ : _∧k_ ≠ go56))) (fun _ hk=>hk.2) (.int .i64 (rd x117002_2 (ji51)))) (fun _ h_=>h_.1))) hb);have n1_:=qM (Kd.R_below (by (with_reducible repeat (first|apply qG|apply qH|apply qI));exact (Kd.R_mono (Kd.R_far (p:=⟨go56,(x9_2 : Int).toNat,none⟩) (Kd.R_mono HO_117001.out (fun k_ hk=>(⟨hk,fun e_=>hk.2 (by rw [e_];rfl)⟩ : _∧k_ ≠ go56))) (fun _ hk=>hk.2) (.int .i64 (rd x117002_2 (ji51)))) (fun _ h_=>h_.1))) hb);have n2_:=qM (Kd.R_below (by (with_reducible repeat (first|apply qG|apply qH|apply qI));exact HQ102.out) hb);have n3_:=qM (blk_below (g:=gb106) (o:=.cells #[.slice none 0 0,.slice none 0 0,.slice none 0 0] 50 (0,0)) (by (with_reducible repeat (first|apply qD|apply qE|apply qF));refine blk_far ?_ (by have h_:=Kd.R_ne HO_117002.out BK106.out (by decide);intro e_;exact h_ (by rw [e_];rfl)) _;(with_reducible repeat (first|apply qD|apply qE|apply qF));exact BK106.out) hb);have n4_:=qM (blk_below (g:=gb116) (o:=.cells #[u117000,u117001,.slice (some ⟨go56,0,none⟩) x117002_2.length co101] 50 (0,0)) (by (with_reducible repeat (first|apply qD|apply qE|apply qF));refine blk_far ?_ (by have h_:=Kd.R_ne HO_117002.out BK116.out (by decide);intro e_;exact h_ (by rw [e_];rfl)) _;(with_reducible repeat (first|apply qD|apply qE|apply qF));exact BK116.out) hb);have n5_:=qM (below_step (by repeat first|exact HB.out|apply qJ|apply qK|apply qL|refine qR ?_ GB56.out|refine qR ?_ GE106.out|refine qR ?_ GE116.out) hb);clear HO_117000;clear HO_117001;clear HO_117002;clear BK106;clear BK116;clear HB;have HO_117000:=n0_;have HO_117001:=n1_;have HO_117002:=n2_;have BK106:=n3_;have BK116:=n4_;have HB:=n5_;clear n0_ n1_ n2_ n3_ n4_ n5_;(try clear hb);(try clear hb2);(try clear hk);(try clear hi)))
                      have n0_:=qM (qI HO_117000.out);have n1_:=qM (qI HO_117001.out)
                      have n2_:=qM (qI HO_117002.out);have n3_:=qM (qE BK106.out)
                      have n4_:=qM (qE BK116.out);have n5_:=qM (qL HB.out);clear HO_117000
                      clear HO_117001;clear HO_117002
                      clear BK106;clear BK116
                      clear HB;have HO_117000:=n0_
                      have HO_117001:=n1_;have HO_117002:=n2_
                      have BK106:=n3_;have BK116:=n4_
                      have HB:=n5_;clear n0_ n1_ n2_ n3_ n4_ n5_
                      obtain ⟨Ao105,co105,eo105⟩:=Kd.R_slice HO_117001.out
                      (first|subst eo105|(injection eo105 with f1_ f2_ f3_;have f4_:=f1_.symm;have f5_:=f3_.symm;clear f1_ f2_ f3_;subst f4_;subst f5_))
                      have p137 : 0≤((ji51) : Int):=qN (by assumption)
                      have q137 : (ji51) < (x117001_2.length : Int):=qN (by assumption)
                      obtain ⟨ad137,e137,hx137_0⟩:=Kd.at_int (Kd.R_reads' HO_117001.out).2.2 (ji51) p137 q137
                      cases e137
                      replace p137:=eq_true p137
                      replace q137:=eq_true q137
                      obtain ⟨Ao106,co106,eo106⟩:=Kd.R_slice HO_117000.out
                      (first|subst eo106|(injection eo106 with f1_ f2_ f3_;have f4_:=f1_.symm;have f5_:=f3_.symm;clear f1_ f2_ f3_;subst f4_;subst f5_))
                      have p138 : 0≤((ji51) : Int):=qN (by assumption)
                      have q138 : (ji51) < (x117000_2.length : Int):=qN (by assumption)
                      obtain ⟨ad138,e138,hx138_0⟩:=Kd.at_int (Kd.R_reads' HO_117000.out).2.2 (ji51) p138 q138
                      cases e138
                      replace p138:=eq_true p138
                      replace q138:=eq_true q138
                      have p139 : 0≤(x9_2 : Int):=qN (by assumption)
                      have q139 : x9_2 < (x117000_2.length : Int):=qN (by assumption)
                      obtain ⟨ad139,e139,hx139_0⟩:=Kd.at_int (Kd.R_reads' HO_117000.out).2.2 x9_2 p139 q139
                      obtain rfl : ad138=ad139:=(by injection e139)
                      replace p139:=eq_true p139
                      replace q139:=eq_true q139
                      have p99 : 0≤(x9_2 : Int):=qN (by assumption)
                      have q99 : (x9_2 : Int) < ((x117001_2.length : Int) : Int):=qN (by assumption)
                      obtain ⟨go99,co99,eo99,gb99,gl99,cl99,HG99⟩:=Kd.R_form HO_117001.out (by omega)
                      (first|cases eo99|(injection eo99 with ea_ en_ ec_;(first|subst ea_|(injection ea_ with ea_;subst ea_));subst ec_;clear en_))
                      have GB99:=qM gb99
                      have GG99:=qM HG99
                      clear gb99 gl99 HG99
                      (first|simp only [add_plain] at hx137_0|skip)
                      obtain ⟨hx99_0,hf99_0⟩:=Kd.R_celln 0 HO_117001.out (x9_2 : Int) p99 q99
                      replace p99:=eq_true p99
                      replace q99:=eq_true q99
                      have HP107:=Kd.R_putn HO_117001.out (x9_2 : Int) (wrap64 ((wrap64 ((rd x117001_2 (ji51))+(rd x117000_2 (ji51)))) - (rd x117000_2 x9_2)))
                      rw [← Ny140.out] at HP107
                      have HQ107:=qM HP107
                      clear HP107
                      refine start_ (n:=24) (S:=fun w'=>w'.cell? ⟨gb116,0,none⟩=some (.slice (some ad138) x117000_2.length co106)∧w'.cell? ⟨gb116,1,none⟩=some (.slice (some ⟨go99,0,none⟩) x117001_2.length co105)∧w'.cell? ⟨gb116,2,none⟩=some (.slice (some ⟨go56,0,none⟩) x117002_2.length co101)∧w'.cell? ⟨go99,((ji51)).toNat,none⟩=some (.int .i64 (rd x117001_2 (ji51)))∧w'.cell? (ad138.add ((ji51)).toNat)=some (.int .i64 (rd x117000_2 (ji51)))∧w'.cell? (ad138.add (x9_2).toNat)=some (.int .i64 (rd x117000_2 x9_2))) (ds:=[23]) #[tF,tF,tF,tF,tF,tF,tF,tF,tF,tF,tF,tF,tF,tF,tF,tF,tF,tF,tF,tF,tF,tF,tF,tF] (by kernel_rfl) rfl rfl ⟨(blk_cell BK116.out 0).trans rfl,(blk_cell BK116.out 1).trans rfl,(blk_cell BK116.out 2).trans rfl,hx137_0,hx138_0,hx139_0⟩ (fun hHeld=>?_);refine with_tabW wide_sum.tab17 wide_sum.bits17 (fun HT_ HW_=>?_)
                      generalize w103.drew=w104 at HO_117000 HO_117001 HO_117002 BK106 BK116 HB GG99 HQ107 hf99_0 hx137_0 hx138_0 hx139_0 hx99_0 hHeld ⊢
                      refine pure_ (i:=0) (N:=some 86) (v:=?_) (a':=?_) #[tT,tF,tF,tF,tF,tF,tF,tF,tF,tF,tF,tF,tF,tF,tF,tF,tF,tF,tF,tF,tF,tF,tF,tF] rfl rfl (any_of HT_.out (by kernel_rfl)) (fun _ _ _ h=>h) (Or.inl ⟨by rfl,?_⟩) ?_ ?_
                      rotate_left;(intro w';go_simp;with_reducible rfl);rotate_left;(simp only [Act.put,qA,qB,qC,i64_w,i32_w];rfl)
                      refine pure_ (i:=2) (N:=some 88) (v:=?_) (a':=?_) #[tT,tF,tT,tF,tF,tF,tF,tF,tF,tF,tF,tF,tF,tF,tF,tF,tF,tF,tF,tF,tF,tF,tF,tF] rfl rfl (any_of HT_.out (by kernel_rfl)) (fun _ _ _ h=>h) (Or.inl ⟨by rfl,?_⟩) ?_ ?_
                      rotate_left;(intro w';go_simp;with_reducible rfl);rotate_left;(simp only [Act.put,qA,qB,qC,i64_w,i32_w];rfl)
                      refine pure_ (i:=3) (N:=some 89) (v:=?_) (a':=?_) #[tT,tF,tT,tT,tF,tF,tF,tF,tF,tF,tF,tF,tF,tF,tF,tF,tF,tF,tF,tF,tF,tF,tF,tF] rfl rfl (any_of HT_.out (by kernel_rfl)) (fun _ _ _ h=>h) (Or.inl ⟨by rfl,?_⟩) ?_ ?_
                      rotate_left;(intro w';go_simp;with_reducible rfl);rotate_left;(simp only [Act.put,qA,qB,qC,i64_w,i32_w];rfl)
                      refine pure_ (i:=5) (N:=some 91) (v:=?_) (a':=?_) #[tT,tF,tT,tT,tF,tT,tF,tF,tF,tF,tF,tF,tF,tF,tF,tF,tF,tF,tF,tF,tF,tF,tF,tF] rfl rfl (any_of HT_.out (by kernel_rfl)) (fun _ _ _ h=>h) (Or.inl ⟨by rfl,?_⟩) ?_ ?_
                      rotate_left;(intro w';go_simp;with_reducible rfl);rotate_left;(simp only [Act.put,qA,qB,qC,i64_w,i32_w];rfl)
                      refine pure_ (i:=6) (N:=some 92) (v:=?_) (a':=?_) #[tT,tF,tT,tT,tF,tT,tT,tF,tF,tF,tF,tF,tF,tF,tF,tF,tF,tF,tF,tF,tF,tF,tF,tF] rfl rfl (any_of HT_.out (by kernel_rfl)) (fun _ _ _ h=>h) (Or.inl ⟨by rfl,?_⟩) ?_ ?_
                      rotate_left;(intro w';go_simp;with_reducible rfl);rotate_left;(simp only [Act.put,qA,qB,qC,i64_w,i32_w];rfl)
                      refine pure_ (i:=9) (N:=some 95) (v:=?_) (a':=?_) #[tT,tF,tT,tT,tF,tT,tT,tF,tF,tT,tF,tF,tF,tF,tF,tF,tF,tF,tF,tF,tF,tF,tF,tF] rfl rfl (any_of HT_.out (by kernel_rfl)) (fun _ _ _ h=>h) (Or.inl ⟨by rfl,?_⟩) ?_ ?_
                      rotate_left;(intro w';go_simp;with_reducible rfl);rotate_left;(simp only [Act.put,qA,qB,qC,i64_w,i32_w];rfl)
                      refine pure_ (i:=11) (N:=some 97) (v:=?_) (a':=?_) #[tT,tF,tT,tT,tF,tT,tT,tF,tF,tT,tF,tT,tF,tF,tF,tF,tF,tF,tF,tF,tF,tF,tF,tF] rfl rfl (any_of HT_.out (by kernel_rfl)) (fun _ _ _ h=>h) (Or.inl ⟨by rfl,?_⟩) ?_ ?_
                      rotate_left;(intro w';go_simp;with_reducible rfl);rotate_left;(simp only [Act.put,qA,qB,qC,i64_w,i32_w];rfl)
                      refine pure_ (i:=12) (N:=some 98) (v:=?_) (a':=?_) #[tT,tF,tT,tT,tF,tT,tT,tF,tF,tT,tF,tT,tT,tF,tF,tF,tF,tF,tF,tF,tF,tF,tF,tF] rfl rfl (any_of HT_.out (by kernel_rfl)) (fun _ _ _ h=>h) (Or.inl ⟨by rfl,?_⟩) ?_ ?_
                      rotate_left;(intro w';go_simp;with_reducible rfl);rotate_left;(simp only [Act.put,qA,qB,qC,i64_w,i32_w];rfl)
                      refine pure_ (i:=16) (N:=some 102) (v:=?_) (a':=?_) #[tT,tF,tT,tT,tF,tT,tT,tF,tF,tT,tF,tT,tT,tF,tF,tF,tT,tF,tF,tF,tF,tF,tF,tF] rfl rfl (any_of HT_.out (by kernel_rfl)) (fun _ _ _ h=>h) (Or.inl ⟨by rfl,?_⟩) ?_ ?_
                      rotate_left;(intro w';go_simp;with_reducible rfl);rotate_left;(simp only [Act.put,qA,qB,qC,i64_w,i32_w];rfl)
                      refine pure_ (i:=18) (N:=some 104) (v:=?_) (a':=?_) #[tT,tF,tT,tT,tF,tT,tT,tF,tF,tT,tF,tT,tT,tF,tF,tF,tT,tF,tT,tF,tF,tF,tF,tF] rfl rfl (any_of HT_.out (by kernel_rfl)) (fun _ _ _ h=>h) (Or.inl ⟨by rfl,?_⟩) ?_ ?_
                      rotate_left;(intro w';go_simp;with_reducible rfl);rotate_left;(simp only [Act.put,qA,qB,qC,i64_w,i32_w];rfl)
                      refine take_ (i:=1) (N:=some 87) (v:=?_) (a':=?_) #[tT,tT,tT,tT,tF,tT,tT,tF,tF,tT,tF,tT,tT,tF,tF,tF,tT,tF,tT,tF,tF,tF,tF,tF] rfl rfl (take_ofW HT_.out HW_.out (by kernel_rfl)) (fun _ _ _ h=>h) (Or.inl ⟨by rfl,?_⟩) hHeld ?_ ?_
                      rotate_left
                      ·rintro w' ⟨s0,s1,s2,s3,s4,s5⟩
                       go_simp
                       with_reducible rfl
                      rotate_left;(simp only [Act.put,qA,qB,qC,i64_w,i32_w];rfl)
                      refine take_ (i:=4) (N:=some 90) (v:=?_) (a':=?_) #[tT,tT,tT,tT,tT,tT,tT,tF,tF,tT,tF,tT,tT,tF,tF,tF,tT,tF,tT,tF,tF,tF,tF,tF] rfl rfl (take_ofW HT_.out HW_.out (by kernel_rfl)) (fun _ _ _ h=>h) (Or.inl ⟨by rfl,?_⟩) hHeld ?_ ?_
                      rotate_left
                      ·rintro w' ⟨s0,s1,s2,s3,s4,s5⟩
                       go_simp
                       with_reducible rfl
                      rotate_left;(simp only [Act.put,qA,qB,qC,i64_w,i32_w];rfl)
                      refine pure_ (i:=7) (N:=some 93) (v:=?_) (a':=?_) #[tT,tT,tT,tT,tT,tT,tT,tT,tF,tT,tF,tT,tT,tF,tF,tF,tT,tF,tT,tF,tF,tF,tF,tF] rfl rfl (any_of HT_.out (by kernel_rfl)) (fun _ _ _ h=>h) (Or.inl ⟨by rfl,?_⟩) ?_ ?_
                      rotate_left;(intro w';go_simp;with_reducible rfl);rotate_left;(simp only [Act.put,qA,qB,qC,i64_w,i32_w];rfl)
                      refine take_ (i:=8) (N:=some 94) (v:=?_) (a':=?_) #[tT,tT,tT,tT,tT,tT,tT,tT,tT,tT,tF,tT,tT,tF,tF,tF,tT,tF,tT,tF,tF,tF,tF,tF] rfl rfl (take_ofW HT_.out HW_.out (by kernel_rfl)) (fun _ _ _ h=>h) (Or.inl ⟨by rfl,?_⟩) hHeld ?_ ?_
                      rotate_left
                      ·rintro w' ⟨s0,s1,s2,s3,s4,s5⟩
                       go_simp
                       with_reducible rfl
                      rotate_left;(simp only [Act.put,qA,qB,qC,i64_w,i32_w];rfl)
                      refine take_ (i:=10) (N:=some 96) (v:=?_) (a':=?_) #[tT,tT,tT,tT,tT,tT,tT,tT,tT,tT,tT,tT,tT,tF,tF,tF,tT,tF,tT,tF,tF,tF,tF,tF] rfl rfl (take_ofW HT_.out HW_.out (by kernel_rfl)) (fun _ _ _ h=>h) (Or.inl ⟨by rfl,?_⟩) hHeld ?_ ?_
                      rotate_left
                      ·rintro w' ⟨s0,s1,s2,s3,s4,s5⟩
                       go_simp
                       with_reducible rfl
                      rotate_left;(simp only [Act.put,qA,qB,qC,i64_w,i32_w];rfl)
                      refine pure_ (i:=13) (N:=some 99) (v:=?_) (a':=?_) #[tT,tT,tT,tT,tT,tT,tT,tT,tT,tT,tT,tT,tT,tT,tF,tF,tT,tF,tT,tF,tF,tF,tF,tF] rfl rfl (any_of HT_.out (by kernel_rfl)) (fun _ _ _ h=>h) (Or.inl ⟨by rfl,?_⟩) ?_ ?_
                      rotate_left;(intro w';go_simp;with_reducible rfl);rotate_left;(simp only [Act.put,qA,qB,qC,i64_w,i32_w];rfl)
                      refine take_ (i:=14) (N:=some 100) (v:=?_) (a':=?_) #[tT,tT,tT,tT,tT,tT,tT,tT,tT,tT,tT,tT,tT,tT,tT,tF,tT,tF,tT,tF,tF,tF,tF,tF] rfl rfl (take_ofW HT_.out HW_.out (by kernel_rfl)) (fun _ _ _ h=>h) (Or.inl ⟨by rfl,?_⟩) hHeld ?_ ?_
                      rotate_left
                      ·rintro w' ⟨s0,s1,s2,s3,s4,s5⟩
                       go_simp
                       with_reducible rfl
                      rotate_left;(simp only [Act.put,qA,qB,qC,i64_w,i32_w];rfl)
                      refine pure_ (i:=15) (N:=some 101) (v:=?_) (a':=?_) #[tT,tT,tT,tT,tT,tT,tT,tT,tT,tT,tT,tT,tT,tT,tT,tT,tT,tF,tT,tF,tF,tF,tF,tF] rfl rfl (any_of HT_.out (by kernel_rfl)) (fun _ _ _ h=>h) (Or.inl ⟨by rfl,?_⟩) ?_ ?_
                      rotate_left;(intro w';go_simp;with_reducible rfl);rotate_left;(simp only [Act.put,qA,qB,qC,i64_w,i32_w];rfl)
                      refine take_ (i:=17) (N:=some 103) (v:=?_) (a':=?_) #[tT,tT,tT,tT,tT,tT,tT,tT,tT,tT,tT,tT,tT,tT,tT,tT,tT,tT,tT,tF,tF,tF,tF,tF] rfl rfl (take_ofW HT_.out HW_.out (by kernel_rfl)) (fun _ _ _ h=>h) (Or.inl ⟨by rfl,?_⟩) hHeld ?_ ?_
                      rotate_left
                      ·rintro w' ⟨s0,s1,s2,s3,s4,s5⟩
                       go_simp
                       with_reducible rfl
                      rotate_left;(simp only [Act.put,qA,qB,qC,i64_w,i32_w];rfl)
                      refine pure_ (i:=19) (N:=some 105) (v:=?_) (a':=?_) #[tT,tT,tT,tT,tT,tT,tT,tT,tT,tT,tT,tT,tT,tT,tT,tT,tT,tT,tT,tT,tF,tF,tF,tF] rfl rfl (any_of HT_.out (by kernel_rfl)) (fun _ _ _ h=>h) (Or.inl ⟨by rfl,?_⟩) ?_ ?_
                      rotate_left;(intro w';go_simp;with_reducible rfl);rotate_left;(simp only [Act.put,qA,qB,qC,i64_w,i32_w];rfl)
                      refine take_ (i:=20) (N:=some 106) (v:=?_) (a':=?_) #[tT,tT,tT,tT,tT,tT,tT,tT,tT,tT,tT,tT,tT,tT,tT,tT,tT,tT,tT,tT,tT,tF,tF,tF] rfl rfl (take_ofW HT_.out HW_.out (by kernel_rfl)) (fun _ _ _ h=>h) (Or.inl ⟨by rfl,?_⟩) hHeld ?_ ?_
                      rotate_left
                      ·rintro w' ⟨s0,s1,s2,s3,s4,s5⟩
                       go_simp
                       with_reducible rfl
                      rotate_left;(simp only [Act.put,qA,qB,qC,i64_w,i32_w];rfl)
                      refine pure_ (i:=21) (N:=some 107) (v:=?_) (a':=?_) #[tT,tT,tT,tT,tT,tT,tT,tT,tT,tT,tT,tT,tT,tT,tT,tT,tT,tT,tT,tT,tT,tT,tF,tF] rfl rfl (any_of HT_.out (by kernel_rfl)) (fun _ _ _ h=>h) (Or.inl ⟨by rfl,?_⟩) ?_ ?_
                      rotate_left;(intro w';go_simp;with_reducible rfl);rotate_left;(simp only [Act.put,qA,qB,qC,i64_w,i32_w];rfl)
                      refine pure_ (i:=22) (N:=some 108) (v:=?_) (a':=?_) #[tT,tT,tT,tT,tT,tT,tT,tT,tT,tT,tT,tT,tT,tT,tT,tT,tT,tT,tT,tT,tT,tT,tT,tF] rfl rfl (any_of HT_.out (by kernel_rfl)) (fun _ _ _ h=>h) (Or.inl ⟨by rfl,?_⟩) ?_ ?_
                      rotate_left;(intro w';go_simp;with_reducible rfl);rotate_left;(simp only [Act.put,qA,qB,qC,i64_w,i32_w];rfl)
                      refine last_ (i:=23) (N:=none) #[tT,tT,tT,tT,tT,tT,tT,tT,tT,tT,tT,tT,tT,tT,tT,tT,tT,tT,tT,tT,tT,tT,tT,tT] rfl rfl (one_of HT_.out (by kernel_rfl)) (by decide) (fun K hK=>?_)
                      refine skip_ (w1:=?_) (by rfl) rfl ?_ ?_
                      rotate_left
                      ·go_simp
                       rfl
                      refine hK.out _ _ ?_
                      clear hK K
                      refine done_ (done_of HT_.out (by kernel_rfl)) ?_
                      try go_wp2
                      go_roundg k2
                      case measure=>have:=HK1.out;have:=HK2.out;omega
                      case rel=>exact ⟨(wrap64 (x9_2 - 1)),(x117000_2),(y140),(y126),(.slice (some ad138) x117000_2.length co106),(.slice (some ⟨go99,0,none⟩) x117001_2.length co105),(.slice (some ⟨go56,0,none⟩) x117002_2.length co101),(by first|rfl|(simp;done)|(simp [*];done)),H',⟨by have:=HK1.out;have:=HK2.out;omega⟩,⟨by (with_reducible repeat (first|apply qG|apply qH|apply qI));exact Kd.R_mono (Kd.R_far (p:=⟨go99,(x9_2 : Int).toNat,none⟩) (Kd.R_mono HO_117000.out (fun k_ hk=>(⟨hk,fun e_=>hk.1 (by rw [e_];rfl)⟩ : _∧k_ ≠ go99))) (fun _ hk=>hk.2) (.int .i64 (wrap64 ((wrap64 ((rd x117001_2 (ji51))+(rd x117000_2 (ji51)))) - (rd x117000_2 x9_2))))) (fun _ hk=>⟨hk.1.1,hk.1.2⟩)⟩,⟨by (with_reducible repeat (first|apply qG|apply qH|apply qI));exact HQ107.out⟩,⟨by (with_reducible repeat (first|apply qG|apply qH|apply qI));exact Kd.R_mono (Kd.R_far (p:=⟨go99,(x9_2 : Int).toNat,none⟩) (Kd.R_mono HO_117002.out (fun k_ hk=>(⟨hk,fun e_=>hk.2 (by rw [e_];rfl)⟩ : _∧k_ ≠ go99))) (fun _ hk=>hk.2) (.int .i64 (wrap64 ((wrap64 ((rd x117001_2 (ji51))+(rd x117000_2 (ji51)))) - (rd x117000_2 x9_2))))) (fun _ hk=>⟨hk.1.1,hk.1.2⟩)⟩,⟨by (with_reducible repeat (first|apply qD|apply qE|apply qF));refine blk_far ?_ (by have h_:=Kd.R_ne HO_117001.out BK106.out (by decide);intro e_;exact h_ (by rw [e_];rfl)) _;(with_reducible repeat (first|apply qD|apply qE|apply qF));exact BK106.out⟩,⟨by (with_reducible repeat (first|apply qD|apply qE|apply qF));refine blk_far ?_ (by have h_:=Kd.R_ne HO_117001.out BK116.out (by decide);intro e_;exact h_ (by rw [e_];rfl)) _;(with_reducible repeat (first|apply qD|apply qE|apply qF));exact BK116.out⟩,⟨by repeat (first|(with_reducible first|exact HB.out|apply qJ|apply qK|apply qL|refine qR ?_ GB99.out|refine qR ?_ GE106.out|refine qR ?_ GE116.out)|exact HB.out)⟩⟩
                     ·rw [if_neg c98] at H
                      exact absurd H (by simp)
                    ·rw [if_neg c97] at H
                     exact absurd H (by simp)
                   ·rw [if_neg c96] at H
                    exact absurd H (by simp)
                  ·rw [if_neg c95] at H
                   exact absurd H (by simp)
               ·rw [if_neg c57] at H
                exact absurd H (by simp)
              ·rw [if_neg c55] at H
               exact absurd H (by simp)
             ·rw [if_neg c54] at H
              exact absurd H (by simp)
            ·rw [if_neg c53] at H
             exact absurd H (by simp)
           ·rw [if_neg c52] at H
            exact absurd H (by simp)
          ·rw [if_neg c50] at H
           have c50b0 : decide (0≤x9_2)=false:=decide_eq_false c50
           clear c50
           simp only [Option.some.injEq,Prod.mk.injEq] at H
           obtain ⟨rfl,rfl,rfl⟩:=H
           have hnb108:=NB116_106.out
           have hnc108:=NB106_116.out
           have hcz109_0 : wr.cell? ⟨gb116,0,none⟩=some (u117000):=(blk_cell BK116.out 0).trans rfl
           have hcz109_1 : wr.cell? ⟨gb116,1,none⟩=some (u117001):=(blk_cell BK116.out 1).trans rfl
           have hcz109_2 : wr.cell? ⟨gb116,2,none⟩=some (u117002):=(blk_cell BK116.out 2).trans rfl
           have hfz109_0:=blk_frozen BK116.out 0
           have hfz109_1:=blk_frozen BK116.out 1
           have hfz109_2:=blk_frozen BK116.out 2
           obtain ⟨Ao110,co110,eo110⟩:=Kd.R_slice HO_117000.out
           subst eo110
           have hcz111_0 : wr.cell? ⟨gb106,0,none⟩=some (.slice none 0 0):=(blk_cell BK106.out 0).trans rfl
           have hcz111_1 : wr.cell? ⟨gb106,1,none⟩=some (.slice none 0 0):=(blk_cell BK106.out 1).trans rfl
           have hcz111_2 : wr.cell? ⟨gb106,2,none⟩=some (.slice none 0 0):=(blk_cell BK106.out 2).trans rfl
           have hfz111_0:=blk_frozen BK106.out 0
           have hfz111_1:=blk_frozen BK106.out 1
           have hfz111_2:=blk_frozen BK106.out 2
           obtain ⟨Ao112,co112,eo112⟩:=Kd.R_slice HO_117001.out
           subst eo112
           obtain ⟨Ao113,co113,eo113⟩:=Kd.R_slice HO_117002.out
           subst eo113
           go_wp2
           refine bodyPost_ret (results_cell_row rfl _ _ gb106 50 #[.slice Ao110 x117000_2.length co110,.slice Ao112 x117001_2.length co112,.slice Ao113 x117002_2.length co113] (0,0) _ rfl (by (with_reducible repeat (first|apply qD|apply qE|apply qF));refine blk_put (cs:=#[.slice Ao110 x117000_2.length co110,.slice Ao112 x117001_2.length co112,.slice none 0 0]) ?_ 2 _ rfl;(with_reducible repeat (first|apply qD|apply qE|apply qF));refine blk_put (cs:=#[.slice Ao110 x117000_2.length co110,.slice none 0 0,.slice none 0 0]) ?_ 1 _ rfl;(with_reducible repeat (first|apply qD|apply qE|apply qF));refine blk_put (cs:=#[.slice none 0 0,.slice none 0 0,.slice none 0 0]) ?_ 0 _ rfl;(with_reducible repeat (first|apply qD|apply qE|apply qF));exact BK106.out) Try.underlying50 rfl (by kernel_rfl)) rfl ?_
           exact ⟨_,_,_,by first|rfl|(simp [errW_none,errW_some] <;> rfl)|(simp only [← hji2];first|rfl|(simp [errW_none,errW_some] <;> rfl))|(simp [*,errW_none,errW_some] <;> rfl),by (with_reducible repeat (first|apply qG|apply qH|apply qI));exact Kd.R_mono (Kd.R_far (p:=⟨gb106,2,none⟩) (Kd.R_far (p:=⟨gb106,1,none⟩) (Kd.R_far (p:=⟨gb106,0,none⟩) (Kd.R_types HO_117000.out BK106.out (by decide)) (fun _ hk=>hk.2) (.slice Ao110 x117000_2.length co110)) (fun _ hk=>hk.2) (.slice Ao112 x117001_2.length co112)) (fun _ hk=>hk.2) (.slice Ao113 x117002_2.length co113)) (fun _ hk=>⟨hk.1.1,hk.1.2⟩),by (with_reducible repeat (first|apply qG|apply qH|apply qI));exact Kd.R_mono (Kd.R_far (p:=⟨gb106,2,none⟩) (Kd.R_far (p:=⟨gb106,1,none⟩) (Kd.R_far (p:=⟨gb106,0,none⟩) (Kd.R_types HO_117001.out BK106.out (by decide)) (fun _ hk=>hk.2) (.slice Ao110 x117000_2.length co110)) (fun _ hk=>hk.2) (.slice Ao112 x117001_2.length co112)) (fun _ hk=>hk.2) (.slice Ao113 x117002_2.length co113)) (fun _ hk=>⟨hk.1.1,hk.1.2⟩),by (with_reducible repeat (first|apply qG|apply qH|apply qI));exact Kd.R_mono (Kd.R_far (p:=⟨gb106,2,none⟩) (Kd.R_far (p:=⟨gb106,1,none⟩) (Kd.R_far (p:=⟨gb106,0,none⟩) (Kd.R_types HO_117002.out BK106.out (by decide)) (fun _ hk=>hk.2) (.slice Ao110 x117000_2.length co110)) (fun _ hk=>hk.2) (.slice Ao112 x117001_2.length co112)) (fun _ hk=>hk.2) (.slice Ao113 x117002_2.length co113)) (fun _ hk=>⟨hk.1.1,hk.1.2⟩),by repeat (first|(with_reducible first|exact HB.out|apply qJ|apply qK|apply qL|refine qR ?_ GE106.out|refine qR ?_ GE116.out)|exact HB.out)⟩
       ·rw [if_neg c44] at H
        exact absurd H (by simp)
      ·rw [if_neg c43] at H
       exact absurd H (by simp)
  ·rw [if_neg c4] at H
   exact absurd H (by simp)
 ·rw [if_neg c3] at H
  exact absurd H (by simp)

end Go.Proofs.Ytipjfdamkpgecaa.PWide
