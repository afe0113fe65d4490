-- Written by a program of the session (drive.py, over the kit's print.py with contracts by hand). Not trusted: Lean checks it.
import Derived.Test.YtipjfdamkpgecaaPWidex0
import Derived.Test.YtipjfdamkpgecaaPWidex18
import Derived.Test.YtipjfdamkpgecaaPWidex20
namespace Go.Proofs.Ytipjfdamkpgecaa.PWide
open Go.RowKit Go.Proofs.YtipjfdamkpgecaaW.PrintWords Go.Proofs.YtipjfdamkpgecaaW.PrintLast Go.Proofs.YtipjfdamkpgecaaW.PrintMore
attribute [local go_sem] max2_int min2_int max_two min_two max_three min_three max_four min_four   -- for this text's walks alone
set_option linter.unusedVariables false
set_option linter.unusedSimpArgs false

/-! ### copperplateref17_Need: function 34 -/
def copperplateref17_Need.l0 : Nat→List (S31)→Int→Int→Int→Option (Int)
 | 0,_,_,_,_=>none
 | k+1,x0,x5,x6,x7=>if x7 < x5 then (if 0≤x7 then (if x7 < (x0.length : Int) then ((copperplateref17_Flat.f k ((rd_T31 x0 x7).f0) ((rd_T31 x0 x7).f1)).bind fun bt332=>(if bt332.2=true then ((copperplateref17_Cols.f k bt332.1).bind fun t334=>(copperplateref17_Need.l0 k x0 x5 (wrap64 (x6+t334)) (wrap64 (x7+1)))) else (some (-1)))) else (none)) else (none)) else ((copperplateref17_Behind.f k x0 x5).bind fun t330=>(some (wrap64 (x6+t330))))
def copperplateref17_Need.f (k : Nat) (l0 : List (S31)) (a1 : Int) : Option (Int):=(copperplateref17_Match.f k l0 a1).bind fun t329=>(if t329 < 0 then (some (-1)) else (copperplateref17_Need.l0 k l0 t329 0 a1))
theorem copperplateref17_Need.mono_l : ∀ k,(∀ y0 y1 y2 y3,LeO (copperplateref17_Need.l0 k y0 y1 y2 y3) (copperplateref17_Need.l0 (k+1) y0 y1 y2 y3))
 | 0=>fun _ _ _ _ r h=>by simp [copperplateref17_Need.l0] at h
 | k+1=>by
  have ih0:=copperplateref17_Need.mono_l k
  ·intro y0 y1 y2 y3
   unfold copperplateref17_Need.l0
   repeat' first
   | (with_reducible exact ih0 _ _ _ _)
   | (with_reducible exact copperplateref17_Behind.mono _ _ _)
   | (with_reducible exact copperplateref17_Cols.mono _ _)
   | (with_reducible exact copperplateref17_Flat.mono _ _ _)
   | (with_reducible exact copperplateref17_Match.mono _ _ _)
   | (with_reducible exact LeO.refl _)
   | (with_reducible exact LeO.none _)
   | (with_reducible refine LeO.ite ?_ ?_)
   | (with_reducible refine LeO.bind ?_ (fun _=>?_))
   | exact ih0 _ _ _ _
   | exact copperplateref17_Behind.mono _ _ _
   | exact copperplateref17_Cols.mono _ _
   | exact copperplateref17_Flat.mono _ _ _
   | exact copperplateref17_Match.mono _ _ _
   | exact LeO.none _
   | refine LeO.ite ?_ ?_
   | refine LeO.bind ?_ (fun _=>?_)
theorem copperplateref17_Need.mono : ∀ a0 a1 k,LeO (copperplateref17_Need.f k a0 a1) (copperplateref17_Need.f (k+1) a0 a1):=by
 intro a0 a1 k
 have ih0:=copperplateref17_Need.mono_l k
 unfold copperplateref17_Need.f
 repeat' first
   | (with_reducible exact ih0 _ _ _ _)
   | (with_reducible exact copperplateref17_Behind.mono _ _ _)
   | (with_reducible exact copperplateref17_Cols.mono _ _)
   | (with_reducible exact copperplateref17_Flat.mono _ _ _)
   | (with_reducible exact copperplateref17_Match.mono _ _ _)
   | (with_reducible exact LeO.refl _)
   | (with_reducible exact LeO.none _)
   | (with_reducible refine LeO.ite ?_ ?_)
   | (with_reducible refine LeO.bind ?_ (fun _=>?_))
   | exact ih0 _ _ _ _
   | exact copperplateref17_Behind.mono _ _ _
   | exact copperplateref17_Cols.mono _ _
   | exact copperplateref17_Flat.mono _ _ _
   | exact copperplateref17_Match.mono _ _ _
   | exact LeO.none _
   | refine LeO.ite ?_ ?_
   | refine LeO.bind ?_ (fun _=>?_)
set_option maxHeartbeats 8000000 in
set_option maxRecDepth 100000 in
theorem copperplateref17_Need.calls (k : Nat) (A0 : Option Addr) (c0 : Nat) (l0 : List (S31)) (a1 : Int) (r : Int) (w : World) (hr0 : Kd.C k31 w A0 l0.length l0) (hc0 : l0.length≤c0) (h : copperplateref17_Need.f k l0 a1=some r) :
  Calls Try.prog 34 #[.slice A0 l0.length c0,.int .i64 a1] w fun e w'=>e=.returned (.int .i64 r)∧Below w.heap.size w w':=by
 have hu31:=Try.underlying31
 have HR0:=qM hr0
 have HC0:=qM hc0
 clear hr0 hc0
 have HB:=qM (Below.refl w.heap.size w)
 have H : ((copperplateref17_Match.f k l0 a1).bind fun t329=>(if t329 < 0 then (some (-1)) else (copperplateref17_Need.l0 k l0 t329 0 a1)))=some r:=h
 clear h
 replace H:=Option.bind_eq_some_iff.mp H
 obtain ⟨t329,A30,H⟩:=H
 replace H : (if t329 < 0 then (some (-1)) else (copperplateref17_Need.l0 k l0 t329 0 a1))=some r:=H
 have A3:=qM A30
 clear A30
 by_cases c4 : t329 < 0
 ·rw [if_pos c4] at H
  have c4b0 : decide (t329 < 0)=true:=decide_eq_true c4
  clear c4
  obtain rfl:=Option.some.inj H
  go_enter Try.func34,Try.ntmps34
  go_wp2_with (first|((with_reducible refine gate_callee (f:=42) rfl ?_);refine goesL_ (some 12) rfl rfl Try.func42 (by kernel_rfl) rfl #[.slice A0 l0.length c0,.int .i64 a1] rfl (by (try simp only [List.map_toArray,List.map_cons,List.map_nil]);first|done|rfl|(simp only [List.length_drop,List.length_take];rfl)) ?_;(with_reducible refine (copperplateref17_Match.calls k _ _ l0 a1 t329 _ ?side1 ?side2 A3.out).mono ?_);(case side1=>repeat (first|exact HR0.out|(with_reducible first|apply qO|apply qP|apply qQ)));(case side2=>exact HC0.out);(try clear A3); rintro e w' ⟨rfl,⟨nd,rfl⟩⟩;refine ⟨_,rfl,?_⟩))
  go_ret
  exact ⟨by first|rfl|(simp [errW_none,errW_some] <;> rfl)|(simp [*,errW_none,errW_some] <;> rfl),by repeat (first|(with_reducible first|exact HB.out|apply qJ|apply qK|apply qL)|exact HB.out)⟩
 ·rw [if_neg c4] at H
  have c4b0 : decide (t329 < 0)=false:=decide_eq_false c4
  clear c4
  have H':=qM H
  clear H
  go_enter Try.func34,Try.ntmps34
  go_wp2_with (first|((with_reducible refine gate_callee (f:=42) rfl ?_);refine goesL_ (some 12) rfl rfl Try.func42 (by kernel_rfl) rfl #[.slice A0 l0.length c0,.int .i64 a1] rfl (by (try simp only [List.map_toArray,List.map_cons,List.map_nil]);first|done|rfl|(simp only [List.length_drop,List.length_take];rfl)) ?_;(with_reducible refine (copperplateref17_Match.calls k _ _ l0 a1 t329 _ ?side1 ?side2 A3.out).mono ?_);(case side1=>repeat (first|exact HR0.out|(with_reducible first|apply qO|apply qP|apply qQ)));(case side2=>exact HC0.out);(try clear A3); rintro e w' ⟨rfl,⟨nd,rfl⟩⟩;refine ⟨_,rfl,?_⟩))
  go_loopg [6,7] k (fun kq v6 v7 w'=>∃ (x6_1 : Int) (x7_1 : Int),v6=.int .i64 x6_1∧v7=.int .i64 x7_1∧Aside0 (copperplateref17_Need.l0 kq l0 t329 x6_1 x7_1=some r)∧Aside0 (kq≤k)∧Aside0 (Below w.heap.size w w'))
  case atStart=>exact ⟨(0),(a1),(by first|rfl|(simp;done)|(simp [*];done)),(by first|rfl|(simp;done)|(simp [*];done)),H',⟨Nat.le_refl _⟩,⟨by repeat (first|(with_reducible first|exact HB.out|apply qJ|apply qK|apply qL)|exact HB.out)⟩⟩
  case round =>
   clear H'
   try clear p2
   try clear c3
   try clear c4
   try clear c4b0
   obtain ⟨x6_1,x7_1,rfl,rfl,HA,HK1,HB⟩:=hrel
   cases gk with
   | zero=>exact absurd HA.out (by simp [copperplateref17_Need.l0])
   | succ k1 =>
    have H:=HA.out
    clear HA
    simp only [copperplateref17_Need.l0] at H
    by_cases c5 : x7_1 < t329
    ·rw [if_pos c5] at H
     have c5b0 : decide (x7_1 < t329)=true:=decide_eq_true c5
     clear c5
     by_cases c6 : 0≤x7_1
     ·rw [if_pos c6] at H
      have c6b0 : decide (0≤x7_1)=true:=decide_eq_true c6
      clear c6
      by_cases c7 : x7_1 < (l0.length : Int)
      ·rw [if_pos c7] at H
       have c7b0 : decide (x7_1 < (l0.length : Int))=true:=decide_eq_true c7
       clear c7
       replace H:=Option.bind_eq_some_iff.mp H
       obtain ⟨⟨t332,t333⟩,A80,H⟩:=H
       replace H : (if t333=true then ((copperplateref17_Cols.f k1 t332).bind fun t334=>(copperplateref17_Need.l0 k1 l0 t329 (wrap64 (x6_1+t334)) (wrap64 (x7_1+1)))) else (some (-1)))=some r:=H
       have A8:=qM A80
       clear A80
       by_cases c9 : t333=true
       ·subst c9
        have H1 : ((copperplateref17_Cols.f k1 t332).bind fun t334=>(copperplateref17_Need.l0 k1 l0 t329 (wrap64 (x6_1+t334)) (wrap64 (x7_1+1))))=some r:=by rw [if_pos rfl] at H;exact H
        clear H
        have H:=H1
        clear H1
        replace H:=Option.bind_eq_some_iff.mp H
        obtain ⟨t334,A100,H⟩:=H
        replace H : (copperplateref17_Need.l0 k1 l0 t329 (wrap64 (x6_1+t334)) (wrap64 (x7_1+1)))=some r:=H
        have A10:=qM A100
        clear A100
        have H':=qM H
        clear H
        have p331 : 0≤(x7_1 : Int):=qN (by assumption)
        have q331 : x7_1 < (l0.length : Int):=qN (by assumption)
        obtain ⟨ad331,e331,hx331_0,hx331_1⟩:=at_T31 HR0.out x7_1 p331 q331
        cases e331
        replace hx331_0:=(HB.out.cell (World.block_lt_of_cell? w _ hx331_0)).trans hx331_0
        replace hx331_1:=(HB.out.cell (World.block_lt_of_cell? w _ hx331_1)).trans hx331_1
        replace p331:=eq_true p331
        replace q331:=eq_true q331
        go_wp2_with (first|((with_reducible refine gate_callee (f:=43) rfl ?_);refine goesL_ (some 26) rfl rfl Try.func43 (by kernel_rfl) rfl #[.agg #[.int .i64 ((rd_T31 l0 x7_1).f0),.string ((rd_T31 l0 x7_1).f1)]] rfl (by (try simp only [List.map_toArray,List.map_cons,List.map_nil]);first|done|rfl|(simp only [List.length_drop,List.length_take];rfl)) ?_;(with_reducible refine (copperplateref17_Flat.calls k1 ((rd_T31 l0 x7_1).f0) ((rd_T31 l0 x7_1).f1) t332 true _ A8.out).mono ?_);(try clear A8); rintro e w11 ⟨rfl,hb⟩;refine ⟨_,rfl,?_⟩;have n0_:=qM (below_step (by repeat first|exact HB.out|apply qJ|apply qK|apply qL) hb);clear HB;have HB:=n0_;clear n0_;(try clear hb);(try clear hb2);(try clear hk);(try clear hi))|((with_reducible refine gate_callee (f:=44) rfl ?_);refine goesL_ (some 33) rfl rfl Try.func44 (by kernel_rfl) rfl #[.string t332] rfl (by (try simp only [List.map_toArray,List.map_cons,List.map_nil]);first|done|rfl|(simp only [List.length_drop,List.length_take];rfl)) ?_;(with_reducible refine (copperplateref17_Cols.calls k1 t332 t334 _ A10.out).mono ?_);(try clear A10); rintro e w12 ⟨rfl,hb⟩;refine ⟨_,rfl,?_⟩;have n0_:=qM (below_step (by repeat first|exact HB.out|apply qJ|apply qK|apply qL) hb);clear HB;have HB:=n0_;clear n0_;(try clear hb);(try clear hb2);(try clear hk);(try clear hi)))
        go_roundg k1
        case measure=>have:=HK1.out;omega
        case rel=>exact ⟨(wrap64 (x6_1+t334)),(wrap64 (x7_1+1)),(by first|rfl|(simp;done)|(simp [*];done)),(by first|rfl|(simp;done)|(simp [*];done)),H',⟨by have:=HK1.out;omega⟩,⟨by repeat (first|(with_reducible first|exact HB.out|apply qJ|apply qK|apply qL)|exact HB.out)⟩⟩
       ·replace c9:=Bool.eq_false_iff.mpr c9
        subst c9
        have H1 : (some (-1))=some r:=by rw [if_neg (show ¬ (false=true) by decide)] at H;exact H
        clear H
        have H:=H1
        clear H1
        obtain rfl:=Option.some.inj H
        have p331 : 0≤(x7_1 : Int):=qN (by assumption)
        have q331 : x7_1 < (l0.length : Int):=qN (by assumption)
        obtain ⟨ad331,e331,hx331_0,hx331_1⟩:=at_T31 HR0.out x7_1 p331 q331
        cases e331
        replace hx331_0:=(HB.out.cell (World.block_lt_of_cell? w _ hx331_0)).trans hx331_0
        replace hx331_1:=(HB.out.cell (World.block_lt_of_cell? w _ hx331_1)).trans hx331_1
        replace p331:=eq_true p331
        replace q331:=eq_true q331
        go_wp2_with (first|((with_reducible refine gate_callee (f:=43) rfl ?_);refine goesL_ (some 26) rfl rfl Try.func43 (by kernel_rfl) rfl #[.agg #[.int .i64 ((rd_T31 l0 x7_1).f0),.string ((rd_T31 l0 x7_1).f1)]] rfl (by (try simp only [List.map_toArray,List.map_cons,List.map_nil]);first|done|rfl|(simp only [List.length_drop,List.length_take];rfl)) ?_;(with_reducible refine (copperplateref17_Flat.calls k1 ((rd_T31 l0 x7_1).f0) ((rd_T31 l0 x7_1).f1) t332 false _ A8.out).mono ?_);(try clear A8); rintro e w13 ⟨rfl,hb⟩;refine ⟨_,rfl,?_⟩;have n0_:=qM (below_step (by repeat first|exact HB.out|apply qJ|apply qK|apply qL) hb);clear HB;have HB:=n0_;clear n0_;(try clear hb);(try clear hb2);(try clear hk);(try clear hi)))
        go_ret
        exact ⟨by first|rfl|(simp [errW_none,errW_some] <;> rfl)|(simp [*,errW_none,errW_some] <;> rfl),by repeat (first|(with_reducible first|exact HB.out|apply qJ|apply qK|apply qL)|exact HB.out)⟩
      ·rw [if_neg c7] at H
       exact absurd H (by simp)
     ·rw [if_neg c6] at H
      exact absurd H (by simp)
    ·rw [if_neg c5] at H
     have c5b0 : decide (x7_1 < t329)=false:=decide_eq_false c5
     clear c5
     replace H:=Option.bind_eq_some_iff.mp H
     obtain ⟨t330,A140,H⟩:=H
     replace H : (some (wrap64 (x6_1+t330)))=some r:=H
     have A14:=qM A140
     clear A140
     obtain rfl:=Option.some.inj H
     go_wp2_with (first|((with_reducible refine gate_callee (f:=45) rfl ?_);refine goesL_ (some 38) rfl rfl Try.func45 (by kernel_rfl) rfl #[.slice A0 l0.length c0,.int .i64 t329] rfl (by (try simp only [List.map_toArray,List.map_cons,List.map_nil]);first|done|rfl|(simp only [List.length_drop,List.length_take];rfl)) ?_;(with_reducible refine (copperplateref17_Behind.calls k1 _ _ l0 t329 t330 _ ?side1 ?side2 A14.out).mono ?_);(case side1=>repeat (first|exact (Kd.C_below HR0.out HB.out)|(with_reducible first|apply qO|apply qP|apply qQ)));(case side2=>exact HC0.out);(try clear A14); rintro e w15 ⟨rfl,hb⟩;refine ⟨_,rfl,?_⟩;have n0_:=qM (below_step (by repeat first|exact HB.out|apply qJ|apply qK|apply qL) hb);clear HB;have HB:=n0_;clear n0_;(try clear hb);(try clear hb2);(try clear hk);(try clear hi)))
     go_ret
     exact ⟨by first|rfl|(simp [errW_none,errW_some] <;> rfl)|(simp [*,errW_none,errW_some] <;> rfl),by repeat (first|(with_reducible first|exact HB.out|apply qJ|apply qK|apply qL)|exact HB.out)⟩

/-! ### copperplateref18_Line: function 47 -/
def copperplateref18_Line.f (a0_0 : ByteArray) (a0_1 : Int) (a0_2 : Int) (a0_3 : Int) (a0_4 : Int) : Option (ByteArray × Int × Int × Int × Int):=if a0_0.size+1≤9223372036854775807 then (some (a0_0++(⟨#[10]⟩ : ByteArray),a0_1,a0_1,a0_1,a0_4)) else (none)
set_option maxHeartbeats 8000000 in
set_option maxRecDepth 100000 in
theorem copperplateref18_Line.calls (a0_0 : ByteArray) (a0_1 : Int) (a0_2 : Int) (a0_3 : Int) (a0_4 : Int) (r1 : ByteArray) (r2 : Int) (r3 : Int) (r4 : Int) (r5 : Int) (w : World) (h : copperplateref18_Line.f a0_0 a0_1 a0_2 a0_3 a0_4=some (r1,r2,r3,r4,r5)) :
  Calls Try.prog 47 #[.agg #[.string a0_0,.int .i64 a0_1,.int .i64 a0_2,.int .i64 a0_3,.int .i64 a0_4]] w fun e w'=>e=.returned (.agg #[.string r1,.int .i64 r2,.int .i64 r3,.int .i64 r4,.int .i64 r5])∧Below w.heap.size w w':=by
 have hu39:=Try.underlying39
 have HB:=qM (Below.refl w.heap.size w)
 have H : (if a0_0.size+1≤9223372036854775807 then (some (a0_0++(⟨#[10]⟩ : ByteArray),a0_1,a0_1,a0_1,a0_4)) else (none))=some (r1,r2,r3,r4,r5):=h
 clear h
 by_cases c2 : a0_0.size+1≤9223372036854775807
 ·rw [if_pos c2] at H
  have c2b0:=eq_true c2
  have c2b1 : decide (a0_0.size+1≤9223372036854775807)=true:=decide_eq_true c2
  try have c2b2 : (9223372036854775807 < a0_0.size+1)=False:=eq_false (Nat.not_lt.2 c2)
  simp only [Option.some.injEq,Prod.mk.injEq] at H
  obtain ⟨rfl,rfl,rfl,rfl,rfl⟩:=H
  go_enter Try.func47,Try.ntmps47
  go_wp2_with (first|((with_reducible refine gate_dst (N:=1) rfl ?_);refine box_event ?hg (N:=1) ?hd (cs:=#[.string a0_0,.int .i64 a0_1,.int .i64 a0_2,.int .i64 a0_3,.int .i64 a0_4]) (t:=39) ?hr ?_;(case hd=>rfl);(case hg=>rfl);(case hr=>first|(go_simp;done)|(go_simp;rfl));intro gb335 hg w3 hbox hb;have n0_:=qM (below_step (by repeat first|exact HB.out|apply qJ|apply qK|apply qL) hb);have n1_:=qM (hbox);have n2_:=qM ((by rw [hg];exact (below_size (by repeat first|exact HB.out|apply qJ|apply qK|apply qL)) : w.heap.size≤gb335));have n3_:=qM ((by rw [hg];exact (below_size (by repeat first|exact HB.out|apply qJ|apply qK|apply qL)) : w.heap.size≤gb335));clear HB;have HB:=n0_;have BK335:=n1_;have GW335:=n2_;have GE335:=n3_;clear n0_ n1_ n2_ n3_;clear hb hbox hg)|((with_reducible refine gate_dst (N:=2) rfl ?_);refine box_event ?hg (N:=2) ?hd (cs:=#[.string (⟨#[]⟩ : ByteArray),.int .i64 0,.int .i64 0,.int .i64 0,.int .i64 0]) (t:=39) ?hr ?_;(case hd=>rfl);(case hg=>rfl);(case hr=>first|(go_simp;done)|(go_simp;rfl));intro gb336 hg w4 hbox hb;have n0_:=qM (blk_below (g:=gb335) (o:=.cells #[.string a0_0,.int .i64 a0_1,.int .i64 a0_2,.int .i64 a0_3,.int .i64 a0_4] 39 (0,0)) (by (with_reducible repeat (first|apply qD|apply qE|apply qF));exact BK335.out) hb);have n1_:=qM (below_step (by repeat first|exact HB.out|apply qJ|apply qK|apply qL|refine qR ?_ GE335.out) hb);have n2_:=qM (hbox);have n3_:=qM ((by rw [hg];exact (below_size (by repeat first|exact HB.out|apply qJ|apply qK|apply qL|refine qR ?_ GE335.out)) : w.heap.size≤gb336));have n4_:=qM ((by rw [hg];exact (below_size (by repeat first|exact HB.out|apply qJ|apply qK|apply qL|refine qR ?_ GE335.out)) : w.heap.size≤gb336));have n5_:=qM ((by rw [hg];exact Nat.ne_of_lt (blk_lt (g:=gb335) (o:=.cells #[.string a0_0,.int .i64 a0_1,.int .i64 a0_2,.int .i64 a0_3,.int .i64 a0_4] 39 (0,0)) (by (with_reducible repeat (first|apply qD|apply qE|apply qF));exact BK335.out)) : gb335 ≠ gb336));have n6_:=qM ((by rw [hg];exact Nat.ne_of_gt (blk_lt (g:=gb335) (o:=.cells #[.string a0_0,.int .i64 a0_1,.int .i64 a0_2,.int .i64 a0_3,.int .i64 a0_4] 39 (0,0)) (by (with_reducible repeat (first|apply qD|apply qE|apply qF));exact BK335.out)) : gb336 ≠ gb335));clear BK335;clear HB;have BK335:=n0_;have HB:=n1_;have BK336:=n2_;have GW336:=n3_;have GE336:=n4_;have NB335_336:=n5_;have NB336_335:=n6_;clear n0_ n1_ n2_ n3_ n4_ n5_ n6_;clear hb hbox hg;have hnb5:=NB335_336.out;have hnc5:=NB336_335.out;have hcz6_0 : w4.cell? ⟨gb335,0,none⟩=some (.string a0_0):=(blk_cell BK335.out 0).trans rfl;have hcz6_1 : w4.cell? ⟨gb335,1,none⟩=some (.int .i64 a0_1):=(blk_cell BK335.out 1).trans rfl;have hcz6_2 : w4.cell? ⟨gb335,2,none⟩=some (.int .i64 a0_2):=(blk_cell BK335.out 2).trans rfl;have hcz6_3 : w4.cell? ⟨gb335,3,none⟩=some (.int .i64 a0_3):=(blk_cell BK335.out 3).trans rfl;have hcz6_4 : w4.cell? ⟨gb335,4,none⟩=some (.int .i64 a0_4):=(blk_cell BK335.out 4).trans rfl;have hfz6_0:=blk_frozen BK335.out 0;have hfz6_1:=blk_frozen BK335.out 1;have hfz6_2:=blk_frozen BK335.out 2;have hfz6_3:=blk_frozen BK335.out 3;have hfz6_4:=blk_frozen BK335.out 4;have hcz7_0 : w4.cell? ⟨gb336,0,none⟩=some (.string (⟨#[]⟩ : ByteArray)):=(blk_cell BK336.out 0).trans rfl;have hcz7_1 : w4.cell? ⟨gb336,1,none⟩=some (.int .i64 0):=(blk_cell BK336.out 1).trans rfl;have hcz7_2 : w4.cell? ⟨gb336,2,none⟩=some (.int .i64 0):=(blk_cell BK336.out 2).trans rfl;have hcz7_3 : w4.cell? ⟨gb336,3,none⟩=some (.int .i64 0):=(blk_cell BK336.out 3).trans rfl;have hcz7_4 : w4.cell? ⟨gb336,4,none⟩=some (.int .i64 0):=(blk_cell BK336.out 4).trans rfl;have hfz7_0:=blk_frozen BK336.out 0;have hfz7_1:=blk_frozen BK336.out 1;have hfz7_2:=blk_frozen BK336.out 2;have hfz7_3:=blk_frozen BK336.out 3;have hfz7_4:=blk_frozen BK336.out 4))
  refine bodyPost_ret (results_cell_row rfl _ _ gb336 39 #[.string (a0_0++(⟨#[10]⟩ : ByteArray)),.int .i64 a0_1,.int .i64 a0_1,.int .i64 a0_1,.int .i64 a0_4] (0,0) _ rfl (by (with_reducible repeat (first|apply qD|apply qE|apply qF));refine blk_put (cs:=#[.string (a0_0++(⟨#[10]⟩ : ByteArray)),.int .i64 a0_1,.int .i64 a0_1,.int .i64 a0_1,.int .i64 0]) ?_ 4 _ rfl;(with_reducible repeat (first|apply qD|apply qE|apply qF));refine blk_put (cs:=#[.string (a0_0++(⟨#[10]⟩ : ByteArray)),.int .i64 a0_1,.int .i64 a0_1,.int .i64 0,.int .i64 0]) ?_ 3 _ rfl;(with_reducible repeat (first|apply qD|apply qE|apply qF));refine blk_put (cs:=#[.string (a0_0++(⟨#[10]⟩ : ByteArray)),.int .i64 a0_1,.int .i64 0,.int .i64 0,.int .i64 0]) ?_ 2 _ rfl;(with_reducible repeat (first|apply qD|apply qE|apply qF));refine blk_put (cs:=#[.string (a0_0++(⟨#[10]⟩ : ByteArray)),.int .i64 0,.int .i64 0,.int .i64 0,.int .i64 0]) ?_ 1 _ rfl;(with_reducible repeat (first|apply qD|apply qE|apply qF));refine blk_put (cs:=#[.string (⟨#[]⟩ : ByteArray),.int .i64 0,.int .i64 0,.int .i64 0,.int .i64 0]) ?_ 0 _ rfl;(with_reducible repeat (first|apply qD|apply qE|apply qF));refine blk_far ?_ NB336_335.out _;(with_reducible repeat (first|apply qD|apply qE|apply qF));refine blk_far ?_ NB336_335.out _;(with_reducible repeat (first|apply qD|apply qE|apply qF));refine blk_far ?_ NB336_335.out _;(with_reducible repeat (first|apply qD|apply qE|apply qF));exact BK336.out) Try.underlying39 rfl (by kernel_rfl)) rfl ?_
  exact ⟨by first|rfl|(simp [errW_none,errW_some] <;> rfl)|(simp [*,errW_none,errW_some] <;> rfl),by repeat (first|(with_reducible first|exact HB.out|apply qJ|apply qK|apply qL|refine qR ?_ GE335.out|refine qR ?_ GE336.out)|exact HB.out)⟩
 ·rw [if_neg c2] at H
  exact absurd H (by simp)

/-! ### copperplateref18_blanks: function 56 -/
def copperplateref18_blanks.l0 : Nat→Int→ByteArray→Int→Option (ByteArray)
 | 0,_,_,_=>none
 | k+1,x0,x3,x4=>if x4 < x0 then (if x3.size+1≤9223372036854775807 then (copperplateref18_blanks.l0 k x0 (x3++(⟨#[32]⟩ : ByteArray)) (wrap64 (x4+1))) else (none)) else (some x3)
def copperplateref18_blanks.f (k : Nat) (a0 : Int) : Option (ByteArray):=copperplateref18_blanks.l0 k a0 (⟨#[]⟩ : ByteArray) 0
theorem copperplateref18_blanks.mono_l : ∀ k,(∀ y0 y1 y2,LeO (copperplateref18_blanks.l0 k y0 y1 y2) (copperplateref18_blanks.l0 (k+1) y0 y1 y2))
 | 0=>fun _ _ _ r h=>by simp [copperplateref18_blanks.l0] at h
 | k+1=>by
  have ih0:=copperplateref18_blanks.mono_l k
  ·intro y0 y1 y2
   unfold copperplateref18_blanks.l0
   repeat' first
   | (with_reducible exact ih0 _ _ _)
   | (with_reducible exact LeO.refl _)
   | (with_reducible exact LeO.none _)
   | (with_reducible refine LeO.ite ?_ ?_)
   | (with_reducible refine LeO.bind ?_ (fun _=>?_))
   | exact ih0 _ _ _
   | exact LeO.none _
   | refine LeO.ite ?_ ?_
   | refine LeO.bind ?_ (fun _=>?_)
theorem copperplateref18_blanks.mono : ∀ a0 k,LeO (copperplateref18_blanks.f k a0) (copperplateref18_blanks.f (k+1) a0):=by
 intro a0 k
 have ih0:=copperplateref18_blanks.mono_l k
 unfold copperplateref18_blanks.f
 repeat' first
   | (with_reducible exact ih0 _ _ _)
   | (with_reducible exact LeO.refl _)
   | (with_reducible exact LeO.none _)
   | (with_reducible refine LeO.ite ?_ ?_)
   | (with_reducible refine LeO.bind ?_ (fun _=>?_))
   | exact ih0 _ _ _
   | exact LeO.none _
   | refine LeO.ite ?_ ?_
   | refine LeO.bind ?_ (fun _=>?_)
set_option maxHeartbeats 8000000 in
set_option maxRecDepth 100000 in
theorem copperplateref18_blanks.calls (k : Nat) (a0 : Int) (r : ByteArray) (w : World) (h : copperplateref18_blanks.f k a0=some r) :
  Calls Try.prog 56 #[.int .i64 a0] w fun e w'=>e=.returned (.string r)∧Drawn0 w w':=by
 have H : (copperplateref18_blanks.l0 k a0 (⟨#[]⟩ : ByteArray) 0)=some r:=h
 clear h
 have H':=qM H
 clear H
 go_enter Try.func56,Try.ntmps56
 go_wp2
 go_loopg [3,4] k (fun kq v3 v4 w'=>∃ (x3_1 : ByteArray) (x4_1 : Int),v3=.string x3_1∧v4=.int .i64 x4_1∧Aside0 (copperplateref18_blanks.l0 kq a0 x3_1 x4_1=some r)∧Aside0 (kq≤k)∧Drawn0 w w')
 case atStart=>exact ⟨((⟨#[]⟩ : ByteArray)),(0),(by first|rfl|(simp;done)|(simp [*];done)),(by first|rfl|(simp;done)|(simp [*];done)),H',⟨Nat.le_refl _⟩,by repeat (first|exact Drawn0.refl _|apply Drawn0.step)⟩
 case round =>
  clear H'
  obtain ⟨x3_1,x4_1,rfl,rfl,HA,HK1,⟨m1,rfl⟩⟩:=hrel
  cases gk with
  | zero=>exact absurd HA.out (by simp [copperplateref18_blanks.l0])
  | succ k1 =>
   have H:=HA.out
   clear HA
   simp only [copperplateref18_blanks.l0] at H
   by_cases c2 : x4_1 < a0
   ·rw [if_pos c2] at H
    have c2b0 : decide (x4_1 < a0)=true:=decide_eq_true c2
    clear c2
    by_cases c3 : x3_1.size+1≤9223372036854775807
    ·rw [if_pos c3] at H
     have c3b0:=eq_true c3
     have c3b1 : decide (x3_1.size+1≤9223372036854775807)=true:=decide_eq_true c3
     try have c3b2 : (9223372036854775807 < x3_1.size+1)=False:=eq_false (Nat.not_lt.2 c3)
     have H':=qM H
     clear H
     go_wp2
     go_roundg k1
     case measure=>have:=HK1.out;omega
     case rel=>exact ⟨(x3_1++(⟨#[32]⟩ : ByteArray)),(wrap64 (x4_1+1)),(by first|rfl|(simp;done)|(simp [*];done)),(by first|rfl|(simp;done)|(simp [*];done)),H',⟨by have:=HK1.out;omega⟩,by repeat (first|exact Drawn0.refl _|apply Drawn0.step)⟩
    ·rw [if_neg c3] at H
     exact absurd H (by simp)
   ·rw [if_neg c2] at H
    have c2b0 : decide (x4_1 < a0)=false:=decide_eq_false c2
    clear c2
    obtain rfl:=Option.some.inj H
    go_wp2
    go_ret
    exact ⟨by first|rfl|(simp;done)|(simp [*];done),by repeat (first|exact Drawn0.refl _|apply Drawn0.step)⟩

/-! ### copperplateref18_Put: function 48 -/
def copperplateref18_Put.f (k : Nat) (a0_0 : ByteArray) (a0_1 : Int) (a0_2 : Int) (a0_3 : Int) (a0_4 : Int) (a1 : ByteArray) : Option (ByteArray × Int × Int × Int × Int):=if a1.toList=([] : List UInt8) then (some (a0_0,a0_1,a0_2,a0_3,a0_4)) else ((copperplateref18_blanks.f k a0_3).bind fun t339=>(if a0_0.size+t339.size≤9223372036854775807 then (if (a0_0++t339).size+a1.size≤9223372036854775807 then ((copperplateref17_Cols.f k a1).bind fun t340=>(some ((a0_0++t339)++a1,a0_1,wrap64 (a0_2+t340),0,a0_4))) else (none)) else (none)))
theorem copperplateref18_Put.mono : ∀ a0 a1 a2 a3 a4 a5 k,LeO (copperplateref18_Put.f k a0 a1 a2 a3 a4 a5) (copperplateref18_Put.f (k+1) a0 a1 a2 a3 a4 a5):=by
 intro a0 a1 a2 a3 a4 a5 k
 unfold copperplateref18_Put.f
 repeat' first
   | (with_reducible exact copperplateref17_Cols.mono _ _)
   | (with_reducible exact copperplateref18_blanks.mono _ _)
   | (with_reducible exact LeO.refl _)
   | (with_reducible exact LeO.none _)
   | (with_reducible refine LeO.ite ?_ ?_)
   | (with_reducible refine LeO.bind ?_ (fun _=>?_))
   | exact copperplateref17_Cols.mono _ _
   | exact copperplateref18_blanks.mono _ _
   | exact LeO.none _
   | refine LeO.ite ?_ ?_
   | refine LeO.bind ?_ (fun _=>?_)
def copperplateref18_Put.T3 : Bool × List (List Nat × List Nat):=(true,[([],[]),([0],[0]),([],[]),([2],[2]),([3],[3]),([1,4],[1,4]),([],[]),([5,6],[5,6]),([0,1,2,3,4,5,6,7],[]),([8,7,4,0,1,2,3,4,5,6,7],[7,8])])
def copperplateref18_Put.B3 : List Nat:=[0,1,0,4,12,31,0,127,255,511]
theorem copperplateref18_Put.tab3 : rtab .any (opsOf Try.f48 3)=copperplateref18_Put.T3:=by kernel_rfl
theorem copperplateref18_Put.bits3 : waitsOk copperplateref18_Put.T3.2 copperplateref18_Put.B3=true:=by kernel_rfl
set_option maxHeartbeats 8000000 in
set_option maxRecDepth 100000 in
theorem copperplateref18_Put.calls (k : Nat) (a0_0 : ByteArray) (a0_1 : Int) (a0_2 : Int) (a0_3 : Int) (a0_4 : Int) (a1 : ByteArray) (r1 : ByteArray) (r2 : Int) (r3 : Int) (r4 : Int) (r5 : Int) (w : World) (h : copperplateref18_Put.f k a0_0 a0_1 a0_2 a0_3 a0_4 a1=some (r1,r2,r3,r4,r5)) :
  Calls Try.prog 48 #[.agg #[.string a0_0,.int .i64 a0_1,.int .i64 a0_2,.int .i64 a0_3,.int .i64 a0_4],.string a1] w fun e w'=>e=.returned (.agg #[.string r1,.int .i64 r2,.int .i64 r3,.int .i64 r4,.int .i64 r5])∧Below w.heap.size w w':=by
 have hu39:=Try.underlying39
 have HB:=qM (Below.refl w.heap.size w)
 have H : (if a1.toList=([] : List UInt8) then (some (a0_0,a0_1,a0_2,a0_3,a0_4)) else ((copperplateref18_blanks.f k a0_3).bind fun t339=>(if a0_0.size+t339.size≤9223372036854775807 then (if (a0_0++t339).size+a1.size≤9223372036854775807 then ((copperplateref17_Cols.f k a1).bind fun t340=>(some ((a0_0++t339)++a1,a0_1,wrap64 (a0_2+t340),0,a0_4))) else (none)) else (none))))=some (r1,r2,r3,r4,r5):=h
 clear h
 by_cases c3 : a1.toList=([] : List UInt8)
 ·rw [if_pos c3] at H
  have c3b0 : (a1.toList == ([] : List UInt8))=true:=beq_iff_eq.mpr c3
  have c3b1 : (a1.toList != ([] : List UInt8))=false:=bne_eq_false_iff_eq.mpr c3
  clear c3
  simp only [Option.some.injEq,Prod.mk.injEq] at H
  obtain ⟨rfl,rfl,rfl,rfl,rfl⟩:=H
  go_enter Try.func48,Try.ntmps48
  go_wp2_with (first|((with_reducible refine gate_dst (N:=2) rfl ?_);refine box_event ?hg (N:=2) ?hd (cs:=#[.string a0_0,.int .i64 a0_1,.int .i64 a0_2,.int .i64 a0_3,.int .i64 a0_4]) (t:=39) ?hr ?_;(case hd=>rfl);(case hg=>rfl);(case hr=>first|(go_simp;done)|(go_simp;rfl));intro gb337 hg w4 hbox hb;have n0_:=qM (below_step (by repeat first|exact HB.out|apply qJ|apply qK|apply qL) hb);have n1_:=qM (hbox);have n2_:=qM ((by rw [hg];exact (below_size (by repeat first|exact HB.out|apply qJ|apply qK|apply qL)) : w.heap.size≤gb337));have n3_:=qM ((by rw [hg];exact (below_size (by repeat first|exact HB.out|apply qJ|apply qK|apply qL)) : w.heap.size≤gb337));clear HB;have HB:=n0_;have BK337:=n1_;have GW337:=n2_;have GE337:=n3_;clear n0_ n1_ n2_ n3_;clear hb hbox hg)|((with_reducible refine gate_dst (N:=4) rfl ?_);refine box_event ?hg (N:=4) ?hd (cs:=#[.string (⟨#[]⟩ : ByteArray),.int .i64 0,.int .i64 0,.int .i64 0,.int .i64 0]) (t:=39) ?hr ?_;(case hd=>rfl);(case hg=>rfl);(case hr=>first|(go_simp;done)|(go_simp;rfl));intro gb338 hg w5 hbox hb;have n0_:=qM (blk_below (g:=gb337) (o:=.cells #[.string a0_0,.int .i64 a0_1,.int .i64 a0_2,.int .i64 a0_3,.int .i64 a0_4] 39 (0,0)) (by (with_reducible repeat (first|apply qD|apply qE|apply qF));exact BK337.out) hb);have n1_:=qM (below_step (by repeat first|exact HB.out|apply qJ|apply qK|apply qL|refine qR ?_ GE337.out) hb);have n2_:=qM (hbox);have n3_:=qM ((by rw [hg];exact (below_size (by repeat first|exact HB.out|apply qJ|apply qK|apply qL|refine qR ?_ GE337.out)) : w.heap.size≤gb338));have n4_:=qM ((by rw [hg];exact (below_size (by repeat first|exact HB.out|apply qJ|apply qK|apply qL|refine qR ?_ GE337.out)) : w.heap.size≤gb338));have n5_:=qM ((by rw [hg];exact Nat.ne_of_lt (blk_lt (g:=gb337) (o:=.cells #[.string a0_0,.int .i64 a0_1,.int .i64 a0_2,.int .i64 a0_3,.int .i64 a0_4] 39 (0,0)) (by (with_reducible repeat (first|apply qD|apply qE|apply qF));exact BK337.out)) : gb337 ≠ gb338));have n6_:=qM ((by rw [hg];exact Nat.ne_of_gt (blk_lt (g:=gb337) (o:=.cells #[.string a0_0,.int .i64 a0_1,.int .i64 a0_2,.int .i64 a0_3,.int .i64 a0_4] 39 (0,0)) (by (with_reducible repeat (first|apply qD|apply qE|apply qF));exact BK337.out)) : gb338 ≠ gb337));clear BK337;clear HB;have BK337:=n0_;have HB:=n1_;have BK338:=n2_;have GW338:=n3_;have GE338:=n4_;have NB337_338:=n5_;have NB338_337:=n6_;clear n0_ n1_ n2_ n3_ n4_ n5_ n6_;clear hb hbox hg;have hnb6:=NB337_338.out;have hnc6:=NB338_337.out;have hcz7_0 : w5.cell? ⟨gb337,0,none⟩=some (.string a0_0):=(blk_cell BK337.out 0).trans rfl;have hcz7_1 : w5.cell? ⟨gb337,1,none⟩=some (.int .i64 a0_1):=(blk_cell BK337.out 1).trans rfl;have hcz7_2 : w5.cell? ⟨gb337,2,none⟩=some (.int .i64 a0_2):=(blk_cell BK337.out 2).trans rfl;have hcz7_3 : w5.cell? ⟨gb337,3,none⟩=some (.int .i64 a0_3):=(blk_cell BK337.out 3).trans rfl;have hcz7_4 : w5.cell? ⟨gb337,4,none⟩=some (.int .i64 a0_4):=(blk_cell BK337.out 4).trans rfl;have hfz7_0:=blk_frozen BK337.out 0;have hfz7_1:=blk_frozen BK337.out 1;have hfz7_2:=blk_frozen BK337.out 2;have hfz7_3:=blk_frozen BK337.out 3;have hfz7_4:=blk_frozen BK337.out 4;have hcz8_0 : w5.cell? ⟨gb338,0,none⟩=some (.string (⟨#[]⟩ : ByteArray)):=(blk_cell BK338.out 0).trans rfl;have hcz8_1 : w5.cell? ⟨gb338,1,none⟩=some (.int .i64 0):=(blk_cell BK338.out 1).trans rfl;have hcz8_2 : w5.cell? ⟨gb338,2,none⟩=some (.int .i64 0):=(blk_cell BK338.out 2).trans rfl;have hcz8_3 : w5.cell? ⟨gb338,3,none⟩=some (.int .i64 0):=(blk_cell BK338.out 3).trans rfl;have hcz8_4 : w5.cell? ⟨gb338,4,none⟩=some (.int .i64 0):=(blk_cell BK338.out 4).trans rfl;have hfz8_0:=blk_frozen BK338.out 0;have hfz8_1:=blk_frozen BK338.out 1;have hfz8_2:=blk_frozen BK338.out 2;have hfz8_3:=blk_frozen BK338.out 3;have hfz8_4:=blk_frozen BK338.out 4))
  refine bodyPost_ret (results_cell_row rfl _ _ gb338 39 #[.string a0_0,.int .i64 a0_1,.int .i64 a0_2,.int .i64 a0_3,.int .i64 a0_4] (0,0) _ rfl (by (with_reducible repeat (first|apply qD|apply qE|apply qF));refine blk_put (cs:=#[.string a0_0,.int .i64 a0_1,.int .i64 a0_2,.int .i64 a0_3,.int .i64 0]) ?_ 4 _ rfl;(with_reducible repeat (first|apply qD|apply qE|apply qF));refine blk_put (cs:=#[.string a0_0,.int .i64 a0_1,.int .i64 a0_2,.int .i64 0,.int .i64 0]) ?_ 3 _ rfl;(with_reducible repeat (first|apply qD|apply qE|apply qF));refine blk_put (cs:=#[.string a0_0,.int .i64 a0_1,.int .i64 0,.int .i64 0,.int .i64 0]) ?_ 2 _ rfl;(with_reducible repeat (first|apply qD|apply qE|apply qF));refine blk_put (cs:=#[.string a0_0,.int .i64 0,.int .i64 0,.int .i64 0,.int .i64 0]) ?_ 1 _ rfl;(with_reducible repeat (first|apply qD|apply qE|apply qF));refine blk_put (cs:=#[.string (⟨#[]⟩ : ByteArray),.int .i64 0,.int .i64 0,.int .i64 0,.int .i64 0]) ?_ 0 _ rfl;(with_reducible repeat (first|apply qD|apply qE|apply qF));exact BK338.out) Try.underlying39 rfl (by kernel_rfl)) rfl ?_
  exact ⟨by first|rfl|(simp [errW_none,errW_some] <;> rfl)|(simp [*,errW_none,errW_some] <;> rfl),by repeat (first|(with_reducible first|exact HB.out|apply qJ|apply qK|apply qL|refine qR ?_ GE337.out|refine qR ?_ GE338.out)|exact HB.out)⟩
 ·rw [if_neg c3] at H
  have c3b0 : (a1.toList == ([] : List UInt8))=false:=beq_eq_false_iff_ne.mpr c3
  have c3b1 : (a1.toList != ([] : List UInt8))=true:=bne_iff_ne.mpr c3
  replace H:=Option.bind_eq_some_iff.mp H
  obtain ⟨t339,A90,H⟩:=H
  replace H : (if a0_0.size+t339.size≤9223372036854775807 then (if (a0_0++t339).size+a1.size≤9223372036854775807 then ((copperplateref17_Cols.f k a1).bind fun t340=>(some ((a0_0++t339)++a1,a0_1,wrap64 (a0_2+t340),0,a0_4))) else (none)) else (none))=some (r1,r2,r3,r4,r5):=H
  have A9:=qM A90
  clear A90
  by_cases c10 : a0_0.size+t339.size≤9223372036854775807
  ·rw [if_pos c10] at H
   have c10b0:=eq_true c10
   have c10b1 : decide (a0_0.size+t339.size≤9223372036854775807)=true:=decide_eq_true c10
   try have c10b2 : (9223372036854775807 < a0_0.size+t339.size)=False:=eq_false (Nat.not_lt.2 c10)
   by_cases c11 : (a0_0++t339).size+a1.size≤9223372036854775807
   ·rw [if_pos c11] at H
    have c11b0:=eq_true c11
    have c11b1 : decide ((a0_0++t339).size+a1.size≤9223372036854775807)=true:=decide_eq_true c11
    try have c11b2 : (9223372036854775807 < (a0_0++t339).size+a1.size)=False:=eq_false (Nat.not_lt.2 c11)
    try have c11b3 : (9223372036854775807 < a0_0.size+t339.size+a1.size)=False:=by rw [← ByteArray.size_append];exact c11b2
    replace H:=Option.bind_eq_some_iff.mp H
    obtain ⟨t340,A120,H⟩:=H
    replace H : (some ((a0_0++t339)++a1,a0_1,wrap64 (a0_2+t340),0,a0_4))=some (r1,r2,r3,r4,r5):=H
    have A12:=qM A120
    clear A120
    simp only [Option.some.injEq,Prod.mk.injEq] at H
    obtain ⟨rfl,rfl,rfl,rfl,rfl⟩:=H
    go_enter Try.func48,Try.ntmps48
    try go_wp2_with (first|((with_reducible refine gate_dst (N:=2) rfl ?_);refine box_event ?hg (N:=2) ?hd (cs:=#[.string a0_0,.int .i64 a0_1,.int .i64 a0_2,.int .i64 a0_3,.int .i64 a0_4]) (t:=39) ?hr ?_;(case hd=>rfl);(case hg=>rfl);(case hr=>first|(go_simp;done)|(go_simp;rfl));intro gb337 hg w13 hbox hb;have n0_:=qM (below_step (by repeat first|exact HB.out|apply qJ|apply qK|apply qL) hb);have n1_:=qM (hbox);have n2_:=qM ((by rw [hg];exact (below_size (by repeat first|exact HB.out|apply qJ|apply qK|apply qL)) : w.heap.size≤gb337));have n3_:=qM ((by rw [hg];exact (below_size (by repeat first|exact HB.out|apply qJ|apply qK|apply qL)) : w.heap.size≤gb337));clear HB;have HB:=n0_;have BK337:=n1_;have GW337:=n2_;have GE337:=n3_;clear n0_ n1_ n2_ n3_;clear hb hbox hg)|((with_reducible refine gate_dst (N:=4) rfl ?_);refine box_event ?hg (N:=4) ?hd (cs:=#[.string (⟨#[]⟩ : ByteArray),.int .i64 0,.int .i64 0,.int .i64 0,.int .i64 0]) (t:=39) ?hr ?_;(case hd=>rfl);(case hg=>rfl);(case hr=>first|(go_simp;done)|(go_simp;rfl));intro gb338 hg w14 hbox hb;have n0_:=qM (blk_below (g:=gb337) (o:=.cells #[.string a0_0,.int .i64 a0_1,.int .i64 a0_2,.int .i64 a0_3,.int .i64 a0_4] 39 (0,0)) (by (with_reducible repeat (first|apply qD|apply qE|apply qF));exact BK337.out) hb);have n1_:=qM (below_step (by repeat first|exact HB.out|apply qJ|apply qK|apply qL|refine qR ?_ GE337.out) hb);have n2_:=qM (hbox);have n3_:=qM ((by rw [hg];exact (below_size (by repeat first|exact HB.out|apply qJ|apply qK|apply qL|refine qR ?_ GE337.out)) : w.heap.size≤gb338));have n4_:=qM ((by rw [hg];exact (below_size (by repeat first|exact HB.out|apply qJ|apply qK|apply qL|refine qR ?_ GE337.out)) : w.heap.size≤gb338));have n5_:=qM ((by rw [hg];exact Nat.ne_of_lt (blk_lt (g:=gb337) (o:=.cells #[.string a0_0,.int .i64 a0_1,.int .i64 a0_2,.int .i64 a0_3,.int .i64 a0_4] 39 (0,0)) (by (with_reducible repeat (first|apply qD|apply qE|apply qF));exact BK337.out)) : gb337 ≠ gb338));have n6_:=qM ((by rw [hg];exact Nat.ne_of_gt (blk_lt (g:=gb337) (o:=.cells #[.string a0_0,.int .i64 a0_1,.int .i64 a0_2,.int .i64 a0_3,.int .i64 a0_4] 39 (0,0)) (by (with_reducible repeat (first|apply qD|apply qE|apply qF));exact BK337.out)) : gb338 ≠ gb337));clear BK337;clear HB;have BK337:=n0_;have HB:=n1_;have BK338:=n2_;have GW338:=n3_;have GE338:=n4_;have NB337_338:=n5_;have NB338_337:=n6_;clear n0_ n1_ n2_ n3_ n4_ n5_ n6_;clear hb hbox hg))
    have n0_:=qM (qE BK337.out);have n1_:=qM (qE BK338.out)
    have n2_:=qM (qL HB.out);clear BK337
    clear BK338;clear HB
    have BK337:=n0_;have BK338:=n1_
    have HB:=n2_;clear n0_ n1_ n2_
    refine start_ (n:=10) (S:=fun w'=>w'.cell? ⟨gb337,0,none⟩=some (.string a0_0)∧w'.cell? ⟨gb337,1,none⟩=some (.int .i64 a0_1)∧w'.cell? ⟨gb337,2,none⟩=some (.int .i64 a0_2)∧w'.cell? ⟨gb337,3,none⟩=some (.int .i64 a0_3)∧w'.cell? ⟨gb337,4,none⟩=some (.int .i64 a0_4)) (ds:=[9]) #[tF,tF,tF,tF,tF,tF,tF,tF,tF,tF] (by kernel_rfl) rfl rfl ⟨(blk_cell BK337.out 0).trans rfl,(blk_cell BK337.out 1).trans rfl,(blk_cell BK337.out 2).trans rfl,(blk_cell BK337.out 3).trans rfl,(blk_cell BK337.out 4).trans rfl⟩ (fun hHeld=>?_);refine with_tabW copperplateref18_Put.tab3 copperplateref18_Put.bits3 (fun HT_ HW_=>?_)
    generalize w14.drew=w15 at BK337 BK338 HB hHeld ⊢
    refine pure_ (i:=0) (N:=some 8) (v:=?_) (a':=?_) #[tT,tF,tF,tF,tF,tF,tF,tF,tF,tF] rfl rfl (any_of HT_.out (by kernel_rfl)) (fun _ _ _ h=>h) (Or.inl ⟨by rfl,?_⟩) ?_ ?_
    rotate_left;(intro w';go_simp;with_reducible rfl);rotate_left;(simp only [Act.put,qA,qB,qC,i64_w,i32_w];rfl)
    refine pure_ (i:=2) (N:=some 10) (v:=?_) (a':=?_) #[tT,tF,tT,tF,tF,tF,tF,tF,tF,tF] rfl rfl (any_of HT_.out (by kernel_rfl)) (fun _ _ _ h=>h) (Or.inl ⟨by rfl,?_⟩) ?_ ?_
    rotate_left;(intro w';go_simp;with_reducible rfl);rotate_left;(simp only [Act.put,qA,qB,qC,i64_w,i32_w];rfl)
    refine pure_ (i:=6) (N:=some 14) (v:=?_) (a':=?_) #[tT,tF,tT,tF,tF,tF,tT,tF,tF,tF] rfl rfl (any_of HT_.out (by kernel_rfl)) (fun _ _ _ h=>h) (Or.inl ⟨by rfl,?_⟩) ?_ ?_
    rotate_left;(intro w';go_simp;with_reducible rfl);rotate_left;(simp only [Act.put,qA,qB,qC,i64_w,i32_w];rfl)
    refine take_ (i:=1) (N:=some 9) (v:=?_) (a':=?_) #[tT,tT,tT,tF,tF,tF,tT,tF,tF,tF] rfl rfl (take_ofW HT_.out HW_.out (by kernel_rfl)) (fun _ _ _ h=>h) (Or.inl ⟨by rfl,?_⟩) hHeld ?_ ?_
    rotate_left
    ·rintro w' ⟨s0,s1,s2,s3,s4⟩
     go_simp
     with_reducible rfl
    rotate_left;(simp only [Act.put,qA,qB,qC,i64_w,i32_w];rfl)
    refine take_ (i:=3) (N:=some 11) (v:=?_) (a':=?_) #[tT,tT,tT,tT,tF,tF,tT,tF,tF,tF] rfl rfl (take_ofW HT_.out HW_.out (by kernel_rfl)) (fun _ _ _ h=>h) (Or.inl ⟨by rfl,?_⟩) hHeld ?_ ?_
    rotate_left
    ·rintro w' ⟨s0,s1,s2,s3,s4⟩
     go_simp
     with_reducible rfl
    rotate_left;(simp only [Act.put,qA,qB,qC,i64_w,i32_w];rfl)
    refine one_ (i:=4) (N:=some 12) #[tT,tT,tT,tT,tT,tF,tT,tF,tF,tF] rfl rfl (one_of HT_.out (by kernel_rfl)) (by decide) (fun K hK=>?_)
    refine goes_ Try.func56 (by kernel_rfl) rfl #[.int .i64 a0_3] (by rfl) rfl rfl (by (try simp only [List.map_toArray,List.map_cons,List.map_nil]);first|done|rfl|(simp only [List.length_drop,List.length_take];rfl)) ?_
    with_reducible refine (copperplateref18_blanks.calls k a0_3 t339 _ A9.out).mono ?_
    rintro e w' ⟨rfl,⟨nd,rfl⟩⟩
    refine ⟨_,rfl,?_⟩
    refine hK.out _ _ ⟨(blk_cell BK337.out 0).trans rfl,(blk_cell BK337.out 1).trans rfl,(blk_cell BK337.out 2).trans rfl,(blk_cell BK337.out 3).trans rfl,(blk_cell BK337.out 4).trans rfl⟩ (fun hHeld=>?_)
    clear hK K
    refine norm_ (a':=?_) ?_ ?_
    rotate_left
    ·show Act.put _ (some 12) _=_
     simp only [Act.put,qA,qB,qC,i64_w,i32_w]
     rfl
    refine pure_ (i:=5) (N:=some 13) (v:=?_) (a':=?_) #[tT,tT,tT,tT,tT,tT,tT,tF,tF,tF] rfl rfl (any_of HT_.out (by kernel_rfl)) (fun _ _ _ h=>h) (Or.inl ⟨by rfl,?_⟩) ?_ ?_
    rotate_left;(intro w';go_simp;with_reducible rfl);rotate_left;(simp only [Act.put,qA,qB,qC,i64_w,i32_w];rfl)
    refine pure_ (i:=7) (N:=some 15) (v:=?_) (a':=?_) #[tT,tT,tT,tT,tT,tT,tT,tT,tF,tF] rfl rfl (any_of HT_.out (by kernel_rfl)) (fun _ _ _ h=>h) (Or.inl ⟨by rfl,?_⟩) ?_ ?_
    rotate_left;(intro w';go_simp;with_reducible rfl);rotate_left;(simp only [Act.put,qA,qB,qC,i64_w,i32_w];rfl)
    refine pure_ (i:=8) (N:=some 16) (v:=?_) (a':=?_) #[tT,tT,tT,tT,tT,tT,tT,tT,tT,tF] rfl rfl (any_of HT_.out (by kernel_rfl)) (fun _ _ _ h=>h) (Or.inl ⟨by rfl,?_⟩) ?_ ?_
    rotate_left;(intro w';go_simp;with_reducible rfl);rotate_left;(simp only [Act.put,qA,qB,qC,i64_w,i32_w];rfl)
    refine last_ (i:=9) (N:=none) #[tT,tT,tT,tT,tT,tT,tT,tT,tT,tT] rfl rfl (one_of HT_.out (by kernel_rfl)) (by decide) (fun K hK=>?_)
    have hs16 : w15.cell? ⟨gb337,0,none⟩=some (.string a0_0):=(blk_cell BK337.out 0).trans rfl
    have hfs16:=blk_frozen BK337.out 0
    have hns16_1:=NB338_337.out
    have hms16_1:=NB337_338.out
    refine skip_ (w1:=?_) (by rfl) rfl ?_ ?_
    rotate_left
    ·go_simp
     rfl
    refine hK.out _ _ ?_
    clear hK K
    refine done_ (done_of HT_.out (by kernel_rfl)) ?_
    (try (have n0_:=qM (qD BK337.out nd);have n1_:=qM (qD BK338.out nd);have n2_:=qM (qK HB.out nd);clear BK337 BK338 HB;generalize World.drewN w15 nd=w15 at n0_ n1_ n2_ ⊢;have BK337:=n0_;have BK338:=n1_;have HB:=n2_;clear n0_ n1_ n2_))
    have hnb17:=NB337_338.out
    have hnc17:=NB338_337.out
    have hcz18_0 : w15.cell? ⟨gb337,0,none⟩=some (.string a0_0):=(blk_cell BK337.out 0).trans rfl
    have hcz18_1 : w15.cell? ⟨gb337,1,none⟩=some (.int .i64 a0_1):=(blk_cell BK337.out 1).trans rfl
    have hcz18_2 : w15.cell? ⟨gb337,2,none⟩=some (.int .i64 a0_2):=(blk_cell BK337.out 2).trans rfl
    have hcz18_3 : w15.cell? ⟨gb337,3,none⟩=some (.int .i64 a0_3):=(blk_cell BK337.out 3).trans rfl
    have hcz18_4 : w15.cell? ⟨gb337,4,none⟩=some (.int .i64 a0_4):=(blk_cell BK337.out 4).trans rfl
    have hfz18_0:=blk_frozen BK337.out 0
    have hfz18_1:=blk_frozen BK337.out 1
    have hfz18_2:=blk_frozen BK337.out 2
    have hfz18_3:=blk_frozen BK337.out 3
    have hfz18_4:=blk_frozen BK337.out 4
    try go_wp2
    have n0_ : Aside0 (((w15.setCell ⟨gb337,0,none⟩ (.string ((a0_0++t339)++a1))).setCell ⟨gb337,3,none⟩ (.int .i64 0)).heap[gb337]?=some (.cells #[.string ((a0_0++t339)++a1),.int .i64 a0_1,.int .i64 a0_2,.int .i64 0,.int .i64 a0_4] 39 (0,0))):=⟨by (with_reducible repeat (first|apply qD|apply qE|apply qF));refine blk_put (cs:=#[.string ((a0_0++t339)++a1),.int .i64 a0_1,.int .i64 a0_2,.int .i64 a0_3,.int .i64 a0_4]) ?_ 3 _ rfl;(with_reducible repeat (first|apply qD|apply qE|apply qF));refine blk_put (cs:=#[.string a0_0,.int .i64 a0_1,.int .i64 a0_2,.int .i64 a0_3,.int .i64 a0_4]) ?_ 0 _ rfl;(with_reducible repeat (first|apply qD|apply qE|apply qF));exact BK337.out⟩
    have n1_ : Aside0 (((w15.setCell ⟨gb337,0,none⟩ (.string ((a0_0++t339)++a1))).setCell ⟨gb337,3,none⟩ (.int .i64 0)).heap[gb338]?=some (.cells #[.string (⟨#[]⟩ : ByteArray),.int .i64 0,.int .i64 0,.int .i64 0,.int .i64 0] 39 (0,0))):=⟨by (with_reducible repeat (first|apply qD|apply qE|apply qF));refine blk_far ?_ NB338_337.out _;(with_reducible repeat (first|apply qD|apply qE|apply qF));refine blk_far ?_ NB338_337.out _;(with_reducible repeat (first|apply qD|apply qE|apply qF));exact BK338.out⟩
    have n2_ : Aside0 (Below w.heap.size w ((w15.setCell ⟨gb337,0,none⟩ (.string ((a0_0++t339)++a1))).setCell ⟨gb337,3,none⟩ (.int .i64 0))):=⟨by repeat (first|(with_reducible first|exact HB.out|apply qJ|apply qK|apply qL|refine qR ?_ GE337.out|refine qR ?_ GE338.out)|exact HB.out)⟩
    (try clear BK337)
    (try clear BK338)
    (try clear HB)
    generalize ((w15.setCell ⟨gb337,0,none⟩ (.string ((a0_0++t339)++a1))).setCell ⟨gb337,3,none⟩ (.int .i64 0))=w19 at n0_ n1_ n2_ ⊢
    have BK337:=n0_;have BK338:=n1_
    have HB:=n2_;clear n0_ n1_ n2_
    (try (rw [drewN_self w19];generalize hq_ : World.drewN w19 _=w19;have n0_ : Aside0 (w19.heap[gb337]?=some (.cells #[.string ((a0_0++t339)++a1),.int .i64 a0_1,.int .i64 a0_2,.int .i64 0,.int .i64 a0_4] 39 (0,0))):=⟨by rw [← hq_];exact (by (with_reducible repeat (first|apply qD|apply qE|apply qF));exact BK337.out)⟩;have n1_ : Aside0 (w19.heap[gb338]?=some (.cells #[.string (⟨#[]⟩ : ByteArray),.int .i64 0,.int .i64 0,.int .i64 0,.int .i64 0] 39 (0,0))):=⟨by rw [← hq_];exact (by (with_reducible repeat (first|apply qD|apply qE|apply qF));exact BK338.out)⟩;have n2_ : Aside0 (Below w.heap.size w w19):=⟨by rw [← hq_];exact (by repeat first|exact HB.out|apply qJ|apply qK|apply qL|refine qR ?_ GE337.out|refine qR ?_ GE338.out)⟩;clear BK337 BK338 HB hq_;have BK337:=n0_;have BK338:=n1_;have HB:=n2_;clear n0_ n1_ n2_))
    have n0_:=qM (qE BK337.out);have n1_:=qM (qE BK338.out)
    have n2_:=qM (qL HB.out);clear BK337
    clear BK338;clear HB
    have BK337:=n0_;have BK338:=n1_
    have HB:=n2_;clear n0_ n1_ n2_
    refine start_ (n:=7) (S:=fun w'=>w'.cell? ⟨gb337,0,none⟩=some (.string ((a0_0++t339)++a1))∧w'.cell? ⟨gb337,1,none⟩=some (.int .i64 a0_1)∧w'.cell? ⟨gb337,2,none⟩=some (.int .i64 a0_2)∧w'.cell? ⟨gb337,3,none⟩=some (.int .i64 0)∧w'.cell? ⟨gb337,4,none⟩=some (.int .i64 a0_4)) (ds:=[6]) #[tF,tF,tF,tF,tF,tF,tF] (by kernel_rfl) rfl rfl ⟨(blk_cell BK337.out 0).trans rfl,(blk_cell BK337.out 1).trans rfl,(blk_cell BK337.out 2).trans rfl,(blk_cell BK337.out 3).trans rfl,(blk_cell BK337.out 4).trans rfl⟩ (fun hHeld=>?_)
    generalize w19.drew=w20 at BK337 BK338 HB hHeld ⊢
    refine pure_ (i:=0) (N:=some 18) (v:=?_) (a':=?_) #[tT,tF,tF,tF,tF,tF,tF] rfl rfl (by kernel_rfl) (fun _ _ _ h=>h) (Or.inl ⟨by rfl,?_⟩) ?_ ?_
    rotate_left;(intro w';go_simp;with_reducible rfl);rotate_left;(simp only [Act.put,qA,qB,qC,i64_w,i32_w];rfl)
    refine pure_ (i:=2) (N:=some 20) (v:=?_) (a':=?_) #[tT,tF,tT,tF,tF,tF,tF] rfl rfl (by kernel_rfl) (fun _ _ _ h=>h) (Or.inl ⟨by rfl,?_⟩) ?_ ?_
    rotate_left;(intro w';go_simp;with_reducible rfl);rotate_left;(simp only [Act.put,qA,qB,qC,i64_w,i32_w];rfl)
    refine take_ (i:=1) (N:=some 19) (v:=?_) (a':=?_) #[tT,tT,tT,tF,tF,tF,tF] rfl rfl (by kernel_rfl) (fun _ _ _ h=>h) (Or.inl ⟨by rfl,?_⟩) hHeld ?_ ?_
    rotate_left
    ·rintro w' ⟨s0,s1,s2,s3,s4⟩
     go_simp
     with_reducible rfl
    rotate_left;(simp only [Act.put,qA,qB,qC,i64_w,i32_w];rfl)
    refine one_ (i:=3) (N:=some 21) #[tT,tT,tT,tT,tF,tF,tF] rfl rfl (by kernel_rfl) (by decide) (fun K hK=>?_)
    refine goes_ Try.func44 (by kernel_rfl) rfl #[.string a1] (by rfl) rfl rfl (by (try simp only [List.map_toArray,List.map_cons,List.map_nil]);first|done|rfl|(simp only [List.length_drop,List.length_take];rfl)) ?_
    with_reducible refine (copperplateref17_Cols.calls k a1 t340 _ A12.out).mono ?_
    rintro e w21 ⟨rfl,hb⟩
    refine ⟨_,rfl,?_⟩
    have n0_:=qM (blk_below (g:=gb337) (o:=.cells #[.string ((a0_0++t339)++a1),.int .i64 a0_1,.int .i64 a0_2,.int .i64 0,.int .i64 a0_4] 39 (0,0)) (by (with_reducible repeat (first|apply qD|apply qE|apply qF));exact BK337.out) hb);have n1_:=qM (blk_below (g:=gb338) (o:=.cells #[.string (⟨#[]⟩ : ByteArray),.int .i64 0,.int .i64 0,.int .i64 0,.int .i64 0] 39 (0,0)) (by (with_reducible repeat (first|apply qD|apply qE|apply qF));exact BK338.out) hb)
    have n2_:=qM (below_step (by repeat first|exact HB.out|apply qJ|apply qK|apply qL|refine qR ?_ GE337.out|refine qR ?_ GE338.out) hb);clear BK337
    clear BK338;clear HB
    have BK337:=n0_;have BK338:=n1_
    have HB:=n2_;clear n0_ n1_ n2_
    (try clear hb)
    (try clear hb2)
    (try clear hk)
    (try clear hi)
    refine hK.out _ _ ⟨(blk_cell BK337.out 0).trans rfl,(blk_cell BK337.out 1).trans rfl,(blk_cell BK337.out 2).trans rfl,(blk_cell BK337.out 3).trans rfl,(blk_cell BK337.out 4).trans rfl⟩ (fun hHeld=>?_)
    clear hK K
    refine norm_ (a':=?_) ?_ ?_
    rotate_left
    ·show Act.put _ (some 21) _=_
     simp only [Act.put,qA,qB,qC,i64_w,i32_w]
     rfl
    refine pure_ (i:=4) (N:=some 22) (v:=?_) (a':=?_) #[tT,tT,tT,tT,tT,tF,tF] rfl rfl (by kernel_rfl) (fun _ _ _ h=>h) (Or.inl ⟨by rfl,?_⟩) ?_ ?_
    rotate_left;(intro w';go_simp;with_reducible rfl);rotate_left;(simp only [Act.put,qA,qB,qC,i64_w,i32_w];rfl)
    refine pure_ (i:=5) (N:=some 23) (v:=?_) (a':=?_) #[tT,tT,tT,tT,tT,tT,tF] rfl rfl (by kernel_rfl) (fun _ _ _ h=>h) (Or.inl ⟨by rfl,?_⟩) ?_ ?_
    rotate_left;(intro w';go_simp;with_reducible rfl);rotate_left;(simp only [Act.put,qA,qB,qC,i64_w,i32_w];rfl)
    refine last_ (i:=6) (N:=none) #[tT,tT,tT,tT,tT,tT,tT] rfl rfl (by kernel_rfl) (by decide) (fun K hK=>?_)
    have hs22 : w21.cell? ⟨gb337,2,none⟩=some (.int .i64 a0_2):=(blk_cell BK337.out 2).trans rfl
    have hfs22:=blk_frozen BK337.out 2
    have hns22_1:=NB338_337.out
    have hms22_1:=NB337_338.out
    refine skip_ (w1:=?_) (by rfl) rfl ?_ ?_
    rotate_left
    ·go_simp
     rfl
    refine hK.out _ _ ?_
    clear hK K
    refine done_ (by kernel_rfl) ?_
    have hcz23_0 : w21.cell? ⟨gb337,0,none⟩=some (.string ((a0_0++t339)++a1)):=(blk_cell BK337.out 0).trans rfl
    have hcz23_1 : w21.cell? ⟨gb337,1,none⟩=some (.int .i64 a0_1):=(blk_cell BK337.out 1).trans rfl
    have hcz23_2 : w21.cell? ⟨gb337,2,none⟩=some (.int .i64 a0_2):=(blk_cell BK337.out 2).trans rfl
    have hcz23_3 : w21.cell? ⟨gb337,3,none⟩=some (.int .i64 0):=(blk_cell BK337.out 3).trans rfl
    have hcz23_4 : w21.cell? ⟨gb337,4,none⟩=some (.int .i64 a0_4):=(blk_cell BK337.out 4).trans rfl
    have hfz23_0:=blk_frozen BK337.out 0
    have hfz23_1:=blk_frozen BK337.out 1
    have hfz23_2:=blk_frozen BK337.out 2
    have hfz23_3:=blk_frozen BK337.out 3
    have hfz23_4:=blk_frozen BK337.out 4
    have hcz24_0 : w21.cell? ⟨gb338,0,none⟩=some (.string (⟨#[]⟩ : ByteArray)):=(blk_cell BK338.out 0).trans rfl
    have hcz24_1 : w21.cell? ⟨gb338,1,none⟩=some (.int .i64 0):=(blk_cell BK338.out 1).trans rfl
    have hcz24_2 : w21.cell? ⟨gb338,2,none⟩=some (.int .i64 0):=(blk_cell BK338.out 2).trans rfl
    have hcz24_3 : w21.cell? ⟨gb338,3,none⟩=some (.int .i64 0):=(blk_cell BK338.out 3).trans rfl
    have hcz24_4 : w21.cell? ⟨gb338,4,none⟩=some (.int .i64 0):=(blk_cell BK338.out 4).trans rfl
    have hfz24_0:=blk_frozen BK338.out 0
    have hfz24_1:=blk_frozen BK338.out 1
    have hfz24_2:=blk_frozen BK338.out 2
    have hfz24_3:=blk_frozen BK338.out 3
    have hfz24_4:=blk_frozen BK338.out 4
    try go_wp2
    refine bodyPost_ret (results_cell_row rfl _ _ gb338 39 #[.string ((a0_0++t339)++a1),.int .i64 a0_1,.int .i64 (wrap64 (a0_2+t340)),.int .i64 0,.int .i64 a0_4] (0,0) _ rfl (by (with_reducible repeat (first|apply qD|apply qE|apply qF));refine blk_put (cs:=#[.string ((a0_0++t339)++a1),.int .i64 a0_1,.int .i64 (wrap64 (a0_2+t340)),.int .i64 0,.int .i64 0]) ?_ 4 _ rfl;(with_reducible repeat (first|apply qD|apply qE|apply qF));refine blk_put (cs:=#[.string ((a0_0++t339)++a1),.int .i64 a0_1,.int .i64 (wrap64 (a0_2+t340)),.int .i64 0,.int .i64 0]) ?_ 3 _ rfl;(with_reducible repeat (first|apply qD|apply qE|apply qF));refine blk_put (cs:=#[.string ((a0_0++t339)++a1),.int .i64 a0_1,.int .i64 0,.int .i64 0,.int .i64 0]) ?_ 2 _ rfl;(with_reducible repeat (first|apply qD|apply qE|apply qF));refine blk_put (cs:=#[.string ((a0_0++t339)++a1),.int .i64 0,.int .i64 0,.int .i64 0,.int .i64 0]) ?_ 1 _ rfl;(with_reducible repeat (first|apply qD|apply qE|apply qF));refine blk_put (cs:=#[.string (⟨#[]⟩ : ByteArray),.int .i64 0,.int .i64 0,.int .i64 0,.int .i64 0]) ?_ 0 _ rfl;(with_reducible repeat (first|apply qD|apply qE|apply qF));refine blk_far ?_ NB338_337.out _;(with_reducible repeat (first|apply qD|apply qE|apply qF));exact BK338.out) Try.underlying39 rfl (by kernel_rfl)) rfl ?_
    exact ⟨by first|rfl|(simp [errW_none,errW_some] <;> rfl)|(simp [*,errW_none,errW_some] <;> rfl),by repeat (first|(with_reducible first|exact HB.out|apply qJ|apply qK|apply qL|refine qR ?_ GE337.out|refine qR ?_ GE338.out)|exact HB.out)⟩
   ·rw [if_neg c11] at H
    exact absurd H (by simp)
  ·rw [if_neg c10] at H
   exact absurd H (by simp)

end Go.Proofs.Ytipjfdamkpgecaa.PWide
