-- Written by a program of the session (drive.py, over the kit's print.py with contracts by hand). Not trusted: Lean checks it.
import Derived.Test.YtipjfdamkpgecaaPWidex0
import Derived.Test.YtipjfdamkpgecaaPWidex2
import Derived.Test.YtipjfdamkpgecaaHWideLaid
namespace Go.Proofs.Ytipjfdamkpgecaa.PWide
open Go.RowKit Go.Proofs.YtipjfdamkpgecaaW.PrintWords Go.Proofs.YtipjfdamkpgecaaW.PrintLast Go.Proofs.YtipjfdamkpgecaaW.PrintMore
attribute [local go_sem] max2_int min2_int max_two min_two max_three min_three max_four min_four   -- for this text's walks alone
set_option linter.unusedVariables false
set_option linter.unusedSimpArgs false

/-! ### wide_Lay: function 11 -/
def wide_Lay.f (l0 : List (S31)) (a1 : Int) : Option (ByteArray × Bool):=(wide_Room.f l0 a1).bind fun t154=>(if t154=true then ((wide_laid.f l0 a1).bind fun bt155=>(some (bt155.1,true))) else (some ((⟨#[]⟩ : ByteArray),false)))
set_option maxHeartbeats 8000000 in
set_option maxRecDepth 100000 in
theorem wide_Lay.calls (A0 : Option Addr) (c0 : Nat) (l0 : List (S31)) (a1 : Int) (r1 : ByteArray) (r2 : Bool) (w : World) (hr0 : Kd.C k31 w A0 l0.length l0) (hc0 : l0.length≤c0) (h : wide_Lay.f l0 a1=some (r1,r2)) :
  Calls Try.prog 11 #[.slice A0 l0.length c0,.int .i64 a1] w fun e w'=>e=.returned (.tuple #[.string r1,.bool r2])∧Below w.heap.size w w':=by
 have HR0:=qM hr0
 have HC0:=qM hc0
 clear hr0 hc0
 have HB:=qM (Below.refl w.heap.size w)
 have H : ((wide_Room.f l0 a1).bind fun t154=>(if t154=true then ((wide_laid.f l0 a1).bind fun bt155=>(some (bt155.1,true))) else (some ((⟨#[]⟩ : ByteArray),false))))=some (r1,r2):=h
 clear h
 replace H:=Option.bind_eq_some_iff.mp H
 obtain ⟨t154,A30,H⟩:=H
 replace H : (if t154=true then ((wide_laid.f l0 a1).bind fun bt155=>(some (bt155.1,true))) else (some ((⟨#[]⟩ : ByteArray),false)))=some (r1,r2):=H
 have A3:=qM A30
 clear A30
 by_cases c4 : t154=true
 ·subst c4
  have H1 : ((wide_laid.f l0 a1).bind fun bt155=>(some (bt155.1,true)))=some (r1,r2):=by rw [if_pos rfl] at H;exact H
  clear H
  have H:=H1
  clear H1
  replace H:=Option.bind_eq_some_iff.mp H
  obtain ⟨⟨t155,t156⟩,A50,H⟩:=H
  replace H : (some (t155,true))=some (r1,r2):=H
  have A5:=qM A50
  clear A50
  simp only [Option.some.injEq,Prod.mk.injEq] at H
  obtain ⟨rfl,rfl⟩:=H
  go_enter Try.func11,Try.ntmps11
  go_wp2_with (first|((with_reducible refine gate_callee (f:=14) rfl ?_);refine goesL_ (some 10) rfl rfl Try.func14 (by kernel_rfl) rfl #[.slice A0 l0.length c0,.int .i64 a1] rfl (by (try simp only [List.map_toArray,List.map_cons,List.map_nil]);first|done|rfl|(simp only [List.length_drop,List.length_take];rfl)) ?_;(with_reducible refine (wide_Room.calls _ _ l0 a1 true _ ?side1 ?side2 A3.out).mono ?_);(case side1=>repeat (first|exact HR0.out|(with_reducible first|apply qO|apply qP|apply qQ)));(case side2=>exact HC0.out);(try clear A3); rintro e w6 ⟨rfl,hb⟩;refine ⟨_,rfl,?_⟩;have n0_:=qM (below_step (by repeat first|exact HB.out|apply qJ|apply qK|apply qL) hb);clear HB;have HB:=n0_;clear n0_;(try clear hb);(try clear hb2);(try clear hk);(try clear hi))|((with_reducible refine gate_callee (f:=20) rfl ?_);refine goesL_ (some 15) rfl rfl Try.func20 (by kernel_rfl) rfl #[.slice A0 l0.length c0,.int .i64 a1] rfl (by (try simp only [List.map_toArray,List.map_cons,List.map_nil]);first|done|rfl|(simp only [List.length_drop,List.length_take];rfl)) ?_;(with_reducible refine (wide_laid.calls _ _ l0 a1 t155 t156 _ ?side1 ?side2 A5.out).mono ?_);(case side1=>repeat (first|exact (Kd.C_below HR0.out HB.out)|(with_reducible first|apply qO|apply qP|apply qQ)));(case side2=>exact HC0.out);(try clear A5); rintro e w7 ⟨v157,rfl,ho0,hb⟩;refine ⟨_,rfl,?_⟩;have n0_:=qM (Kd.R_lower ho0 (below_size (by repeat first|exact HB.out|apply qJ|apply qK|apply qL)));have n1_:=qM (below_step (by repeat first|exact HB.out|apply qJ|apply qK|apply qL) hb);clear HB;have HO158:=n0_;have HB:=n1_;clear n0_ n1_;(try clear hb);(try clear hb2);(try clear hk);(try clear hi);(try clear ho0)))
  go_ret2
  exact ⟨by first|rfl|(simp [errW_none,errW_some] <;> rfl)|(simp [*,errW_none,errW_some] <;> rfl),by repeat (first|(with_reducible first|exact HB.out|apply qJ|apply qK|apply qL)|exact HB.out)⟩
 ·replace c4:=Bool.eq_false_iff.mpr c4
  subst c4
  have H1 : (some ((⟨#[]⟩ : ByteArray),false))=some (r1,r2):=by rw [if_neg (show ¬ (false=true) by decide)] at H;exact H
  clear H
  have H:=H1
  clear H1
  simp only [Option.some.injEq,Prod.mk.injEq] at H
  obtain ⟨rfl,rfl⟩:=H
  go_enter Try.func11,Try.ntmps11
  go_wp2_with (first|((with_reducible refine gate_callee (f:=14) rfl ?_);refine goesL_ (some 10) rfl rfl Try.func14 (by kernel_rfl) rfl #[.slice A0 l0.length c0,.int .i64 a1] rfl (by (try simp only [List.map_toArray,List.map_cons,List.map_nil]);first|done|rfl|(simp only [List.length_drop,List.length_take];rfl)) ?_;(with_reducible refine (wide_Room.calls _ _ l0 a1 false _ ?side1 ?side2 A3.out).mono ?_);(case side1=>repeat (first|exact HR0.out|(with_reducible first|apply qO|apply qP|apply qQ)));(case side2=>exact HC0.out);(try clear A3); rintro e w8 ⟨rfl,hb⟩;refine ⟨_,rfl,?_⟩;have n0_:=qM (below_step (by repeat first|exact HB.out|apply qJ|apply qK|apply qL) hb);clear HB;have HB:=n0_;clear n0_;(try clear hb);(try clear hb2);(try clear hk);(try clear hi)))
  go_ret2
  exact ⟨by first|rfl|(simp [errW_none,errW_some] <;> rfl)|(simp [*,errW_none,errW_some] <;> rfl),by repeat (first|(with_reducible first|exact HB.out|apply qJ|apply qK|apply qL)|exact HB.out)⟩

/-! ### wide_Col: function 15 -/
def wide_Col.f (l0 : List (S31)) (a1 : Int) (a2 : Int) : Option (Int):=(wide_Room.f l0 a1).bind fun t159=>(if t159=true then (if a2 < 0 then (some (-1)) else (if a2 > (l0.length : Int) then (some (-1)) else ((wide_laid.f l0 a1).bind fun bt160=>(if 0≤a2 then (if a2 < (bt160.2.length : Int) then (some (rd bt160.2 a2)) else (none)) else (none))))) else (some (-1)))
set_option maxHeartbeats 8000000 in
set_option maxRecDepth 100000 in
theorem wide_Col.calls (A0 : Option Addr) (c0 : Nat) (l0 : List (S31)) (a1 : Int) (a2 : Int) (r : Int) (w : World) (hr0 : Kd.C k31 w A0 l0.length l0) (hc0 : l0.length≤c0) (h : wide_Col.f l0 a1 a2=some r) :
  Calls Try.prog 15 #[.slice A0 l0.length c0,.int .i64 a1,.int .i64 a2] w fun e w'=>e=.returned (.int .i64 r)∧Below w.heap.size w w':=by
 have HR0:=qM hr0
 have HC0:=qM hc0
 clear hr0 hc0
 have HB:=qM (Below.refl w.heap.size w)
 have H : ((wide_Room.f l0 a1).bind fun t159=>(if t159=true then (if a2 < 0 then (some (-1)) else (if a2 > (l0.length : Int) then (some (-1)) else ((wide_laid.f l0 a1).bind fun bt160=>(if 0≤a2 then (if a2 < (bt160.2.length : Int) then (some (rd bt160.2 a2)) else (none)) else (none))))) else (some (-1))))=some r:=h
 clear h
 replace H:=Option.bind_eq_some_iff.mp H
 obtain ⟨t159,A40,H⟩:=H
 replace H : (if t159=true then (if a2 < 0 then (some (-1)) else (if a2 > (l0.length : Int) then (some (-1)) else ((wide_laid.f l0 a1).bind fun bt160=>(if 0≤a2 then (if a2 < (bt160.2.length : Int) then (some (rd bt160.2 a2)) else (none)) else (none))))) else (some (-1)))=some r:=H
 have A4:=qM A40
 clear A40
 by_cases c5 : t159=true
 ·subst c5
  have H1 : (if a2 < 0 then (some (-1)) else (if a2 > (l0.length : Int) then (some (-1)) else ((wide_laid.f l0 a1).bind fun bt160=>(if 0≤a2 then (if a2 < (bt160.2.length : Int) then (some (rd bt160.2 a2)) else (none)) else (none)))))=some r:=by rw [if_pos rfl] at H;exact H
  clear H
  have H:=H1
  clear H1
  by_cases c6 : a2 < 0
  ·rw [if_pos c6] at H
   have c6b0 : decide (a2 < 0)=true:=decide_eq_true c6
   clear c6
   obtain rfl:=Option.some.inj H
   go_enter Try.func15,Try.ntmps15
   go_wp2_with (first|((with_reducible refine gate_callee (f:=14) rfl ?_);refine goesL_ (some 11) rfl rfl Try.func14 (by kernel_rfl) rfl #[.slice A0 l0.length c0,.int .i64 a1] rfl (by (try simp only [List.map_toArray,List.map_cons,List.map_nil]);first|done|rfl|(simp only [List.length_drop,List.length_take];rfl)) ?_;(with_reducible refine (wide_Room.calls _ _ l0 a1 true _ ?side1 ?side2 A4.out).mono ?_);(case side1=>repeat (first|exact HR0.out|(with_reducible first|apply qO|apply qP|apply qQ)));(case side2=>exact HC0.out);(try clear A4); rintro e w7 ⟨rfl,hb⟩;refine ⟨_,rfl,?_⟩;have n0_:=qM (below_step (by repeat first|exact HB.out|apply qJ|apply qK|apply qL) hb);clear HB;have HB:=n0_;clear n0_;(try clear hb);(try clear hb2);(try clear hk);(try clear hi)))
   go_ret
   exact ⟨by first|rfl|(simp [errW_none,errW_some] <;> rfl)|(simp [*,errW_none,errW_some] <;> rfl),by repeat (first|(with_reducible first|exact HB.out|apply qJ|apply qK|apply qL)|exact HB.out)⟩
  ·rw [if_neg c6] at H
   have c6b0 : decide (a2 < 0)=false:=decide_eq_false c6
   clear c6
   by_cases c8 : a2 > (l0.length : Int)
   ·rw [if_pos c8] at H
    have c8b0 : decide ((l0.length : Int) < a2)=true:=decide_eq_true c8
    clear c8
    obtain rfl:=Option.some.inj H
    go_enter Try.func15,Try.ntmps15
    go_wp2_with (first|((with_reducible refine gate_callee (f:=14) rfl ?_);refine goesL_ (some 11) rfl rfl Try.func14 (by kernel_rfl) rfl #[.slice A0 l0.length c0,.int .i64 a1] rfl (by (try simp only [List.map_toArray,List.map_cons,List.map_nil]);first|done|rfl|(simp only [List.length_drop,List.length_take];rfl)) ?_;(with_reducible refine (wide_Room.calls _ _ l0 a1 true _ ?side1 ?side2 A4.out).mono ?_);(case side1=>repeat (first|exact HR0.out|(with_reducible first|apply qO|apply qP|apply qQ)));(case side2=>exact HC0.out);(try clear A4); rintro e w9 ⟨rfl,hb⟩;refine ⟨_,rfl,?_⟩;have n0_:=qM (below_step (by repeat first|exact HB.out|apply qJ|apply qK|apply qL) hb);clear HB;have HB:=n0_;clear n0_;(try clear hb);(try clear hb2);(try clear hk);(try clear hi)))
    go_ret
    exact ⟨by first|rfl|(simp [errW_none,errW_some] <;> rfl)|(simp [*,errW_none,errW_some] <;> rfl),by repeat (first|(with_reducible first|exact HB.out|apply qJ|apply qK|apply qL)|exact HB.out)⟩
   ·rw [if_neg c8] at H
    have c8b0 : decide ((l0.length : Int) < a2)=false:=decide_eq_false c8
    clear c8
    replace H:=Option.bind_eq_some_iff.mp H
    obtain ⟨⟨t160,t161⟩,A100,H⟩:=H
    replace H : (if 0≤a2 then (if a2 < (t161.length : Int) then (some (rd t161 a2)) else (none)) else (none))=some r:=H
    have A10:=qM A100
    clear A100
    by_cases c11 : 0≤a2
    ·rw [if_pos c11] at H
     have c11b0 : decide (0≤a2)=true:=decide_eq_true c11
     clear c11
     by_cases c12 : a2 < (t161.length : Int)
     ·rw [if_pos c12] at H
      have c12b0 : decide (a2 < (t161.length : Int))=true:=decide_eq_true c12
      clear c12
      obtain rfl:=Option.some.inj H
      go_enter Try.func15,Try.ntmps15
      go_wp2_with (first|((with_reducible refine gate_callee (f:=14) rfl ?_);refine goesL_ (some 11) rfl rfl Try.func14 (by kernel_rfl) rfl #[.slice A0 l0.length c0,.int .i64 a1] rfl (by (try simp only [List.map_toArray,List.map_cons,List.map_nil]);first|done|rfl|(simp only [List.length_drop,List.length_take];rfl)) ?_;(with_reducible refine (wide_Room.calls _ _ l0 a1 true _ ?side1 ?side2 A4.out).mono ?_);(case side1=>repeat (first|exact HR0.out|(with_reducible first|apply qO|apply qP|apply qQ)));(case side2=>exact HC0.out);(try clear A4); rintro e w13 ⟨rfl,hb⟩;refine ⟨_,rfl,?_⟩;have n0_:=qM (below_step (by repeat first|exact HB.out|apply qJ|apply qK|apply qL) hb);clear HB;have HB:=n0_;clear n0_;(try clear hb);(try clear hb2);(try clear hk);(try clear hi))|((with_reducible refine gate_callee (f:=20) rfl ?_);refine goesL_ (some 26) rfl rfl Try.func20 (by kernel_rfl) rfl #[.slice A0 l0.length c0,.int .i64 a1] rfl (by (try simp only [List.map_toArray,List.map_cons,List.map_nil]);first|done|rfl|(simp only [List.length_drop,List.length_take];rfl)) ?_;(with_reducible refine (wide_laid.calls _ _ l0 a1 t160 t161 _ ?side1 ?side2 A10.out).mono ?_);(case side1=>repeat (first|exact (Kd.C_below HR0.out HB.out)|(with_reducible first|apply qO|apply qP|apply qQ)));(case side2=>exact HC0.out);(try clear A10); rintro e w14 ⟨v162,rfl,ho0,hb⟩;refine ⟨_,rfl,?_⟩;have n0_:=qM (Kd.R_lower ho0 (below_size (by repeat first|exact HB.out|apply qJ|apply qK|apply qL)));have n1_:=qM (below_step (by repeat first|exact HB.out|apply qJ|apply qK|apply qL) hb);clear HB;have HO163:=n0_;have HB:=n1_;clear n0_ n1_;(try clear hb);(try clear hb2);(try clear hk);(try clear hi);(try clear ho0);obtain ⟨Ao15,co15,eo15⟩:=Kd.R_slice HO163.out;subst eo15;have p164 : 0≤(a2 : Int):=qN (by assumption);have q164 : a2 < (t161.length : Int):=qN (by assumption);obtain ⟨ad164,e164,hx164_0⟩:=Kd.at_int (Kd.R_reads' HO163.out).2.2 a2 p164 q164;cases e164;replace p164:=eq_true p164;replace q164:=eq_true q164))
      go_ret
      exact ⟨by first|rfl|(simp [errW_none,errW_some] <;> rfl)|(simp [*,errW_none,errW_some] <;> rfl),by repeat (first|(with_reducible first|exact HB.out|apply qJ|apply qK|apply qL)|exact HB.out)⟩
     ·rw [if_neg c12] at H
      exact absurd H (by simp)
    ·rw [if_neg c11] at H
     exact absurd H (by simp)
 ·replace c5:=Bool.eq_false_iff.mpr c5
  subst c5
  have H1 : (some (-1))=some r:=by rw [if_neg (show ¬ (false=true) by decide)] at H;exact H
  clear H
  have H:=H1
  clear H1
  obtain rfl:=Option.some.inj H
  go_enter Try.func15,Try.ntmps15
  go_wp2_with (first|((with_reducible refine gate_callee (f:=14) rfl ?_);refine goesL_ (some 11) rfl rfl Try.func14 (by kernel_rfl) rfl #[.slice A0 l0.length c0,.int .i64 a1] rfl (by (try simp only [List.map_toArray,List.map_cons,List.map_nil]);first|done|rfl|(simp only [List.length_drop,List.length_take];rfl)) ?_;(with_reducible refine (wide_Room.calls _ _ l0 a1 false _ ?side1 ?side2 A4.out).mono ?_);(case side1=>repeat (first|exact HR0.out|(with_reducible first|apply qO|apply qP|apply qQ)));(case side2=>exact HC0.out);(try clear A4); rintro e w16 ⟨rfl,hb⟩;refine ⟨_,rfl,?_⟩;have n0_:=qM (below_step (by repeat first|exact HB.out|apply qJ|apply qK|apply qL) hb);clear HB;have HB:=n0_;clear n0_;(try clear hb);(try clear hb2);(try clear hk);(try clear hi)))
  go_ret
  exact ⟨by first|rfl|(simp [errW_none,errW_some] <;> rfl)|(simp [*,errW_none,errW_some] <;> rfl),by repeat (first|(with_reducible first|exact HB.out|apply qJ|apply qK|apply qL)|exact HB.out)⟩

/-! ### copperplatelaw18_Pair: function 19 -/
def copperplatelaw18_Pair.f  : Option ((List (S31))):=some (([(⟨6,(⟨#[]⟩ : ByteArray)⟩ : S31),(⟨0,(⟨#[40]⟩ : ByteArray)⟩ : S31),(⟨8,(⟨#[]⟩ : ByteArray)⟩ : S31),(⟨3,(⟨#[]⟩ : ByteArray)⟩ : S31),(⟨0,(⟨#[97]⟩ : ByteArray)⟩ : S31),(⟨4,(⟨#[]⟩ : ByteArray)⟩ : S31),(⟨0,(⟨#[98]⟩ : ByteArray)⟩ : S31),(⟨9,(⟨#[]⟩ : ByteArray)⟩ : S31),(⟨3,(⟨#[]⟩ : ByteArray)⟩ : S31),(⟨0,(⟨#[41]⟩ : ByteArray)⟩ : S31),(⟨7,(⟨#[]⟩ : ByteArray)⟩ : S31)] : List (S31)))
set_option maxHeartbeats 8000000 in
set_option maxRecDepth 100000 in
theorem copperplatelaw18_Pair.calls  (r : List (S31)) (w : World) (h : copperplatelaw18_Pair.f =some r) :
  Calls Try.prog 19 #[] w fun e w'=>∃ v0_ : Value,e=.returned (v0_)∧Kd.R k31 31 w' w.heap.size (fun _=>True) v0_ r∧Below w.heap.size w w':=by
 have hu31:=Try.underlying31
 have HB:=qM (Below.refl w.heap.size w)
 have H : (some (([(⟨6,(⟨#[]⟩ : ByteArray)⟩ : S31),(⟨0,(⟨#[40]⟩ : ByteArray)⟩ : S31),(⟨8,(⟨#[]⟩ : ByteArray)⟩ : S31),(⟨3,(⟨#[]⟩ : ByteArray)⟩ : S31),(⟨0,(⟨#[97]⟩ : ByteArray)⟩ : S31),(⟨4,(⟨#[]⟩ : ByteArray)⟩ : S31),(⟨0,(⟨#[98]⟩ : ByteArray)⟩ : S31),(⟨9,(⟨#[]⟩ : ByteArray)⟩ : S31),(⟨3,(⟨#[]⟩ : ByteArray)⟩ : S31),(⟨0,(⟨#[41]⟩ : ByteArray)⟩ : S31),(⟨7,(⟨#[]⟩ : ByteArray)⟩ : S31)] : List (S31))))=some r:=h
 clear h
 obtain ⟨y165,hy165⟩ : ∃ y_ : List (S31),y_=(([(⟨6,(⟨#[]⟩ : ByteArray)⟩ : S31),(⟨0,(⟨#[40]⟩ : ByteArray)⟩ : S31),(⟨8,(⟨#[]⟩ : ByteArray)⟩ : S31),(⟨3,(⟨#[]⟩ : ByteArray)⟩ : S31),(⟨0,(⟨#[97]⟩ : ByteArray)⟩ : S31),(⟨4,(⟨#[]⟩ : ByteArray)⟩ : S31),(⟨0,(⟨#[98]⟩ : ByteArray)⟩ : S31),(⟨9,(⟨#[]⟩ : ByteArray)⟩ : S31),(⟨3,(⟨#[]⟩ : ByteArray)⟩ : S31),(⟨0,(⟨#[41]⟩ : ByteArray)⟩ : S31),(⟨7,(⟨#[]⟩ : ByteArray)⟩ : S31)] : List (S31))):=⟨_,rfl⟩
 replace H : (some y165)=some r:=by first|(rw [hy165];with_reducible exact H)|(have H2_:=(Option.bind_some _ _).symm.trans H;rw [hy165];with_reducible exact H2_)|(have H2_:=(Option.bind_some _ _).symm.trans H;with_reducible exact H2_)|with_reducible exact H|(rw [hy165];exact H)|exact H
 have Ny165:=qM hy165
 clear hy165
 obtain rfl:=Option.some.inj H
 go_enter Try.func19,Try.ntmps19
 go_wp2_with (first|((with_reducible refine gate_dst (N:=12) rfl ?_);refine Kd.R_lit k31 _ 31 ?hg (N:=12) ?hd (xs:=([(⟨6,(⟨#[]⟩ : ByteArray)⟩ : S31),(⟨0,(⟨#[40]⟩ : ByteArray)⟩ : S31),(⟨8,(⟨#[]⟩ : ByteArray)⟩ : S31),(⟨3,(⟨#[]⟩ : ByteArray)⟩ : S31),(⟨0,(⟨#[97]⟩ : ByteArray)⟩ : S31),(⟨4,(⟨#[]⟩ : ByteArray)⟩ : S31),(⟨0,(⟨#[98]⟩ : ByteArray)⟩ : S31),(⟨9,(⟨#[]⟩ : ByteArray)⟩ : S31),(⟨3,(⟨#[]⟩ : ByteArray)⟩ : S31),(⟨0,(⟨#[41]⟩ : ByteArray)⟩ : S31),(⟨7,(⟨#[]⟩ : ByteArray)⟩ : S31)] : List (S31))) (inner:=[.int .i64 6,.string (⟨#[]⟩ : ByteArray),.int .i64 0,.string (⟨#[40]⟩ : ByteArray),.int .i64 8,.string (⟨#[]⟩ : ByteArray),.int .i64 3,.string (⟨#[]⟩ : ByteArray),.int .i64 0,.string (⟨#[97]⟩ : ByteArray),.int .i64 4,.string (⟨#[]⟩ : ByteArray),.int .i64 0,.string (⟨#[98]⟩ : ByteArray),.int .i64 9,.string (⟨#[]⟩ : ByteArray),.int .i64 3,.string (⟨#[]⟩ : ByteArray),.int .i64 0,.string (⟨#[41]⟩ : ByteArray),.int .i64 7,.string (⟨#[]⟩ : ByteArray)]) (ok:=fun _=>True) (okp:=fun _=>True) ?hr ?hp (fun _ hk=>hk) trivial (Below.refl _ _) (Nat.le_refl _) (by simp) ?_;(case hd=>rfl);(case hg=>rfl);(case hr=>first|(go_simp;done)|(go_simp;rfl));(case hp=>exact (Reps.c2 (show Kd.M k31 _ _ _ (⟨6,(⟨#[]⟩ : ByteArray)⟩ : S31) [.int .i64 6,.string (⟨#[]⟩ : ByteArray)] from (k31_mkM _ _ _ (⟨6,(⟨#[]⟩ : ByteArray)⟩ : S31) )) (Reps.c2 (show Kd.M k31 _ _ _ (⟨0,(⟨#[40]⟩ : ByteArray)⟩ : S31) [.int .i64 0,.string (⟨#[40]⟩ : ByteArray)] from (k31_mkM _ _ _ (⟨0,(⟨#[40]⟩ : ByteArray)⟩ : S31) )) (Reps.c2 (show Kd.M k31 _ _ _ (⟨8,(⟨#[]⟩ : ByteArray)⟩ : S31) [.int .i64 8,.string (⟨#[]⟩ : ByteArray)] from (k31_mkM _ _ _ (⟨8,(⟨#[]⟩ : ByteArray)⟩ : S31) )) (Reps.c2 (show Kd.M k31 _ _ _ (⟨3,(⟨#[]⟩ : ByteArray)⟩ : S31) [.int .i64 3,.string (⟨#[]⟩ : ByteArray)] from (k31_mkM _ _ _ (⟨3,(⟨#[]⟩ : ByteArray)⟩ : S31) )) (Reps.c2 (show Kd.M k31 _ _ _ (⟨0,(⟨#[97]⟩ : ByteArray)⟩ : S31) [.int .i64 0,.string (⟨#[97]⟩ : ByteArray)] from (k31_mkM _ _ _ (⟨0,(⟨#[97]⟩ : ByteArray)⟩ : S31) )) (Reps.c2 (show Kd.M k31 _ _ _ (⟨4,(⟨#[]⟩ : ByteArray)⟩ : S31) [.int .i64 4,.string (⟨#[]⟩ : ByteArray)] from (k31_mkM _ _ _ (⟨4,(⟨#[]⟩ : ByteArray)⟩ : S31) )) (Reps.c2 (show Kd.M k31 _ _ _ (⟨0,(⟨#[98]⟩ : ByteArray)⟩ : S31) [.int .i64 0,.string (⟨#[98]⟩ : ByteArray)] from (k31_mkM _ _ _ (⟨0,(⟨#[98]⟩ : ByteArray)⟩ : S31) )) (Reps.c2 (show Kd.M k31 _ _ _ (⟨9,(⟨#[]⟩ : ByteArray)⟩ : S31) [.int .i64 9,.string (⟨#[]⟩ : ByteArray)] from (k31_mkM _ _ _ (⟨9,(⟨#[]⟩ : ByteArray)⟩ : S31) )) (Reps.c2 (show Kd.M k31 _ _ _ (⟨3,(⟨#[]⟩ : ByteArray)⟩ : S31) [.int .i64 3,.string (⟨#[]⟩ : ByteArray)] from (k31_mkM _ _ _ (⟨3,(⟨#[]⟩ : ByteArray)⟩ : S31) )) (Reps.c2 (show Kd.M k31 _ _ _ (⟨0,(⟨#[41]⟩ : ByteArray)⟩ : S31) [.int .i64 0,.string (⟨#[41]⟩ : ByteArray)] from (k31_mkM _ _ _ (⟨0,(⟨#[41]⟩ : ByteArray)⟩ : S31) )) (Reps.c2 (show Kd.M k31 _ _ _ (⟨7,(⟨#[]⟩ : ByteArray)⟩ : S31) [.int .i64 7,.string (⟨#[]⟩ : ByteArray)] from (k31_mkM _ _ _ (⟨7,(⟨#[]⟩ : ByteArray)⟩ : S31) )) (Reps.none _ _)))))))))))));intro v166 w1 ho2 hb hg_ hnew_;clear hg_ hnew_;(first|rw [← Ny165.out] at ho2|(simp only [Int.reduceToNat] at ho2;rw [← Ny165.out] at ho2));have n0_:=qM (Kd.R_lower ho2 (below_size (by repeat first|exact HB.out|apply qJ|apply qK|apply qL)));have n1_:=qM (below_step (by repeat first|exact HB.out|apply qJ|apply qK|apply qL) hb);clear HB;have HO167:=n0_;have HB:=n1_;clear n0_ n1_;clear hb ho2))
 go_ret
 exact ⟨_,by first|rfl|(simp [errW_none,errW_some] <;> rfl)|(simp [*,errW_none,errW_some] <;> rfl),by (with_reducible repeat (first|apply qG|apply qH|apply qI));exact HO167.out,by repeat (first|(with_reducible first|exact HB.out|apply qJ|apply qK|apply qL)|exact HB.out)⟩

/-! ### copperplatelaw18_awake_p: function 10 -/
def copperplatelaw18_awake_p.f  : Option (Bool):=(copperplatelaw18_Pair.f).bind fun t168=>((wide_Lay.f t168 6).bind fun bt171=>((copperplatelaw18_Pair.f).bind fun t173=>((wide_Lay.f t173 5).bind fun bt176=>(if bt171.2=true then (if bt171.1.toList=([40,97,44,32,98,41] : List UInt8) then (if bt176.2=true then (if bt176.1.toList=([40,10,32,32,97,10,32,32,98,10,41] : List UInt8) then ((copperplatelaw18_Pair.f).bind fun t178=>((wide_Room.f t178 1).bind fun t181=>(if t181=true then ((copperplatelaw18_Pair.f).bind fun t182=>((wide_Room.f t182 0).bind fun t185=>(if t185=true then (some false) else ((copperplatelaw18_Pair.f).bind fun t186=>((wide_Col.f t186 6 11).bind fun t189=>(if t189=6 then ((copperplatelaw18_Pair.f).bind fun t190=>((wide_Col.f t190 5 4).bind fun t193=>(some (t193 == 2)))) else (some false))))))) else (some false)))) else (some false)) else (some false)) else (some false)) else (some false)))))
set_option maxHeartbeats 8000000 in
set_option maxRecDepth 100000 in
theorem copperplatelaw18_awake_p.calls  (r : Bool) (w : World) (h : copperplatelaw18_awake_p.f =some r) (hT_ : r=true) :
  Calls Try.prog 10 #[] w fun e w'=>e=.returned (.bool r)∧Below w.heap.size w w':=by
 have HT_:=qM hT_
 clear hT_
 have HB:=qM (Below.refl w.heap.size w)
 have H : ((copperplatelaw18_Pair.f).bind fun t168=>((wide_Lay.f t168 6).bind fun bt171=>((copperplatelaw18_Pair.f).bind fun t173=>((wide_Lay.f t173 5).bind fun bt176=>(if bt171.2=true then (if bt171.1.toList=([40,97,44,32,98,41] : List UInt8) then (if bt176.2=true then (if bt176.1.toList=([40,10,32,32,97,10,32,32,98,10,41] : List UInt8) then ((copperplatelaw18_Pair.f).bind fun t178=>((wide_Room.f t178 1).bind fun t181=>(if t181=true then ((copperplatelaw18_Pair.f).bind fun t182=>((wide_Room.f t182 0).bind fun t185=>(if t185=true then (some false) else ((copperplatelaw18_Pair.f).bind fun t186=>((wide_Col.f t186 6 11).bind fun t189=>(if t189=6 then ((copperplatelaw18_Pair.f).bind fun t190=>((wide_Col.f t190 5 4).bind fun t193=>(some (t193 == 2)))) else (some false))))))) else (some false)))) else (some false)) else (some false)) else (some false)) else (some false))))))=some r:=h
 clear h
 replace H:=Option.bind_eq_some_iff.mp H
 obtain ⟨t168,A10,H⟩:=H
 replace H : ((wide_Lay.f t168 6).bind fun bt171=>((copperplatelaw18_Pair.f).bind fun t173=>((wide_Lay.f t173 5).bind fun bt176=>(if bt171.2=true then (if bt171.1.toList=([40,97,44,32,98,41] : List UInt8) then (if bt176.2=true then (if bt176.1.toList=([40,10,32,32,97,10,32,32,98,10,41] : List UInt8) then ((copperplatelaw18_Pair.f).bind fun t178=>((wide_Room.f t178 1).bind fun t181=>(if t181=true then ((copperplatelaw18_Pair.f).bind fun t182=>((wide_Room.f t182 0).bind fun t185=>(if t185=true then (some false) else ((copperplatelaw18_Pair.f).bind fun t186=>((wide_Col.f t186 6 11).bind fun t189=>(if t189=6 then ((copperplatelaw18_Pair.f).bind fun t190=>((wide_Col.f t190 5 4).bind fun t193=>(some (t193 == 2)))) else (some false))))))) else (some false)))) else (some false)) else (some false)) else (some false)) else (some false)))))=some r:=H
 have A1:=qM A10
 clear A10
 replace H:=Option.bind_eq_some_iff.mp H
 obtain ⟨⟨t171,t172⟩,A20,H⟩:=H
 replace H : ((copperplatelaw18_Pair.f).bind fun t173=>((wide_Lay.f t173 5).bind fun bt176=>(if t172=true then (if t171.toList=([40,97,44,32,98,41] : List UInt8) then (if bt176.2=true then (if bt176.1.toList=([40,10,32,32,97,10,32,32,98,10,41] : List UInt8) then ((copperplatelaw18_Pair.f).bind fun t178=>((wide_Room.f t178 1).bind fun t181=>(if t181=true then ((copperplatelaw18_Pair.f).bind fun t182=>((wide_Room.f t182 0).bind fun t185=>(if t185=true then (some false) else ((copperplatelaw18_Pair.f).bind fun t186=>((wide_Col.f t186 6 11).bind fun t189=>(if t189=6 then ((copperplatelaw18_Pair.f).bind fun t190=>((wide_Col.f t190 5 4).bind fun t193=>(some (t193 == 2)))) else (some false))))))) else (some false)))) else (some false)) else (some false)) else (some false)) else (some false))))=some r:=H
 have A2:=qM A20
 clear A20
 replace H:=Option.bind_eq_some_iff.mp H
 obtain ⟨t173,A30,H⟩:=H
 replace H : ((wide_Lay.f t173 5).bind fun bt176=>(if t172=true then (if t171.toList=([40,97,44,32,98,41] : List UInt8) then (if bt176.2=true then (if bt176.1.toList=([40,10,32,32,97,10,32,32,98,10,41] : List UInt8) then ((copperplatelaw18_Pair.f).bind fun t178=>((wide_Room.f t178 1).bind fun t181=>(if t181=true then ((copperplatelaw18_Pair.f).bind fun t182=>((wide_Room.f t182 0).bind fun t185=>(if t185=true then (some false) else ((copperplatelaw18_Pair.f).bind fun t186=>((wide_Col.f t186 6 11).bind fun t189=>(if t189=6 then ((copperplatelaw18_Pair.f).bind fun t190=>((wide_Col.f t190 5 4).bind fun t193=>(some (t193 == 2)))) else (some false))))))) else (some false)))) else (some false)) else (some false)) else (some false)) else (some false)))=some r:=H
 have A3:=qM A30
 clear A30
 replace H:=Option.bind_eq_some_iff.mp H
 obtain ⟨⟨t176,t177⟩,A40,H⟩:=H
 replace H : (if t172=true then (if t171.toList=([40,97,44,32,98,41] : List UInt8) then (if t177=true then (if t176.toList=([40,10,32,32,97,10,32,32,98,10,41] : List UInt8) then ((copperplatelaw18_Pair.f).bind fun t178=>((wide_Room.f t178 1).bind fun t181=>(if t181=true then ((copperplatelaw18_Pair.f).bind fun t182=>((wide_Room.f t182 0).bind fun t185=>(if t185=true then (some false) else ((copperplatelaw18_Pair.f).bind fun t186=>((wide_Col.f t186 6 11).bind fun t189=>(if t189=6 then ((copperplatelaw18_Pair.f).bind fun t190=>((wide_Col.f t190 5 4).bind fun t193=>(some (t193 == 2)))) else (some false))))))) else (some false)))) else (some false)) else (some false)) else (some false)) else (some false))=some r:=H
 have A4:=qM A40
 clear A40
 by_cases c5 : t172=true
 ·subst c5
  have H1 : (if t171.toList=([40,97,44,32,98,41] : List UInt8) then (if t177=true then (if t176.toList=([40,10,32,32,97,10,32,32,98,10,41] : List UInt8) then ((copperplatelaw18_Pair.f).bind fun t178=>((wide_Room.f t178 1).bind fun t181=>(if t181=true then ((copperplatelaw18_Pair.f).bind fun t182=>((wide_Room.f t182 0).bind fun t185=>(if t185=true then (some false) else ((copperplatelaw18_Pair.f).bind fun t186=>((wide_Col.f t186 6 11).bind fun t189=>(if t189=6 then ((copperplatelaw18_Pair.f).bind fun t190=>((wide_Col.f t190 5 4).bind fun t193=>(some (t193 == 2)))) else (some false))))))) else (some false)))) else (some false)) else (some false)) else (some false))=some r:=by rw [if_pos rfl] at H;exact H
  clear H
  have H:=H1
  clear H1
  by_cases c6 : t171.toList=([40,97,44,32,98,41] : List UInt8)
  ·rw [if_pos c6] at H
   have c6b0 : (t171.toList == ([40,97,44,32,98,41] : List UInt8))=true:=beq_iff_eq.mpr c6
   have c6b1 : (t171.toList != ([40,97,44,32,98,41] : List UInt8))=false:=bne_eq_false_iff_eq.mpr c6
   clear c6
   by_cases c7 : t177=true
   ·subst c7
    have H1 : (if t176.toList=([40,10,32,32,97,10,32,32,98,10,41] : List UInt8) then ((copperplatelaw18_Pair.f).bind fun t178=>((wide_Room.f t178 1).bind fun t181=>(if t181=true then ((copperplatelaw18_Pair.f).bind fun t182=>((wide_Room.f t182 0).bind fun t185=>(if t185=true then (some false) else ((copperplatelaw18_Pair.f).bind fun t186=>((wide_Col.f t186 6 11).bind fun t189=>(if t189=6 then ((copperplatelaw18_Pair.f).bind fun t190=>((wide_Col.f t190 5 4).bind fun t193=>(some (t193 == 2)))) else (some false))))))) else (some false)))) else (some false))=some r:=by rw [if_pos rfl] at H;exact H
    clear H
    have H:=H1
    clear H1
    by_cases c8 : t176.toList=([40,10,32,32,97,10,32,32,98,10,41] : List UInt8)
    ·rw [if_pos c8] at H
     have c8b0 : (t176.toList == ([40,10,32,32,97,10,32,32,98,10,41] : List UInt8))=true:=beq_iff_eq.mpr c8
     have c8b1 : (t176.toList != ([40,10,32,32,97,10,32,32,98,10,41] : List UInt8))=false:=bne_eq_false_iff_eq.mpr c8
     clear c8
     replace H:=Option.bind_eq_some_iff.mp H
     obtain ⟨t178,A90,H⟩:=H
     replace H : ((wide_Room.f t178 1).bind fun t181=>(if t181=true then ((copperplatelaw18_Pair.f).bind fun t182=>((wide_Room.f t182 0).bind fun t185=>(if t185=true then (some false) else ((copperplatelaw18_Pair.f).bind fun t186=>((wide_Col.f t186 6 11).bind fun t189=>(if t189=6 then ((copperplatelaw18_Pair.f).bind fun t190=>((wide_Col.f t190 5 4).bind fun t193=>(some (t193 == 2)))) else (some false))))))) else (some false)))=some r:=H
     have A9:=qM A90
     clear A90
     replace H:=Option.bind_eq_some_iff.mp H
     obtain ⟨t181,A100,H⟩:=H
     replace H : (if t181=true then ((copperplatelaw18_Pair.f).bind fun t182=>((wide_Room.f t182 0).bind fun t185=>(if t185=true then (some false) else ((copperplatelaw18_Pair.f).bind fun t186=>((wide_Col.f t186 6 11).bind fun t189=>(if t189=6 then ((copperplatelaw18_Pair.f).bind fun t190=>((wide_Col.f t190 5 4).bind fun t193=>(some (t193 == 2)))) else (some false))))))) else (some false))=some r:=H
     have A10:=qM A100
     clear A100
     by_cases c11 : t181=true
     ·subst c11
      have H1 : ((copperplatelaw18_Pair.f).bind fun t182=>((wide_Room.f t182 0).bind fun t185=>(if t185=true then (some false) else ((copperplatelaw18_Pair.f).bind fun t186=>((wide_Col.f t186 6 11).bind fun t189=>(if t189=6 then ((copperplatelaw18_Pair.f).bind fun t190=>((wide_Col.f t190 5 4).bind fun t193=>(some (t193 == 2)))) else (some false)))))))=some r:=by rw [if_pos rfl] at H;exact H
      clear H
      have H:=H1
      clear H1
      replace H:=Option.bind_eq_some_iff.mp H
      obtain ⟨t182,A120,H⟩:=H
      replace H : ((wide_Room.f t182 0).bind fun t185=>(if t185=true then (some false) else ((copperplatelaw18_Pair.f).bind fun t186=>((wide_Col.f t186 6 11).bind fun t189=>(if t189=6 then ((copperplatelaw18_Pair.f).bind fun t190=>((wide_Col.f t190 5 4).bind fun t193=>(some (t193 == 2)))) else (some false))))))=some r:=H
      have A12:=qM A120
      clear A120
      replace H:=Option.bind_eq_some_iff.mp H
      obtain ⟨t185,A130,H⟩:=H
      replace H : (if t185=true then (some false) else ((copperplatelaw18_Pair.f).bind fun t186=>((wide_Col.f t186 6 11).bind fun t189=>(if t189=6 then ((copperplatelaw18_Pair.f).bind fun t190=>((wide_Col.f t190 5 4).bind fun t193=>(some (t193 == 2)))) else (some false)))))=some r:=H
      have A13:=qM A130
      clear A130
      by_cases c14 : t185=true
      ·subst c14
       have H1 : (some false)=some r:=by rw [if_pos rfl] at H;exact H
       clear H
       have H:=H1
       clear H1
       exact absurd H (by have h_:=HT_.out;subst h_;decide)
      ·replace c14:=Bool.eq_false_iff.mpr c14
       subst c14
       have H1 : ((copperplatelaw18_Pair.f).bind fun t186=>((wide_Col.f t186 6 11).bind fun t189=>(if t189=6 then ((copperplatelaw18_Pair.f).bind fun t190=>((wide_Col.f t190 5 4).bind fun t193=>(some (t193 == 2)))) else (some false))))=some r:=by rw [if_neg (show ¬ (false=true) by decide)] at H;exact H
       clear H
       have H:=H1
       clear H1
       replace H:=Option.bind_eq_some_iff.mp H
       obtain ⟨t186,A150,H⟩:=H
       replace H : ((wide_Col.f t186 6 11).bind fun t189=>(if t189=6 then ((copperplatelaw18_Pair.f).bind fun t190=>((wide_Col.f t190 5 4).bind fun t193=>(some (t193 == 2)))) else (some false)))=some r:=H
       have A15:=qM A150
       clear A150
       replace H:=Option.bind_eq_some_iff.mp H
       obtain ⟨t189,A160,H⟩:=H
       replace H : (if t189=6 then ((copperplatelaw18_Pair.f).bind fun t190=>((wide_Col.f t190 5 4).bind fun t193=>(some (t193 == 2)))) else (some false))=some r:=H
       have A16:=qM A160
       clear A160
       by_cases c17 : t189=6
       ·rw [if_pos c17] at H
        have c17b0 : (t189 == 6)=true:=beq_iff_eq.mpr c17
        have c17b1 : (t189 != 6)=false:=bne_eq_false_iff_eq.mpr c17
        clear c17
        replace H:=Option.bind_eq_some_iff.mp H
        obtain ⟨t190,A180,H⟩:=H
        replace H : ((wide_Col.f t190 5 4).bind fun t193=>(some (t193 == 2)))=some r:=H
        have A18:=qM A180
        clear A180
        replace H:=Option.bind_eq_some_iff.mp H
        obtain ⟨t193,A190,H⟩:=H
        replace H : (some (t193 == 2))=some r:=H
        have A19:=qM A190
        clear A190
        obtain rfl:=Option.some.inj H
        go_enter Try.func10,Try.ntmps10
        go_wp2_with (first|((with_reducible refine gate_callee (f:=19) rfl ?_);refine goesL_ (some 6) rfl rfl Try.func19 (by kernel_rfl) rfl #[] rfl (by (try simp only [List.map_toArray,List.map_cons,List.map_nil]);first|done|rfl|(simp only [List.length_drop,List.length_take];rfl)) ?_;(with_reducible refine (copperplatelaw18_Pair.calls  t168 _ A1.out).mono ?_);(try clear A1); rintro e w20 ⟨v169,rfl,ho0,hb⟩;refine ⟨_,rfl,?_⟩;have n0_:=qM (Kd.R_lower ho0 (below_size (by repeat first|exact HB.out|apply qJ|apply qK|apply qL)));have n1_:=qM (below_step (by repeat first|exact HB.out|apply qJ|apply qK|apply qL) hb);clear HB;have HO170:=n0_;have HB:=n1_;clear n0_ n1_;(try clear hb);(try clear hb2);(try clear hk);(try clear hi);(try clear ho0);obtain ⟨Ao21,co21,eo21⟩:=Kd.R_slice HO170.out;subst eo21)|((with_reducible refine gate_callee (f:=11) rfl ?_);refine goesL_ (some 7) rfl rfl Try.func11 (by kernel_rfl) rfl #[.slice Ao21 t168.length co21,.int .i64 6] rfl (by (try simp only [List.map_toArray,List.map_cons,List.map_nil]);first|done|rfl|(simp only [List.length_drop,List.length_take];rfl)) ?_;(with_reducible refine (wide_Lay.calls _ _ t168 6 t171 true _ ?side1 ?side2 A2.out).mono ?_);(case side1=>repeat (first|exact (Kd.R_reads' HO170.out).2.2|(with_reducible first|apply qO|apply qP|apply qQ)));(case side2=>exact (Kd.R_reads' HO170.out).2.1);(try clear A2); rintro e w22 ⟨rfl,hb⟩;refine ⟨_,rfl,?_⟩;have n0_:=qM (Kd.R_below (by (with_reducible repeat (first|apply qG|apply qH|apply qI));exact HO170.out) hb);have n1_:=qM (below_step (by repeat first|exact HB.out|apply qJ|apply qK|apply qL) hb);clear HO170;clear HB;have HO170:=n0_;have HB:=n1_;clear n0_ n1_;(try clear hb);(try clear hb2);(try clear hk);(try clear hi))|((with_reducible refine gate_callee (f:=19) rfl ?_);refine goesL_ (some 11) rfl rfl Try.func19 (by kernel_rfl) rfl #[] rfl (by (try simp only [List.map_toArray,List.map_cons,List.map_nil]);first|done|rfl|(simp only [List.length_drop,List.length_take];rfl)) ?_;(with_reducible refine (copperplatelaw18_Pair.calls  t173 _ A3.out).mono ?_);(try clear A3); rintro e w23 ⟨v174,rfl,ho0,hb⟩;refine ⟨_,rfl,?_⟩;have n0_:=qM (Kd.R_elder' (by (with_reducible repeat (first|apply qG|apply qH|apply qI));exact HO170.out) (Kd.R_base ho0) hb);have n1_:=qM (Kd.R_lower (Kd.R_new' ho0 (Kd.R_lt (by (with_reducible repeat (first|apply qG|apply qH|apply qI));exact HO170.out))) (below_size (by repeat first|exact HB.out|apply qJ|apply qK|apply qL)));have n2_:=qM (below_step (by repeat first|exact HB.out|apply qJ|apply qK|apply qL) hb);clear HO170;clear HB;have HO170:=n0_;have HO175:=n1_;have HB:=n2_;clear n0_ n1_ n2_;(try clear hb);(try clear hb2);(try clear hk);(try clear hi);(try clear ho0);obtain ⟨Ao24,co24,eo24⟩:=Kd.R_slice HO175.out;subst eo24)|((with_reducible refine gate_callee (f:=11) rfl ?_);refine goesL_ (some 12) rfl rfl Try.func11 (by kernel_rfl) rfl #[.slice Ao24 t173.length co24,.int .i64 5] rfl (by (try simp only [List.map_toArray,List.map_cons,List.map_nil]);first|done|rfl|(simp only [List.length_drop,List.length_take];rfl)) ?_;(with_reducible refine (wide_Lay.calls _ _ t173 5 t176 true _ ?side1 ?side2 A4.out).mono ?_);(case side1=>repeat (first|exact (Kd.R_reads' HO175.out).2.2|(with_reducible first|apply qO|apply qP|apply qQ)));(case side2=>exact (Kd.R_reads' HO175.out).2.1);(try clear A4); rintro e w25 ⟨rfl,hb⟩;refine ⟨_,rfl,?_⟩;have n0_:=qM (Kd.R_below (by (with_reducible repeat (first|apply qG|apply qH|apply qI));exact HO170.out) hb);have n1_:=qM (Kd.R_below (by (with_reducible repeat (first|apply qG|apply qH|apply qI));exact HO175.out) hb);have n2_:=qM (below_step (by repeat first|exact HB.out|apply qJ|apply qK|apply qL) hb);clear HO170;clear HO175;clear HB;have HO170:=n0_;have HO175:=n1_;have HB:=n2_;clear n0_ n1_ n2_;(try clear hb);(try clear hb2);(try clear hk);(try clear hi))|(go_at_call 19;(with_reducible refine (copperplatelaw18_Pair.calls  t178 _ A9.out).mono ?_);(try clear A9); rintro e w26 ⟨v179,rfl,ho0,hb⟩;have n0_:=qM (Kd.R_elder' (by (with_reducible repeat (first|apply qG|apply qH|apply qI));exact HO170.out) (Kd.R_base ho0) hb);have n1_:=qM (Kd.R_elder' (by (with_reducible repeat (first|apply qG|apply qH|apply qI));exact HO175.out) (Kd.R_base ho0) hb);have n2_:=qM (Kd.R_lower (Kd.R_new' (Kd.R_new' ho0 (Kd.R_lt (by (with_reducible repeat (first|apply qG|apply qH|apply qI));exact HO170.out))) (Kd.R_lt (by (with_reducible repeat (first|apply qG|apply qH|apply qI));exact HO175.out))) (below_size (by repeat first|exact HB.out|apply qJ|apply qK|apply qL)));have n3_:=qM (below_step (by repeat first|exact HB.out|apply qJ|apply qK|apply qL) hb);clear HO170;clear HO175;clear HB;have HO170:=n0_;have HO175:=n1_;have HO180:=n2_;have HB:=n3_;clear n0_ n1_ n2_ n3_;(try clear hb);(try clear hb2);(try clear hk);(try clear hi);(try clear ho0);obtain ⟨Ao27,co27,eo27⟩:=Kd.R_slice HO180.out;subst eo27)|(go_at_call 14;(with_reducible refine (wide_Room.calls _ _ t178 1 true _ ?side1 ?side2 A10.out).mono ?_);(case side1=>repeat (first|exact (Kd.R_reads' HO180.out).2.2|(with_reducible first|apply qO|apply qP|apply qQ)));(case side2=>exact (Kd.R_reads' HO180.out).2.1);(try clear A10); rintro e w28 ⟨rfl,hb⟩;have n0_:=qM (Kd.R_below (by (with_reducible repeat (first|apply qG|apply qH|apply qI));exact HO170.out) hb);have n1_:=qM (Kd.R_below (by (with_reducible repeat (first|apply qG|apply qH|apply qI));exact HO175.out) hb);have n2_:=qM (Kd.R_below (by (with_reducible repeat (first|apply qG|apply qH|apply qI));exact HO180.out) hb);have n3_:=qM (below_step (by repeat first|exact HB.out|apply qJ|apply qK|apply qL) hb);clear HO170;clear HO175;clear HO180;clear HB;have HO170:=n0_;have HO175:=n1_;have HO180:=n2_;have HB:=n3_;clear n0_ n1_ n2_ n3_;(try clear hb);(try clear hb2);(try clear hk);(try clear hi))|(go_at_call 19;(with_reducible refine (copperplatelaw18_Pair.calls  t182 _ A12.out).mono ?_);(try clear A12); rintro e w29 ⟨v183,rfl,ho0,hb⟩;have n0_:=qM (Kd.R_elder' (by (with_reducible repeat (first|apply qG|apply qH|apply qI));exact HO170.out) (Kd.R_base ho0) hb);have n1_:=qM (Kd.R_elder' (by (with_reducible repeat (first|apply qG|apply qH|apply qI));exact HO175.out) (Kd.R_base ho0) hb);have n2_:=qM (Kd.R_elder' (by (with_reducible repeat (first|apply qG|apply qH|apply qI));exact HO180.out) (Kd.R_base ho0) hb);have n3_:=qM (Kd.R_lower (Kd.R_new' (Kd.R_new' (Kd.R_new' ho0 (Kd.R_lt (by (with_reducible repeat (first|apply qG|apply qH|apply qI));exact HO170.out))) (Kd.R_lt (by (with_reducible repeat (first|apply qG|apply qH|apply qI));exact HO175.out))) (Kd.R_lt (by (with_reducible repeat (first|apply qG|apply qH|apply qI));exact HO180.out))) (below_size (by repeat first|exact HB.out|apply qJ|apply qK|apply qL)));have n4_:=qM (below_step (by repeat first|exact HB.out|apply qJ|apply qK|apply qL) hb);clear HO170;clear HO175;clear HO180;clear HB;have HO170:=n0_;have HO175:=n1_;have HO180:=n2_;have HO184:=n3_;have HB:=n4_;clear n0_ n1_ n2_ n3_ n4_;(try clear hb);(try clear hb2);(try clear hk);(try clear hi);(try clear ho0);obtain ⟨Ao30,co30,eo30⟩:=Kd.R_slice HO184.out;subst eo30)|(go_at_call 14;(with_reducible refine (wide_Room.calls _ _ t182 0 false _ ?side1 ?side2 A13.out).mono ?_);(case side1=>repeat (first|exact (Kd.R_reads' HO184.out).2.2|(with_reducible first|apply qO|apply qP|apply qQ)));(case side2=>exact (Kd.R_reads' HO184.out).2.1);(try clear A13); rintro e w31 ⟨rfl,hb⟩;have n0_:=qM (Kd.R_below (by (with_reducible repeat (first|apply qG|apply qH|apply qI));exact HO170.out) hb);have n1_:=qM (Kd.R_below (by (with_reducible repeat (first|apply qG|apply qH|apply qI));exact HO175.out) hb);have n2_:=qM (Kd.R_below (by (with_reducible repeat (first|apply qG|apply qH|apply qI));exact HO180.out) hb);have n3_:=qM (Kd.R_below (by (with_reducible repeat (first|apply qG|apply qH|apply qI));exact HO184.out) hb);have n4_:=qM (below_step (by repeat first|exact HB.out|apply qJ|apply qK|apply qL) hb);clear HO170;clear HO175;clear HO180;clear HO184;clear HB;have HO170:=n0_;have HO175:=n1_;have HO180:=n2_;have HO184:=n3_;have HB:=n4_;clear n0_ n1_ n2_ n3_ n4_;(try clear hb);(try clear hb2);(try clear hk);(try clear hi))|(go_at_call 19;(with_reducible refine (copperplatelaw18_Pair.calls  t186 _ A15.out).mono ?_);(try clear A15); rintro e w32 ⟨v187,rfl,ho0,hb⟩;have n0_:=qM (Kd.R_elder' (by (with_reducible repeat (first|apply qG|apply qH|apply qI));exact HO170.out) (Kd.R_base ho0) hb);have n1_:=qM (Kd.R_elder' (by (with_reducible repeat (first|apply qG|apply qH|apply qI));exact HO175.out) (Kd.R_base ho0) hb);have n2_:=qM (Kd.R_elder' (by (with_reducible repeat (first|apply qG|apply qH|apply qI));exact HO180.out) (Kd.R_base ho0) hb);have n3_:=qM (Kd.R_elder' (by (with_reducible repeat (first|apply qG|apply qH|apply qI));exact HO184.out) (Kd.R_base ho0) hb);have n4_:=qM (Kd.R_lower (Kd.R_new' (Kd.R_new' (Kd.R_new' (Kd.R_new' ho0 (Kd.R_lt (by (with_reducible repeat (first|apply qG|apply qH|apply qI));exact HO170.out))) (Kd.R_lt (by (with_reducible repeat (first|apply qG|apply qH|apply qI));exact HO175.out))) (Kd.R_lt (by (with_reducible repeat (first|apply qG|apply qH|apply qI));exact HO180.out))) (Kd.R_lt (by (with_reducible repeat (first|apply qG|apply qH|apply qI));exact HO184.out))) (below_size (by repeat first|exact HB.out|apply qJ|apply qK|apply qL)));have n5_:=qM (below_step (by repeat first|exact HB.out|apply qJ|apply qK|apply qL) hb);clear HO170;clear HO175;clear HO180;clear HO184;clear HB;have HO170:=n0_;have HO175:=n1_;have HO180:=n2_;have HO184:=n3_;have HO188:=n4_;have HB:=n5_;clear n0_ n1_ n2_ n3_ n4_ n5_;(try clear hb);(try clear hb2);(try clear hk);(try clear hi);(try clear ho0);obtain ⟨Ao33,co33,eo33⟩:=Kd.R_slice HO188.out;subst eo33)|(go_at_call 15;(with_reducible refine (wide_Col.calls _ _ t186 6 11 t189 _ ?side1 ?side2 A16.out).mono ?_);(case side1=>repeat (first|exact (Kd.R_reads' HO188.out).2.2|(with_reducible first|apply qO|apply qP|apply qQ)));(case side2=>exact (Kd.R_reads' HO188.out).2.1);(try clear A16); rintro e w34 ⟨rfl,hb⟩;have n0_:=qM (Kd.R_below (by (with_reducible repeat (first|apply qG|apply qH|apply qI));exact HO170.out) hb);have n1_:=qM (Kd.R_below (by (with_reducible repeat (first|apply qG|apply qH|apply qI));exact HO175.out) hb);have n2_:=qM (Kd.R_below (by (with_reducible repeat (first|apply qG|apply qH|apply qI));exact HO180.out) hb);have n3_:=qM (Kd.R_below (by (with_reducible repeat (first|apply qG|apply qH|apply qI));exact HO184.out) hb);have n4_:=qM (Kd.R_below (by (with_reducible repeat (first|apply qG|apply qH|apply qI));exact HO188.out) hb);have n5_:=qM (below_step (by repeat first|exact HB.out|apply qJ|apply qK|apply qL) hb);clear HO170;clear HO175;clear HO180;clear HO184;clear HO188;clear HB;have HO170:=n0_;have HO175:=n1_;have HO180:=n2_;have HO184:=n3_;have HO188:=n4_;have HB:=n5_;clear n0_ n1_ n2_ n3_ n4_ n5_;(try clear hb);(try clear hb2);(try clear hk);(try clear hi))|(go_at_call 19;(with_reducible refine (copperplatelaw18_Pair.calls  t190 _ A18.out).mono ?_);(try clear A18); rintro e w35 ⟨v191,rfl,ho0,hb⟩;have n0_:=qM (Kd.R_elder' (by (with_reducible repeat (first|apply qG|apply qH|apply qI));exact HO170.out) (Kd.R_base ho0) hb);have n1_:=qM (Kd.R_elder' (by (with_reducible repeat (first|apply qG|apply qH|apply qI));exact HO175.out) (Kd.R_base ho0) hb);have n2_:=qM (Kd.R_elder' (by (with_reducible repeat (first|apply qG|apply qH|apply qI));exact HO180.out) (Kd.R_base ho0) hb);have n3_:=qM (Kd.R_elder' (by (with_reducible repeat (first|apply qG|apply qH|apply qI));exact HO184.out) (Kd.R_base ho0) hb);have n4_:=qM (Kd.R_elder' (by (with_reducible repeat (first|apply qG|apply qH|apply qI));exact HO188.out) (Kd.R_base ho0) hb);have n5_:=qM (Kd.R_lower (Kd.R_new' (Kd.R_new' (Kd.R_new' (Kd.R_new' (Kd.R_new' ho0 (Kd.R_lt (by (with_reducible repeat (first|apply qG|apply qH|apply qI));exact HO170.out))) (Kd.R_lt (by (with_reducible repeat (first|apply qG|apply qH|apply qI));exact HO175.out))) (Kd.R_lt (by (with_reducible repeat (first|apply qG|apply qH|apply qI));exact HO180.out))) (Kd.R_lt (by (with_reducible repeat (first|apply qG|apply qH|apply qI));exact HO184.out))) (Kd.R_lt (by (with_reducible repeat (first|apply qG|apply qH|apply qI));exact HO188.out))) (below_size (by repeat first|exact HB.out|apply qJ|apply qK|apply qL)));have n6_:=qM (below_step (by repeat first|exact HB.out|apply qJ|apply qK|apply qL) hb);clear HO170;clear HO175;clear HO180;clear HO184;clear HO188;clear HB;have HO170:=n0_;have HO175:=n1_;have HO180:=n2_;have HO184:=n3_;have HO188:=n4_;have HO192:=n5_;have HB:=n6_;clear n0_ n1_ n2_ n3_ n4_ n5_ n6_;(try clear hb);(try clear hb2);(try clear hk);(try clear hi);(try clear ho0);obtain ⟨Ao36,co36,eo36⟩:=Kd.R_slice HO192.out;subst eo36)|(go_at_call 15;(with_reducible refine (wide_Col.calls _ _ t190 5 4 t193 _ ?side1 ?side2 A19.out).mono ?_);(case side1=>repeat (first|exact (Kd.R_reads' HO192.out).2.2|(with_reducible first|apply qO|apply qP|apply qQ)));(case side2=>exact (Kd.R_reads' HO192.out).2.1);(try clear A19); rintro e w37 ⟨rfl,hb⟩;have n0_:=qM (Kd.R_below (by (with_reducible repeat (first|apply qG|apply qH|apply qI));exact HO170.out) hb);have n1_:=qM (Kd.R_below (by (with_reducible repeat (first|apply qG|apply qH|apply qI));exact HO175.out) hb);have n2_:=qM (Kd.R_below (by (with_reducible repeat (first|apply qG|apply qH|apply qI));exact HO180.out) hb);have n3_:=qM (Kd.R_below (by (with_reducible repeat (first|apply qG|apply qH|apply qI));exact HO184.out) hb);have n4_:=qM (Kd.R_below (by (with_reducible repeat (first|apply qG|apply qH|apply qI));exact HO188.out) hb);have n5_:=qM (Kd.R_below (by (with_reducible repeat (first|apply qG|apply qH|apply qI));exact HO192.out) hb);have n6_:=qM (below_step (by repeat first|exact HB.out|apply qJ|apply qK|apply qL) hb);clear HO170;clear HO175;clear HO180;clear HO184;clear HO188;clear HO192;clear HB;have HO170:=n0_;have HO175:=n1_;have HO180:=n2_;have HO184:=n3_;have HO188:=n4_;have HO192:=n5_;have HB:=n6_;clear n0_ n1_ n2_ n3_ n4_ n5_ n6_;(try clear hb);(try clear hb2);(try clear hk);(try clear hi)))
        go_ret
        exact ⟨by first|rfl|(simp [errW_none,errW_some] <;> rfl)|(simp [*,errW_none,errW_some] <;> rfl),by repeat (first|(with_reducible first|exact HB.out|apply qJ|apply qK|apply qL)|exact HB.out)⟩
       ·rw [if_neg c17] at H
        have c17b0 : (t189 == 6)=false:=beq_eq_false_iff_ne.mpr c17
        have c17b1 : (t189 != 6)=true:=bne_iff_ne.mpr c17
        exact absurd H (by have h_:=HT_.out;subst h_;decide)
     ·replace c11:=Bool.eq_false_iff.mpr c11
      subst c11
      have H1 : (some false)=some r:=by rw [if_neg (show ¬ (false=true) by decide)] at H;exact H
      clear H
      have H:=H1
      clear H1
      exact absurd H (by have h_:=HT_.out;subst h_;decide)
    ·rw [if_neg c8] at H
     have c8b0 : (t176.toList == ([40,10,32,32,97,10,32,32,98,10,41] : List UInt8))=false:=beq_eq_false_iff_ne.mpr c8
     have c8b1 : (t176.toList != ([40,10,32,32,97,10,32,32,98,10,41] : List UInt8))=true:=bne_iff_ne.mpr c8
     exact absurd H (by have h_:=HT_.out;subst h_;decide)
   ·replace c7:=Bool.eq_false_iff.mpr c7
    subst c7
    have H1 : (some false)=some r:=by rw [if_neg (show ¬ (false=true) by decide)] at H;exact H
    clear H
    have H:=H1
    clear H1
    exact absurd H (by have h_:=HT_.out;subst h_;decide)
  ·rw [if_neg c6] at H
   have c6b0 : (t171.toList == ([40,97,44,32,98,41] : List UInt8))=false:=beq_eq_false_iff_ne.mpr c6
   have c6b1 : (t171.toList != ([40,97,44,32,98,41] : List UInt8))=true:=bne_iff_ne.mpr c6
   exact absurd H (by have h_:=HT_.out;subst h_;decide)
 ·replace c5:=Bool.eq_false_iff.mpr c5
  subst c5
  have H1 : (some false)=some r:=by rw [if_neg (show ¬ (false=true) by decide)] at H;exact H
  clear H
  have H:=H1
  clear H1
  exact absurd H (by have h_:=HT_.out;subst h_;decide)

end Go.Proofs.Ytipjfdamkpgecaa.PWide
