-- Written by a program of the session (drive.py, over the kit's print.py with contracts by hand). Not trusted: Lean checks it.
import Derived.Test.YtipjfdamkpgecaaPWidex0
import Derived.Test.YtipjfdamkpgecaaPWidex18
import Derived.Test.YtipjfdamkpgecaaPWidex19
namespace Go.Proofs.Ytipjfdamkpgecaa.PWide
open Go.RowKit Go.Proofs.YtipjfdamkpgecaaW.PrintWords Go.Proofs.YtipjfdamkpgecaaW.PrintLast Go.Proofs.YtipjfdamkpgecaaW.PrintMore
attribute [local go_sem] max2_int min2_int max_two min_two max_three min_three max_four min_four   -- for this text's walks alone
set_option linter.unusedVariables false
set_option linter.unusedSimpArgs false

/-! ### copperplateref02_Next: function 55 -/
mutual
def copperplateref02_Next.j0 : Nat→ByteArray→Int→Bool→Option (Int × Int)
 | 0,_,_,_=>none
 | k+1,x0,x1,x15=>if x15=true then (some (0,0)) else (copperplateref02_Next.l0 k x0 x1 1)
def copperplateref02_Next.l0 : Nat→ByteArray→Int→Int→Option (Int × Int)
 | 0,_,_,_=>none
 | k+1,x0,x1,x6=>if x6≤4 then (copperplateref02_Next.j2 k x0 x1 x6 (decide (x6≤(wrap64 ((x0.size : Int) - x1))))) else (copperplateref02_Next.j2 k x0 x1 x6 false)
def copperplateref02_Next.j2 : Nat→ByteArray→Int→Int→Bool→Option (Int × Int)
 | 0,_,_,_,_=>none
 | k+1,x0,x1,x6,x25=>if x25=true then (if 0≤x1 then (if x1≤(x0.size : Int) then ((copperplateref02_guess.f k (x0.extract (x1 : Int).toNat x0.size) x6).bind fun t316=>((copperplateref02_Put.f t316).bind fun t317=>(if x1≤(wrap64 (x1+x6)) then (if (wrap64 (x1+x6))≤(x0.size : Int) then (if t317.toList=(x0.extract (x1 : Int).toNat ((wrap64 (x1+x6)) : Int).toNat).toList then (some (t316,x6)) else (copperplateref02_Next.l0 k x0 x1 (wrap64 (x6+1)))) else (none)) else (none)))) else (none)) else (none)) else (some (0,0))
end
def copperplateref02_Next.f (k : Nat) (a0 : ByteArray) (a1 : Int) : Option (Int × Int):=if a1 < 0 then (copperplateref02_Next.j0 k a0 a1 true) else (copperplateref02_Next.j0 k a0 a1 (decide (a1 ≥ (a0.size : Int))))
theorem copperplateref02_Next.mono_l : ∀ k,(∀ y0 y1 y2,LeO (copperplateref02_Next.j0 k y0 y1 y2) (copperplateref02_Next.j0 (k+1) y0 y1 y2))∧(∀ y0 y1 y2,LeO (copperplateref02_Next.l0 k y0 y1 y2) (copperplateref02_Next.l0 (k+1) y0 y1 y2))∧(∀ y0 y1 y2 y3,LeO (copperplateref02_Next.j2 k y0 y1 y2 y3) (copperplateref02_Next.j2 (k+1) y0 y1 y2 y3))
 | 0=>⟨fun _ _ _ r h=>by simp [copperplateref02_Next.j0] at h,fun _ _ _ r h=>by simp [copperplateref02_Next.l0] at h,fun _ _ _ _ r h=>by simp [copperplateref02_Next.j2] at h⟩
 | k+1=>by
  obtain ⟨ih0,ih1,ih2⟩:=copperplateref02_Next.mono_l k
  refine ⟨?_,?_,?_⟩
  ·intro y0 y1 y2
   unfold copperplateref02_Next.j0
   repeat' first
   | (with_reducible exact ih0 _ _ _)
   | (with_reducible exact ih1 _ _ _)
   | (with_reducible exact ih2 _ _ _ _)
   | (with_reducible exact copperplateref02_guess.mono _ _ _)
   | (with_reducible exact LeO.refl _)
   | (with_reducible exact LeO.none _)
   | (with_reducible refine LeO.ite ?_ ?_)
   | (with_reducible refine LeO.bind ?_ (fun _=>?_))
   | exact ih0 _ _ _
   | exact ih1 _ _ _
   | exact ih2 _ _ _ _
   | exact copperplateref02_guess.mono _ _ _
   | exact LeO.none _
   | refine LeO.ite ?_ ?_
   | refine LeO.bind ?_ (fun _=>?_)
  ·intro y0 y1 y2
   unfold copperplateref02_Next.l0
   repeat' first
   | (with_reducible exact ih0 _ _ _)
   | (with_reducible exact ih1 _ _ _)
   | (with_reducible exact ih2 _ _ _ _)
   | (with_reducible exact copperplateref02_guess.mono _ _ _)
   | (with_reducible exact LeO.refl _)
   | (with_reducible exact LeO.none _)
   | (with_reducible refine LeO.ite ?_ ?_)
   | (with_reducible refine LeO.bind ?_ (fun _=>?_))
   | exact ih0 _ _ _
   | exact ih1 _ _ _
   | exact ih2 _ _ _ _
   | exact copperplateref02_guess.mono _ _ _
   | exact LeO.none _
   | refine LeO.ite ?_ ?_
   | refine LeO.bind ?_ (fun _=>?_)
  ·intro y0 y1 y2 y3
   unfold copperplateref02_Next.j2
   repeat' first
   | (with_reducible exact ih0 _ _ _)
   | (with_reducible exact ih1 _ _ _)
   | (with_reducible exact ih2 _ _ _ _)
   | (with_reducible exact copperplateref02_guess.mono _ _ _)
   | (with_reducible exact LeO.refl _)
   | (with_reducible exact LeO.none _)
   | (with_reducible refine LeO.ite ?_ ?_)
   | (with_reducible refine LeO.bind ?_ (fun _=>?_))
   | exact ih0 _ _ _
   | exact ih1 _ _ _
   | exact ih2 _ _ _ _
   | exact copperplateref02_guess.mono _ _ _
   | exact LeO.none _
   | refine LeO.ite ?_ ?_
   | refine LeO.bind ?_ (fun _=>?_)
theorem copperplateref02_Next.mono : ∀ a0 a1 k,LeO (copperplateref02_Next.f k a0 a1) (copperplateref02_Next.f (k+1) a0 a1):=by
 intro a0 a1 k
 obtain ⟨ih0,ih1,ih2⟩:=copperplateref02_Next.mono_l k
 unfold copperplateref02_Next.f
 repeat' first
   | (with_reducible exact ih0 _ _ _)
   | (with_reducible exact ih1 _ _ _)
   | (with_reducible exact ih2 _ _ _ _)
   | (with_reducible exact copperplateref02_guess.mono _ _ _)
   | (with_reducible exact LeO.refl _)
   | (with_reducible exact LeO.none _)
   | (with_reducible refine LeO.ite ?_ ?_)
   | (with_reducible refine LeO.bind ?_ (fun _=>?_))
   | exact ih0 _ _ _
   | exact ih1 _ _ _
   | exact ih2 _ _ _ _
   | exact copperplateref02_guess.mono _ _ _
   | exact LeO.none _
   | refine LeO.ite ?_ ?_
   | refine LeO.bind ?_ (fun _=>?_)
def copperplateref02_Next.T7 : Bool × List (List Nat × List Nat):=(true,[([],[]),([0],[0]),([],[]),([],[]),([],[]),([],[]),([4,5],[4,5]),([2,3,6],[2,3,6]),([1,7],[1,7])])
def copperplateref02_Next.B7 : List Nat:=[0,1,0,0,0,0,48,124,255]
theorem copperplateref02_Next.tab7 : rtab .any (opsOf Try.f55 7)=copperplateref02_Next.T7:=by kernel_rfl
theorem copperplateref02_Next.bits7 : waitsOk copperplateref02_Next.T7.2 copperplateref02_Next.B7=true:=by kernel_rfl
set_option maxHeartbeats 8000000 in
set_option maxRecDepth 100000 in
theorem copperplateref02_Next.calls (k : Nat) (a0 : ByteArray) (a1 : Int) (r1 : Int) (r2 : Int) (w : World) (h : copperplateref02_Next.f k a0 a1=some (r1,r2)) :
  Calls Try.prog 55 #[.string a0,.int .i64 a1] w fun e w'=>e=.returned (.tuple #[.int .i64 r1,.int .i64 r2])∧Below w.heap.size w w':=by
 have HB:=qM (Below.refl w.heap.size w)
 have H : (if a1 < 0 then (copperplateref02_Next.j0 k a0 a1 true) else (copperplateref02_Next.j0 k a0 a1 (decide (a1 ≥ (a0.size : Int)))))=some (r1,r2):=h
 clear h
 have HC3:=qM H
 clear H
 go_enter Try.func55,Try.ntmps55
 go_upto_region 1 with (fail)
 go_cut [15] (fun v15 wc=>∃ (kq : Nat) (x15_2 : Bool),v15=.bool x15_2∧Aside0 (copperplateref02_Next.j0 kq a0 a1 x15_2=some (r1,r2))∧Aside0 (kq≤k)∧Aside0 (Below w.heap.size w wc))
 case first =>
  have H:=HC3.out
  clear HC3
  by_cases c4 : a1 < 0
  ·rw [if_pos c4] at H
   have c4b0 : decide (a1 < 0)=true:=decide_eq_true c4
   clear c4
   (first|rw [c4b0]|(simp only [i64_w,i32_w];rw [c4b0])|skip)
   have H':=qM H
   clear H
   go_wp2
   go_meet
   case rel=>exact ⟨_,(true),(by first|rfl|(simp;done)|(simp [*];done)),H',⟨by first|omega|exact Nat.le_refl _⟩,⟨by repeat (first|(with_reducible first|exact HB.out|apply qJ|apply qK|apply qL)|exact HB.out)⟩⟩
  ·rw [if_neg c4] at H
   have c4b0 : decide (a1 < 0)=false:=decide_eq_false c4
   clear c4
   (first|rw [c4b0]|(simp only [i64_w,i32_w];rw [c4b0])|skip)
   have H':=qM H
   clear H
   go_wp2
   go_meet
   case rel=>exact ⟨_,(decide (a1 ≥ (a0.size : Int))),(by first|rfl|(simp;done)|(simp [*];done)),H',⟨by first|omega|exact Nat.le_refl _⟩,⟨by repeat (first|(with_reducible first|exact HB.out|apply qJ|apply qK|apply qL)|exact HB.out)⟩⟩
 case rest =>
  clear HC3
  try clear p2
  try clear c4
  try clear c4b0
  obtain ⟨kq,x15_2,rfl,HA,HJ2,HB⟩:=hcut
  cases kq with
  | zero=>exact absurd HA.out (by simp [copperplateref02_Next.j0])
  | succ kj2 =>
   have H:=HA.out
   clear HA
   simp only [copperplateref02_Next.j0] at H
   by_cases c5 : x15_2=true
   ·subst c5
    have H1 : (some (0,0))=some (r1,r2):=by rw [if_pos rfl] at H;exact H
    clear H
    have H:=H1
    clear H1
    simp only [Option.some.injEq,Prod.mk.injEq] at H
    obtain ⟨rfl,rfl⟩:=H
    go_wp2
    go_ret2
    exact ⟨by first|rfl|(simp [errW_none,errW_some] <;> rfl)|(simp [*,errW_none,errW_some] <;> rfl),by repeat (first|(with_reducible first|exact HB.out|apply qJ|apply qK|apply qL)|exact HB.out)⟩
   ·replace c5:=Bool.eq_false_iff.mpr c5
    subst c5
    have H1 : (copperplateref02_Next.l0 kj2 a0 a1 1)=some (r1,r2):=by rw [if_neg (show ¬ (false=true) by decide)] at H;exact H
    clear H
    have H:=H1
    clear H1
    have H':=qM H
    clear H
    go_wp2
    go_loopg [6] kj2 (fun kq v6 w'=>∃ (x6_2 : Int),v6=.int .i64 x6_2∧Aside0 (copperplateref02_Next.l0 kq a0 a1 x6_2=some (r1,r2))∧Aside0 (kq≤kj2)∧Aside0 (Below w.heap.size w w'))
    case atStart=>exact ⟨(1),(by first|rfl|(simp;done)|(simp [*];done)),H',⟨Nat.le_refl _⟩,⟨by repeat (first|(with_reducible first|exact HB.out|apply qJ|apply qK|apply qL)|exact HB.out)⟩⟩
    case round =>
     clear H'
     try clear p2
     try clear c4
     try clear c4b0
     try clear c5
     try clear p2
     obtain ⟨x6_2,rfl,HA,HK2,HB⟩:=hrel
     cases gk with
     | zero=>exact absurd HA.out (by simp [copperplateref02_Next.l0])
     | succ k2 =>
      have H:=HA.out
      clear HA
      simp only [copperplateref02_Next.l0] at H
      have HC6:=qM H
      clear H
      go_upto_region 4 with (fail)
      go_cut [25] (fun v25 wc=>∃ (kq : Nat) (x25_5 : Bool),v25=.bool x25_5∧Aside0 (copperplateref02_Next.j2 kq a0 a1 x6_2 x25_5=some (r1,r2))∧Aside0 (kq≤k2)∧Aside0 (Below w.heap.size w wc))
      case first =>
       have H:=HC6.out
       clear HC6
       by_cases c7 : x6_2≤4
       ·rw [if_pos c7] at H
        have c7b0 : decide (x6_2≤4)=true:=decide_eq_true c7
        clear c7
        (first|rw [c7b0]|(simp only [i64_w,i32_w];rw [c7b0])|skip)
        have H':=qM H
        clear H
        go_wp2
        go_meet
        case rel=>exact ⟨_,(decide (x6_2≤(wrap64 ((a0.size : Int) - a1)))),(by first|rfl|(simp;done)|(simp [*];done)),H',⟨by have:=HJ2.out;have:=HK2.out;first|omega|exact Nat.le_refl _⟩,⟨by repeat (first|(with_reducible first|exact HB.out|apply qJ|apply qK|apply qL)|exact HB.out)⟩⟩
       ·rw [if_neg c7] at H
        have c7b0 : decide (x6_2≤4)=false:=decide_eq_false c7
        clear c7
        (first|rw [c7b0]|(simp only [i64_w,i32_w];rw [c7b0])|skip)
        have H':=qM H
        clear H
        go_wp2
        go_meet
        case rel=>exact ⟨_,(false),(by first|rfl|(simp;done)|(simp [*];done)),H',⟨by have:=HJ2.out;have:=HK2.out;first|omega|exact Nat.le_refl _⟩,⟨by repeat (first|(with_reducible first|exact HB.out|apply qJ|apply qK|apply qL)|exact HB.out)⟩⟩
      case rest =>
       clear HC6
       try clear p2
       try clear c4
       try clear c4b0
       try clear c5
       try clear p6
       try clear c7
       try clear c7b0
       try clear p2
       obtain ⟨kq,x25_5,rfl,HA,HJ5,HB⟩:=hcut
       cases kq with
       | zero=>exact absurd HA.out (by simp [copperplateref02_Next.j2])
       | succ kj5 =>
        have H:=HA.out
        clear HA
        simp only [copperplateref02_Next.j2] at H
        by_cases c8 : x25_5=true
        ·subst c8
         have H1 : (if 0≤a1 then (if a1≤(a0.size : Int) then ((copperplateref02_guess.f kj5 (a0.extract (a1 : Int).toNat a0.size) x6_2).bind fun t316=>((copperplateref02_Put.f t316).bind fun t317=>(if a1≤(wrap64 (a1+x6_2)) then (if (wrap64 (a1+x6_2))≤(a0.size : Int) then (if t317.toList=(a0.extract (a1 : Int).toNat ((wrap64 (a1+x6_2)) : Int).toNat).toList then (some (t316,x6_2)) else (copperplateref02_Next.l0 kj5 a0 a1 (wrap64 (x6_2+1)))) else (none)) else (none)))) else (none)) else (none))=some (r1,r2):=by rw [if_pos rfl] at H;exact H
         clear H
         have H:=H1
         clear H1
         by_cases c9 : 0≤a1
         ·rw [if_pos c9] at H
          have c9b0:=eq_true c9
          have c9b1 : decide (0≤a1)=true:=decide_eq_true c9
          clear c9
          by_cases c10 : a1≤(a0.size : Int)
          ·rw [if_pos c10] at H
           have c10b0:=eq_true c10
           have c10b1 : decide (a1≤(a0.size : Int))=true:=decide_eq_true c10
           clear c10
           replace H:=Option.bind_eq_some_iff.mp H
           obtain ⟨t316,A110,H⟩:=H
           replace H : ((copperplateref02_Put.f t316).bind fun t317=>(if a1≤(wrap64 (a1+x6_2)) then (if (wrap64 (a1+x6_2))≤(a0.size : Int) then (if t317.toList=(a0.extract (a1 : Int).toNat ((wrap64 (a1+x6_2)) : Int).toNat).toList then (some (t316,x6_2)) else (copperplateref02_Next.l0 kj5 a0 a1 (wrap64 (x6_2+1)))) else (none)) else (none)))=some (r1,r2):=H
           have A11:=qM A110
           clear A110
           replace H:=Option.bind_eq_some_iff.mp H
           obtain ⟨t317,A120,H⟩:=H
           replace H : (if a1≤(wrap64 (a1+x6_2)) then (if (wrap64 (a1+x6_2))≤(a0.size : Int) then (if t317.toList=(a0.extract (a1 : Int).toNat ((wrap64 (a1+x6_2)) : Int).toNat).toList then (some (t316,x6_2)) else (copperplateref02_Next.l0 kj5 a0 a1 (wrap64 (x6_2+1)))) else (none)) else (none))=some (r1,r2):=H
           have A12:=qM A120
           clear A120
           have c13b0:=eq_true (qN (by assumption) : 0≤a1)
           by_cases c14 : a1≤(wrap64 (a1+x6_2))
           ·rw [if_pos c14] at H
            have c14b0:=eq_true c14
            have c14b1 : decide (a1≤(wrap64 (a1+x6_2)))=true:=decide_eq_true c14
            by_cases c15 : (wrap64 (a1+x6_2))≤(a0.size : Int)
            ·rw [if_pos c15] at H
             have c15b0:=eq_true c15
             have c15b1 : decide ((wrap64 (a1+x6_2))≤(a0.size : Int))=true:=decide_eq_true c15
             by_cases c16 : t317.toList=(a0.extract (a1 : Int).toNat ((wrap64 (a1+x6_2)) : Int).toNat).toList
             ·rw [if_pos c16] at H
              have c16b0 : (t317.toList == (a0.extract (a1 : Int).toNat ((wrap64 (a1+x6_2)) : Int).toNat).toList)=true:=beq_iff_eq.mpr c16
              have c16b1 : (t317.toList != (a0.extract (a1 : Int).toNat ((wrap64 (a1+x6_2)) : Int).toNat).toList)=false:=bne_eq_false_iff_eq.mpr c16
              clear c16
              simp only [Option.some.injEq,Prod.mk.injEq] at H
              obtain ⟨rfl,rfl⟩:=H
              (try (have hw_ : wrap64 (a1+x6_2)=(a1+x6_2):=(by unfold wrap64;omega);have c14b0u:=c14b0;rw [hw_] at c14b0u))
              (try (have hw_ : wrap64 (a1+x6_2)=(a1+x6_2):=(by unfold wrap64;omega);have c14b1u:=c14b1;rw [hw_] at c14b1u))
              (try (have hw_ : wrap64 (a1+x6_2)=(a1+x6_2):=(by unfold wrap64;omega);have c14u:=c14;rw [hw_] at c14u))
              (try (have hw_ : wrap64 (a1+x6_2)=(a1+x6_2):=(by unfold wrap64;omega);have c15b0u:=c15b0;rw [hw_] at c15b0u))
              (try (have hw_ : wrap64 (a1+x6_2)=(a1+x6_2):=(by unfold wrap64;omega);have c15b1u:=c15b1;rw [hw_] at c15b1u))
              (try (have hw_ : wrap64 (a1+x6_2)=(a1+x6_2):=(by unfold wrap64;omega);have c15u:=c15;rw [hw_] at c15u))
              (try (have hw_ : wrap64 (a1+x6_2)=(a1+x6_2):=(by unfold wrap64;omega);have c16b0u:=c16b0;rw [hw_] at c16b0u))
              (try (have hw_ : wrap64 (a1+x6_2)=(a1+x6_2):=(by unfold wrap64;omega);have c16b1u:=c16b1;rw [hw_] at c16b1u))
              try go_wp2_with (first|((with_reducible refine gate_callee (f:=58) rfl ?_);refine goesL_ (some 32) rfl rfl Try.func58 (by kernel_rfl) rfl #[.string (a0.extract (a1 : Int).toNat a0.size),.int .i64 x6_2] rfl (by (try simp only [List.map_toArray,List.map_cons,List.map_nil]);first|done|rfl|(simp only [List.length_drop,List.length_take];rfl)) ?_;(with_reducible refine (copperplateref02_guess.calls kj5 (a0.extract (a1 : Int).toNat a0.size) x6_2 t316 _ A11.out).mono ?_);(try clear A11); rintro e w' ⟨rfl,⟨nd,rfl⟩⟩;refine ⟨_,rfl,?_⟩))
              (try (rw [drewN_self wc];generalize hq_ : World.drewN wc _=wc;have n0_ : Aside0 (Below w.heap.size w wc):=⟨by rw [← hq_];exact (by repeat first|exact HB.out|apply qJ|apply qK|apply qL)⟩;clear HB hq_;have HB:=n0_;clear n0_))
              have n0_:=qM (qL HB.out);clear HB
              have HB:=n0_;clear n0_
              refine start_ (n:=9) (S:=fun w'=>True) (ds:=[]) #[tF,tF,tF,tF,tF,tF,tF,tF,tF] (by kernel_rfl) rfl rfl trivial (fun hHeld=>?_);refine with_tabW copperplateref02_Next.tab7 copperplateref02_Next.bits7 (fun HT_ HW_=>?_)
              generalize wc.drew=w17 at HB hHeld ⊢
              refine pure_ (i:=0) (N:=some 33) (v:=?_) (a':=?_) #[tT,tF,tF,tF,tF,tF,tF,tF,tF] rfl rfl (any_of HT_.out (by kernel_rfl)) (fun _ _ _ h=>h) (Or.inl ⟨by rfl,?_⟩) ?_ ?_
              rotate_left;(intro w';go_simp;with_reducible rfl);rotate_left;(simp only [Act.put,qA,qB,qC,i64_w,i32_w];rfl)
              refine pure_ (i:=2) (N:=some 35) (v:=?_) (a':=?_) #[tT,tF,tT,tF,tF,tF,tF,tF,tF] rfl rfl (any_of HT_.out (by kernel_rfl)) (fun _ _ _ h=>h) (Or.inl ⟨by rfl,?_⟩) ?_ ?_
              rotate_left;(intro w';go_simp;with_reducible rfl);rotate_left;(simp only [Act.put,qA,qB,qC,i64_w,i32_w];rfl)
              refine pure_ (i:=3) (N:=some 36) (v:=?_) (a':=?_) #[tT,tF,tT,tT,tF,tF,tF,tF,tF] rfl rfl (any_of HT_.out (by kernel_rfl)) (fun _ _ _ h=>h) (Or.inl ⟨by rfl,?_⟩) ?_ ?_
              rotate_left;(intro w';go_simp;with_reducible rfl);rotate_left;(simp only [Act.put,qA,qB,qC,i64_w,i32_w];rfl)
              refine pure_ (i:=4) (N:=some 37) (v:=?_) (a':=?_) #[tT,tF,tT,tT,tT,tF,tF,tF,tF] rfl rfl (any_of HT_.out (by kernel_rfl)) (fun _ _ _ h=>h) (Or.inl ⟨by rfl,?_⟩) ?_ ?_
              rotate_left;(intro w';go_simp;with_reducible rfl);rotate_left;(simp only [Act.put,qA,qB,qC,i64_w,i32_w];rfl)
              refine pure_ (i:=5) (N:=some 38) (v:=?_) (a':=?_) #[tT,tF,tT,tT,tT,tT,tF,tF,tF] rfl rfl (any_of HT_.out (by kernel_rfl)) (fun _ _ _ h=>h) (Or.inl ⟨by rfl,?_⟩) ?_ ?_
              rotate_left;(intro w';go_simp;with_reducible rfl);rotate_left;(simp only [Act.put,qA,qB,qC,i64_w,i32_w];rfl)
              refine pure_ (i:=6) (N:=some 39) (v:=?_) (a':=?_) #[tT,tF,tT,tT,tT,tT,tT,tF,tF] rfl rfl (any_of HT_.out (by kernel_rfl)) (fun _ _ _ h=>h) (Or.inl ⟨by rfl,?_⟩) ?_ ?_
              rotate_left;(intro w';go_simp;with_reducible rfl);rotate_left;(simp only [Act.put,qA,qB,qC,i64_w,i32_w];rfl)
              refine pure_ (i:=7) (N:=some 40) (v:=?_) (a':=?_) #[tT,tF,tT,tT,tT,tT,tT,tT,tF] rfl rfl (any_of HT_.out (by kernel_rfl)) (fun _ _ _ h=>h) (Or.inl ⟨by rfl,?_⟩) ?_ ?_
              rotate_left;(intro w';go_simp;with_reducible rfl);rotate_left;(simp only [Act.put,qA,qB,qC,i64_w,i32_w];rfl)
              refine one_ (i:=1) (N:=some 34) #[tT,tT,tT,tT,tT,tT,tT,tT,tF] rfl rfl (one_of HT_.out (by kernel_rfl)) (by decide) (fun K hK=>?_)
              refine goes_ Try.func59 (by kernel_rfl) rfl #[.int .i64 t316] (by rfl) rfl rfl (by (try simp only [List.map_toArray,List.map_cons,List.map_nil]);first|done|rfl|(simp only [List.length_drop,List.length_take];rfl)) ?_
              with_reducible refine (copperplateref02_Put.calls t316 t317 _ A12.out).mono ?_
              rintro e w18 ⟨rfl,hb⟩
              refine ⟨_,rfl,?_⟩
              have n0_:=qM (below_step (by repeat first|exact HB.out|apply qJ|apply qK|apply qL) hb);clear HB
              have HB:=n0_;clear n0_
              (try clear hb)
              (try clear hb2)
              (try clear hk)
              (try clear hi)
              refine hK.out _ _ trivial (fun hHeld=>?_)
              clear hK K
              refine norm_ (a':=?_) ?_ ?_
              rotate_left
              ·show Act.put _ (some 34) _=_
               simp only [Act.put,qA,qB,qC,i64_w,i32_w]
               rfl
              refine pure_ (i:=8) (N:=some 41) (v:=?_) (a':=?_) #[tT,tT,tT,tT,tT,tT,tT,tT,tT] rfl rfl (any_of HT_.out (by kernel_rfl)) (fun _ _ _ h=>h) (Or.inl ⟨by rfl,?_⟩) ?_ ?_
              rotate_left;(intro w';go_simp;with_reducible rfl);rotate_left;(simp only [Act.put,qA,qB,qC,i64_w,i32_w];rfl)
              refine done_ (done_of HT_.out (by kernel_rfl)) ?_
              try go_wp2
              go_ret2
              exact ⟨by first|rfl|(simp [errW_none,errW_some] <;> rfl)|(simp [*,errW_none,errW_some] <;> rfl),by repeat (first|(with_reducible first|exact HB.out|apply qJ|apply qK|apply qL)|exact HB.out)⟩
             ·rw [if_neg c16] at H
              have c16b0 : (t317.toList == (a0.extract (a1 : Int).toNat ((wrap64 (a1+x6_2)) : Int).toNat).toList)=false:=beq_eq_false_iff_ne.mpr c16
              have c16b1 : (t317.toList != (a0.extract (a1 : Int).toNat ((wrap64 (a1+x6_2)) : Int).toNat).toList)=true:=bne_iff_ne.mpr c16
              have H':=qM H
              clear H
              (try (have hw_ : wrap64 (a1+x6_2)=(a1+x6_2):=(by unfold wrap64;omega);have c14b0u:=c14b0;rw [hw_] at c14b0u))
              (try (have hw_ : wrap64 (a1+x6_2)=(a1+x6_2):=(by unfold wrap64;omega);have c14b1u:=c14b1;rw [hw_] at c14b1u))
              (try (have hw_ : wrap64 (a1+x6_2)=(a1+x6_2):=(by unfold wrap64;omega);have c14u:=c14;rw [hw_] at c14u))
              (try (have hw_ : wrap64 (a1+x6_2)=(a1+x6_2):=(by unfold wrap64;omega);have c15b0u:=c15b0;rw [hw_] at c15b0u))
              (try (have hw_ : wrap64 (a1+x6_2)=(a1+x6_2):=(by unfold wrap64;omega);have c15b1u:=c15b1;rw [hw_] at c15b1u))
              (try (have hw_ : wrap64 (a1+x6_2)=(a1+x6_2):=(by unfold wrap64;omega);have c15u:=c15;rw [hw_] at c15u))
              (try (have hw_ : wrap64 (a1+x6_2)=(a1+x6_2):=(by unfold wrap64;omega);have c16b0u:=c16b0;rw [hw_] at c16b0u))
              (try (have hw_ : wrap64 (a1+x6_2)=(a1+x6_2):=(by unfold wrap64;omega);have c16b1u:=c16b1;rw [hw_] at c16b1u))
              try go_wp2_with (first|((with_reducible refine gate_callee (f:=58) rfl ?_);refine goesL_ (some 32) rfl rfl Try.func58 (by kernel_rfl) rfl #[.string (a0.extract (a1 : Int).toNat a0.size),.int .i64 x6_2] rfl (by (try simp only [List.map_toArray,List.map_cons,List.map_nil]);first|done|rfl|(simp only [List.length_drop,List.length_take];rfl)) ?_;(with_reducible refine (copperplateref02_guess.calls kj5 (a0.extract (a1 : Int).toNat a0.size) x6_2 t316 _ A11.out).mono ?_);(try clear A11); rintro e w' ⟨rfl,⟨nd,rfl⟩⟩;refine ⟨_,rfl,?_⟩))
              (try (rw [drewN_self wc];generalize hq_ : World.drewN wc _=wc;have n0_ : Aside0 (Below w.heap.size w wc):=⟨by rw [← hq_];exact (by repeat first|exact HB.out|apply qJ|apply qK|apply qL)⟩;clear HB hq_;have HB:=n0_;clear n0_))
              have n0_:=qM (qL HB.out);clear HB
              have HB:=n0_;clear n0_
              refine start_ (n:=9) (S:=fun w'=>True) (ds:=[]) #[tF,tF,tF,tF,tF,tF,tF,tF,tF] (by kernel_rfl) rfl rfl trivial (fun hHeld=>?_);refine with_tabW copperplateref02_Next.tab7 copperplateref02_Next.bits7 (fun HT_ HW_=>?_)
              generalize wc.drew=w19 at HB hHeld ⊢
              refine pure_ (i:=0) (N:=some 33) (v:=?_) (a':=?_) #[tT,tF,tF,tF,tF,tF,tF,tF,tF] rfl rfl (any_of HT_.out (by kernel_rfl)) (fun _ _ _ h=>h) (Or.inl ⟨by rfl,?_⟩) ?_ ?_
              rotate_left;(intro w';go_simp;with_reducible rfl);rotate_left;(simp only [Act.put,qA,qB,qC,i64_w,i32_w];rfl)
              refine pure_ (i:=2) (N:=some 35) (v:=?_) (a':=?_) #[tT,tF,tT,tF,tF,tF,tF,tF,tF] rfl rfl (any_of HT_.out (by kernel_rfl)) (fun _ _ _ h=>h) (Or.inl ⟨by rfl,?_⟩) ?_ ?_
              rotate_left;(intro w';go_simp;with_reducible rfl);rotate_left;(simp only [Act.put,qA,qB,qC,i64_w,i32_w];rfl)
              refine pure_ (i:=3) (N:=some 36) (v:=?_) (a':=?_) #[tT,tF,tT,tT,tF,tF,tF,tF,tF] rfl rfl (any_of HT_.out (by kernel_rfl)) (fun _ _ _ h=>h) (Or.inl ⟨by rfl,?_⟩) ?_ ?_
              rotate_left;(intro w';go_simp;with_reducible rfl);rotate_left;(simp only [Act.put,qA,qB,qC,i64_w,i32_w];rfl)
              refine pure_ (i:=4) (N:=some 37) (v:=?_) (a':=?_) #[tT,tF,tT,tT,tT,tF,tF,tF,tF] rfl rfl (any_of HT_.out (by kernel_rfl)) (fun _ _ _ h=>h) (Or.inl ⟨by rfl,?_⟩) ?_ ?_
              rotate_left;(intro w';go_simp;with_reducible rfl);rotate_left;(simp only [Act.put,qA,qB,qC,i64_w,i32_w];rfl)
              refine pure_ (i:=5) (N:=some 38) (v:=?_) (a':=?_) #[tT,tF,tT,tT,tT,tT,tF,tF,tF] rfl rfl (any_of HT_.out (by kernel_rfl)) (fun _ _ _ h=>h) (Or.inl ⟨by rfl,?_⟩) ?_ ?_
              rotate_left;(intro w';go_simp;with_reducible rfl);rotate_left;(simp only [Act.put,qA,qB,qC,i64_w,i32_w];rfl)
              refine pure_ (i:=6) (N:=some 39) (v:=?_) (a':=?_) #[tT,tF,tT,tT,tT,tT,tT,tF,tF] rfl rfl (any_of HT_.out (by kernel_rfl)) (fun _ _ _ h=>h) (Or.inl ⟨by rfl,?_⟩) ?_ ?_
              rotate_left;(intro w';go_simp;with_reducible rfl);rotate_left;(simp only [Act.put,qA,qB,qC,i64_w,i32_w];rfl)
              refine pure_ (i:=7) (N:=some 40) (v:=?_) (a':=?_) #[tT,tF,tT,tT,tT,tT,tT,tT,tF] rfl rfl (any_of HT_.out (by kernel_rfl)) (fun _ _ _ h=>h) (Or.inl ⟨by rfl,?_⟩) ?_ ?_
              rotate_left;(intro w';go_simp;with_reducible rfl);rotate_left;(simp only [Act.put,qA,qB,qC,i64_w,i32_w];rfl)
              refine one_ (i:=1) (N:=some 34) #[tT,tT,tT,tT,tT,tT,tT,tT,tF] rfl rfl (one_of HT_.out (by kernel_rfl)) (by decide) (fun K hK=>?_)
              refine goes_ Try.func59 (by kernel_rfl) rfl #[.int .i64 t316] (by rfl) rfl rfl (by (try simp only [List.map_toArray,List.map_cons,List.map_nil]);first|done|rfl|(simp only [List.length_drop,List.length_take];rfl)) ?_
              with_reducible refine (copperplateref02_Put.calls t316 t317 _ A12.out).mono ?_
              rintro e w20 ⟨rfl,hb⟩
              refine ⟨_,rfl,?_⟩
              have n0_:=qM (below_step (by repeat first|exact HB.out|apply qJ|apply qK|apply qL) hb);clear HB
              have HB:=n0_;clear n0_
              (try clear hb)
              (try clear hb2)
              (try clear hk)
              (try clear hi)
              refine hK.out _ _ trivial (fun hHeld=>?_)
              clear hK K
              refine norm_ (a':=?_) ?_ ?_
              rotate_left
              ·show Act.put _ (some 34) _=_
               simp only [Act.put,qA,qB,qC,i64_w,i32_w]
               rfl
              refine pure_ (i:=8) (N:=some 41) (v:=?_) (a':=?_) #[tT,tT,tT,tT,tT,tT,tT,tT,tT] rfl rfl (any_of HT_.out (by kernel_rfl)) (fun _ _ _ h=>h) (Or.inl ⟨by rfl,?_⟩) ?_ ?_
              rotate_left;(intro w';go_simp;with_reducible rfl);rotate_left;(simp only [Act.put,qA,qB,qC,i64_w,i32_w];rfl)
              refine done_ (done_of HT_.out (by kernel_rfl)) ?_
              try go_wp2
              go_roundg kj5
              case measure=>have:=HJ2.out;have:=HK2.out;have:=HJ5.out;omega
              case rel=>exact ⟨(wrap64 (x6_2+1)),(by first|rfl|(simp;done)|(simp [*];done)),H',⟨by have:=HJ2.out;have:=HK2.out;have:=HJ5.out;omega⟩,⟨by repeat (first|(with_reducible first|exact HB.out|apply qJ|apply qK|apply qL)|exact HB.out)⟩⟩
            ·rw [if_neg c15] at H
             exact absurd H (by simp)
           ·rw [if_neg c14] at H
            exact absurd H (by simp)
          ·rw [if_neg c10] at H
           exact absurd H (by simp)
         ·rw [if_neg c9] at H
          exact absurd H (by simp)
        ·replace c8:=Bool.eq_false_iff.mpr c8
         subst c8
         have H1 : (some (0,0))=some (r1,r2):=by rw [if_neg (show ¬ (false=true) by decide)] at H;exact H
         clear H
         have H:=H1
         clear H1
         simp only [Option.some.injEq,Prod.mk.injEq] at H
         obtain ⟨rfl,rfl⟩:=H
         go_wp2
         go_ret2
         exact ⟨by first|rfl|(simp [errW_none,errW_some] <;> rfl)|(simp [*,errW_none,errW_some] <;> rfl),by repeat (first|(with_reducible first|exact HB.out|apply qJ|apply qK|apply qL)|exact HB.out)⟩

/-! ### copperplateref17_Cols: function 44 -/
def copperplateref17_Cols.l0 : Nat→ByteArray→Int→Int→Option (Int)
 | 0,_,_,_=>none
 | k+1,x0,x3,x4=>if x4 < (x0.size : Int) then ((copperplateref02_Next.f k x0 x4).bind fun bt318=>(if bt318.2=0 then (copperplateref17_Cols.l0 k x0 (wrap64 (x3+1)) (wrap64 (x4+1))) else (copperplateref17_Cols.l0 k x0 (wrap64 (x3+1)) (wrap64 (x4+bt318.2))))) else (some x3)
def copperplateref17_Cols.f (k : Nat) (a0 : ByteArray) : Option (Int):=copperplateref17_Cols.l0 k a0 0 0
theorem copperplateref17_Cols.mono_l : ∀ k,(∀ y0 y1 y2,LeO (copperplateref17_Cols.l0 k y0 y1 y2) (copperplateref17_Cols.l0 (k+1) y0 y1 y2))
 | 0=>fun _ _ _ r h=>by simp [copperplateref17_Cols.l0] at h
 | k+1=>by
  have ih0:=copperplateref17_Cols.mono_l k
  ·intro y0 y1 y2
   unfold copperplateref17_Cols.l0
   repeat' first
   | (with_reducible exact ih0 _ _ _)
   | (with_reducible exact copperplateref02_Next.mono _ _ _)
   | (with_reducible exact LeO.refl _)
   | (with_reducible exact LeO.none _)
   | (with_reducible refine LeO.ite ?_ ?_)
   | (with_reducible refine LeO.bind ?_ (fun _=>?_))
   | exact ih0 _ _ _
   | exact copperplateref02_Next.mono _ _ _
   | exact LeO.none _
   | refine LeO.ite ?_ ?_
   | refine LeO.bind ?_ (fun _=>?_)
theorem copperplateref17_Cols.mono : ∀ a0 k,LeO (copperplateref17_Cols.f k a0) (copperplateref17_Cols.f (k+1) a0):=by
 intro a0 k
 have ih0:=copperplateref17_Cols.mono_l k
 unfold copperplateref17_Cols.f
 repeat' first
   | (with_reducible exact ih0 _ _ _)
   | (with_reducible exact copperplateref02_Next.mono _ _ _)
   | (with_reducible exact LeO.refl _)
   | (with_reducible exact LeO.none _)
   | (with_reducible refine LeO.ite ?_ ?_)
   | (with_reducible refine LeO.bind ?_ (fun _=>?_))
   | exact ih0 _ _ _
   | exact copperplateref02_Next.mono _ _ _
   | exact LeO.none _
   | refine LeO.ite ?_ ?_
   | refine LeO.bind ?_ (fun _=>?_)
set_option maxHeartbeats 8000000 in
set_option maxRecDepth 100000 in
theorem copperplateref17_Cols.calls (k : Nat) (a0 : ByteArray) (r : Int) (w : World) (h : copperplateref17_Cols.f k a0=some r) :
  Calls Try.prog 44 #[.string a0] w fun e w'=>e=.returned (.int .i64 r)∧Below w.heap.size w w':=by
 have HB:=qM (Below.refl w.heap.size w)
 have H : (copperplateref17_Cols.l0 k a0 0 0)=some r:=h
 clear h
 have H':=qM H
 clear H
 go_enter Try.func44,Try.ntmps44
 go_wp2
 go_loopg [3,4] k (fun kq v3 v4 w'=>∃ (x3_1 : Int) (x4_1 : Int),v3=.int .i64 x3_1∧v4=.int .i64 x4_1∧Aside0 (copperplateref17_Cols.l0 kq a0 x3_1 x4_1=some r)∧Aside0 (kq≤k)∧Aside0 (Below w.heap.size w w'))
 case atStart=>exact ⟨(0),(0),(by first|rfl|(simp;done)|(simp [*];done)),(by first|rfl|(simp;done)|(simp [*];done)),H',⟨Nat.le_refl _⟩,⟨by repeat (first|(with_reducible first|exact HB.out|apply qJ|apply qK|apply qL)|exact HB.out)⟩⟩
 case round =>
  clear H'
  obtain ⟨x3_1,x4_1,rfl,rfl,HA,HK1,HB⟩:=hrel
  cases gk with
  | zero=>exact absurd HA.out (by simp [copperplateref17_Cols.l0])
  | succ k1 =>
   have H:=HA.out
   clear HA
   simp only [copperplateref17_Cols.l0] at H
   by_cases c2 : x4_1 < (a0.size : Int)
   ·rw [if_pos c2] at H
    have c2b0 : decide (x4_1 < (a0.size : Int))=true:=decide_eq_true c2
    clear c2
    replace H:=Option.bind_eq_some_iff.mp H
    obtain ⟨⟨t318,t319⟩,A30,H⟩:=H
    replace H : (if t319=0 then (copperplateref17_Cols.l0 k1 a0 (wrap64 (x3_1+1)) (wrap64 (x4_1+1))) else (copperplateref17_Cols.l0 k1 a0 (wrap64 (x3_1+1)) (wrap64 (x4_1+t319))))=some r:=H
    have A3:=qM A30
    clear A30
    by_cases c4 : t319=0
    ·rw [if_pos c4] at H
     have c4b0 : (t319 == 0)=true:=beq_iff_eq.mpr c4
     have c4b1 : (t319 != 0)=false:=bne_eq_false_iff_eq.mpr c4
     clear c4
     have H':=qM H
     clear H
     go_wp2_with (first|((with_reducible refine gate_callee (f:=55) rfl ?_);refine goesL_ (some 14) rfl rfl Try.func55 (by kernel_rfl) rfl #[.string a0,.int .i64 x4_1] rfl (by (try simp only [List.map_toArray,List.map_cons,List.map_nil]);first|done|rfl|(simp only [List.length_drop,List.length_take];rfl)) ?_;(with_reducible refine (copperplateref02_Next.calls k1 a0 x4_1 t318 t319 _ A3.out).mono ?_);(try clear A3); rintro e w5 ⟨rfl,hb⟩;refine ⟨_,rfl,?_⟩;have n0_:=qM (below_step (by repeat first|exact HB.out|apply qJ|apply qK|apply qL) hb);clear HB;have HB:=n0_;clear n0_;(try clear hb);(try clear hb2);(try clear hk);(try clear hi)))
     go_roundg k1
     case measure=>have:=HK1.out;omega
     case rel=>exact ⟨(wrap64 (x3_1+1)),(wrap64 (x4_1+1)),(by first|rfl|(simp;done)|(simp [*];done)),(by first|rfl|(simp;done)|(simp [*];done)),H',⟨by have:=HK1.out;omega⟩,⟨by repeat (first|(with_reducible first|exact HB.out|apply qJ|apply qK|apply qL)|exact HB.out)⟩⟩
    ·rw [if_neg c4] at H
     have c4b0 : (t319 == 0)=false:=beq_eq_false_iff_ne.mpr c4
     have c4b1 : (t319 != 0)=true:=bne_iff_ne.mpr c4
     have H':=qM H
     clear H
     go_wp2_with (first|((with_reducible refine gate_callee (f:=55) rfl ?_);refine goesL_ (some 14) rfl rfl Try.func55 (by kernel_rfl) rfl #[.string a0,.int .i64 x4_1] rfl (by (try simp only [List.map_toArray,List.map_cons,List.map_nil]);first|done|rfl|(simp only [List.length_drop,List.length_take];rfl)) ?_;(with_reducible refine (copperplateref02_Next.calls k1 a0 x4_1 t318 t319 _ A3.out).mono ?_);(try clear A3); rintro e w6 ⟨rfl,hb⟩;refine ⟨_,rfl,?_⟩;have n0_:=qM (below_step (by repeat first|exact HB.out|apply qJ|apply qK|apply qL) hb);clear HB;have HB:=n0_;clear n0_;(try clear hb);(try clear hb2);(try clear hk);(try clear hi)))
     go_roundg k1
     case measure=>have:=HK1.out;omega
     case rel=>exact ⟨(wrap64 (x3_1+1)),(wrap64 (x4_1+t319)),(by first|rfl|(simp;done)|(simp [*];done)),(by first|rfl|(simp;done)|(simp [*];done)),H',⟨by have:=HK1.out;omega⟩,⟨by repeat (first|(with_reducible first|exact HB.out|apply qJ|apply qK|apply qL)|exact HB.out)⟩⟩
   ·rw [if_neg c2] at H
    have c2b0 : decide (x4_1 < (a0.size : Int))=false:=decide_eq_false c2
    clear c2
    obtain rfl:=Option.some.inj H
    go_wp2
    go_ret
    exact ⟨by first|rfl|(simp [errW_none,errW_some] <;> rfl)|(simp [*,errW_none,errW_some] <;> rfl),by repeat (first|(with_reducible first|exact HB.out|apply qJ|apply qK|apply qL)|exact HB.out)⟩

/-! ### copperplateref17_Breaks: function 46 -/
def copperplateref17_Breaks.f (a0_0 : Int) (a0_1 : ByteArray) : Option (Bool):=if a0_0=2 then (some true) else (if a0_0=3 then (some true) else (if a0_0=4 then (some true) else (some (a0_0 == 5))))
set_option maxHeartbeats 8000000 in
set_option maxRecDepth 100000 in
theorem copperplateref17_Breaks.calls (a0_0 : Int) (a0_1 : ByteArray) (r : Bool) (w : World) (h : copperplateref17_Breaks.f a0_0 a0_1=some r) :
  Calls Try.prog 46 #[.agg #[.int .i64 a0_0,.string a0_1]] w fun e w'=>e=.returned (.bool r)∧Below w.heap.size w w':=by
 have hu31:=Try.underlying31
 have HB:=qM (Below.refl w.heap.size w)
 have H : (if a0_0=2 then (some true) else (if a0_0=3 then (some true) else (if a0_0=4 then (some true) else (some (a0_0 == 5)))))=some r:=h
 clear h
 by_cases c2 : a0_0=2
 ·rw [if_pos c2] at H
  have c2b0 : (a0_0 == 2)=true:=beq_iff_eq.mpr c2
  have c2b1 : (a0_0 != 2)=false:=bne_eq_false_iff_eq.mpr c2
  clear c2
  obtain rfl:=Option.some.inj H
  go_enter Try.func46,Try.ntmps46
  go_wp2_with (first|((with_reducible refine gate_dst (N:=1) rfl ?_);refine box_event ?hg (N:=1) ?hd (cs:=#[.int .i64 a0_0,.string a0_1]) (t:=31) ?hr ?_;(case hd=>rfl);(case hg=>rfl);(case hr=>first|(go_simp;done)|(go_simp;rfl));intro gb320 hg w3 hbox hb;have n0_:=qM (below_step (by repeat first|exact HB.out|apply qJ|apply qK|apply qL) hb);have n1_:=qM (hbox);have n2_:=qM ((by rw [hg];exact (below_size (by repeat first|exact HB.out|apply qJ|apply qK|apply qL)) : w.heap.size≤gb320));have n3_:=qM ((by rw [hg];exact (below_size (by repeat first|exact HB.out|apply qJ|apply qK|apply qL)) : w.heap.size≤gb320));clear HB;have HB:=n0_;have BK320:=n1_;have GW320:=n2_;have GE320:=n3_;clear n0_ n1_ n2_ n3_;clear hb hbox hg;have hcz4_0 : w3.cell? ⟨gb320,0,none⟩=some (.int .i64 a0_0):=(blk_cell BK320.out 0).trans rfl;have hcz4_1 : w3.cell? ⟨gb320,1,none⟩=some (.string a0_1):=(blk_cell BK320.out 1).trans rfl;have hfz4_0:=blk_frozen BK320.out 0;have hfz4_1:=blk_frozen BK320.out 1))
  go_ret
  exact ⟨by first|rfl|(simp [errW_none,errW_some] <;> rfl)|(simp [*,errW_none,errW_some] <;> rfl),by repeat (first|(with_reducible first|exact HB.out|apply qJ|apply qK|apply qL|refine qR ?_ GE320.out)|exact HB.out)⟩
 ·rw [if_neg c2] at H
  have c2b0 : (a0_0 == 2)=false:=beq_eq_false_iff_ne.mpr c2
  have c2b1 : (a0_0 != 2)=true:=bne_iff_ne.mpr c2
  by_cases c5 : a0_0=3
  ·rw [if_pos c5] at H
   have c5b0 : (a0_0 == 3)=true:=beq_iff_eq.mpr c5
   have c5b1 : (a0_0 != 3)=false:=bne_eq_false_iff_eq.mpr c5
   clear c5
   obtain rfl:=Option.some.inj H
   go_enter Try.func46,Try.ntmps46
   go_wp2_with (first|((with_reducible refine gate_dst (N:=1) rfl ?_);refine box_event ?hg (N:=1) ?hd (cs:=#[.int .i64 a0_0,.string a0_1]) (t:=31) ?hr ?_;(case hd=>rfl);(case hg=>rfl);(case hr=>first|(go_simp;done)|(go_simp;rfl));intro gb320 hg w6 hbox hb;have n0_:=qM (below_step (by repeat first|exact HB.out|apply qJ|apply qK|apply qL) hb);have n1_:=qM (hbox);have n2_:=qM ((by rw [hg];exact (below_size (by repeat first|exact HB.out|apply qJ|apply qK|apply qL)) : w.heap.size≤gb320));have n3_:=qM ((by rw [hg];exact (below_size (by repeat first|exact HB.out|apply qJ|apply qK|apply qL)) : w.heap.size≤gb320));clear HB;have HB:=n0_;have BK320:=n1_;have GW320:=n2_;have GE320:=n3_;clear n0_ n1_ n2_ n3_;clear hb hbox hg;have hcz7_0 : w6.cell? ⟨gb320,0,none⟩=some (.int .i64 a0_0):=(blk_cell BK320.out 0).trans rfl;have hcz7_1 : w6.cell? ⟨gb320,1,none⟩=some (.string a0_1):=(blk_cell BK320.out 1).trans rfl;have hfz7_0:=blk_frozen BK320.out 0;have hfz7_1:=blk_frozen BK320.out 1))
   go_ret
   exact ⟨by first|rfl|(simp [errW_none,errW_some] <;> rfl)|(simp [*,errW_none,errW_some] <;> rfl),by repeat (first|(with_reducible first|exact HB.out|apply qJ|apply qK|apply qL|refine qR ?_ GE320.out)|exact HB.out)⟩
  ·rw [if_neg c5] at H
   have c5b0 : (a0_0 == 3)=false:=beq_eq_false_iff_ne.mpr c5
   have c5b1 : (a0_0 != 3)=true:=bne_iff_ne.mpr c5
   by_cases c8 : a0_0=4
   ·rw [if_pos c8] at H
    have c8b0 : (a0_0 == 4)=true:=beq_iff_eq.mpr c8
    have c8b1 : (a0_0 != 4)=false:=bne_eq_false_iff_eq.mpr c8
    clear c8
    obtain rfl:=Option.some.inj H
    go_enter Try.func46,Try.ntmps46
    go_wp2_with (first|((with_reducible refine gate_dst (N:=1) rfl ?_);refine box_event ?hg (N:=1) ?hd (cs:=#[.int .i64 a0_0,.string a0_1]) (t:=31) ?hr ?_;(case hd=>rfl);(case hg=>rfl);(case hr=>first|(go_simp;done)|(go_simp;rfl));intro gb320 hg w9 hbox hb;have n0_:=qM (below_step (by repeat first|exact HB.out|apply qJ|apply qK|apply qL) hb);have n1_:=qM (hbox);have n2_:=qM ((by rw [hg];exact (below_size (by repeat first|exact HB.out|apply qJ|apply qK|apply qL)) : w.heap.size≤gb320));have n3_:=qM ((by rw [hg];exact (below_size (by repeat first|exact HB.out|apply qJ|apply qK|apply qL)) : w.heap.size≤gb320));clear HB;have HB:=n0_;have BK320:=n1_;have GW320:=n2_;have GE320:=n3_;clear n0_ n1_ n2_ n3_;clear hb hbox hg;have hcz10_0 : w9.cell? ⟨gb320,0,none⟩=some (.int .i64 a0_0):=(blk_cell BK320.out 0).trans rfl;have hcz10_1 : w9.cell? ⟨gb320,1,none⟩=some (.string a0_1):=(blk_cell BK320.out 1).trans rfl;have hfz10_0:=blk_frozen BK320.out 0;have hfz10_1:=blk_frozen BK320.out 1))
    go_ret
    exact ⟨by first|rfl|(simp [errW_none,errW_some] <;> rfl)|(simp [*,errW_none,errW_some] <;> rfl),by repeat (first|(with_reducible first|exact HB.out|apply qJ|apply qK|apply qL|refine qR ?_ GE320.out)|exact HB.out)⟩
   ·rw [if_neg c8] at H
    have c8b0 : (a0_0 == 4)=false:=beq_eq_false_iff_ne.mpr c8
    have c8b1 : (a0_0 != 4)=true:=bne_iff_ne.mpr c8
    obtain rfl:=Option.some.inj H
    go_enter Try.func46,Try.ntmps46
    go_wp2_with (first|((with_reducible refine gate_dst (N:=1) rfl ?_);refine box_event ?hg (N:=1) ?hd (cs:=#[.int .i64 a0_0,.string a0_1]) (t:=31) ?hr ?_;(case hd=>rfl);(case hg=>rfl);(case hr=>first|(go_simp;done)|(go_simp;rfl));intro gb320 hg w11 hbox hb;have n0_:=qM (below_step (by repeat first|exact HB.out|apply qJ|apply qK|apply qL) hb);have n1_:=qM (hbox);have n2_:=qM ((by rw [hg];exact (below_size (by repeat first|exact HB.out|apply qJ|apply qK|apply qL)) : w.heap.size≤gb320));have n3_:=qM ((by rw [hg];exact (below_size (by repeat first|exact HB.out|apply qJ|apply qK|apply qL)) : w.heap.size≤gb320));clear HB;have HB:=n0_;have BK320:=n1_;have GW320:=n2_;have GE320:=n3_;clear n0_ n1_ n2_ n3_;clear hb hbox hg;have hcz12_0 : w11.cell? ⟨gb320,0,none⟩=some (.int .i64 a0_0):=(blk_cell BK320.out 0).trans rfl;have hcz12_1 : w11.cell? ⟨gb320,1,none⟩=some (.string a0_1):=(blk_cell BK320.out 1).trans rfl;have hfz12_0:=blk_frozen BK320.out 0;have hfz12_1:=blk_frozen BK320.out 1))
    go_ret
    exact ⟨by first|rfl|(simp [errW_none,errW_some] <;> rfl)|(simp [*,errW_none,errW_some] <;> rfl),by repeat (first|(with_reducible first|exact HB.out|apply qJ|apply qK|apply qL|refine qR ?_ GE320.out)|exact HB.out)⟩

/-! ### copperplateref17_Behind: function 45 -/
mutual
def copperplateref17_Behind.l0 : Nat→List (S31)→Int→Int→Option (Int)
 | 0,_,_,_=>none
 | k+1,x0,x5,x6=>if x6 < (x0.length : Int) then (if 0≤x6 then ((copperplateref17_Breaks.f ((rd_T31 x0 x6).f0) ((rd_T31 x0 x6).f1)).bind fun t322=>(if t322=true then (some x5) else (if ((rd_T31 x0 x6).f0)=0 then (copperplateref17_Behind.j1 k x0 x5 x6 true) else (copperplateref17_Behind.j1 k x0 x5 x6 (((rd_T31 x0 x6).f0) == 1))))) else (none)) else (some x5)
def copperplateref17_Behind.j1 : Nat→List (S31)→Int→Int→Bool→Option (Int)
 | 0,_,_,_,_=>none
 | k+1,x0,x5,x6,x37=>if x37=true then (if 0≤x6 then (if x6 < (x0.length : Int) then ((copperplateref17_Flat.f k ((rd_T31 x0 x6).f0) ((rd_T31 x0 x6).f1)).bind fun bt326=>((copperplateref17_Cols.f k bt326.1).bind fun t328=>(copperplateref17_Behind.l0 k x0 (wrap64 (x5+t328)) (wrap64 (x6+1))))) else (none)) else (none)) else (copperplateref17_Behind.l0 k x0 x5 (wrap64 (x6+1)))
end
def copperplateref17_Behind.f (k : Nat) (l0 : List (S31)) (a1 : Int) : Option (Int):=copperplateref17_Behind.l0 k l0 0 a1
theorem copperplateref17_Behind.mono_l : ∀ k,(∀ y0 y1 y2,LeO (copperplateref17_Behind.l0 k y0 y1 y2) (copperplateref17_Behind.l0 (k+1) y0 y1 y2))∧(∀ y0 y1 y2 y3,LeO (copperplateref17_Behind.j1 k y0 y1 y2 y3) (copperplateref17_Behind.j1 (k+1) y0 y1 y2 y3))
 | 0=>⟨fun _ _ _ r h=>by simp [copperplateref17_Behind.l0] at h,fun _ _ _ _ r h=>by simp [copperplateref17_Behind.j1] at h⟩
 | k+1=>by
  obtain ⟨ih0,ih1⟩:=copperplateref17_Behind.mono_l k
  refine ⟨?_,?_⟩
  ·intro y0 y1 y2
   unfold copperplateref17_Behind.l0
   repeat' first
   | (with_reducible exact ih0 _ _ _)
   | (with_reducible exact ih1 _ _ _ _)
   | (with_reducible exact copperplateref17_Cols.mono _ _)
   | (with_reducible exact copperplateref17_Flat.mono _ _ _)
   | (with_reducible exact LeO.refl _)
   | (with_reducible exact LeO.none _)
   | (with_reducible refine LeO.ite ?_ ?_)
   | (with_reducible refine LeO.bind ?_ (fun _=>?_))
   | exact ih0 _ _ _
   | exact ih1 _ _ _ _
   | exact copperplateref17_Cols.mono _ _
   | exact copperplateref17_Flat.mono _ _ _
   | exact LeO.none _
   | refine LeO.ite ?_ ?_
   | refine LeO.bind ?_ (fun _=>?_)
  ·intro y0 y1 y2 y3
   unfold copperplateref17_Behind.j1
   repeat' first
   | (with_reducible exact ih0 _ _ _)
   | (with_reducible exact ih1 _ _ _ _)
   | (with_reducible exact copperplateref17_Cols.mono _ _)
   | (with_reducible exact copperplateref17_Flat.mono _ _ _)
   | (with_reducible exact LeO.refl _)
   | (with_reducible exact LeO.none _)
   | (with_reducible refine LeO.ite ?_ ?_)
   | (with_reducible refine LeO.bind ?_ (fun _=>?_))
   | exact ih0 _ _ _
   | exact ih1 _ _ _ _
   | exact copperplateref17_Cols.mono _ _
   | exact copperplateref17_Flat.mono _ _ _
   | exact LeO.none _
   | refine LeO.ite ?_ ?_
   | refine LeO.bind ?_ (fun _=>?_)
theorem copperplateref17_Behind.mono : ∀ a0 a1 k,LeO (copperplateref17_Behind.f k a0 a1) (copperplateref17_Behind.f (k+1) a0 a1):=by
 intro a0 a1 k
 obtain ⟨ih0,ih1⟩:=copperplateref17_Behind.mono_l k
 unfold copperplateref17_Behind.f
 repeat' first
   | (with_reducible exact ih0 _ _ _)
   | (with_reducible exact ih1 _ _ _ _)
   | (with_reducible exact copperplateref17_Cols.mono _ _)
   | (with_reducible exact copperplateref17_Flat.mono _ _ _)
   | (with_reducible exact LeO.refl _)
   | (with_reducible exact LeO.none _)
   | (with_reducible refine LeO.ite ?_ ?_)
   | (with_reducible refine LeO.bind ?_ (fun _=>?_))
   | exact ih0 _ _ _
   | exact ih1 _ _ _ _
   | exact copperplateref17_Cols.mono _ _
   | exact copperplateref17_Flat.mono _ _ _
   | exact LeO.none _
   | refine LeO.ite ?_ ?_
   | refine LeO.bind ?_ (fun _=>?_)
set_option maxHeartbeats 8000000 in
set_option maxRecDepth 100000 in
theorem copperplateref17_Behind.calls (k : Nat) (A0 : Option Addr) (c0 : Nat) (l0 : List (S31)) (a1 : Int) (r : Int) (w : World) (hr0 : Kd.C k31 w A0 l0.length l0) (hc0 : l0.length≤c0) (h : copperplateref17_Behind.f k l0 a1=some r) :
  Calls Try.prog 45 #[.slice A0 l0.length c0,.int .i64 a1] w fun e w'=>e=.returned (.int .i64 r)∧Below w.heap.size w w':=by
 have hu31:=Try.underlying31
 have HR0:=qM hr0
 have HC0:=qM hc0
 clear hr0 hc0
 have HB:=qM (Below.refl w.heap.size w)
 have H : (copperplateref17_Behind.l0 k l0 0 a1)=some r:=h
 clear h
 have H':=qM H
 clear H
 go_enter Try.func45,Try.ntmps45
 go_wp2
 go_loopg [5,6] k (fun kq v5 v6 w'=>∃ (x5_1 : Int) (x6_1 : Int),v5=.int .i64 x5_1∧v6=.int .i64 x6_1∧Aside0 (copperplateref17_Behind.l0 kq l0 x5_1 x6_1=some r)∧Aside0 (kq≤k)∧Aside0 (Below w.heap.size w w'))
 case atStart=>exact ⟨(0),(a1),(by first|rfl|(simp;done)|(simp [*];done)),(by first|rfl|(simp;done)|(simp [*];done)),H',⟨Nat.le_refl _⟩,⟨by repeat (first|(with_reducible first|exact HB.out|apply qJ|apply qK|apply qL)|exact HB.out)⟩⟩
 case round =>
  clear H'
  try clear p2
  obtain ⟨x5_1,x6_1,rfl,rfl,HA,HK1,HB⟩:=hrel
  cases gk with
  | zero=>exact absurd HA.out (by simp [copperplateref17_Behind.l0])
  | succ k1 =>
   have H:=HA.out
   clear HA
   simp only [copperplateref17_Behind.l0] at H
   by_cases c3 : x6_1 < (l0.length : Int)
   ·rw [if_pos c3] at H
    have c3b0 : decide (x6_1 < (l0.length : Int))=true:=decide_eq_true c3
    clear c3
    by_cases c4 : 0≤x6_1
    ·rw [if_pos c4] at H
     have c4b0 : decide (0≤x6_1)=true:=decide_eq_true c4
     clear c4
     replace H:=Option.bind_eq_some_iff.mp H
     obtain ⟨t322,A50,H⟩:=H
     replace H : (if t322=true then (some x5_1) else (if ((rd_T31 l0 x6_1).f0)=0 then (copperplateref17_Behind.j1 k1 l0 x5_1 x6_1 true) else (copperplateref17_Behind.j1 k1 l0 x5_1 x6_1 (((rd_T31 l0 x6_1).f0) == 1))))=some r:=H
     have A5:=qM A50
     clear A50
     by_cases c6 : t322=true
     ·subst c6
      have H1 : (some x5_1)=some r:=by rw [if_pos rfl] at H;exact H
      clear H
      have H:=H1
      clear H1
      obtain rfl:=Option.some.inj H
      have p321 : 0≤(x6_1 : Int):=qN (by assumption)
      have q321 : x6_1 < (l0.length : Int):=qN (by assumption)
      obtain ⟨ad321,e321,hx321_0,hx321_1⟩:=at_T31 HR0.out x6_1 p321 q321
      cases e321
      replace hx321_0:=(HB.out.cell (World.block_lt_of_cell? w _ hx321_0)).trans hx321_0
      replace hx321_1:=(HB.out.cell (World.block_lt_of_cell? w _ hx321_1)).trans hx321_1
      replace p321:=eq_true p321
      replace q321:=eq_true q321
      go_wp2_with (first|((with_reducible refine gate_callee (f:=46) rfl ?_);refine goesL_ (some 21) rfl rfl Try.func46 (by kernel_rfl) rfl #[.agg #[.int .i64 ((rd_T31 l0 x6_1).f0),.string ((rd_T31 l0 x6_1).f1)]] rfl (by (try simp only [List.map_toArray,List.map_cons,List.map_nil]);first|done|rfl|(simp only [List.length_drop,List.length_take];rfl)) ?_;(with_reducible refine (copperplateref17_Breaks.calls ((rd_T31 l0 x6_1).f0) ((rd_T31 l0 x6_1).f1) true _ A5.out).mono ?_);(try clear A5); rintro e w7 ⟨rfl,hb⟩;refine ⟨_,rfl,?_⟩;have n0_:=qM (below_step (by repeat first|exact HB.out|apply qJ|apply qK|apply qL) hb);clear HB;have HB:=n0_;clear n0_;(try clear hb);(try clear hb2);(try clear hk);(try clear hi)))
      go_ret
      exact ⟨by first|rfl|(simp [errW_none,errW_some] <;> rfl)|(simp [*,errW_none,errW_some] <;> rfl),by repeat (first|(with_reducible first|exact HB.out|apply qJ|apply qK|apply qL)|exact HB.out)⟩
     ·replace c6:=Bool.eq_false_iff.mpr c6
      subst c6
      have H1 : (if ((rd_T31 l0 x6_1).f0)=0 then (copperplateref17_Behind.j1 k1 l0 x5_1 x6_1 true) else (copperplateref17_Behind.j1 k1 l0 x5_1 x6_1 (((rd_T31 l0 x6_1).f0) == 1)))=some r:=by rw [if_neg (show ¬ (false=true) by decide)] at H;exact H
      clear H
      have H:=H1
      clear H1
      have HC8:=qM H
      clear H
      have p321 : 0≤(x6_1 : Int):=qN (by assumption)
      have q321 : x6_1 < (l0.length : Int):=qN (by assumption)
      obtain ⟨ad321,e321,hx321_0,hx321_1⟩:=at_T31 HR0.out x6_1 p321 q321
      cases e321
      replace hx321_0:=(HB.out.cell (World.block_lt_of_cell? w _ hx321_0)).trans hx321_0
      replace hx321_1:=(HB.out.cell (World.block_lt_of_cell? w _ hx321_1)).trans hx321_1
      replace p321:=eq_true p321
      replace q321:=eq_true q321
      go_upto_region 8 with (first|((with_reducible refine gate_callee (f:=46) rfl ?_);refine goesL_ (some 21) rfl rfl Try.func46 (by kernel_rfl) rfl #[.agg #[.int .i64 ((rd_T31 l0 x6_1).f0),.string ((rd_T31 l0 x6_1).f1)]] rfl (by (try simp only [List.map_toArray,List.map_cons,List.map_nil]);first|done|rfl|(simp only [List.length_drop,List.length_take];rfl)) ?_;(with_reducible refine (copperplateref17_Breaks.calls ((rd_T31 l0 x6_1).f0) ((rd_T31 l0 x6_1).f1) false _ A5.out).mono ?_);(try clear A5); rintro e w9 ⟨rfl,hb⟩;refine ⟨_,rfl,?_⟩;have n0_:=qM (below_step (by repeat first|exact HB.out|apply qJ|apply qK|apply qL) hb);clear HB;have HB:=n0_;clear n0_;(try clear hb);(try clear hb2);(try clear hk);(try clear hi)))
      (try simp only [Act.put,qA,qB,qC])
      go_cut [37] (fun v37 wc=>∃ (kq : Nat) (x37_7 : Bool),v37=.bool x37_7∧Aside0 (copperplateref17_Behind.j1 kq l0 x5_1 x6_1 x37_7=some r)∧Aside0 (kq≤k1)∧Aside0 (Below w.heap.size w wc))
      case first =>
       have H:=HC8.out
       clear HC8
       by_cases c10 : ((rd_T31 l0 x6_1).f0)=0
       ·rw [if_pos c10] at H
        have c10b0 : (((rd_T31 l0 x6_1).f0) == 0)=true:=beq_iff_eq.mpr c10
        have c10b1 : (((rd_T31 l0 x6_1).f0) != 0)=false:=bne_eq_false_iff_eq.mpr c10
        clear c10
        (first|rw [c10b0]|(simp only [i64_w,i32_w];rw [c10b0])|skip)
        have H':=qM H
        clear H
        have p323 : 0≤(x6_1 : Int):=qN (by assumption)
        have q323 : x6_1 < (l0.length : Int):=qN (by assumption)
        obtain ⟨ad323,e323,hx323_0,hx323_1⟩:=at_T31 HR0.out x6_1 p323 q323
        obtain rfl : ad321=ad323:=(by injection e323)
        replace hx323_0:=(HB.out.cell (World.block_lt_of_cell? w _ hx323_0)).trans hx323_0
        replace hx323_1:=(HB.out.cell (World.block_lt_of_cell? w _ hx323_1)).trans hx323_1
        replace p323:=eq_true p323
        replace q323:=eq_true q323
        go_wp2
        go_meet
        case rel=>exact ⟨_,(true),(by first|rfl|(simp;done)|(simp [*];done)),H',⟨by have:=HK1.out;first|omega|exact Nat.le_refl _⟩,⟨by repeat (first|(with_reducible first|exact HB.out|apply qJ|apply qK|apply qL)|exact HB.out)⟩⟩
       ·rw [if_neg c10] at H
        have c10b0 : (((rd_T31 l0 x6_1).f0) == 0)=false:=beq_eq_false_iff_ne.mpr c10
        have c10b1 : (((rd_T31 l0 x6_1).f0) != 0)=true:=bne_iff_ne.mpr c10
        (first|rw [c10b0]|(simp only [i64_w,i32_w];rw [c10b0])|skip)
        have H':=qM H
        clear H
        have p323 : 0≤(x6_1 : Int):=qN (by assumption)
        have q323 : x6_1 < (l0.length : Int):=qN (by assumption)
        obtain ⟨ad323,e323,hx323_0,hx323_1⟩:=at_T31 HR0.out x6_1 p323 q323
        obtain rfl : ad321=ad323:=(by injection e323)
        replace hx323_0:=(HB.out.cell (World.block_lt_of_cell? w _ hx323_0)).trans hx323_0
        replace hx323_1:=(HB.out.cell (World.block_lt_of_cell? w _ hx323_1)).trans hx323_1
        replace p323:=eq_true p323
        replace q323:=eq_true q323
        have p324 : 0≤(x6_1 : Int):=qN (by assumption)
        have q324 : x6_1 < (l0.length : Int):=qN (by assumption)
        obtain ⟨ad324,e324,hx324_0,hx324_1⟩:=at_T31 HR0.out x6_1 p324 q324
        obtain rfl : ad321=ad324:=(by injection e324)
        replace hx324_0:=(HB.out.cell (World.block_lt_of_cell? w _ hx324_0)).trans hx324_0
        replace hx324_1:=(HB.out.cell (World.block_lt_of_cell? w _ hx324_1)).trans hx324_1
        replace p324:=eq_true p324
        replace q324:=eq_true q324
        go_wp2
        go_meet
        case rel=>exact ⟨_,((((rd_T31 l0 x6_1).f0) == 1)),(by first|rfl|(simp;done)|(simp [*];done)),H',⟨by have:=HK1.out;first|omega|exact Nat.le_refl _⟩,⟨by repeat (first|(with_reducible first|exact HB.out|apply qJ|apply qK|apply qL)|exact HB.out)⟩⟩
      case rest =>
       clear HC8
       try clear c1
       try clear p2
       try clear c3
       try clear c3b0
       try clear p3
       try clear q3
       try clear hx3
       try clear c4
       try clear c4b0
       try clear c6
       try clear c10
       try clear c10b0
       try clear c10b1
       try clear hx321_0
       try clear hx321_1
       try clear hx323_0
       try clear hx323_1
       try clear hx324_0
       try clear hx324_1
       try clear p2
       try clear p321
       try clear p323
       try clear p324
       try clear q321
       try clear q323
       try clear q324
       obtain ⟨kq,x37_7,rfl,HA,HJ7,HB⟩:=hcut
       cases kq with
       | zero=>exact absurd HA.out (by simp [copperplateref17_Behind.j1])
       | succ kj7 =>
        have H:=HA.out
        clear HA
        simp only [copperplateref17_Behind.j1] at H
        by_cases c11 : x37_7=true
        ·subst c11
         have H1 : (if 0≤x6_1 then (if x6_1 < (l0.length : Int) then ((copperplateref17_Flat.f kj7 ((rd_T31 l0 x6_1).f0) ((rd_T31 l0 x6_1).f1)).bind fun bt326=>((copperplateref17_Cols.f kj7 bt326.1).bind fun t328=>(copperplateref17_Behind.l0 kj7 l0 (wrap64 (x5_1+t328)) (wrap64 (x6_1+1))))) else (none)) else (none))=some r:=by rw [if_pos rfl] at H;exact H
         clear H
         have H:=H1
         clear H1
         by_cases c12 : 0≤x6_1
         ·rw [if_pos c12] at H
          have c12b0 : decide (0≤x6_1)=true:=decide_eq_true c12
          clear c12
          by_cases c13 : x6_1 < (l0.length : Int)
          ·rw [if_pos c13] at H
           have c13b0 : decide (x6_1 < (l0.length : Int))=true:=decide_eq_true c13
           clear c13
           replace H:=Option.bind_eq_some_iff.mp H
           obtain ⟨⟨t326,t327⟩,A140,H⟩:=H
           replace H : ((copperplateref17_Cols.f kj7 t326).bind fun t328=>(copperplateref17_Behind.l0 kj7 l0 (wrap64 (x5_1+t328)) (wrap64 (x6_1+1))))=some r:=H
           have A14:=qM A140
           clear A140
           replace H:=Option.bind_eq_some_iff.mp H
           obtain ⟨t328,A150,H⟩:=H
           replace H : (copperplateref17_Behind.l0 kj7 l0 (wrap64 (x5_1+t328)) (wrap64 (x6_1+1)))=some r:=H
           have A15:=qM A150
           clear A150
           have H':=qM H
           clear H
           have p325 : 0≤(x6_1 : Int):=qN (by assumption)
           have q325 : x6_1 < (l0.length : Int):=qN (by assumption)
           obtain ⟨ad325,e325,hx325_0,hx325_1⟩:=at_T31 HR0.out x6_1 p325 q325
           obtain rfl : ad321=ad325:=(by injection e325)
           replace hx325_0:=(HB.out.cell (World.block_lt_of_cell? w _ hx325_0)).trans hx325_0
           replace hx325_1:=(HB.out.cell (World.block_lt_of_cell? w _ hx325_1)).trans hx325_1
           replace p325:=eq_true p325
           replace q325:=eq_true q325
           go_wp2_with (first|((with_reducible refine gate_callee (f:=43) rfl ?_);refine goesL_ (some 43) rfl rfl Try.func43 (by kernel_rfl) rfl #[.agg #[.int .i64 ((rd_T31 l0 x6_1).f0),.string ((rd_T31 l0 x6_1).f1)]] rfl (by (try simp only [List.map_toArray,List.map_cons,List.map_nil]);first|done|rfl|(simp only [List.length_drop,List.length_take];rfl)) ?_;(with_reducible refine (copperplateref17_Flat.calls kj7 ((rd_T31 l0 x6_1).f0) ((rd_T31 l0 x6_1).f1) t326 t327 _ A14.out).mono ?_);(try clear A14); rintro e w16 ⟨rfl,hb⟩;refine ⟨_,rfl,?_⟩;have n0_:=qM (below_step (by repeat first|exact HB.out|apply qJ|apply qK|apply qL) hb);clear HB;have HB:=n0_;clear n0_;(try clear hb);(try clear hb2);(try clear hk);(try clear hi))|((with_reducible refine gate_callee (f:=44) rfl ?_);refine goesL_ (some 48) rfl rfl Try.func44 (by kernel_rfl) rfl #[.string t326] rfl (by (try simp only [List.map_toArray,List.map_cons,List.map_nil]);first|done|rfl|(simp only [List.length_drop,List.length_take];rfl)) ?_;(with_reducible refine (copperplateref17_Cols.calls kj7 t326 t328 _ A15.out).mono ?_);(try clear A15); rintro e w17 ⟨rfl,hb⟩;refine ⟨_,rfl,?_⟩;have n0_:=qM (below_step (by repeat first|exact HB.out|apply qJ|apply qK|apply qL) hb);clear HB;have HB:=n0_;clear n0_;(try clear hb);(try clear hb2);(try clear hk);(try clear hi)))
           go_roundg kj7
           case measure=>have:=HK1.out;have:=HJ7.out;omega
           case rel=>exact ⟨(wrap64 (x5_1+t328)),(wrap64 (x6_1+1)),(by first|rfl|(simp;done)|(simp [*];done)),(by first|rfl|(simp;done)|(simp [*];done)),H',⟨by have:=HK1.out;have:=HJ7.out;omega⟩,⟨by repeat (first|(with_reducible first|exact HB.out|apply qJ|apply qK|apply qL)|exact HB.out)⟩⟩
          ·rw [if_neg c13] at H
           exact absurd H (by simp)
         ·rw [if_neg c12] at H
          exact absurd H (by simp)
        ·replace c11:=Bool.eq_false_iff.mpr c11
         subst c11
         have H1 : (copperplateref17_Behind.l0 kj7 l0 x5_1 (wrap64 (x6_1+1)))=some r:=by rw [if_neg (show ¬ (false=true) by decide)] at H;exact H
         clear H
         have H:=H1
         clear H1
         have H':=qM H
         clear H
         go_wp2
         go_roundg kj7
         case measure=>have:=HK1.out;have:=HJ7.out;omega
         case rel=>exact ⟨(x5_1),(wrap64 (x6_1+1)),(by first|rfl|(simp;done)|(simp [*];done)),(by first|rfl|(simp;done)|(simp [*];done)),H',⟨by have:=HK1.out;have:=HJ7.out;omega⟩,⟨by repeat (first|(with_reducible first|exact HB.out|apply qJ|apply qK|apply qL)|exact HB.out)⟩⟩
    ·rw [if_neg c4] at H
     exact absurd H (by simp)
   ·rw [if_neg c3] at H
    have c3b0 : decide (x6_1 < (l0.length : Int))=false:=decide_eq_false c3
    clear c3
    obtain rfl:=Option.some.inj H
    go_wp2
    go_ret
    exact ⟨by first|rfl|(simp [errW_none,errW_some] <;> rfl)|(simp [*,errW_none,errW_some] <;> rfl),by repeat (first|(with_reducible first|exact HB.out|apply qJ|apply qK|apply qL)|exact HB.out)⟩

end Go.Proofs.Ytipjfdamkpgecaa.PWide
