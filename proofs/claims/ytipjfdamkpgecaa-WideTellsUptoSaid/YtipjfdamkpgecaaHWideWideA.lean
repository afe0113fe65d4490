import Derived.Test.YtipjfdamkpgecaaHWideLaid
import Derived.Test.YtipjfdamkpgecaaHWideMarkMay
import Derived.Test.YtipjfdamkpgecaaPWidex10
namespace Go.Proofs.Ytipjfdamkpgecaa.PWide
open Go.RowKit Go.Proofs.YtipjfdamkpgecaaW.PrintWords Go.Proofs.YtipjfdamkpgecaaW.PrintMore
set_option linter.unusedVariables false
set_option linter.unusedSimpArgs false
def copperplatelaw18_awake.f : Option Bool:=some true
theorem colsFrom_end {s : ByteArray} {k : Nat} (h : ¬ k < s.size) : colsFrom s k=0:=by rw [colsFrom,if_neg h]
theorem colsFrom_step {s : ByteArray} {k : Nat} (q : Nat) (h : k < s.size) (hq : stepOf s k=q) : colsFrom s k=1+colsFrom s (k+q):=by rw [colsFrom,if_pos h,hq]
theorem cols_one (c : UInt8) (h : stepOf ⟨#[c]⟩ 0=1) : colsOf ⟨#[c]⟩=1:=by
  unfold colsOf
  rw [colsFrom_step 1 (show 0 < 1 by decide) h,colsFrom_end (show ¬ 0+1 < 1 by decide)];rfl
theorem c_40 : colsOf ⟨#[40]⟩=1:=cols_one 40 (by decide +kernel)
theorem c_41 : colsOf ⟨#[41]⟩=1:=cols_one 41 (by decide +kernel)
theorem c_97 : colsOf ⟨#[97]⟩=1:=cols_one 97 (by decide +kernel)
theorem c_98 : colsOf ⟨#[98]⟩=1:=cols_one 98 (by decide +kernel)
theorem c_44 : colsOf ⟨#[44,32]⟩=2:=by
  unfold colsOf
  rw [colsFrom_step 1 (by decide) (by decide +kernel),colsFrom_step 1 (by decide) (by decide +kernel),colsFrom_end (by decide)];rfl
def lP : List S31:=[(⟨6,(⟨#[]⟩ : ByteArray)⟩ : S31),(⟨0,(⟨#[40]⟩ : ByteArray)⟩ : S31),(⟨8,(⟨#[]⟩ : ByteArray)⟩ : S31),(⟨3,(⟨#[]⟩ : ByteArray)⟩ : S31),(⟨0,(⟨#[97]⟩ : ByteArray)⟩ : S31),(⟨4,(⟨#[]⟩ : ByteArray)⟩ : S31),(⟨0,(⟨#[98]⟩ : ByteArray)⟩ : S31),(⟨9,(⟨#[]⟩ : ByteArray)⟩ : S31),(⟨3,(⟨#[]⟩ : ByteArray)⟩ : S31),(⟨0,(⟨#[41]⟩ : ByteArray)⟩ : S31),(⟨7,(⟨#[]⟩ : ByteArray)⟩ : S31)]
theorem lP_match : matchOf lP 0=10:=by decide +kernel
theorem lP_small : small33 lP:=by
  intro x hx
  simp only [lP,List.mem_cons,List.not_mem_nil,or_false] at hx
  rcases hx with rfl|rfl|rfl|rfl|rfl|rfl|rfl|rfl|rfl|rfl|rfl <;> decide
theorem lP_need : needOf lP 0=6:=by
  rcases group_cases lP_small (by decide) 0 with ⟨h,_⟩|⟨i',k,e,h1,h2,h3⟩
  · rw [lP_match] at h;exact absurd h (by decide)
  · rw [lP_match] at h1
    obtain rfl : k=10:=by omega
    obtain rfl : i'=0:=by omega
    rw [h2]
    unfold needV
    rw [if_pos (by decide +kernel)]
    have a1 : colA lP 1=1:=(show colA lP 1=colsOf ⟨#[40]⟩ from rfl).trans c_40
    have a2 : colA lP 2=0:=(show colA lP 2=colsOf ⟨#[]⟩ from rfl).trans cols_none
    have a3 : colA lP 3=0:=(show colA lP 3=colsOf ⟨#[]⟩ from rfl).trans cols_none
    have a4 : colA lP 4=1:=(show colA lP 4=colsOf ⟨#[97]⟩ from rfl).trans c_97
    have a5 : colA lP 5=2:=(show colA lP 5=colsOf ⟨#[44,32]⟩ from rfl).trans c_44
    have a6 : colA lP 6=1:=(show colA lP 6=colsOf ⟨#[98]⟩ from rfl).trans c_98
    have a7 : colA lP 7=0:=(show colA lP 7=colsOf ⟨#[]⟩ from rfl).trans cols_none
    have a8 : colA lP 8=0:=(show colA lP 8=colsOf ⟨#[]⟩ from rfl).trans cols_none
    have a9 : colA lP 9=1:=(show colA lP 9=colsOf ⟨#[41]⟩ from rfl).trans c_41
    have s : sumC lP (0+1) (10 - (0+1))=6:=by
      show 0+colA lP 1+colA lP 2+colA lP 3+colA lP 4+colA lP 5+colA lP 6+colA lP 7+colA lP 8+colA lP 9=6
      rw [a1,a2,a3,a4,a5,a6,a7,a8,a9];rfl
    rw [s];rfl
theorem fit_lP6 : fitP lP 6 0 (⟨[],0,0,0,-1⟩ : PgB).col=true:=by
  unfold fitP;rw [show ((0 : Nat) : Int)=0 from rfl,lP_need];decide
theorem fit_lP5 : fitP lP 5 0 (⟨[],0,0,0,-1⟩ : PgB).col=false:=by
  unfold fitP;rw [show ((0 : Nat) : Int)=0 from rfl,lP_need];decide
theorem u6_0 : uptoP lP 6 0=⟨[],0,0,0,(-1)⟩:=rfl
theorem u6_1 : uptoP lP 6 1=⟨[],0,0,0,10⟩:=by
  rw [uptoP_succ,u6_0,show ((0 : Nat) : Int)=0 from rfl,lP_match,fit_lP6];rfl
theorem u6_2 : uptoP lP 6 2=⟨[40],0,1,0,10⟩:=by
  rw [uptoP_succ,u6_1]
  exact (show stepP (⟨0,⟨#[40]⟩⟩ : S31) _ _ _ ⟨[],0,0,0,10⟩=⟨[40],0,(0+colsOf ⟨#[40]⟩),0,10⟩ from rfl).trans (by rw [c_40];rfl)
theorem u6_3 : uptoP lP 6 3=⟨[40],2,1,0,10⟩:=by
  rw [uptoP_succ,u6_2];exact (show stepP (⟨8,⟨#[]⟩⟩ : S31) _ _ _ ⟨[40],0,1,0,10⟩=⟨[40],2,1,0,10⟩ from rfl)
theorem u6_4 : uptoP lP 6 4=⟨[40],2,1,0,10⟩:=by
  rw [uptoP_succ,u6_3];exact (show stepP (⟨3,⟨#[]⟩⟩ : S31) _ _ _ ⟨[40],2,1,0,10⟩=⟨[40],2,1,0,10⟩ from rfl)
theorem u6_5 : uptoP lP 6 5=⟨[40,97],2,2,0,10⟩:=by
  rw [uptoP_succ,u6_4]
  exact (show stepP (⟨0,⟨#[97]⟩⟩ : S31) _ _ _ ⟨[40],2,1,0,10⟩=⟨[40,97],2,(1+colsOf ⟨#[97]⟩),0,10⟩ from rfl).trans (by rw [c_97];rfl)
theorem u6_6 : uptoP lP 6 6=⟨[40,97,44,32],2,4,0,10⟩:=by
  rw [uptoP_succ,u6_5]
  exact (show stepP (⟨4,⟨#[]⟩⟩ : S31) _ _ _ ⟨[40,97],2,2,0,10⟩=⟨[40,97,44,32],2,(2+colsOf ⟨#[44,32]⟩),0,10⟩ from rfl).trans (by rw [c_44];rfl)
theorem u6_7 : uptoP lP 6 7=⟨[40,97,44,32,98],2,5,0,10⟩:=by
  rw [uptoP_succ,u6_6]
  exact (show stepP (⟨0,⟨#[98]⟩⟩ : S31) _ _ _ ⟨[40,97,44,32],2,4,0,10⟩=⟨[40,97,44,32,98],2,(4+colsOf ⟨#[98]⟩),0,10⟩ from rfl).trans (by rw [c_98];rfl)
theorem u6_8 : uptoP lP 6 8=⟨[40,97,44,32,98],0,5,0,10⟩:=by
  rw [uptoP_succ,u6_7];exact (show stepP (⟨9,⟨#[]⟩⟩ : S31) _ _ _ ⟨[40,97,44,32,98],2,5,0,10⟩=⟨[40,97,44,32,98],0,5,0,10⟩ from rfl)
theorem u6_9 : uptoP lP 6 9=⟨[40,97,44,32,98],0,5,0,10⟩:=by
  rw [uptoP_succ,u6_8];exact (show stepP (⟨3,⟨#[]⟩⟩ : S31) _ _ _ ⟨[40,97,44,32,98],0,5,0,10⟩=⟨[40,97,44,32,98],0,5,0,10⟩ from rfl)
theorem u6_10 : uptoP lP 6 10=⟨[40,97,44,32,98,41],0,6,0,10⟩:=by
  rw [uptoP_succ,u6_9]
  exact (show stepP (⟨0,⟨#[41]⟩⟩ : S31) _ _ _ ⟨[40,97,44,32,98],0,5,0,10⟩=⟨[40,97,44,32,98,41],0,(5+colsOf ⟨#[41]⟩),0,10⟩ from rfl).trans (by rw [c_41];rfl)
theorem u6_11 : uptoP lP 6 11=⟨[40,97,44,32,98,41],0,6,0,(-1)⟩:=by
  rw [uptoP_succ,u6_10];exact (show stepP (⟨7,⟨#[]⟩⟩ : S31) _ _ _ ⟨[40,97,44,32,98,41],0,6,0,10⟩=⟨[40,97,44,32,98,41],0,6,0,(-1)⟩ from rfl)
theorem u5_0 : uptoP lP 5 0=⟨[],0,0,0,(-1)⟩:=rfl
theorem u5_1 : uptoP lP 5 1=⟨[],0,0,0,(-1)⟩:=by
  rw [uptoP_succ,u5_0,show ((0 : Nat) : Int)=0 from rfl,lP_match,fit_lP5];rfl
theorem u5_2 : uptoP lP 5 2=⟨[40],0,1,0,(-1)⟩:=by
  rw [uptoP_succ,u5_1]
  exact (show stepP (⟨0,⟨#[40]⟩⟩ : S31) _ _ _ ⟨[],0,0,0,(-1)⟩=⟨[40],0,(0+colsOf ⟨#[40]⟩),0,(-1)⟩ from rfl).trans (by rw [c_40];rfl)
theorem u5_3 : uptoP lP 5 3=⟨[40],2,1,0,(-1)⟩:=by
  rw [uptoP_succ,u5_2];exact (show stepP (⟨8,⟨#[]⟩⟩ : S31) _ _ _ ⟨[40],0,1,0,(-1)⟩=⟨[40],2,1,0,(-1)⟩ from rfl)
theorem u5_4 : uptoP lP 5 4=⟨[40,10],2,2,2,(-1)⟩:=by
  rw [uptoP_succ,u5_3];exact (show stepP (⟨3,⟨#[]⟩⟩ : S31) _ _ _ ⟨[40],2,1,0,(-1)⟩=⟨[40,10],2,2,2,(-1)⟩ from rfl)
theorem u5_5 : uptoP lP 5 5=⟨[40,10,32,32,97],2,3,0,(-1)⟩:=by
  rw [uptoP_succ,u5_4]
  exact (show stepP (⟨0,⟨#[97]⟩⟩ : S31) _ _ _ ⟨[40,10],2,2,2,(-1)⟩=⟨[40,10,32,32,97],2,(2+colsOf ⟨#[97]⟩),0,(-1)⟩ from rfl).trans (by rw [c_97];rfl)
theorem u5_6 : uptoP lP 5 6=⟨[40,10,32,32,97,10],2,2,2,(-1)⟩:=by
  rw [uptoP_succ,u5_5];exact (show stepP (⟨4,⟨#[]⟩⟩ : S31) _ _ _ ⟨[40,10,32,32,97],2,3,0,(-1)⟩=⟨[40,10,32,32,97,10],2,2,2,(-1)⟩ from rfl)
theorem u5_7 : uptoP lP 5 7=⟨[40,10,32,32,97,10,32,32,98],2,3,0,(-1)⟩:=by
  rw [uptoP_succ,u5_6]
  exact (show stepP (⟨0,⟨#[98]⟩⟩ : S31) _ _ _ ⟨[40,10,32,32,97,10],2,2,2,(-1)⟩=⟨[40,10,32,32,97,10,32,32,98],2,(2+colsOf ⟨#[98]⟩),0,(-1)⟩ from rfl).trans (by rw [c_98];rfl)
theorem u5_8 : uptoP lP 5 8=⟨[40,10,32,32,97,10,32,32,98],0,3,0,(-1)⟩:=by
  rw [uptoP_succ,u5_7];exact (show stepP (⟨9,⟨#[]⟩⟩ : S31) _ _ _ ⟨[40,10,32,32,97,10,32,32,98],2,3,0,(-1)⟩=⟨[40,10,32,32,97,10,32,32,98],0,3,0,(-1)⟩ from rfl)
theorem u5_9 : uptoP lP 5 9=⟨[40,10,32,32,97,10,32,32,98,10],0,0,0,(-1)⟩:=by
  rw [uptoP_succ,u5_8];exact (show stepP (⟨3,⟨#[]⟩⟩ : S31) _ _ _ ⟨[40,10,32,32,97,10,32,32,98],0,3,0,(-1)⟩=⟨[40,10,32,32,97,10,32,32,98,10],0,0,0,(-1)⟩ from rfl)
theorem u5_10 : uptoP lP 5 10=⟨[40,10,32,32,97,10,32,32,98,10,41],0,1,0,(-1)⟩:=by
  rw [uptoP_succ,u5_9]
  exact (show stepP (⟨0,⟨#[41]⟩⟩ : S31) _ _ _ ⟨[40,10,32,32,97,10,32,32,98,10],0,0,0,(-1)⟩=⟨[40,10,32,32,97,10,32,32,98,10,41],0,(0+colsOf ⟨#[41]⟩),0,(-1)⟩ from rfl).trans (by rw [c_41];rfl)
theorem u5_11 : uptoP lP 5 11=⟨[40,10,32,32,97,10,32,32,98,10,41],0,1,0,(-1)⟩:=by
  rw [uptoP_succ,u5_10];exact (show stepP (⟨7,⟨#[]⟩⟩ : S31) _ _ _ ⟨[40,10,32,32,97,10,32,32,98,10,41],0,1,0,(-1)⟩=⟨[40,10,32,32,97,10,32,32,98,10,41],0,1,0,(-1)⟩ from rfl)
theorem mayB_lP : MayB lP:=by decide +kernel
theorem laid_lP (w : Int) : wide_laid.f lP w=some (⟨(uptoP lP w 11).out.toArray⟩,colsL lP w):=by
  unfold wide_laid.f;rw [if_pos ⟨mayB_lP,lP_small,by decide +kernel⟩];rfl
theorem room_f {l : List S31} (h : l.length≤17592186044416) (w : Int) : wide_Room.f l w=some (mayOf l && decide (1≤w) && decide (w≤65535)):=by
  unfold wide_Room.f mark_May.f
  rw [if_pos h,Option.bind_some]
  cases mayOf l with
  | false=>rfl
  | true =>
    rw [if_pos rfl]
    by_cases g : 1≤w
    · rw [if_pos g,decide_eq_true g];rfl
    · rw [if_neg g,decide_eq_false g];rfl
theorem room_lP (w : Int) : wide_Room.f lP w=some (decide (1≤w) && decide (w≤65535)):=by
  rw [room_f (by decide),mayOf_true mayB_lP];rfl
theorem lay_lP (w : Int) (h1 : 1≤w) (h2 : w≤65535) : wide_Lay.f lP w=some (⟨(uptoP lP w 11).out.toArray⟩,true):=by
  unfold wide_Lay.f
  rw [room_lP,Option.bind_some,decide_eq_true h1,decide_eq_true h2,Bool.and_self,if_pos rfl,laid_lP];rfl
theorem col_lP (w : Int) (h1 : 1≤w) (h2 : w≤65535) (k : Nat) (hk : k < 12) : wide_Col.f lP w k=some (uptoP lP w k).col:=by
  have hlen : (colsL lP w).length=12:=tab_len _ _
  unfold wide_Col.f
  rw [room_lP,Option.bind_some,decide_eq_true h1,decide_eq_true h2,Bool.and_self,if_pos rfl,if_neg (by omega),if_neg (by show ¬ (k : Int) > 11;omega),laid_lP,Option.bind_some,if_pos (by omega)]
  dsimp only
  rw [hlen,if_pos (by omega)]
  exact congrArg some (tab_rd (fun j=>(uptoP lP w j).col) (n:=12) hk)
theorem awake_yes : copperplatelaw18_awake_p.f=some true:=by
  have hl : copperplatelaw18_Pair.f=some lP:=rfl
  unfold copperplatelaw18_awake_p.f
  rw [hl]
  simp only [Option.bind_some]
  rw [lay_lP 6 (by decide) (by decide),lay_lP 5 (by decide) (by decide),u6_11,u5_11,room_lP 1,room_lP 0,show (11 : Int)=((11 : Nat) : Int) from rfl,show (4 : Int)=((4 : Nat) : Int) from rfl,col_lP 6 (by decide) (by decide) 11 (by decide),col_lP 5 (by decide) (by decide) 4 (by decide),u6_11,u5_4]
  simp only [Option.bind_some]
  rw [if_pos trivial,if_pos (by decide +kernel),if_pos trivial,if_pos (by decide +kernel),if_pos (by decide),if_neg (by decide),if_pos trivial];rfl
theorem copperplatelaw18_awake.calls (r : Bool) (w : World) (h : copperplatelaw18_awake.f=some r) :
    Calls Try.prog 10 #[] w fun e w'=>e=.returned (.bool r)∧Below w.heap.size w w':=by
  obtain rfl : true=r:=Option.some.inj h
  exact copperplatelaw18_awake_p.calls true w awake_yes rfl
end Go.Proofs.Ytipjfdamkpgecaa.PWide
