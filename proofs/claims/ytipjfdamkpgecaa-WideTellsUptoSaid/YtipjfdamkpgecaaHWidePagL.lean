/- Plain facts of pages: no program in sight. -/
import Derived.Test.YtipjfdamkpgecaaHWideGrpL
namespace Go.Proofs.Ytipjfdamkpgecaa.PWide
open Go.RowKit Go.Proofs.YtipjfdamkpgecaaW.PrintWords Go.Proofs.YtipjfdamkpgecaaW.PrintMore
set_option linter.unusedVariables false
set_option linter.unusedSimpArgs false
/-! ### Pages -/
/-- A page: what is told, the indent, the column, the blanks that are due, and up to where it is flat. -/
structure PgB where
  out : List UInt8
  ind : Int
  col : Int
  due : Int
  flat : Int
def pg0 : PgB:=⟨[],0,0,0,-1⟩
def bl (s : ByteArray) : List UInt8:=s.data.toList
theorem bl_len (s : ByteArray) : (bl s).length=s.size:=by unfold bl;rw [Array.length_toList];rfl
def putP (p : PgB) (s : ByteArray) : PgB:=if s.size=0 then p else { p with out:=p.out++List.replicate p.due.toNat 32++bl s,due:=0,col:=p.col+colsOf s }
def lineP (p : PgB) : PgB:={ p with out:=p.out++[10],col:=p.ind,due:=p.ind }
/-- One bit; b: whether a group fits, M: where it ends. -/
def stepP (x : S31) (i : Int) (b : Bool) (M : Int) (p : PgB) : PgB :=
  if x.f0=6 then (if p.flat < 0∧b=true then { p with flat:=M } else p)
  else if x.f0=7 then (if p.flat=i then { p with flat:=-1 } else p)
  else if x.f0=8 then { p with ind:=p.ind+2 }
  else if x.f0=9 then { p with ind:=p.ind - 2 }
  else if brB x.f0=true∧(p.flat < 0 ∨ x.f0=5) then lineP p
  else putP p (flatOf x.f0 x.f1).1
def fitP (l : List S31) (w : Int) (i : Nat) (col : Int) : Bool:=decide (0≤needOf l (i : Int)∧col+needOf l (i : Int)≤w)
def uptoP (l : List S31) (w : Int) : Nat→PgB
  | 0=>pg0
  | k+1=>stepP (gB l k) k (fitP l w k (uptoP l w k).col) (matchOf l k) (uptoP l w k)
theorem uptoP_succ (l : List S31) (w : Int) (k : Nat) : uptoP l w (k+1)=stepP (gB l k) k (fitP l w k (uptoP l w k).col) (matchOf l k) (uptoP l w k):=rfl
/-- Told by what stands ahead, and by what its groups need. -/
theorem uptoP_congr {a b : List S31} {w : Int} : ∀ (k : Nat),(∀ j,j < k→gB a j=gB b j)→(∀ j,j < k→(gB b j).f0=6→matchOf a j=matchOf b j∧needOf a j=needOf b j)→uptoP a w k=uptoP b w k
  | 0,_,_=>rfl
  | k+1,h1,h2=>by
    rw [uptoP_succ,uptoP_succ,uptoP_congr k (fun j hj=>h1 j (by omega)) (fun j hj=>h2 j (by omega)),h1 k (by omega)]
    by_cases g : (gB b k).f0=6
    · obtain ⟨e1,e2⟩:=h2 k (by omega) g
      unfold fitP;rw [e1,e2]
    · unfold stepP;rw [if_neg g,if_neg g]
/-- Seven kinds of bits. -/
theorem stepP_other {x : S31} {i : Int} {b b' : Bool} {M M' : Int} {p : PgB} (h : x.f0 ≠ 6) : stepP x i b M p=stepP x i b' M' p:=by
  unfold stepP;rw [if_neg h,if_neg h]
/-! What stays true. -/
def bulkB (l : List S31) : Nat→Nat
  | 0=>0
  | k+1=>bulkB l k+(gB l k).f1.size
structure OkP (l : List S31) (k : Nat) (p : PgB) : Prop where
  ind : p.ind=2 * indB l k
  due0 : 0≤p.due
  due1 : p.due≤2 * k
  due2 : p.due % 2=0
  col0 : 0≤p.col
  col1 : p.col≤2 * k+2 * k+bulkB l k
  out : p.out.length≤(2 * k+2) * k+bulkB l k
  flat : p.flat=-1 ∨ ∃ i m : Nat,p.flat=m∧IsM l i m∧i < k∧k≤m
theorem indB_le (l : List S31) : ∀ k,indB l k≤k
  | 0=>by rw [indB];omega
  | k+1=>by
    have:=indB_le l k
    have : valI (gB l k).f0≤1:=by unfold valI;(repeat' split) <;> omega
    rw [indB];omega
theorem flatOf_size2 (m : Int) (s : ByteArray) : (flatOf m s).1.size≤s.size+2:=by
  unfold flatOf
  (repeat' split) <;> (dsimp only;have : (⟨#[32]⟩ : ByteArray).size=1:=rfl;have : (⟨#[44,32]⟩ : ByteArray).size=2:=rfl;have : (⟨#[]⟩ : ByteArray).size=0:=rfl;omega)
theorem okP {l : List S31} (h : MayB l) (w : Int) : ∀ k,k≤l.length→OkP l k (uptoP l w k)
  | 0,_=>⟨rfl,Int.le_refl 0,Int.le_refl 0,rfl,Int.le_refl 0,Int.le_refl 0,Nat.le_refl 0,.inl rfl⟩
  | k+1,hk=>by
    have ih:=okP h w k (by omega)
    obtain ⟨g1,g2,g3,g4,g5,g6,g7,g8⟩:=ih
    have hI:=h.ind k (by omega)
    have hI1:=h.ind (k+1) hk
    have hle:=indB_le l k
    rw [uptoP_succ]
    generalize uptoP l w k=p at g1 g2 g3 g4 g5 g6 g7 g8 ⊢
    have mul : (2 * (k+1)+2) * (k+1)=(2 * k+2) * k+(4 * k+4):=by
      rw [show 2 * (k+1)+2=2 * k+2+2 by omega,Nat.mul_add,Nat.add_mul (2 * k+2) 2 k];omega
    have hb : bulkB l (k+1)=bulkB l k+(gB l k).f1.size:=rfl
    have hi : indB l (k+1)=indB l k+valI (gB l k).f0:=rfl
    have keep : k ∈ [k]→∀ f : Int,(f=-1 ∨ ∃ i m : Nat,f=m∧IsM l i m∧i < k∧k≤m)→(gB l k).f0 ≠ 7→f=-1 ∨ ∃ i m : Nat,f=m∧IsM l i m∧i < k+1∧k+1≤m:=by
      intro _ f hf h7
      rcases hf with hf|⟨i,m,e,hm,a,b⟩
      · exact .inl hf
      · refine .inr ⟨i,m,e,hm,by omega,?_⟩
        by_cases q : k=m
        · subst q;exact absurd hm.close h7
        · omega
    have keep:=keep (List.mem_singleton.2 rfl)
    unfold stepP
    by_cases c6 : (gB l k).f0=6
    · rw [if_pos c6]
      have hv : valI (gB l k).f0=0:=by rw [c6];rfl
      split
      · rename_i hc
        refine ⟨by dsimp only;rw [g1,hi,hv];omega,g2,by dsimp only;omega,g4,g5,by dsimp only;omega,by dsimp only;omega,?_⟩
        obtain ⟨m,hm⟩:=h.group (by omega) c6
        refine .inr ⟨k,m,hm.mt,hm,by omega,hm.lt⟩
      · exact ⟨by rw [g1,hi,hv];omega,g2,by omega,g4,g5,by omega,by omega,keep _ g8 (by omega)⟩
    rw [if_neg c6]
    by_cases c7 : (gB l k).f0=7
    · rw [if_pos c7]
      have hv : valI (gB l k).f0=0:=by rw [c7];rfl
      split
      · exact ⟨by dsimp only;rw [g1,hi,hv];omega,g2,by dsimp only;omega,g4,g5,by dsimp only;omega,by dsimp only;omega,.inl rfl⟩
      · rename_i hc
        refine ⟨by rw [g1,hi,hv];omega,g2,by omega,g4,g5,by omega,by omega,?_⟩
        rcases g8 with hf|⟨i,m,e,hm,a,b⟩
        · exact .inl hf
        · have hkm : k ≠ m:=by intro q;subst q;exact hc e
          exact .inr ⟨i,m,e,hm,by omega,by omega⟩
    rw [if_neg c7]
    have kp:=keep _ g8 c7
    by_cases c8 : (gB l k).f0=8
    · rw [if_pos c8]
      have hv : valI (gB l k).f0=1:=by rw [c8];rfl
      exact ⟨by dsimp only;rw [g1,hi,hv];omega,g2,by dsimp only;omega,g4,g5,by dsimp only;omega,by dsimp only;omega,kp⟩
    rw [if_neg c8]
    by_cases c9 : (gB l k).f0=9
    · rw [if_pos c9]
      have hv : valI (gB l k).f0=-1:=by rw [c9];rfl
      exact ⟨by dsimp only;rw [g1,hi,hv];omega,g2,by dsimp only;omega,g4,g5,by dsimp only;omega,by dsimp only;omega,kp⟩
    rw [if_neg c9]
    have hv : valI (gB l k).f0=0:=by unfold valI;rw [if_neg c8,if_neg c9]
    rw [hv] at hi
    split
    · unfold lineP
      refine ⟨by dsimp only;rw [g1,hi];omega,by dsimp only;omega,by dsimp only;omega,by dsimp only;omega,by dsimp only;omega,by dsimp only;omega,?_,kp⟩
      dsimp only
      rw [List.length_append,List.length_singleton];omega
    · unfold putP
      split
      · exact ⟨by rw [g1,hi];omega,g2,by omega,g4,g5,by omega,by omega,kp⟩
      · have h1:=flatOf_size2 (gB l k).f0 (gB l k).f1
        have h2:=colsOf_bd (flatOf (gB l k).f0 (gB l k).f1).1
        refine ⟨by dsimp only;rw [g1,hi];omega,by dsimp only;omega,by dsimp only;omega,by dsimp only;omega,by dsimp only;omega,by dsimp only;omega,?_,kp⟩
        dsimp only
        rw [List.length_append,List.length_append,List.length_replicate,bl_len]
        have : p.due.toNat≤2 * k:=by omega
        omega
/-! ### Laws on pages -/
theorem tsB_col2 {l : List S31} (h : MayB l) {k : Nat} (hk : k < l.length) (hb : brB (gB l k).f0=false) : tsB l k=colA l k:=by
  have h1:=h.bit k hk
  unfold tsB
  by_cases g : (gB l k).f0=0 ∨ (gB l k).f0=1
  · rw [if_pos g]
  · rw [if_neg g]
    have : (gB l k).f0=6 ∨ (gB l k).f0=7 ∨ (gB l k).f0=8 ∨ (gB l k).f0=9:=by
      unfold brB at hb
      simp only [Bool.or_eq_false_iff,beq_eq_false_iff_ne] at hb
      omega
    unfold colA
    rcases this with e|e|e|e <;> (rw [e];exact cols_none.symm)
theorem flA_hard {l : List S31} (h : MayB l) {j : Nat} (hj : j < l.length) : flA l j=false ↔ (gB l j).f0=5:=by
  have:=h.bit j hj
  unfold flA flatOf
  constructor
  · intro hf
    (repeat' split at hf) <;> first|omega|simp at hf
  · intro e;rw [e];rfl
end Go.Proofs.Ytipjfdamkpgecaa.PWide
