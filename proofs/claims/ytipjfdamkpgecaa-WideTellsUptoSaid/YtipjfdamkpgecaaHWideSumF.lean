/- What wide.sum and wide.matches reckon: closed forms. -/
import Derived.Test.YtipjfdamkpgecaaHWidePagL
import Derived.Test.YtipjfdamkpgecaaHWideFlat
import Derived.Test.YtipjfdamkpgecaaPWidex7
import Derived.Test.YtipjfdamkpgecaaPWidex8
import Derived.Test.YtipjfdamkpgecaaPWidex6
namespace Go.Proofs.Ytipjfdamkpgecaa.PWide
open Go.RowKit Go.Proofs.YtipjfdamkpgecaaW.PrintWords Go.Proofs.YtipjfdamkpgecaaW.PrintMore
set_option linter.unusedVariables false
set_option linter.unusedSimpArgs false
theorem breaks_f (m : Int) (s : ByteArray) : span_Breaks.f m s=some (brB m):=by
  unfold span_Breaks.f brB
  by_cases h2 : m=2
  · subst h2;rfl
  by_cases h3 : m=3
  · subst h3;rfl
  by_cases h4 : m=4
  · subst h4;rfl
  rw [if_neg h2,if_neg h3,if_neg h4]
  simp [h2,h3,h4]
/-- n values of a function. -/
def tab (n : Nat) (f : Nat→Int) : List Int:=(List.range n).map f
theorem tab_len (n : Nat) (f : Nat→Int) : (tab n f).length=n:=by simp [tab]
theorem tab_rd {n : Nat} (f : Nat→Int) {i : Nat} (h : i < n) : rd (tab n f) (i : Int)=f i:=by
  unfold rd tab
  rw [Int.toNat_natCast,List.getD_eq_getElem?_getD,List.getElem?_map,List.getElem?_range h];rfl
theorem tab_set (n : Nat) (f : Nat→Int) (i : Nat) (v : Int) : (tab n f).set i v=tab n (fun j=>if j=i then v else f j):=by
  apply List.ext_getElem
  · simp [tab]
  · intro j h1 h2
    simp only [tab,List.getElem_set,List.getElem_map,List.getElem_range]
    by_cases e : i=j
    · rw [if_pos e,if_pos e.symm]
    · rw [if_neg e,if_neg (fun h=>e h.symm)]
theorem tab_congr {n : Nat} {f g : Nat→Int} (h : ∀ j,j < n→f j=g j) : tab n f=tab n g:=by
  unfold tab
  exact List.map_congr_left fun j hj=>h j (List.mem_range.1 hj)
theorem tab_rep (n : Nat) : List.replicate n (0 : Int)=tab n (fun _=>0):=by
  apply List.ext_getElem
  · simp [tab]
  · intro j h1 h2
    simp [tab]
/-- The next new line, from a place on. -/
def hardB (l : List S31) : Nat→Nat→Nat
  | 0,k=>k
  | d+1,k=>if (gB l k).f0=5 then k else hardB l d (k+1)
def aheadL (l : List S31) : List Int:=tab (l.length+1) (fun j=>sumC l 0 j)
def tailL (l : List S31) : List Int:=tab (l.length+1) (fun j=>behB l (l.length - j) j)
def hardL (l : List S31) : List Int:=tab (l.length+1) (fun j=>(hardB l (l.length - j) j : Int))
/-- So many rounds do for any text of the list. -/
def roundsW (l : List S31) (K : Nat) : Prop:=∀ k,(gB l k).f1.size+24 < K
theorem colA_f {l : List S31} (hs : small33 l) {K : Nat} (hK : roundsW l K) (k : Nat) : span_Cols.f K (flatOf (gB l k).f0 (gB l k).f1).1=some (colA l k):=by
  have h1:=hK k
  have h2:=flatOf_size2 (gB l k).f0 (gB l k).f1
  have h3 : (gB l k).f1.size≤140737488355328:=by
    by_cases g : k < l.length
    · exact hs _ (gB_mem g)
    · rw [gB_ge (by omega)];decide
  exact cols_f _ (by omega) _ (by omega)
theorem sum_l1 {l : List S31} (hm : MayB l) (hs : small33 l) : ∀ (i K : Nat),i≤l.length→i < K →
    wide_sum.l1 K l ((i : Int) - 1) (aheadL l) (tab (l.length+1) (fun j=>if i≤j then behB l (l.length - j) j else 0)) (tab (l.length+1) (fun j=>if i≤j then (hardB l (l.length - j) j : Int) else 0))=some (aheadL l,tailL l,hardL l)
  | 0,K,_,hK=>by
    obtain ⟨K,rfl⟩ : ∃ K',K=K'+1:=⟨K - 1,by omega⟩
    rw [wide_sum.l1,if_neg (by omega)]
    have e1 : tab (l.length+1) (fun j=>if 0≤j then behB l (l.length - j) j else 0)=tailL l:=tab_congr fun j _=>if_pos (Nat.zero_le _)
    have e2 : tab (l.length+1) (fun j=>if 0≤j then (hardB l (l.length - j) j : Int) else 0)=hardL l:=tab_congr fun j _=>if_pos (Nat.zero_le _)
    rw [e1,e2]
  | i+1,K,hi,hK=>by
    obtain ⟨K,rfl⟩ : ∃ K',K=K'+1:=⟨K - 1,by omega⟩
    have hl:=hm.len
    have E:=Aside0.mk (show wrap64 ((i : Int)+1)=((i+1 : Nat) : Int) by rw [wrap_id (by omega) (by omega)];omega)
    have E2:=Aside0.mk (show wrap64 ((i : Int) - 1)=(i : Int) - 1 by rw [wrap_id (by omega) (by omega)])
    have bd:=behB_bd hs (l.length - (i+1)) (i+1)
    have b1:=sumC_bd hs 0 (i+1)
    have b2:=sumC_bd hs 0 i
    have eb : behB l (l.length - i) i=if brB (gB l i).f0=true then 0 else tsB l i+behB l (l.length - (i+1)) (i+1):=by
      rw [show l.length - i=l.length - (i+1)+1 by omega,behB]
    have eh : hardB l (l.length - i) i=if (gB l i).f0=5 then i else hardB l (l.length - (i+1)) (i+1):=by
      rw [show l.length - i=l.length - (i+1)+1 by omega,hardB]
    have es : sumC l 0 (i+1)=sumC l 0 i+colA l i:=by rw [sumC,Nat.zero_add]
    have W1:=Aside0.mk (wrap_id (x:=behB l (l.length - (i+1)) (i+1)+sumC l 0 (i+1)) (by omega) (by omega))
    have W2:=Aside0.mk (wrap_id (x:=behB l (l.length - (i+1)) (i+1)+sumC l 0 (i+1) - sumC l 0 i) (by omega) (by omega))
    have hH : ∀ y,y=tab (l.length+1) (fun j=>if i≤j then (hardB l (l.length - j) j : Int) else 0)→∀ x,x=tab (l.length+1) (fun j=>if i≤j then behB l (l.length - j) j else 0)→wide_sum.l1 K l ((i : Int) - 1) (aheadL l) x y=some (aheadL l,tailL l,hardL l):=by
      rintro _ rfl _ rfl
      exact sum_l1 hm hs i K (by omega) (by omega)
    have hT : ∀ y,y=tab (l.length+1) (fun j=>if i≤j then (hardB l (l.length - j) j : Int) else 0) →
        ((some (brB (gB l i).f0)).bind fun t130=>(if t130=true then (wide_sum.l1 K l (wrap64 ((i : Int) - 1)) (aheadL l) (tab (l.length+1) (fun j=>if i+1≤j then behB l (l.length - j) j else 0)) y) else (if (wrap64 ((i : Int)+1)) < ((tab (l.length+1) (fun j=>if i+1≤j then behB l (l.length - j) j else 0)).length : Int) then (if (wrap64 ((i : Int)+1)) < ((aheadL l).length : Int) then (if (i : Int) < ((aheadL l).length : Int) then (if (i : Int) < ((tab (l.length+1) (fun j=>if i+1≤j then behB l (l.length - j) j else 0)).length : Int) then (wide_sum.l1 K l (wrap64 ((i : Int) - 1)) (aheadL l) ((tab (l.length+1) (fun j=>if i+1≤j then behB l (l.length - j) j else 0)).set (i : Int).toNat (wrap64 ((wrap64 ((rd (tab (l.length+1) (fun j=>if i+1≤j then behB l (l.length - j) j else 0)) (wrap64 ((i : Int)+1)))+(rd (aheadL l) (wrap64 ((i : Int)+1))))) - (rd (aheadL l) (i : Int))))) y) else (none)) else (none)) else (none)) else (none))))=some (aheadL l,tailL l,hardL l):=by
      intro y hy
      have la : (aheadL l).length=l.length+1:=tab_len _ _
      rw [Option.bind_some,E2.out,E.out]
      by_cases g : brB (gB l i).f0=true
      · rw [if_pos g]
        refine hH _ hy _ (tab_congr fun j hj=>?_)
        by_cases e : j=i
        · subst e;rw [if_neg (by omega),if_pos (Nat.le_refl _),eb,if_pos g]
        · by_cases q : i≤j
          · rw [if_pos q,if_pos (by omega)]
          · rw [if_neg q,if_neg (by omega)]
      · have g' : brB (gB l i).f0=false:=by simpa using g
        rw [if_neg g,tab_len,la,if_pos (by omega),if_pos (by omega),if_pos (by omega),if_pos (by omega),tab_rd _ (by omega),if_pos (Nat.le_refl _),Int.toNat_natCast,tab_set]
        have r1 : rd (aheadL l) ((i+1 : Nat) : Int)=sumC l 0 (i+1):=tab_rd _ (by omega)
        have r2 : rd (aheadL l) (i : Int)=sumC l 0 i:=tab_rd _ (by omega)
        rw [r1,r2]
        refine hH _ hy _ (tab_congr fun j hj=>?_)
        by_cases e : j=i
        · subst e
          rw [if_pos rfl,if_pos (Nat.le_refl _),eb,if_neg g,tsB_col2 hm (by omega) g',W1.out,W2.out]
          omega
        · rw [if_neg e]
          by_cases q : i≤j
          · rw [if_pos q,if_pos (by omega)]
          · rw [if_neg q,if_neg (by omega)]
    rw [wide_sum.l1,show ((i+1 : Nat) : Int) - 1=(i : Int) by omega,if_pos (by omega)]
    rw [if_pos (show 0≤wrap64 ((i : Int)+1) by rw [E.out];omega),if_pos (show wrap64 ((i : Int)+1) < ((tab (l.length+1) (fun j=>if i+1≤j then (hardB l (l.length - j) j : Int) else 0)).length : Int) by rw [E.out,tab_len];omega),if_pos (by omega),if_pos (by rw [tab_len];omega),Option.bind_some,if_pos (by omega),rd_gB,breaks_f]
    have hs1 : (tab (l.length+1) (fun j=>if i+1≤j then (hardB l (l.length - j) j : Int) else 0)).set ((i : Int)).toNat (rd (tab (l.length+1) (fun j=>if i+1≤j then (hardB l (l.length - j) j : Int) else 0)) (wrap64 ((i : Int)+1)))=tab (l.length+1) (fun j=>if j=i then (hardB l (l.length - (i+1)) (i+1) : Int) else if i+1≤j then (hardB l (l.length - j) j : Int) else 0):=by
      rw [E.out,tab_rd _ (by omega),if_pos (Nat.le_refl _),Int.toNat_natCast,tab_set]
    rw [hs1]
    by_cases c5 : (gB l i).f0=5
    · rw [if_pos c5,Option.bind_some,Int.toNat_natCast,tab_set]
      refine hT _ (tab_congr fun j hj=>?_)
      by_cases e : j=i
      · subst e;rw [if_pos rfl,if_pos (Nat.le_refl _),eh,if_pos c5]
      · rw [if_neg e,if_neg e]
        by_cases q : i≤j
        · rw [if_pos q,if_pos (by omega)]
        · rw [if_neg q,if_neg (by omega)]
    · rw [if_neg c5]
      refine hT _ (tab_congr fun j hj=>?_)
      by_cases e : j=i
      · subst e;rw [if_pos rfl,if_pos (Nat.le_refl _),eh,if_neg c5]
      · rw [if_neg e]
        by_cases q : i≤j
        · rw [if_pos q,if_pos (by omega)]
        · rw [if_neg q,if_neg (by omega)]
theorem sum_l0 {l : List S31} (hm : MayB l) (hs : small33 l) {R : Nat} (hR : roundsW l R) : ∀ (d i K : Nat),i+d=l.length→d+(l.length+R+2) < K →
    wide_sum.l0 K l (l.length : Int) l (l.length : Int) (i : Int) (tab (l.length+1) (fun j=>if j≤i then sumC l 0 j else 0)) (tab (l.length+1) (fun _=>0)) (tab (l.length+1) (fun _=>0))=some (aheadL l,tailL l,hardL l)
  | 0,i,K,hi,hK=>by
    obtain ⟨K,rfl⟩ : ∃ K',K=K'+1:=⟨K - 1,by omega⟩
    obtain rfl : i=l.length:=by omega
    have hl:=hm.len
    rw [wide_sum.l0,if_neg (by omega),if_pos (by omega),tab_len,if_pos (by omega),wrap_id (by omega) (by omega),Int.toNat_natCast,tab_set]
    have h:=sum_l1 hm hs l.length K (Nat.le_refl _) (by omega)
    have e1 : tab (l.length+1) (fun j=>if j≤l.length then sumC l 0 j else 0)=aheadL l:=tab_congr fun j hj=>if_pos (by omega)
    have e2 : tab (l.length+1) (fun _=>0)=tab (l.length+1) (fun j=>if l.length≤j then behB l (l.length - j) j else 0):=tab_congr fun j hj=>by
      by_cases q : l.length≤j
      · rw [if_pos q,show l.length - j=0 by omega,behB]
      · rw [if_neg q]
    have e3 : tab (l.length+1) (fun j=>if j=l.length then (l.length : Int) else 0)=tab (l.length+1) (fun j=>if l.length≤j then (hardB l (l.length - j) j : Int) else 0):=tab_congr fun j hj=>by
      by_cases q : j=l.length
      · subst q;rw [if_pos rfl,if_pos (Nat.le_refl _),Nat.sub_self,hardB]
      · rw [if_neg q,if_neg (by omega)]
    rw [e1,e2,e3];exact h
  | d+1,i,K,hi,hK=>by
    obtain ⟨K,rfl⟩ : ∃ K',K=K'+1:=⟨K - 1,by omega⟩
    have hl:=hm.len
    have E:=Aside0.mk (show wrap64 ((i : Int)+1)=((i+1 : Nat) : Int) by rw [wrap_id (by omega) (by omega)];omega)
    have b1:=sumC_bd hs 0 i
    have b2:=colA_bd hs i
    have hRK : roundsW l K:=fun j=>by have:=hR j;omega
    have es : sumC l 0 (i+1)=sumC l 0 i+colA l i:=by rw [sumC,Nat.zero_add]
    rw [wide_sum.l0,if_pos (by omega),if_pos (by omega),if_pos (by omega),rd_gB]
    rw [show span_Flat.f (gB l i).f0 (gB l i).f1=some (flatOf (gB l i).f0 (gB l i).f1) from rfl,Option.bind_some,tab_len,if_pos (by omega),colA_f hs hRK,Option.bind_some,E.out,if_pos (by omega),if_pos (by omega),tab_rd _ (by omega),if_pos (Nat.le_refl _),wrap_id (by omega) (by omega),Int.toNat_natCast,tab_set]
    have h:=sum_l0 hm hs hR d (i+1) K (by omega) (by omega)
    have e : tab (l.length+1) (fun j=>if j=i+1 then sumC l 0 i+colA l i else if j≤i then sumC l 0 j else 0)=tab (l.length+1) (fun j=>if j≤i+1 then sumC l 0 j else 0):=tab_congr fun j hj=>by
      by_cases q : j=i+1
      · subst q;rw [if_pos rfl,if_pos (Nat.le_refl _),es]
      · rw [if_neg q]
        by_cases q2 : j≤i
        · rw [if_pos q2,if_pos (by omega)]
        · rw [if_neg q2,if_neg (by omega)]
    rw [e];exact h
theorem sum_f {l : List S31} (hm : MayB l) (hs : small33 l) {R K : Nat} (hR : roundsW l R) (hK : 2 * l.length+R+4 < K) : wide_sum.f K l=some (aheadL l,tailL l,hardL l):=by
  have hl:=hm.len
  unfold wide_sum.f
  have E : wrap64 ((l.length : Int)+1)=((l.length+1 : Nat) : Int):=by rw [wrap_id (by omega) (by omega)];omega
  rw [E,if_pos (by omega),Int.toNat_natCast,if_pos (by omega),tab_rep]
  have h:=sum_l0 hm hs hR l.length 0 K (by omega) (by omega)
  have e : tab (l.length+1) (fun j=>if j≤0 then sumC l 0 j else 0)=tab (l.length+1) (fun _=>0):=tab_congr fun j hj=>by
    by_cases q : j≤0
    · obtain rfl : j=0:=by omega
      rw [if_pos q,sumC]
    · rw [if_neg q]
  rw [e] at h
  exact h
end Go.Proofs.Ytipjfdamkpgecaa.PWide
namespace Go.Proofs.Ytipjfdamkpgecaa.PWide
open Go.RowKit Go.Proofs.YtipjfdamkpgecaaW.PrintWords Go.Proofs.YtipjfdamkpgecaaW.PrintMore
set_option linter.unusedVariables false
set_option linter.unusedSimpArgs false
def matchL (l : List S31) : List Int:=tab l.length (fun j=>if (gB l j).f0=6 then matchOf l (j : Int) else 0)
/-- What is open, ahead of a place. -/
structure StkOk (l : List S31) (i : Nat) (st : List Nat) : Prop where
  len : (st.length : Int)=depB l i
  at_ : ∀ p (hp : p < st.length),st[p] < i∧(gB l st[p]).f0=6∧depB l st[p]=(p : Int)∧∀ x,st[p] < x→x≤i→(p : Int) < depB l x
theorem StkOk.push {l : List S31} {i : Nat} {st : List Nat} (h : StkOk l i st) (h6 : (gB l i).f0=6) : StkOk l (i+1) (st++[i]):=by
  have hd:=depB_open h6
  have hl:=h.len
  refine ⟨by rw [List.length_append,List.length_singleton,hd];omega,fun p hp=>?_⟩
  rw [List.length_append,List.length_singleton] at hp
  by_cases e : p < st.length
  · rw [List.getElem_append_left e]
    obtain ⟨a,b,c,d⟩:=h.at_ p e
    refine ⟨by omega,b,c,fun x h1 h2=>?_⟩
    by_cases q : x=i+1
    · subst q;omega
    · exact d x h1 (by omega)
  · obtain rfl : p=st.length:=by omega
    rw [List.getElem_append_right (by omega)]
    simp only [Nat.sub_self,List.getElem_singleton]
    refine ⟨by omega,h6,hl.symm,fun x h1 h2=>?_⟩
    obtain rfl : x=i+1:=by omega
    omega
theorem StkOk.stay {l : List S31} {i : Nat} {st : List Nat} (h : StkOk l i st) (h6 : (gB l i).f0 ≠ 6) (h7 : (gB l i).f0 ≠ 7) : StkOk l (i+1) st:=by
  have hd : depB l (i+1)=depB l i:=by
    rw [depB_succ];unfold valB;rw [if_neg h6,if_neg h7,Int.add_zero]
  have hl:=h.len
  refine ⟨by rw [hd];exact hl,fun p hp=>?_⟩
  obtain ⟨a,b,c,d⟩:=h.at_ p hp
  refine ⟨by omega,b,c,fun x h1 h2=>?_⟩
  by_cases q : x=i+1
  · subst q;omega
  · exact d x h1 (by omega)
theorem StkOk.pop {l : List S31} {i : Nat} {st : List Nat} (h : StkOk l i st) (h7 : (gB l i).f0=7) (h0 : 0 < st.length) : StkOk l (i+1) (st.take (st.length - 1)):=by
  have hd : depB l (i+1)=depB l i - 1:=by
    rw [depB_succ,h7];rfl
  have hl:=h.len
  refine ⟨by rw [List.length_take,hd];omega,fun p hp=>?_⟩
  rw [List.length_take] at hp
  rw [List.getElem_take]
  obtain ⟨a,b,c,d⟩:=h.at_ p (by omega)
  refine ⟨by omega,b,c,fun x h1 h2=>?_⟩
  by_cases q : x=i+1
  · subst q;omega
  · exact d x h1 (by omega)
theorem StkOk.top {l : List S31} {i : Nat} {st : List Nat} (h : StkOk l i st) (h7 : (gB l i).f0=7) (hi : i < l.length) (h0 : 0 < st.length) : IsM l (st[st.length - 1]) i:=by
  have hd : depB l (i+1)=depB l i - 1:=by
    rw [depB_succ,h7];rfl
  have hl:=h.len
  obtain ⟨a,b,c,d⟩:=h.at_ (st.length - 1) (by omega)
  exact ⟨a,hi,b,by omega,fun j h1 h2=>by have:=d j h1 h2;omega⟩
def mdB (l : List S31) (i : Nat) (j : Nat) : Int:=if (gB l j).f0=6∧matchOf l (j : Int) < (i : Int) then matchOf l (j : Int) else 0
theorem mdB_stay {l : List S31} (hm : MayB l) {i : Nat} (h7 : (gB l i).f0 ≠ 7) {j : Nat} (hj : j < l.length) : mdB l (i+1) j=mdB l i j:=by
  unfold mdB
  by_cases g : (gB l j).f0=6
  · obtain ⟨m,hM⟩:=hm.group hj g
    have hne : m ≠ i:=by intro e;subst e;exact h7 hM.close
    rw [hM.mt]
    by_cases q : (m : Int) < (i : Int)
    · rw [if_pos ⟨g,by omega⟩,if_pos ⟨g,q⟩]
    · rw [if_neg (fun h=>by omega),if_neg (fun h=>q h.2)]
  · rw [if_neg (fun h=>g h.1),if_neg (fun h=>g h.1)]
theorem mdB_set {l : List S31} (hm : MayB l) {i t : Nat} (ht : IsM l t i) {j : Nat} (hj : j < l.length) : mdB l (i+1) j=if j=t then (i : Int) else mdB l i j:=by
  unfold mdB
  by_cases e : j=t
  · subst e
    rw [if_pos rfl,ht.mt,if_pos ⟨ht.op,by omega⟩]
  · rw [if_neg e]
    by_cases g : (gB l j).f0=6
    · obtain ⟨m,hM⟩:=hm.group hj g
      have hne : m ≠ i:=by
        intro e2;subst e2
        rcases (ht.facts hM).1 with h|h
        · exact e h
        · exact h rfl
      rw [hM.mt]
      by_cases q : (m : Int) < (i : Int)
      · rw [if_pos ⟨g,by omega⟩,if_pos ⟨g,q⟩]
      · rw [if_neg (fun h=>by omega),if_neg (fun h=>q h.2)]
    · rw [if_neg (fun h=>g h.1),if_neg (fun h=>g h.1)]
def natL (st : List Nat) : List Int:=st.map (fun t : Nat=>(t : Int))
theorem natL_len (st : List Nat) : (natL st).length=st.length:=by simp [natL]
theorem mat_l0 {l : List S31} (hm : MayB l) : ∀ (d i K : Nat) (st : List Nat),i+d=l.length→d < K→StkOk l i st →
    wide_matches.l0 K (tab l.length (mdB l i)) (natL st) l (l.length : Int) (i : Int)=some (matchL l)
  | 0,i,K,st,hi,hK,hs=>by
    obtain ⟨K,rfl⟩ : ∃ K',K=K'+1:=⟨K - 1,by omega⟩
    rw [wide_matches.l0,if_neg (by omega)]
    congr 1
    refine tab_congr fun j hj=>?_
    unfold mdB
    by_cases g : (gB l j).f0=6
    · obtain ⟨m,hM⟩:=hm.group hj g
      have:=hM.len
      rw [if_pos g,hM.mt,if_pos ⟨g,by omega⟩]
    · rw [if_neg g,if_neg (fun h=>g h.1)]
  | d+1,i,K,st,hi,hK,hs=>by
    obtain ⟨K,rfl⟩ : ∃ K',K=K'+1:=⟨K - 1,by omega⟩
    have hl:=hm.len
    have E:=Aside0.mk (show wrap64 ((i : Int)+1)=((i+1 : Nat) : Int) by rw [wrap_id (by omega) (by omega)];omega)
    have hsl:=hs.len
    have hdb : depB l i≤i:=by
      have key : ∀ k,depB l k≤k:=by
        intro k
        induction k with
        | zero=>exact Int.le_refl 0
        | succ k ih=>have:=depB_step l k;omega
      exact key i
    rw [wide_matches.l0,if_pos (by omega),if_pos (by omega),if_pos (by omega),rd_gB]
    by_cases c6 : (gB l i).f0=6
    · have h:=mat_l0 hm d (i+1) K (st++[i]) (by omega) (by omega) (hs.push c6)
      rw [if_pos c6,natL_len,if_pos (by omega),E.out]
      rw [show natL st++[(i : Int)]=natL (st++[i]) by simp [natL],show tab l.length (mdB l i)=tab l.length (mdB l (i+1)) from tab_congr fun j hj=>(mdB_stay hm (by omega) hj).symm]
      exact h
    rw [if_neg c6]
    by_cases c7 : (gB l i).f0=7
    · have hd : depB l (i+1)=depB l i - 1:=by rw [depB_succ,c7];rfl
      have hge:=hm.dep (i+1) (by omega)
      have h0 : 0 < st.length:=by omega
      have ht:=hs.top c7 (by omega) h0
      have htl:=ht.lt
      have h:=mat_l0 hm d (i+1) K (st.take (st.length - 1)) (by omega) (by omega) (hs.pop c7 h0)
      have E2:=Aside0.mk (show wrap64 ((st.length : Int) - 1)=((st.length - 1 : Nat) : Int) by rw [wrap_id (by omega) (by omega)];omega)
      have hrd : rd (natL st) ((st.length - 1 : Nat) : Int)=((st[st.length - 1] : Nat) : Int):=by
        unfold rd natL
        rw [Int.toNat_natCast,List.getD_eq_getElem?_getD,List.getElem?_map,List.getElem?_eq_getElem (by omega)];rfl
      rw [if_pos c7,natL_len,E2.out,if_pos (by omega),if_pos (by omega),hrd,tab_len,if_pos (by omega),if_pos (by omega),if_pos (by omega),Int.toNat_natCast,Int.toNat_natCast,tab_set,E.out]
      rw [show (natL st).take (st.length - 1)=natL (st.take (st.length - 1)) by simp [natL,List.map_take],show tab l.length (fun j=>if j=st[st.length - 1] then (i : Int) else mdB l i j)=tab l.length (mdB l (i+1)) from tab_congr fun j hj=>(mdB_set hm ht hj).symm]
      exact h
    · have h:=mat_l0 hm d (i+1) K st (by omega) (by omega) (hs.stay c6 c7)
      rw [if_neg c7,E.out,show tab l.length (mdB l i)=tab l.length (mdB l (i+1)) from tab_congr fun j hj=>(mdB_stay hm c7 hj).symm]
      exact h
theorem mat_f {l : List S31} (hm : MayB l) {K : Nat} (hK : l.length < K) : wide_matches.f K l=some (matchL l):=by
  have hl:=hm.len
  unfold wide_matches.f
  rw [if_pos (by omega),Int.toNat_natCast,if_pos (by omega),tab_rep]
  have h:=mat_l0 hm l.length 0 K [] (by omega) hK ⟨rfl,fun p hp=>absurd hp (by simp)⟩
  have e : tab l.length (mdB l 0)=tab l.length (fun _=>0):=tab_congr fun j hj=>by
    unfold mdB
    by_cases g : (gB l j).f0=6
    · obtain ⟨m,hM⟩:=hm.group hj g
      rw [hM.mt,if_neg (fun h=>by omega)]
    · rw [if_neg (fun h=>g h.1)]
  rw [e] at h
  exact h
end Go.Proofs.Ytipjfdamkpgecaa.PWide
namespace Go.Proofs.Ytipjfdamkpgecaa.PWide
open Go.RowKit Go.Proofs.YtipjfdamkpgecaaW.PrintWords Go.Proofs.YtipjfdamkpgecaaW.PrintMore
set_option linter.unusedVariables false
set_option linter.unusedSimpArgs false
theorem hardB_gt (l : List S31) {m : Nat} (hm : m < l.length) : ∀ d k,k+d=l.length→(m < hardB l d k ↔ ∀ j,k≤j→j≤m→(gB l j).f0 ≠ 5)
  | 0,k,h=>by
    rw [hardB]
    exact ⟨fun _ j h1 h2=>by omega,fun _=>by omega⟩
  | d+1,k,h=>by
    have ih:=hardB_gt l hm d (k+1) (by omega)
    rw [hardB]
    by_cases g : (gB l k).f0=5
    · rw [if_pos g]
      exact ⟨fun h1 j h2 h3=>by omega,fun h1=>Classical.byContradiction fun h2=>h1 k (Nat.le_refl _) (by omega) g⟩
    · rw [if_neg g,ih]
      refine ⟨fun h1 j h2 h3=>?_,fun h1 j h2 h3=>h1 j (by omega) h3⟩
      by_cases e : j=k
      · subst e;exact g
      · exact h1 j (by omega) h3
theorem hardB_bd (l : List S31) : ∀ d k,k≤hardB l d k∧hardB l d k≤k+d
  | 0,k=>by rw [hardB];omega
  | d+1,k=>by
    have ih:=hardB_bd l d (k+1)
    rw [hardB];split <;> omega
theorem fit_eq {l : List S31} (hm : MayB l) (hs : small33 l) {i m : Nat} (h : IsM l i m) (w col : Int) :
    fitP l w i col=(decide (m < hardB l (l.length - i) i) && decide (col+sumC l 0 m - sumC l 0 i+behB l (l.length - m) m≤w)):=by
  have hl:=hm.len
  have lt:=h.lt
  have le:=h.len
  have c7:=h.close
  have op:=h.op
  have n0:=h.need hs (by omega)
  have ci : colA l i=0:=by unfold colA;rw [op];exact cols_none
  have eb : behB l (l.length - m) m=behB l (l.length - (m+1)) (m+1):=by
    rw [show l.length - m=l.length - (m+1)+1 by omega,behB,c7,if_neg (by decide)]
    unfold tsB
    rw [c7,if_neg (by decide)];omega
  have es : sumC l 0 m=sumC l 0 i+sumC l (i+1) (m - (i+1)):=by
    have e1:=sumC_add l 0 i (m - i)
    have e2:=sumC_cons l i (m - (i+1))
    rw [show i+(m - i)=m by omega,Nat.zero_add,show m - i=m - (i+1)+1 by omega,e2,ci] at e1
    omega
  have s1:=sumC_nn l (i+1) (m - (i+1))
  have s2:=behB_nn l (l.length - (m+1)) (m+1)
  have hg:=hardB_gt l le (l.length - i) i (by omega)
  have ha : m < hardB l (l.length - i) i ↔ allF l (i+1) (m - (i+1)):=by
    rw [hg]
    refine ⟨fun h1 j hj=>?_,fun h1 j h2 h3 h5=>?_⟩
    · have q:=h1 (i+1+j) (by omega) (by omega)
      cases hf : flA l (i+1+j) with
      | true=>rfl
      | false=>exact absurd ((flA_hard hm (by omega)).1 hf) q
    · by_cases e : j=i
      · subst e;omega
      · by_cases e2 : j=m
        · subst e2;omega
        · have q:=h1 (j - (i+1)) (by omega)
          rw [show i+1+(j - (i+1))=j by omega,(flA_hard hm (by omega)).2 h5] at q
          exact absurd q (by decide)
  unfold fitP
  rw [n0,eb,es]
  unfold needV
  by_cases g : allF l (i+1) (m - (i+1))
  · rw [if_pos g,decide_eq_true (ha.2 g),Bool.true_and]
    exact decide_eq_decide.2 ⟨fun ⟨_,h2⟩=>by omega,fun h2=>⟨by omega,by omega⟩⟩
  · rw [if_neg g,decide_eq_false (fun q=>g (ha.1 q)),Bool.false_and]
    exact decide_eq_false (fun q=>by omega)
end Go.Proofs.Ytipjfdamkpgecaa.PWide
