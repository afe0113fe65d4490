/- What the document's answer on pages comes to: the same closed forms. -/
import Derived.Test.YtipjfdamkpgecaaHWideRef18P
import Derived.Test.YtipjfdamkpgecaaHWideLaid
import Derived.Test.YtipjfdamkpgecaaPWidex23
namespace Go.Proofs.Ytipjfdamkpgecaa.PWide
open Go.RowKit Go.Proofs.YtipjfdamkpgecaaW.PrintWords Go.Proofs.YtipjfdamkpgecaaW.PrintMore
set_option linter.unusedVariables false
set_option linter.unusedSimpArgs false
theorem stepP_flat {x : S31} {i : Int} {b b' : Bool} {M : Int} {p : PgB} (h : ¬ p.flat < 0) : stepP x i b M p=stepP x i b' M p:=by
  by_cases c : x.f0=6
  · unfold stepP
    rw [if_pos c,if_pos c,if_neg (fun g=>h g.1),if_neg (fun g=>h g.1)]
  · exact stepP_other c
theorem need_bd {l : List S31} (hm : MayB l) (hs : small33 l) {i : Nat} (hi : i < l.length) (h6 : (gB l i).f0=6) : needOf l (i : Int)≤140737488355328 * 8000:=by
  have hl:=hm.len
  obtain ⟨m,hM⟩:=hm.group hi h6
  rw [hM.need hs (by omega)]
  have h1:=(sumC_bd hs (i+1) (m - (i+1))).2
  have h2:=(behB_bd hs (l.length - (m+1)) (m+1)).2
  have h3:=hM.len
  unfold needV
  split <;> omega
theorem rupto_l {l : List S31} (hm : MayB l) (hs : small33 l) (hb : bulkB l l.length≤1099511627776) (w : Int) (k : Nat) (hk : k≤l.length) (R : Nat) (hR : R=bulkB l l.length+25+8000+4 * l.length+30) :
    ∀ (d i K : Nat),i+d=k→2 * d+R+5≤K→copperplateref18_Upto.l0 K l w (k : Int) (i : Int) ⟨(uptoP l w i).out.toArray⟩ (uptoP l w i).ind (uptoP l w i).col (uptoP l w i).due (uptoP l w i).flat=some (pgT (uptoP l w k))
  | 0,i,K,hi,hK=>by
    obtain ⟨K,rfl⟩ : ∃ K',K=K'+1:=⟨K - 1,by omega⟩
    obtain rfl : i=k:=by omega
    rw [copperplateref18_Upto.l0,if_neg (by omega)];rfl
  | d+1,i,K,hi,hK=>by
    obtain ⟨K,rfl⟩ : ∃ K',K=K'+1+1+1:=⟨K - 3,by omega⟩
    have hl:=hm.len
    have hlt : i < l.length:=by omega
    have E : wrap64 ((i : Int)+1)=((i+1 : Nat) : Int):=by rw [wrap_id (by omega) (by omega)];omega
    have ih:=rupto_l hm hs hb w k hk R hR d (i+1) (K+1) (by omega) (by omega)
    have ok:=okP hm w i (by omega)
    have c1:=ok.col1;have c0:=ok.col0;have o1:=ok.out;have d0:=ok.due0;have d1:=ok.due1;have i1:=ok.ind
    have h7:=indB_le l i
    have h8:=hm.ind i (by omega)
    have h9 : (2 * i+2) * i≤8002 * 4000:=Nat.mul_le_mul (by omega) (by omega)
    have h10:=bulkB_mono l i (l.length - i)
    rw [show i+(l.length - i)=l.length by omega] at h10
    have h11:=bulkB_ge l i l.length hlt
    have st:=uptoP_succ l w i
    generalize hp' : uptoP l w (i+1)=p' at ih st
    generalize hp : uptoP l w i=p at c1 c0 o1 d0 d1 i1 st ⊢
    clear hp hp' ok
    have PR:=fun b=>rprint_f (by omega) hlt p b (by omega) d0 (by omega) c0 (by omega) (by omega) (by omega) (by omega)
    have fin : ∀ b,stepP (gB l i) i b (matchOf l i) p=p'→(copperplateref18_Print.f ⟨p.out.toArray⟩ p.ind p.col p.due p.flat l (i : Int) b).bind (fun t=>copperplateref18_Upto.l0 (K+1) l w (k : Int) (wrap64 ((i : Int)+1)) t.1 t.2.1 t.2.2.1 t.2.2.2.1 t.2.2.2.2)=some (pgT (uptoP l w k)):=by
      intro b e
      rw [PR,Option.bind_some,E,e]
      exact ih
    rw [copperplateref18_Upto.l0,if_pos (by omega),if_pos (by omega),if_pos (by omega),rd_gB]
    by_cases c6 : (gB l i).f0=6
    · rw [if_pos c6,copperplateref18_Upto.j1]
      by_cases n1 : p.flat < 0
      · have hN:=rneed_f hs (by omega) (rounds_bulk l (K:=bulkB l l.length+25) (by omega)) (i : Int) (K+1) (by omega)
        have nb:=need_bd hm hs hlt c6
        rw [decide_eq_true n1,if_pos rfl,hN,Option.bind_some]
        by_cases n2 : needOf l (i : Int) ≥ 0
        · rw [if_pos n2]
          refine fin _ ?_
          rw [st,wrap_id (by omega) (by omega)]
          unfold fitP
          rw [show decide (p.col+needOf l (i : Int)≤w)=decide (0≤needOf l (i : Int)∧p.col+needOf l (i : Int)≤w) from decide_eq_decide.2 ⟨fun h=>⟨n2,h⟩,fun h=>h.2⟩]
        · rw [if_neg n2]
          refine fin _ ?_
          rw [st]
          unfold fitP
          rw [decide_eq_false (fun h=>n2 h.1)]
      · rw [decide_eq_false n1,if_neg (by decide)]
        exact fin _ (by rw [st];exact stepP_flat n1)
    · rw [if_neg c6,copperplateref18_Upto.j1,if_neg (by decide)]
      exact fin _ (by rw [st];exact stepP_other c6)
end Go.Proofs.Ytipjfdamkpgecaa.PWide
