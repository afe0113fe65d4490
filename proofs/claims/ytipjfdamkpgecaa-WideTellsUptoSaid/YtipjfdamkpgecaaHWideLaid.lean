import Derived.Test.YtipjfdamkpgecaaHWidePutLine
import Derived.Test.YtipjfdamkpgecaaHWideSumF
import Derived.BigQuiet
import Derived.Deep.QuietTactic
namespace Go.Proofs.Ytipjfdamkpgecaa.PWide
open Go.RowKit Go.Shelf Go.Proofs.YtipjfdamkpgecaaW.PrintWords Go.Proofs.YtipjfdamkpgecaaW.PrintLast Go.Proofs.YtipjfdamkpgecaaW.PrintMore
set_option linter.unusedVariables false
set_option linter.unusedSimpArgs false
/-- A row of whole numbers in a block. -/
def RowB (g : Nat) (xs : List Int) (W : World) : Prop:=∃ cur : Array Value,W.heap[g]?=some (.cells cur 3 (0,0))∧∀ i,i < xs.length→cur[i]?=some (.int .i64 (xs.getD i 0))
theorem RowB.cell {g : Nat} {xs : List Int} {W : World} (h : RowB g xs W) {i : Nat} (hi : i < xs.length) : W.cell? ⟨g,i,none⟩=some (.int .i64 (xs.getD i 0)):=by
  obtain ⟨cur,h1,h2⟩:=h
  rw [Lib.cell_of_heap h1];exact h2 i hi
theorem RowB.keep {g : Nat} {xs : List Int} {W W' : World} (h : RowB g xs W) (hk : W'.heap[g]?=W.heap[g]?) : RowB g xs W':=by
  obtain ⟨cur,h1,h2⟩:=h
  exact ⟨cur,hk.trans h1,h2⟩
theorem RowB.typ {g : Nat} {xs : List Int} {W : World} (h : RowB g xs W) : ∃ cur,W.heap[g]?=some (.cells cur 3 (0,0)):=by
  obtain ⟨cur,h1,h2⟩:=h
  exact ⟨cur,h1⟩
theorem rowB_of {W : World} {B : Nat} {ok : Nat→Prop} {v : Value} {xs : List Int} (h : Kd.R (Kd.int .i64) 3 W B ok v xs) (h0 : 0 < xs.length) :
    ∃ g cap,v=.slice (some ⟨g,0,none⟩) xs.length cap∧B≤g∧g < W.heap.size∧xs.length≤cap∧RowB g xs W:=by
  have ho:=Kd.own_of_R (enc:=Value.int .i64) (h1:=fun _=>rfl) h
  have hlt:=fun k hk=>own_lt ho k hk
  obtain ⟨h1,h2⟩:=ho
  rcases h2 with ⟨_,h2⟩|⟨g,cap,cur,rfl,hg,hh,hnc,_,hcs,htk⟩
  · exact absurd h2 (by omega)
  · refine ⟨g,cap,rfl,hg,hlt g rfl,hnc,cur,hh,fun i hi=>?_⟩
    have e:=congrArg (fun z : List Value=>z[i]?) htk
    simp only [Nat.mul_one] at e
    rw [List.getElem?_take_of_lt hi,Array.getElem?_toList,encs_get (d:=0) xs i hi] at e
    rw [e]
/-- The blocks of laid. -/
structure LdN (B g0 g1 g2 g3 X gC Bi Bc Bd : Nat) : Prop where
  o0 : B < g0∧g0 < X
  o1 : B < g1∧g1 < X
  o2 : B < g2∧g2 < X
  o3 : B < g3∧g3 < X
  ox : X < gC
  oc : gC < Bi
  oi : Bi < Bc
  od : Bc < Bd
theorem LdN.pg {B g0 g1 g2 g3 X gC Bi Bc Bd : Nat} (h : LdN B g0 g1 g2 g3 X gC Bi Bc Bd) : PgN B B Bi Bc Bd:=by
  obtain ⟨a,b,c,d,e,f,g,i⟩:=h
  exact ⟨by omega,by omega,by omega,by omega,by omega,by omega,by omega,by omega,by omega,by omega⟩
structure LdW (l : List S31) (w : World) (B g0 g1 g2 g3 X gC Bi Bc Bd q0 q1 q2 cC : Nat) (v3 : Value) (p : PgB) (cl : List Int) (W : World) : Prop where
  pg : PgW B B Bi Bc Bd p W
  x : W.heap[X]?=some (.cells #[.slice (some ⟨g0,0,none⟩) (l.length+1) q0,.slice (some ⟨g1,0,none⟩) (l.length+1) q1,.slice (some ⟨g2,0,none⟩) (l.length+1) q2] 50 (0,0))
  r0 : RowB g0 (aheadL l) W
  r1 : RowB g1 (tailL l) W
  r2 : RowB g2 (hardL l) W
  r3 : 0 < l.length→(∃ q3,v3=.slice (some ⟨g3,0,none⟩) l.length q3)∧RowB g3 (matchL l) W
  cols : Kd.R (Kd.int .i64) 3 W B (fun k=>k=gC) (.slice (some ⟨gC,0,none⟩) (l.length+1) cC) cl
  bel : Below B w W
section
variable {l : List S31} {w : World} {B g0 g1 g2 g3 X gC Bi Bc Bd q0 q1 q2 cC : Nat} {v3 : Value} {p : PgB} {cl : List Int} {W W' : World}
theorem LdW.lt (h : LdW l w B g0 g1 g2 g3 X gC Bi Bc Bd q0 q1 q2 cC v3 p cl W) : Bd < W.heap.size:=(Array.getElem?_eq_some_iff.1 h.pg.due).1
theorem LdW.below (h : LdW l w B g0 g1 g2 g3 X gC Bi Bc Bd q0 q1 q2 cC v3 p cl W) (hB : B≤W.heap.size) (hb : Below W.heap.size W W') : LdW l w B g0 g1 g2 g3 X gC Bi Bc Bd q0 q1 q2 cC v3 p cl W':=by
  have lt : ∀ {k : Nat} {o : Obj},W.heap[k]?=some o→k < W.heap.size:=fun hk=>(Array.getElem?_eq_some_iff.1 hk).1
  have kp : ∀ {g : Nat} {xs : List Int},RowB g xs W→RowB g xs W':=fun hr=>hr.keep (by obtain ⟨c,hc⟩:=hr.typ;exact hb.block _ (lt hc))
  exact ⟨h.pg.below hb,(hb.block _ (lt h.x)).trans h.x,kp h.r0,kp h.r1,kp h.r2,fun h0=>⟨(h.r3 h0).1,kp (h.r3 h0).2⟩,Kd.R_below h.cols hb,h.bel.trans (hb.mono hB)⟩
theorem LdW.drew (h : LdW l w B g0 g1 g2 g3 X gC Bi Bc Bd q0 q1 q2 cC v3 p cl W) : LdW l w B g0 g1 g2 g3 X gC Bi Bc Bd q0 q1 q2 cC v3 p cl W.drew :=
  ⟨h.pg.drew,h.x,h.r0.keep rfl,h.r1.keep rfl,h.r2.keep rfl,fun h0=>⟨(h.r3 h0).1,(h.r3 h0).2.keep rfl⟩,Kd.R_step h.cols (fun _ _ _=>rfl),h.bel.drew⟩
theorem LdW.oth (h : LdW l w B g0 g1 g2 g3 X gC Bi Bc Bd q0 q1 q2 cC v3 p cl W) (n : LdN B g0 g1 g2 g3 X gC Bi Bc Bd) {p' : PgB} (hp : PgW B B Bi Bc Bd p' W') (hb : Below B W W') (ho : Oth B Bi Bc Bd W W') (hX : 50 ≠ 5) : LdW l w B g0 g1 g2 g3 X gC Bi Bc Bd q0 q1 q2 cC v3 p' cl W':=by
  obtain ⟨a,b,c,d,e,f,g,i⟩:=n
  have n5 : ∀ {k t : Nat} {cs : Array Value},t ≠ 5→∀ c fz,(.cells cs t (0,0) : Obj) ≠ .cells c 5 fz:=fun ht c fz e=>by
    injection e with _ e _
    exact ht e
  have kp : ∀ {g : Nat} {xs : List Int},B < g→g < Bi→RowB g xs W→RowB g xs W':=fun h1 h2 hr=>hr.keep (by
    obtain ⟨c,hc⟩:=hr.typ
    rw [ho _ _ hc (by omega) (by omega) (by omega) (by omega) (n5 (k:=0) (by decide)),hc])
  refine ⟨hp,ho _ _ h.x (by omega) (by omega) (by omega) (by omega) (n5 (k:=0) hX),kp a.1 (by omega) h.r0,kp b.1 (by omega) h.r1,kp c.1 (by omega) h.r2,fun h0=>⟨(h.r3 h0).1,kp d.1 (by omega) (h.r3 h0).2⟩,Kd.R_step h.cols (fun k hk hlt=>?_),h.bel.trans hb⟩
  subst hk
  obtain ⟨cs,hc⟩:=own_typed (Kd.own_of_R (enc:=Value.int .i64) (h1:=fun _=>rfl) h.cols) k rfl
  rw [ho _ _ hc (by omega) (by omega) (by omega) (by omega) (n5 (k:=0) (by decide)),hc]
theorem LdW.drewN (h : LdW l w B g0 g1 g2 g3 X gC Bi Bc Bd q0 q1 q2 cC v3 p cl W) (n : Nat) : LdW l w B g0 g1 g2 g3 X gC Bi Bc Bd q0 q1 q2 cC v3 p cl (W.drewN n):=by
  have hh : ∀ k : Nat,(W.drewN n).heap[k]?=W.heap[k]?:=fun k=>rfl
  obtain ⟨⟨a,b,c,d⟩,e,f,g,i,j,o,q⟩:=h
  have kp : ∀ {g : Nat} {xs : List Int},RowB g xs W→RowB g xs (W.drewN n):=fun hr=>hr.keep (hh _)
  have hb : Below W.heap.size W (W.drewN n):=⟨rfl,rfl,rfl,Nat.le_refl _,fun _ _=>rfl⟩
  exact ⟨⟨bld_below a hb,(hh _).trans b,(hh _).trans c,(hh _).trans d⟩,(hh _).trans e,kp f,kp g,kp i,fun z=>⟨(j z).1,kp (j z).2⟩,Kd.R_step o (fun k _ _=>hh k),q.trans ⟨rfl,rfl,rfl,Nat.le_refl _,fun _ _=>rfl⟩⟩
theorem LdW.flat (h : LdW l w B g0 g1 g2 g3 X gC Bi Bc Bd q0 q1 q2 cC v3 p cl W) (f : Int) : LdW l w B g0 g1 g2 g3 X gC Bi Bc Bd q0 q1 q2 cC v3 { p with flat:=f } cl W:=by
  obtain ⟨⟨a,b,c,d⟩,e,f,g,i,j,o,q⟩:=h
  exact ⟨⟨a,b,c,d⟩,e,f,g,i,j,o,q⟩
/-- A column is noted. -/
theorem LdW.note (h : LdW l w B g0 g1 g2 g3 X gC Bi Bc Bd q0 q1 q2 cC v3 p cl W) (n : LdN B g0 g1 g2 g3 X gC Bi Bc Bd) (i : Nat) (x : Int) : LdW l w B g0 g1 g2 g3 X gC Bi Bc Bd q0 q1 q2 cC v3 p (cl.set i x) (W.setCell ⟨gC,i,none⟩ (.int .i64 x)):=by
  obtain ⟨a,b,c,d,e,f,g,o⟩:=n
  obtain ⟨cs,hc⟩:=own_typed (Kd.own_of_R (enc:=Value.int .i64) (h1:=fun _=>rfl) h.cols) gC rfl
  have kp : ∀ {g : Nat} {xs : List Int},g ≠ gC→RowB g xs W→RowB g xs (W.setCell ⟨gC,i,none⟩ (.int .i64 x)):=fun h1 hr=>hr.keep (Below.heap_setCell _ _ _ _ h1)
  have hR:=(Kd.R_putg (enc:=Value.int .i64) (h1:=fun _=>rfl) h.cols (i : Int) x).1
  rw [Int.toNat_natCast] at hR
  exact ⟨⟨bld_set h.pg.out hc (by decide) (by omega) i _,(Below.heap_setCell _ _ _ _ (by show Bi ≠ gC;omega)).trans h.pg.ind,(Below.heap_setCell _ _ _ _ (by show Bc ≠ gC;omega)).trans h.pg.col,(Below.heap_setCell _ _ _ _ (by show Bd ≠ gC;omega)).trans h.pg.due⟩,
    (Below.heap_setCell _ _ _ _ (by show X ≠ gC;omega)).trans h.x,kp (by omega) h.r0,kp (by omega) h.r1,kp (by omega) h.r2,fun h0=>⟨(h.r3 h0).1,kp (by omega) (h.r3 h0).2⟩,hR,h.bel.setCell (p:=⟨gC,i,none⟩) (by show B≤gC;omega) _⟩
end
/-- A cell of the columns. -/
theorem cols_cell {gC n cap B : Nat} {ok : Nat→Prop} {cl : List Int} {W : World} (h : Kd.R (Kd.int .i64) 3 W B ok (.slice (some ⟨gC,0,none⟩) n cap) cl) {j : Nat} (hj : j < cl.length) : W.cell? ⟨gC,j,none⟩=some (.int .i64 (cl.getD j 0))∧W.frozen? ⟨gC,j,none⟩=false∧gC < W.heap.size:=by
  have ho:=Kd.own_of_R (enc:=Value.int .i64) (h1:=fun _=>rfl) h
  have hlt:=own_lt ho gC rfl
  obtain ⟨cs,hc⟩:=own_typed ho gC rfl
  obtain ⟨g,q,e,_,_,_,R⟩:=rowB_of h (by omega)
  injection e with e _ _
  injection e with e
  injection e with e _ _
  subst e
  exact ⟨R.cell hj,blk_frozen hc _,hlt⟩
/-- What is told, and the column ahead of each, and behind all. -/
def colsL (l : List S31) (w : Int) : List Int:=tab (l.length+1) (fun j=>(uptoP l w j).col)
instance : DecidablePred (fun l : List S31=>MayB l∧small33 l∧bulkB l l.length≤1099511627776):=fun l=>by infer_instance
def wide_laid.f (l0 : List S31) (a1 : Int) : Option (ByteArray × List Int) :=
  if MayB l0∧small33 l0∧bulkB l0 l0.length≤1099511627776 then some (⟨(uptoP l0 a1 l0.length).out.toArray⟩,colsL l0 a1) else none
theorem bulkB_ge (l : List S31) (j : Nat) : ∀ k,j < k→(gB l j).f1.size≤bulkB l k
  | 0,h=>absurd h (Nat.not_lt_zero _)
  | k+1,h=>by
    rw [bulkB]
    by_cases e : j=k
    · subst e;omega
    · have:=bulkB_ge l j k (by omega);omega
theorem bulkB_mono (l : List S31) (k : Nat) : ∀ d,bulkB l k≤bulkB l (k+d)
  | 0=>Nat.le_refl _
  | d+1=>by have:=bulkB_mono l k d;rw [← Nat.add_assoc,bulkB];omega
theorem rounds_bulk (l : List S31) {K : Nat} (hK : bulkB l l.length+24 < K) : roundsW l K:=fun k=>by
  by_cases h : k < l.length
  · have:=bulkB_ge l k l.length h;omega
  · rw [gB_ge (by omega)];show 0+24 < K;omega
theorem three_new (w : World) (a b c : Obj) : (((w.alloc a).alloc b).alloc c).heap[w.heap.size]?=some a∧(((w.alloc a).alloc b).alloc c).heap[w.heap.size+1]?=some b∧(((w.alloc a).alloc b).alloc c).heap[w.heap.size+1+1]?=some c:=by
  show (((w.heap.push a).push b).push c)[w.heap.size]?=some a∧(((w.heap.push a).push b).push c)[w.heap.size+1]?=some b∧(((w.heap.push a).push b).push c)[w.heap.size+1+1]?=some c
  refine ⟨?_,?_,?_⟩
  · rw [Array.getElem?_push,if_neg (by simp only [Array.size_push];omega),Array.getElem?_push,if_neg (by simp only [Array.size_push];omega),Array.getElem?_push,if_pos rfl]
  · rw [Array.getElem?_push,if_neg (by simp only [Array.size_push];omega),Array.getElem?_push,if_pos (by simp only [Array.size_push])]
  · rw [Array.getElem?_push,if_pos (by simp only [Array.size_push])]
theorem putP_flat (p : PgB) (s : ByteArray) : (putP p s).flat=p.flat:=by unfold putP;split <;> rfl
def flatI : Value→Int:=fun v=>match v with|.int _ n=>n|_=>0
set_option maxRecDepth 100000 in
set_option maxHeartbeats 4000000 in
theorem wide_laid.calls (A0 : Option Addr) (c0 : Nat) (l0 : List S31) (a1 : Int) (r1 : ByteArray) (r2 : List Int) (w : World) (hr0 : Kd.C k31 w A0 l0.length l0) (hc0 : l0.length≤c0) (h : wide_laid.f l0 a1=some (r1,r2)) :
    Calls Try.prog 20 #[.slice A0 l0.length c0,.int .i64 a1] w fun e w'=>∃ v1_ : Value,e=.returned (.tuple #[.string r1,v1_])∧Kd.R (Kd.int .i64) 3 w' w.heap.size (fun _=>True) v1_ r2∧Below w.heap.size w w':=by
  unfold wide_laid.f at h
  by_cases hs0 : MayB l0∧small33 l0∧bulkB l0 l0.length≤1099511627776
  rotate_left
  · rw [if_neg hs0] at h;exact absurd h (by simp)
  rw [if_pos hs0] at h
  obtain ⟨hm,hsm,hbk⟩:=hs0
  obtain ⟨e1,e2⟩:=Prod.mk.inj (Option.some.inj h)
  have HE1:=Aside0.mk e1
  have HE2:=Aside0.mk e2
  clear h e1 e2
  have HM:=Aside0.mk hm
  have HSm:=Aside0.mk hsm
  have HBk:=Aside0.mk hbk
  have HS:=Aside0.mk (sum_f hm hsm (R:=bulkB l0 l0.length+25) (K:=2 * l0.length+(bulkB l0 l0.length+25)+5) (rounds_bulk l0 (by omega)) (by omega))
  have HMt:=Aside0.mk (mat_f hm (K:=l0.length+1) (by omega))
  have hlen:=hm.len
  obtain ⟨B,hB_⟩ : ∃ B,w.heap.size=B:=⟨_,rfl⟩
  have HR0:=Aside0.mk hr0
  have HC0:=Aside0.mk hc0
  have hu31:=Try.underlying31
  have huS:=Try.underlying50
  clear hr0 hc0 hm hsm hbk
  go_enter Try.func20,Try.ntmps20
  go_wp2_with fail
  have HB1:=Aside0.mk (show Below B w (w.alloc (.cells #[.pointer none,.slice none 0 0] 48)) from (Below.refl B w).alloc (by omega) _)
  refine (wide_sum.calls _ A0 c0 l0 _ _ _ _ (Kd.C_below HR0.out (by rw [hB_];exact HB1.out)) HC0.out HS.out).mono ?_
  rintro e w2 ⟨v0,v1,v2,rfl,h0,h1,h2,hb2⟩
  go_wp2_with fail
  refine (wide_matches.calls _ A0 c0 l0 _ _ (Kd.C_below HR0.out (by rw [hB_];exact HB1.out.trans (hb2.mono (by simp;omega)))) HC0.out HMt.out).mono ?_
  rintro e w3 ⟨v3,rfl,h3,hb3⟩
  have l0_ : (aheadL l0).length=l0.length+1:=tab_len _ _
  have l1_ : (tailL l0).length=l0.length+1:=tab_len _ _
  have l2_ : (hardL l0).length=l0.length+1:=tab_len _ _
  obtain ⟨g0,q0,rfl,o00,o01,o02,R0⟩:=rowB_of h0 (by omega)
  obtain ⟨g1,q1,rfl,o10,o11,o12,R1⟩:=rowB_of h1 (by omega)
  obtain ⟨g2,q2,rfl,o20,o21,o22,R2⟩:=rowB_of h2 (by omega)
  rw [l0_] at o02;rw [l1_] at o12;rw [l2_] at o22
  rw [l0_,l1_,l2_]
  have HB3:=Aside0.mk (show Below B w w3 from (HB1.out.trans (hb2.mono (by simp;omega))).trans (hb3.mono (by have:=hb2.size;simp at this;omega)))
  have hB3 : B≤w3.heap.size:=by rw [← hB_];exact HB3.out.size
  obtain ⟨X,hX_⟩ : ∃ X,w3.heap.size=X:=⟨_,rfl⟩
  have s1 : (w.alloc (.cells #[.pointer none,.slice none 0 0] 48)).heap.size=B+1:=by rw [World.size_alloc,hB_]
  have s2 : B+1≤w2.heap.size:=by rw [← s1];exact hb2.size
  have s3 : w2.heap.size≤X:=by rw [← hX_];exact hb3.size
  rw [s1] at o00 o10 o20
  obtain ⟨g3,hg3,R3⟩ : ∃ g3,(B < g3∧g3 < X)∧(0 < l0.length→(∃ q3,v3=.slice (some ⟨g3,0,none⟩) l0.length q3)∧RowB g3 (matchL l0) w3):=by
    by_cases z : 0 < l0.length
    · have lm : (matchL l0).length=l0.length:=tab_len _ _
      obtain ⟨g,q,e,o1,o2,o3,R⟩:=rowB_of h3 (by omega)
      rw [lm] at e
      exact ⟨g,⟨by omega,by omega⟩,fun _=>⟨⟨q,e⟩,R⟩⟩
    · exact ⟨g0,⟨by omega,by omega⟩,fun h=>absurd h z⟩
  go_wp2_with (refine Kd.R_make (Kd.int .i64) (w0:=w3) X 3 rfl (N:=28) rfl 35 _ _ rfl ((l0.length : Int)+1) rfl rfl Try.underlying35 (.int .i64 0) 8 info3 rfl (by decide) (by omega) 0 (ok:=fun k=>k=X+1) (okp:=fun k=>k=X+1) rfl (fun _ hk=>hk) (by simp [hX_]) (by omega) (by omega) ((Below.refl X w3).alloc (by omega) _) (by simp;omega) ?_;rintro vC w4 hC hB4 hg4 hn4)
  have lc : (List.replicate ((l0.length : Int)+1).toNat (0 : Int)).length=l0.length+1:=by rw [List.length_replicate];omega
  obtain ⟨gC,cC,rfl,oC0,oC1,oC2,RC⟩:=rowB_of hC (by omega)
  rw [lc] at hC ⊢
  rw [lc] at oC2
  have hgC : gC=X+1:=hC.1 gC rfl
  have hX4 : w4.heap[X]?=some (.cells #[.slice (some ⟨g0,0,none⟩) (l0.length+1) q0,.slice (some ⟨g1,0,none⟩) (l0.length+1) q1,.slice (some ⟨g2,0,none⟩) (l0.length+1) q2] 50 (0,0)):=(hg4.block X (by rw [World.size_alloc];omega) (by simp)).trans (by rw [← hX_];exact World.alloc_heap_new w3 _)
  have hb4:=hb2.trans ((hb3.mono hb2.size).trans (hB4.mono (by rw [s1];omega)))
  obtain ⟨w5,hw5⟩ : ∃ w5,(((w4.alloc (.cells #[.int .i64 0] 3)).alloc (.cells #[.int .i64 0] 3)).alloc (.cells #[.int .i64 0] 3))=w5:=⟨_,rfl⟩
  have hb5 : Below w4.heap.size w4 w5:=by rw [← hw5];exact (((Below.refl _ w4).alloc (by omega) _).alloc (by simp) _).alloc (by simp;omega) _
  obtain ⟨n0,n1,n2⟩:=three_new w4 (.cells #[.int .i64 0] 3) (.cells #[.int .i64 0] 3) (.cells #[.int .i64 0] 3)
  rw [hw5] at n0 n1 n2 ⊢
  obtain ⟨Bi,hBi⟩ : ∃ Bi,w4.heap.size=Bi:=⟨_,rfl⟩
  have hN : LdN B g0 g1 g2 g3 X gC Bi (Bi+1) (Bi+1+1):=⟨⟨by omega,by omega⟩,⟨by omega,by omega⟩,⟨by omega,by omega⟩,hg3,by omega,by omega,by omega,by omega⟩
  have hL : LdW l0 w B g0 g1 g2 g3 X gC Bi (Bi+1) (Bi+1+1) q0 q1 q2 cC v3 pg0 (tab (l0.length+1) (fun j=>if j < 0 then (uptoP l0 a1 j).col else 0)) w5:=by
    have kR : ∀ {g : Nat} {xs : List Int},g < w2.heap.size→RowB g xs w2→RowB g xs w5:=fun hg hr=>hr.keep ((hb5.block _ (by omega)).trans ((hB4.block _ (by omega)).trans (hb3.block _ hg)))
    rw [hBi] at n0 n1 n2
    refine ⟨⟨?_,n0,n1,n2⟩,(hb5.block _ (by omega)).trans hX4,kR o01 R0,kR o11 R1,kR o21 R2,fun z=>⟨(R3 z).1,(R3 z).2.keep ((hb5.block _ (by omega)).trans (hB4.block _ hg3.2))⟩,?_,?_⟩
    · have h:=Lib.IsBuilderF.of (Lib.fresh_isBuilder 48 5 w)
      rw [hB_] at h
      exact bld_below h (hb4.trans (hb5.mono (by rw [s1];omega)))
    · have e : List.replicate ((l0.length : Int)+1).toNat (0 : Int)=tab (l0.length+1) (fun j=>if j < 0 then (uptoP l0 a1 j).col else 0):=by
        rw [show ((l0.length : Int)+1).toNat=l0.length+1 by omega,tab_rep]
        exact tab_congr fun j _=>by rw [if_neg (Nat.not_lt_zero j)]
      rw [← e]
      exact Kd.R_mono (Kd.R_below (Kd.R_lower hC (by omega)) hb5) (fun k hk=>by rw [hk,hgC])
    · exact HB1.out.trans ((hb4.trans (hb5.mono (by rw [s1];omega))).mono (by rw [s1];omega))
  have HN:=Aside0.mk hN
  have HL:=Aside0.mk hL
  have HBi:=Aside0.mk (show B < Bi by omega)
  clear hN hL n0 n1 n2 hb5 hb4 hX4 hgC RC oC0 oC1 oC2 lc hC hB4 hg4 hn4 R3 hg3 R0 R1 R2 h0 h1 h2 hb2 h3 hb3 hw5 s1 s2 s3 o00 o01 o02 o10 o11 o12 o20 o21 o22 HB3 hB3 HS HMt
  rw [hBi]
  generalize hBc : Bi+1=Bc at HN HL ⊢
  generalize hBd : Bc+1=Bd at HN HL ⊢
  clear hBc hBd
  go_loopw [13,33] (fun fv iv wr=>∃ k : Nat,k≤l0.length∧fv=.int .i64 (uptoP l0 a1 k).flat∧iv=.int .i64 (k : Int)∧LdW l0 w B g0 g1 g2 g3 X gC Bi Bc Bd q0 q1 q2 cC v3 (uptoP l0 a1 k) (tab (l0.length+1) (fun j=>if j < k then (uptoP l0 a1 j).col else 0)) wr) (fun fv iv _=>l0.length - (flatI iv).toNat)
  case atStart=>exact ⟨0,Nat.zero_le _,rfl,rfl,HL.out⟩
  case round =>
    clear HL
    obtain ⟨k,hk,rfl,rfl,hL⟩:=hrel
    have c1:=cell_of_one hL.pg.col
    obtain ⟨c2,c3,c4⟩:=cols_cell hL.cols (j:=k) (by rw [tab_len];omega)
    have HL:=Aside0.mk hL
    by_cases hlt : k < l0.length
    rotate_left
    · obtain rfl : k=l0.length:=by omega
      clear hL hlt hk
      have a1_ : decide ((l0.length : Int) < (l0.length : Int))=false:=decide_eq_false (by omega)
      go_wp2_with fail
      have HL2:=Aside0.mk (HL.out.note HN.out l0.length (uptoP l0 a1 l0.length).col)
      have hz : B≤wr.heap.size:=by have:=HBi.out;have:=HL.out.lt;have:=HN.out;obtain ⟨_,_,_,_,_,_,_,_⟩:=this;omega
      clear c1 c2 c3 HL
      refine (YtipjfdamkpgecaaBld.string B B _ _ HL2.out.pg.out (by rw [World.size_setCell];exact hz)).mono ?_
      rintro e wz ⟨rfl,hbz,hBz,hOz⟩
      have HL3:=Aside0.mk (HL2.out.oth HN.out (HL2.out.pg.wrote HN.out.pg hbz hOz) hBz (Oth.kept hOz) (by decide))
      clear hbz hBz hOz HL2
      go_wp2_with fail
      go_ret2
      rw [hB_]
      refine ⟨.slice (some ⟨gC,0,none⟩) (l0.length+1) cC,by rw [← HE1.out];rfl,?_,HL3.out.bel⟩
      have e : (tab (l0.length+1) (fun j=>if j < l0.length then (uptoP l0 a1 j).col else 0)).set l0.length (uptoP l0 a1 l0.length).col=r2:=by
        rw [← HE2.out,tab_set]
        exact tab_congr fun j hj=>by
          by_cases q : j=l0.length
          · subst q;rw [if_pos rfl]
          · rw [if_neg q,if_pos (by omega)]
      rw [← e]
      exact Kd.R_mono HL3.out.cols (fun _ _=>trivial)
    · obtain ⟨ad,hA,hx0,hx1⟩:=at_T31 HR0.out (k : Int) (by omega) (by omega)
      have hb0 : (ad.add ((k : Int).toNat * 2)).block < B:=by have:=World.block_lt_of_cell? w _ hx0;rw [hB_] at this;exact this
      have hy0:=(hL.bel.cell hb0).trans hx0
      have hy1:=(hL.bel.cell (p:=⟨(ad.add ((k : Int).toNat * 2)).block,(ad.add ((k : Int).toNat * 2)).off+1,none⟩) hb0).trans hx1
      rw [Int.toNat_natCast] at hy0 hy1
      rw [rd_gB] at hy0 hy1
      subst hA
      have z1 : Bd < wr.heap.size:=hL.lt
      have z2 : Bc < Bd:=HN.out.od
      have z3 : gC < Bc:=by have:=HN.out;obtain ⟨_,_,_,_,_,_,_,_⟩:=this;omega
      have z4 : Bc < wr.heap.size:=by omega
      have a1_ : decide ((k : Int) < (l0.length : Int))=true:=decide_eq_true (by omega)
      have a2_ : decide (k < l0.length)=true:=decide_eq_true hlt
      have a3_ : decide (k < l0.length+1)=true:=decide_eq_true (by omega)
      have a4_ : decide ((k : Int) < (l0.length : Int)+1)=true:=decide_eq_true (by omega)
      clear hL hx0 hx1
      have h0k : 0 < l0.length:=by omega
      have hnote:=HL.out.note HN.out k (uptoP l0 a1 k).col
      have hset : (tab (l0.length+1) (fun j=>if j < k then (uptoP l0 a1 j).col else 0)).set k (uptoP l0 a1 k).col=tab (l0.length+1) (fun j=>if j < k+1 then (uptoP l0 a1 j).col else 0):=by
        rw [tab_set]
        exact tab_congr fun j hj=>by
          by_cases q : j=k
          · subst q;rw [if_pos rfl,if_pos (by omega)]
          · rw [if_neg q]
            by_cases q2 : j < k
            · rw [if_pos q2,if_pos (by omega)]
            · rw [if_neg q2,if_neg (by omega)]
      rw [hset] at hnote
      clear hset
      have hOk:=okP HM.out a1 k hk
      have hStep:=uptoP_succ l0 a1 k
      have hbit:=HM.out.bit k hlt
      have hsz : (gB l0 k).f1.size≤140737488355328:=HSm.out _ (gB_mem hlt)
      have hFitA:=fun m (h : IsM l0 k m)=>fit_eq HM.out HSm.out h a1 (uptoP l0 a1 k).col
      have hbk0:=HBk.out
      have hbk1:=bulkB_ge l0 k l0.length hlt
      have hbk2 : bulkB l0 k≤bulkB l0 l0.length:=by have:=bulkB_mono l0 k (l0.length - k);rw [show k+(l0.length - k)=l0.length by omega] at this;exact this
      obtain ⟨p,hp⟩ : ∃ p,uptoP l0 a1 k=p:=⟨_,rfl⟩
      rw [hp] at hnote hOk hStep hFitA c1 ⊢
      have HNt:=Aside0.mk hnote
      have HOk:=Aside0.mk hOk
      have HSt:=Aside0.mk hStep
      have HBt:=Aside0.mk hbit
      have HFA:=Aside0.mk hFitA
      have HSz:=Aside0.mk (And.intro hbk0 (And.intro hbk1 (And.intro hbk2 hsz)))
      clear HL hnote hOk hStep hbit hFitA hp hsz hbk0 hbk1 hbk2
      have hwb:=HNt.out.bel
      obtain ⟨u,hu⟩ : ∃ u,(gB l0 k).f0=u:=⟨_,rfl⟩
      obtain ⟨t,ht⟩ : ∃ t,(gB l0 k).f1=t:=⟨_,rfl⟩
      have HU:=Aside0.mk (And.intro hu ht)
      rw [hu] at hy0
      rw [ht] at hy1
      clear hu ht
      go_wp2_with fail
      obtain ⟨wm,hwm⟩ : ∃ wm,wr.setCell ⟨gC,k,none⟩ (.int .i64 p.col)=wm:=⟨_,rfl⟩
      have hzm : wm.heap.size=wr.heap.size:=by rw [← hwm,World.size_setCell]
      rw [hwm] at HNt ⊢
      have hBm : B≤wm.heap.size:=by rw [hzm];have:=HBi.out;have:=HN.out;obtain ⟨_,_,_,_,_,_,_,_⟩:=this;omega
      clear hwm hwb
      have hbA : Below wm.heap.size wm (wm.alloc (.cells #[.int .i64 u,.string t] 31)):=(Below.refl _ wm).alloc (Nat.le_refl _) _
      have hN2:=HNt.out.below hBm hbA
      have hbx:=World.alloc_heap_new wm (.cells #[.int .i64 u,.string t] 31)
      rw [← hzm]
      obtain ⟨P,hP⟩ : ∃ P,wm.heap.size=P:=⟨_,rfl⟩
      rw [hP] at hbx hBm ⊢
      have zP : Bd < P:=by rw [← hP,hzm];exact z1
      refine (span_Flat.calls u t (flatOf u t).1 (flatOf u t).2 _ rfl).mono ?_
      rintro e w6 ⟨rfl,hb6⟩
      have hN6:=hN2.below (by rw [World.size_alloc];omega) hb6
      have hbx6:=(hb6.block P (by rw [World.size_alloc];omega)).trans hbx
      clear HNt hbA hN2 hbx hb6 c1 c2 c3 c4 hy0 hy1 hb0 z1 z2 z3 z4
      obtain ⟨⟨q3,rfl⟩,hR3⟩:=hN6.r3 h0k
      have e3:=hR3.cell (i:=k) (by unfold matchL;rw [tab_len];exact hlt)
      have hmt : (matchL l0).getD k 0=if u=6 then matchOf l0 (k : Int) else 0:=by
        have:=tab_rd (fun j=>if (gB l0 j).f0=6 then matchOf l0 (j : Int) else 0) hlt
        unfold rd at this
        rw [Int.toNat_natCast] at this
        rw [← HU.out.1]
        exact this
      rw [hmt] at e3
      clear hmt
      have HN6:=Aside0.mk hN6
      clear hN6 hR3
      have e1 : w6.cell? ⟨P,0,none⟩=some (.int .i64 u):=Lib.cell_of_heap hbx6 0
      have e2 : w6.cell? ⟨P,1,none⟩=some (.string t):=Lib.cell_of_heap hbx6 1
      have hBw : B≤w6.heap.size:=by have:=HN6.out.lt;have:=HN.out.pg.d;omega
      have FIN:=Aside0.mk (show ∀ (W' : World) (f : Int),f=(uptoP l0 a1 (k+1)).flat→LdW l0 w B g0 g1 g2 g3 X gC Bi Bc Bd q0 q1 q2 cC (.slice (some ⟨g3,0,none⟩) l0.length q3) (uptoP l0 a1 (k+1)) (tab (l0.length+1) (fun j=>if j < k+1 then (uptoP l0 a1 j).col else 0)) W' →
          (∃ k_1 : Nat,k_1≤l0.length∧Value.int .i64 f=Value.int .i64 (uptoP l0 a1 k_1).flat∧Value.int .i64 ((k : Int)+1)=Value.int .i64 (k_1 : Int)∧LdW l0 w B g0 g1 g2 g3 X gC Bi Bc Bd q0 q1 q2 cC (.slice (some ⟨g3,0,none⟩) l0.length q3) (uptoP l0 a1 k_1) (tab (l0.length+1) (fun j=>if j < k_1 then (uptoP l0 a1 j).col else 0)) W') ∧
          l0.length - (flatI (Value.int .i64 ((k : Int)+1))).toNat < l0.length - (flatI (Value.int .i64 (k : Int))).toNat from
        fun W' f hf hL=>⟨⟨k+1,by omega,by rw [hf],by rw [Int.natCast_add];rfl,hL⟩,by simp only [flatI];omega⟩)
      have hlo : p.out.length+1≤140737488355328∧p.due≤1048576∧p.out.length+p.due.toNat+(flatOf u t).1.size≤140737488355328:=by
        have h1:=HOk.out.out
        have h2:=HOk.out.due1
        have h3 : (2 * k+2) * k≤8002 * 4000:=Nat.mul_le_mul (by omega) (by omega)
        have h4:=HSz.out
        have h5:=flatOf_size2 u t
        rw [HU.out.2] at h4
        omega
      have HLo:=Aside0.mk hlo
      have hind : 0≤p.ind∧p.ind≤8000:=by
        have h1:=HOk.out.ind
        have h2:=indB_le l0 k
        have h3:=HM.out.ind k hk
        omega
      clear hlo hk
      by_cases u6 : u=6
      · subst u6
        rw [if_pos rfl] at e3
        obtain ⟨m,hM⟩:=HM.out.group hlt HU.out.1
        have hml:=hM.len
        have hmk:=hM.lt
        rw [hM.mt] at e3
        have hfit:=HFA.out m hM
        have e4:=cell_of_one HN6.out.pg.col
        have e5 : w6.cell? ⟨X,0,none⟩=some (.slice (some ⟨g0,0,none⟩) (l0.length+1) q0):=Lib.cell_of_heap HN6.out.x 0
        have e6 : w6.cell? ⟨X,1,none⟩=some (.slice (some ⟨g1,0,none⟩) (l0.length+1) q1):=Lib.cell_of_heap HN6.out.x 1
        have e7 : w6.cell? ⟨X,2,none⟩=some (.slice (some ⟨g2,0,none⟩) (l0.length+1) q2):=Lib.cell_of_heap HN6.out.x 2
        have e8:=HN6.out.r2.cell (i:=k) (by rw [l2_];omega)
        have e9:=HN6.out.r0.cell (i:=m) (by rw [l0_];omega)
        have e10:=HN6.out.r0.cell (i:=k) (by rw [l0_];omega)
        have e11:=HN6.out.r1.cell (i:=m) (by rw [l1_];omega)
        have tr : ∀ (f : Nat→Int) (i : Nat),i < l0.length+1→(tab (l0.length+1) f).getD i 0=f i:=fun f i hi=>by
          have:=tab_rd f hi
          unfold rd at this
          rwa [Int.toNat_natCast] at this
        rw [show (hardL l0).getD k 0=(hardB l0 (l0.length - k) k : Int) from tr _ k (by omega)] at e8
        rw [show (aheadL l0).getD m 0=sumC l0 0 m from tr _ m (by omega)] at e9
        rw [show (aheadL l0).getD k 0=sumC l0 0 k from tr _ k (by omega)] at e10
        rw [show (tailL l0).getD m 0=behB l0 (l0.length - m) m from tr _ m (by omega)] at e11
        have b1:=sumC_bd HSm.out 0 m
        have b2:=sumC_bd HSm.out 0 k
        have b3:=behB_bd HSm.out (l0.length - m) m
        obtain ⟨x1,hx1⟩ : ∃ x,sumC l0 0 m=x:=⟨_,rfl⟩
        obtain ⟨x2,hx2⟩ : ∃ x,sumC l0 0 k=x:=⟨_,rfl⟩
        obtain ⟨x3,hx3⟩ : ∃ x,behB l0 (l0.length - m) m=x:=⟨_,rfl⟩
        obtain ⟨x4,hx4⟩ : ∃ x,hardB l0 (l0.length - k) k=x:=⟨_,rfl⟩
        rw [hx1] at e9 b1 hfit
        rw [hx2] at e10 b2 hfit
        rw [hx3] at e11 b3 hfit
        rw [hx4] at e8 hfit
        have bc:=HOk.out.col1
        have bc0:=HOk.out.col0
        have bs:=HSz.out
        have W1 : IntKind.i64.wrap (p.col+x1)=p.col+x1:=by rw [wsq64];exact wrap_id (by omega) (by omega)
        have W2 : IntKind.i64.wrap (p.col+x1 - x2)=p.col+x1 - x2:=by rw [wsq64];exact wrap_id (by omega) (by omega)
        have W3 : IntKind.i64.wrap (p.col+x1 - x2+x3)=p.col+x1 - x2+x3:=by rw [wsq64];exact wrap_id (by omega) (by omega)
        have a5_ : decide ((m : Int) < (l0.length : Int)+1)=true:=decide_eq_true (by omega)
        have a6_ : decide (m < l0.length+1)=true:=decide_eq_true (by omega)
        have a7_ : ((k : Int) < (l0.length : Int)+1)=True:=eq_true (by omega)
        have a8_ : ((m : Int) < (l0.length : Int)+1)=True:=eq_true (by omega)
        have hstep:=HSt.out
        rw [show gB l0 k=⟨6,t⟩ by rw [← HU.out.1,← HU.out.2]] at hstep
        unfold stepP at hstep
        rw [if_pos rfl,hM.mt,hfit] at hstep
        have HST:=Aside0.mk hstep
        clear hx1 hx2 hx3 hx4 b1 b2 b3 bc bc0 bs hfit hstep tr hM hml hmk
        by_cases n1 : p.flat < 0
        · have d1 : decide (p.flat < 0)=true:=decide_eq_true n1
          by_cases n2 : m < x4
          · have d2 : decide ((m : Int) < (x4 : Int))=true:=decide_eq_true (by omega)
            have d2' : decide (m < x4)=true:=decide_eq_true n2
            by_cases n3 : p.col+x1 - x2+x3≤a1
            · have d3 : decide (p.col+x1 - x2+x3≤a1)=true:=decide_eq_true n3
              have e:=HST.out
              rw [d2',d3,if_pos ⟨n1,rfl⟩] at e
              have HE:=Aside0.mk e
              clear e HST
              go_wp2_with fail
              go_quiet (fail)
              go_wp2_with fail
              exact FIN.out _ _ (by rw [HE.out]) (by rw [HE.out];exact (HN6.out.flat _).drewN _)
            · have d3 : decide (p.col+x1 - x2+x3≤a1)=false:=decide_eq_false n3
              have e:=HST.out
              rw [d2',d3,if_neg (fun h=>absurd h.2 (by decide))] at e
              have HE:=Aside0.mk e
              clear e HST
              go_wp2_with fail
              go_quiet (fail)
              go_wp2_with fail
              exact FIN.out _ _ (by rw [HE.out]) (by rw [HE.out];exact HN6.out.drewN _)
          · have d2 : decide ((m : Int) < (x4 : Int))=false:=decide_eq_false (by omega)
            have d2' : decide (m < x4)=false:=decide_eq_false n2
            have e:=HST.out
            rw [d2',Bool.false_and,if_neg (fun h=>absurd h.2 (by decide))] at e
            have HE:=Aside0.mk e
            clear e HST
            go_wp2_with fail
            go_quiet (fail)
            go_wp2_with fail
            exact FIN.out _ _ (by rw [HE.out]) (by rw [HE.out];exact HN6.out.drewN _)
        · have d1 : decide (p.flat < 0)=false:=decide_eq_false n1
          have e:=HST.out
          rw [if_neg (fun h=>n1 h.1)] at e
          have HE:=Aside0.mk e
          clear e HST
          go_wp2_with fail
          go_quiet (fail)
          go_wp2_with fail
          exact FIN.out _ _ (by rw [HE.out]) (by rw [HE.out];exact HN6.out.drewN _)
      have u6b : (u == 6)=false:=beq_eq_false_iff_ne.2 u6
      rw [if_neg u6] at e3
      have hstep:=HSt.out
      rw [show gB l0 k=⟨u,t⟩ by rw [← HU.out.1,← HU.out.2]] at hstep
      unfold stepP at hstep
      dsimp only at hstep
      rw [if_neg u6] at hstep
      by_cases u7 : u=7
      · subst u7
        rw [if_pos rfl] at hstep
        by_cases n1 : p.flat=(k : Int)
        · have d1 : ((k : Int) == p.flat)=true:=by rw [n1];exact beq_self_eq_true _
          rw [if_pos n1] at hstep
          have HE:=Aside0.mk hstep
          clear hstep n1
          go_wp2_with fail
          exact FIN.out _ _ (by rw [HE.out]) (by rw [HE.out];exact HN6.out.flat _)
        · have d1 : ((k : Int) == p.flat)=false:=beq_eq_false_iff_ne.2 (Ne.symm n1)
          rw [if_neg n1] at hstep
          have HE:=Aside0.mk hstep
          clear hstep n1
          go_wp2_with fail
          exact FIN.out _ _ (by rw [HE.out]) (by rw [HE.out];exact HN6.out)
      have u7b : (u == 7)=false:=beq_eq_false_iff_ne.2 u7
      rw [if_neg u7] at hstep
      have e4:=cell_of_one HN6.out.pg.ind
      have e5:=free_of_one HN6.out.pg.ind
      by_cases u8 : u=8
      · subst u8
        rw [if_pos rfl] at hstep
        have HE:=Aside0.mk hstep
        clear hstep
        go_wp2_with fail
        exact FIN.out _ _ (by rw [HE.out]) (by rw [HE.out];exact HN6.out.oth HN.out (HN6.out.pg.setInd HN.out.pg _) ((Below.refl _ _).setCell (p:=⟨Bi,0,none⟩) HN.out.pg.i _) (Oth.set _ Bi (.inl rfl) _) (by decide))
      have u8b : (u == 8)=false:=beq_eq_false_iff_ne.2 u8
      rw [if_neg u8] at hstep
      by_cases u9 : u=9
      · subst u9
        rw [if_pos rfl] at hstep
        have HE:=Aside0.mk hstep
        clear hstep
        go_wp2_with fail
        exact FIN.out _ _ (by rw [HE.out]) (by rw [HE.out];exact HN6.out.oth HN.out (HN6.out.pg.setInd HN.out.pg _) ((Below.refl _ _).setCell (p:=⟨Bi,0,none⟩) HN.out.pg.i _) (Oth.set _ Bi (.inl rfl) _) (by decide))
      have u9b : (u == 9)=false:=beq_eq_false_iff_ne.2 u9
      rw [if_neg u9] at hstep
      clear e4 e5
      by_cases u5 : u=5
      · subst u5
        rw [if_pos ⟨rfl,.inr rfl⟩] at hstep
        have HE:=Aside0.mk hstep
        clear hstep
        go_wp2_with fail
        refine (line_calls HN6.out.pg HN.out.pg HLo.out.1 hBw).mono ?_
        rintro e w7 ⟨rfl,hp7,hb7,ho7⟩
        have HN7:=Aside0.mk (HN6.out.oth HN.out hp7 hb7 ho7 (by decide))
        clear hp7 hb7 ho7
        go_wp2_with fail
        exact FIN.out _ _ (by rw [HE.out];rfl) (by rw [HE.out];exact HN7.out)
      have u5b : (u == 5)=false:=beq_eq_false_iff_ne.2 u5
      have HBR:=Aside0.mk (breaks_f u t)
      by_cases n1 : p.flat < 0
      · have d1 : decide (p.flat < 0)=true:=decide_eq_true n1
        cases hbu : brB u with
        | true =>
          rw [if_pos ⟨hbu,.inl n1⟩] at hstep
          rw [hbu] at HBR
          have HE:=Aside0.mk hstep
          clear hstep n1 hbu
          go_wp2_with fail
          refine (span_Breaks.calls u t true _ HBR.out).mono ?_
          rintro e wx ⟨rfl,hbx⟩
          have HN7:=Aside0.mk (HN6.out.below hBw hbx)
          have hBx : B≤wx.heap.size:=Nat.le_trans hBw hbx.size
          clear hbx HN6 e1 e2 e3
          go_wp2_with fail
          refine (line_calls HN7.out.pg HN.out.pg HLo.out.1 hBx).mono ?_
          rintro e w7 ⟨rfl,hp7,hb7,ho7⟩
          have HN8:=Aside0.mk (HN7.out.oth HN.out hp7 hb7 ho7 (by decide))
          clear hp7 hb7 ho7
          go_wp2_with fail
          exact FIN.out _ _ (by rw [HE.out];rfl) (by rw [HE.out];exact HN8.out)
        | false =>
          rw [if_neg (fun h=>absurd (hbu.symm.trans h.1) (by decide))] at hstep
          rw [hbu] at HBR
          have HE:=Aside0.mk hstep
          clear hstep n1 hbu
          go_wp2_with fail
          refine (span_Breaks.calls u t false _ HBR.out).mono ?_
          rintro e wx ⟨rfl,hbx⟩
          have HN7:=Aside0.mk (HN6.out.below hBw hbx)
          have hBx : B≤wx.heap.size:=Nat.le_trans hBw hbx.size
          clear hbx HN6 e1 e2 e3
          go_wp2_with fail
          refine (put_calls (flatOf u t).1 HN7.out.pg HN.out.pg HOk.out.due0 HLo.out.2.1 HOk.out.col0 (by have:=HOk.out.col1;have:=HSz.out;omega) HLo.out.2.2 hBx).mono ?_
          rintro e w7 ⟨rfl,hp7,hb7,ho7⟩
          have HN8:=Aside0.mk (HN7.out.oth HN.out hp7 hb7 ho7 (by decide))
          clear hp7 hb7 ho7
          go_wp2_with fail
          exact FIN.out _ _ (by rw [HE.out,putP_flat]) (by rw [HE.out];exact HN8.out)
      · have d1 : decide (p.flat < 0)=false:=decide_eq_false n1
        rw [if_neg (fun h=>h.2.elim n1 u5)] at hstep
        have HE:=Aside0.mk hstep
        clear hstep n1
        go_wp2_with fail
        refine (put_calls (flatOf u t).1 HN6.out.pg HN.out.pg HOk.out.due0 HLo.out.2.1 HOk.out.col0 (by have:=HOk.out.col1;have:=HSz.out;omega) HLo.out.2.2 hBw).mono ?_
        rintro e w7 ⟨rfl,hp7,hb7,ho7⟩
        have HN8:=Aside0.mk (HN6.out.oth HN.out hp7 hb7 ho7 (by decide))
        clear hp7 hb7 ho7
        go_wp2_with fail
        exact FIN.out _ _ (by rw [HE.out,putP_flat]) (by rw [HE.out];exact HN8.out)
end Go.Proofs.Ytipjfdamkpgecaa.PWide
