/- Who was let in ahead of one that waits: kept list by list. No program in sight. -/
import Derived.Test.YtgkdoehkmbhfiaaGreatPCs
import Derived.Test.YtgkdoehkmbhfiaaGreatPCr1
import Derived.Test.YtgkdoehkmbhfiaaGreatPE1
import Derived.Test.YtgkdoehkmbhfiaaGreatPMs
import Derived.Test.YtgkdoehkmbhfiaaGreatPFl
import Derived.Test.YtgkdoehkmbhfiaaGreatPLt
import Derived.Test.YtgkdoehkmbhfiaaGreatPCloneP
import Derived.StillTail
import Derived.StillTailTactics
import Derived.Deep.RegionWith
import Derived.Deep.Cut
import Derived.Deep.CutRange
set_option linter.unusedVariables false
set_option linter.unusedSimpArgs false
set_option maxHeartbeats 16000000
namespace Go.Proofs.YtgkdoehkmbhfiaaGreat
open Go.RowKit
def CyBox (w:World) (gs:Nat) (st:Cy):Prop:=∃(V:Nat→Value) (N:Nat→Nat) (C:Nat→List Value) (D:Nat→List TJV),Bx w gs [V 0,V 1,V 2,V 3,V 4]∧Raw w 0 V N C∧Cont st [] V N C D∧Free V gs∧∀κ,κ<20→∀x∈D κ,IntsD w (fun b=>b<w.heap.size∧b≠gs) x.2 x.1.rsp.data
theorem CyBox.below {w w':World} {gs:Nat} {st:Cy} (h:CyBox w gs st) (hb:Below w.heap.size w w'):CyBox w' gs st:=by
 obtain⟨V,N,C,D,h1,h2,h3,h4,h5⟩:=h;exact⟨V,N,C,D,h1.below hb h1.lt,h2.below hb,h3,h4,fun κ hκ x hx=>((h5 κ hκ x hx).kept fun b hb2=>hb.block b hb2.1).weak fun b hb2=>⟨Nat.lt_of_lt_of_le hb2.1 hb.size,hb2.2⟩⟩
theorem CyBox.lt {w:World} {gs:Nat} {st:Cy} (h:CyBox w gs st):gs<w.heap.size:=by obtain⟨V,N,C,D,h1,_⟩:=h;exact h1.lt
theorem raw_zero {w:World} {base:Nat} {V:Nat→Value} {N:Nat→Nat} {C:Nat→List Value} (h:Raw w base V N C):Raw w 0 V N C:=⟨fun κ hκ=>OwnR.rebase (h.own κ hκ) (Nat.zero_le _),h.ap⟩
theorem CyBox.new {w w':World} {base gs:Nat} {st:Cy} {V:Nat→Value} {N:Nat→Nat} {C:Nat→List Value} {D:Nat→List TJV} (h:CyR w base st V N C D) (hb:Below w.heap.size w w') (hg:w.heap.size≤gs) (hx:Bx w' gs [V 0,V 1,V 2,V 3,V 4]):CyBox w' gs st :=
 ⟨V,N,C,D,hx,raw_zero (h.raw.below hb),h.con,fun κ hκ e=>by have:=(h.raw.lt hκ e).2;omega,fun κ hκ x hx2=>((h.dat κ hκ x hx2).kept fun b hb2=>hb.block b hb2.2.1).weak fun b hb2=>⟨Nat.lt_of_lt_of_le hb2.2.1 hb.size,by have:=hb2.2.1;omega⟩⟩
theorem CyBox.set {w w':World} {base gs:Nat} {st:Cy} {V:Nat→Value} {N:Nat→Nat} {C:Nat→List Value} {D:Nat→List TJV} (h:CyR w base st V N C D) (hk:∀b,b≠gs→w'.heap[b]? = w.heap[b]?) (hz:w'.heap.size=w.heap.size) (hg:gs<base) (hx:Bx w' gs [V 0,V 1,V 2,V 3,V 4]):CyBox w' gs st:=by
 have hf:Free V gs:=fun κ hκ e=>by have:=(h.raw.lt hκ e).1;omega
 exact⟨V,N,C,D,hx,raw_zero (h.raw.kept fun b _ hb=>hk b fun e=>hb (e▸hf)),h.con,hf,fun κ hκ x hx2=>((h.dat κ hκ x hx2).kept fun b hb2=>hk b (by have:=hb2.1;omega)).weak fun b hb2=>⟨by rw[hz];exact hb2.2.1,by have:=hb2.1;omega⟩⟩
theorem CyBox.view {c:Cfg} (hb:Bus c) {w:World} {gs:Nat} {st:Cy} (h:CyBox w gs st) (hg:Good c st):∃b0 b1 b2 b3 b4 n0 n1 n2 n3 n4 k0 k1 k2 k3 k4 P Q,Bx w gs [.slice b0 n0 k0,.slice b1 n1 k1,.slice b2 n2 k2,.slice b3 n3 k3,.slice b4 n4 k4]∧CyV w w.heap.size (.slice b0 n0 k0) (.slice b1 n1 k1) (.slice b2 n2 k2) (.slice b3 n3 k3) (.slice b4 n4 k4) st P Q:=by
 obtain⟨V,N,C,D,h1,h2,h3,h4,h5⟩:=h;obtain⟨P,Q,hv⟩:=cyV_raw h2 h3 (fun κ hκ x hx=>(h5 κ hκ x hx).to fun b hb=>hb.1) (zJ7 hb hg) (atm_i64 hg.atm).1 (atm_i64 hg.atm).2;obtain⟨b0,b1,b2,b3,b4,n0,n1,n2,n3,n4,k0,k1,k2,k3,k4,e0,e1,e2,e3,e4⟩:=hv.sl;rw[e0,e1,e2,e3,e4]at hv h1;exact⟨b0,b1,b2,b3,b4,n0,n1,n2,n3,n4,k0,k1,k2,k3,k4,P,Q,h1,hv⟩
theorem Bx.put5 {w:World} {g:Nat} {a b c d e:Value} (h:Bx w g [a,b,c,d,e]) (a' b' c' d' e':Value):Bx (((((w.setCell ⟨g,0,none⟩ a').setCell ⟨g,1,none⟩ b').setCell ⟨g,2,none⟩ c').setCell ⟨g,3,none⟩ d').setCell ⟨g,4,none⟩ e') g [a', b', c', d', e']:=by
 have:=((((h.set 0 (by simp) a').set 1 (by simp) b').set 2 (by simp) c').set 3 (by simp) d').set 4 (by simp) e';simpa using this
theorem zJ9 {w:World} {g:Nat} {a' b' c' d' e':Value} (b:Nat) (hb:b≠g):(((((w.setCell ⟨g,0,none⟩ a').setCell ⟨g,1,none⟩ b').setCell ⟨g,2,none⟩ c').setCell ⟨g,3,none⟩ d').setCell ⟨g,4,none⟩ e').heap[b]? = w.heap[b]?:=by
 rw[Below.heap_setCell _ _ _ _ hb,Below.heap_setCell _ _ _ _ hb,Below.heap_setCell _ _ _ _ hb,Below.heap_setCell _ _ _ _ hb,Below.heap_setCell _ _ _ _ hb]
theorem CopP.store {st st' : Cy} {w wa : World} {e : Ending} {gs : Nat} (hs : CyBox w gs st) (h : CopP st' w e wa) : ∃ b0 b1 b2 b3 b4 n0 n1 n2 n3 n4 k0 k1 k2 k3 k4, e = .returned (.agg #[.slice b0 n0 k0, .slice b1 n1 k1, .slice b2 n2 k2, .slice b3 n3 k3, .slice b4 n4 k4]) ∧ (∃ a b c d f, Bx wa gs [a, b, c, d, f]) ∧ Below w.heap.size w wa ∧
  CyBox (((((wa.setCell ⟨gs,0,none⟩ (.slice b0 n0 k0)).setCell ⟨gs,1,none⟩ (.slice b1 n1 k1)).setCell ⟨gs,2,none⟩ (.slice b2 n2 k2)).setCell ⟨gs,3,none⟩ (.slice b3 n3 k3)).setCell ⟨gs,4,none⟩ (.slice b4 n4 k4)) gs st':=by
 obtain⟨V,N,C,D,b0,b1,b2,b3,b4,n0,n1,n2,n3,n4,k0,k1,k2,k3,k4,⟨e0,e1,e2,e3,e4⟩,he,hr,hb⟩:=h.sl;obtain⟨V0,N0,C0,D0,hx,_⟩:=hs;have hx2:=hx.below hb hx.lt;refine⟨b0,b1,b2,b3,b4,n0,n1,n2,n3,n4,k0,k1,k2,k3,k4,he,⟨_,_,_,_,_,hx2⟩,hb,CyBox.set hr zJ9 (by simp) hx.lt ?_⟩;rw[e0,e1,e2,e3,e4];exact hx2.put5 _ _ _ _ _
theorem CyBox.rows {c : Cfg} (hb : Bus c) {w : World} {gs : Nat} {st : Cy} (h : CyBox w gs st) (hg : Good c st) : ∃ (b0 b1 b4 : Option Addr) (n0 n1 k0 k1 k4 pg po pc tg tp tc : Nat) (P : List PS) (Q : List SS), Bx w gs [.slice b0 n0 k0, .slice b1 n1 k1, .slice (some ⟨pg, po, none⟩) 3 pc, .slice (some ⟨tg, tp, none⟩) 4 tc, .slice b4 st.told.length k4] ∧
  CyV w w.heap.size (.slice b0 n0 k0) (.slice b1 n1 k1) (.slice (some ⟨pg,po,none⟩) 3 pc) (.slice (some ⟨tg,tp,none⟩) 4 tc) (.slice b4 st.told.length k4) st P Q ∧
  (∀k,k<3→∀j,j<4→w.cell? ⟨pg,po+k * 4+j,none⟩=(rowPS (P.getD k default))[j]?)∧(∀k,k<4→∀j,j<3→w.cell? ⟨tg,tp+k * 3+j,none⟩=(rowSS (Q.getD k default))[j]?) ∧
  (∀k,k<3→∃qa qc oa oc,P.getD k default=⟨(st.ports k).next,(qa,(st.ports k).queue.length,qc),(oa,(st.ports k).out.length,oc),(st.ports k).last⟩) ∧
  (∀k,k<4→∃qa qc oa oc,Q.getD k default=⟨(qa,(st.slaves k).pipe.length,qc),(oa,(st.slaves k).done.length,oc),(st.slaves k).last⟩):=by
 obtain⟨b0,b1,b2,b3,b4,n0,n1,n2,n3,n4,k0,k1,k2,k3,k4,P,Q,hx,hv⟩:=h.view hb hg;obtain⟨pg,po,pc,e2,_,_,_,hpc⟩:=hv.ps.at (by rw[hv.lp];omega)
 obtain⟨tg,tp,tc,e3,_,_,_,htc⟩:=hv.ss.at (by rw[hv.lq];omega)
 rw[hv.lp]at e2 hpc;rw[hv.lq]at e3 htc;have e4:=hv.told.len;rw[e2,e3,e4]at hx hv;refine⟨b0,b1,b4,n0,n1,k0,k1,k4,pg,po,pc,tg,tp,tc,P,Q,hx,hv,fun k hk j hj=>hpc k default hk j hj,fun k hk j hj=>htc k default hk j hj,fun k hk=>?_,fun k hk=>?_⟩
 ·have h1:=hv.pn k hk;have h2:=hv.q k hk;have h3:=hv.o k hk;obtain⟨x,hx⟩:∃x,x=P.getD k default:=⟨_,rfl⟩
  rw[←hx]at h1 h2 h3 ⊢;obtain⟨nx,⟨qa,qn,qc⟩,⟨oa,on,oc⟩,la⟩:=x;simp only[sl]at h1 h2 h3;rw[←h1.1,←h1.2,←h2.len,←h3.len];exact⟨_,_,_,_,rfl⟩
 ·have h1:=hv.sn k hk;have h2:=hv.p k hk;have h3:=hv.d k hk;obtain⟨x,hx⟩:∃x,x=Q.getD k default:=⟨_,rfl⟩
  rw[←hx]at h1 h2 h3 ⊢;obtain⟨⟨qa,qn,qc⟩,⟨oa,on,oc⟩,la⟩:=x;simp only[sl]at h1 h2 h3;rw[←h1,←h2.len,←h3.len];exact⟨_,_,_,_,rfl⟩
end Go.Proofs.YtgkdoehkmbhfiaaGreat
namespace Go.Proofs.YtgkdoehkmbhfiaaGreat
def cntW (j:Nat) (l:List TJ):Nat:=(l.filter (fun x=>x.who==j)).length
structure GrowT (inp:Inp) (st st':Cy) (k:Nat):Prop where
 pre:∃t,st'.told=st.told++t
 cnt:∀j,cntW j st'.told≤cntW j st.told+(if j<k then 1 else 0)
 ge:∀j,cntW j st.told≤cntW j st'.told
 rdy:∀j,cntW j st.told<cntW j st'.told→inp.ready.getD j false=true
 nx:∀j,(st'.ports j).next=(st.ports j).next
theorem GrowT.skip {inp:Inp} {st st':Cy} {k:Nat} (h:GrowT inp st st' k):GrowT inp st st' (k+1) :=
 ⟨h.pre,fun j=>by have:=h.cnt j;by_cases h1:j<k <;> by_cases h2:j<k+1 <;> simp[h1,h2]at this ⊢ <;> omega,h.ge,h.rdy,h.nx⟩
theorem growT_tell1 {inp:Inp} {st:Cy} {x:Cy×List Ev} {k:Nat} (h:GrowT inp st x.1 k):GrowT inp st (tell1 inp k x).1 (k+1):=by
 unfold tell1
 split
 ·rename_i hr
  split
  ·exact h.skip
  ·rename_i m hm;obtain⟨_,_,hmm⟩:=zH7 hm
   split
   ·exact h.skip
   ·rename_i j rest hd;have hj:j.who=k:=by
     unfold tellM at hmm;rw[hd]at hmm;simpa using hmm
    obtain⟨t,ht⟩:=h.pre;have hc:∀i,cntW i (x.1.told++[j])=cntW i x.1.told+(if i=k then 1 else 0):=fun i=>by
     unfold cntW;rw[List.filter_append,List.length_append];by_cases hi:i=k
     ·simp[hi,hj]
     ·rw[if_neg hi,List.filter_cons_of_neg (by simp[hj];omega)];simp
    refine⟨⟨t++[j],by simp[zD6,ht]⟩,fun i=>?_,fun i=>?_,fun i hi=>?_,fun i=>?_⟩
    ·simp only[zD6];rw[hc i];have:=h.cnt i;by_cases h1:i<k <;> by_cases h2:i=k <;> by_cases h3:i<k+1 <;> simp[h1,h2,h3]at this ⊢ <;> omega
    ·simp only[zD6];rw[hc i];exact Nat.le_trans (h.ge i) (Nat.le_add_right _ _)
    ·simp only[zD6]at hi;rw[hc i]at hi;by_cases hik:i=k
     ·rw[hik];exact hr
     ·rw[if_neg hik]at hi;exact h.rdy i hi
    ·simp only[zD6];by_cases hik:i=k
     ·rw[hik,zA1];exact h.nx k
     ·rw[zA0 _ _ hik];exact h.nx i
 ·exact h.skip
def SameT (st st':Cy):Prop:=st'.told=st.told∧∀j,(st'.ports j).next=(st.ports j).next
theorem sameT_work1 {c:Cfg} {inp:Inp} {st:Cy} {x:Cy×List Ev} {s:Nat} (h:SameT st x.1):SameT st (work1 c inp s x).1:=by
 unfold work1
 split
 ·exact h
 ·split
  ·exact h
  ·split
   ·exact h
   ·split
    ·exact h
    ·exact h
theorem sameT_let1 {c:Cfg} {st:Cy} {y:Lt} {s:Nat} (h:SameT st y.st):SameT st (let1 c s y).st:=by
 unfold let1
 split
 ·split
  ·exact h
  ·rename_i k hk
   split
   ·exact h
   ·refine⟨h.1,fun j=>?_⟩;simp only[letDo];by_cases hj:j=((y.st.slaves s).last+k) % 3
    ·rw[hj,zA1];exact h.2 _
    ·rw[zA0 _ _ hj];exact h.2 j
 ·exact h
theorem grow_tell {inp:Inp} {st:Cy}:GrowT inp st (zD9 inp (st,[])).1 3 :=
 growT_tell1 (growT_tell1 (growT_tell1 (x:=(st,[])) (k:=0) ⟨⟨[],by simp⟩,fun j=>by simp,fun j=>Nat.le_refl _,fun j h=>absurd h (Nat.lt_irrefl _),fun j=>rfl⟩))
theorem grow_work {c:Cfg} {inp:Inp} {x:Cy×List Ev}:SameT x.1 (zF2 c inp x).1:=zC9 (P:=fun y:Cy×List Ev=>SameT x.1 y.1) 4 x ⟨rfl,fun _=>rfl⟩ fun _ _ _ hx=>sameT_work1 hx
theorem grow_let {c:Cfg} {st:Cy}:SameT st (letAll c st).st:=zC9 (P:=fun y:Lt=>SameT st y.st) 4 ⟨st,fun _=>false,fun _=>0⟩ ⟨rfl,fun _=>rfl⟩ fun _ _ _ hx=>sameT_let1 hx
end Go.Proofs.YtgkdoehkmbhfiaaGreat
namespace Go.Proofs.YtgkdoehkmbhfiaaGreat
open Go.RowKit
theorem JobsV.cells {w : World} {B : Nat} {v : Value} {js : List TJ} (h : JobsV w B v js) :
  ∃ ao cap, v = .slice ao js.length cap ∧ js.length ≤ cap ∧ cap ≤ 9223372036854775807 ∧ js.length ≤ 140737488351232 ∧
   (js.length≠0→∃b off,ao=some ⟨b,off,none⟩∧b<B∧∀t,t<js.length→∃da dn dc,w.cell? ⟨b,off+t * 5,none⟩=some (.int .i64 ((js.getD t default).who:Nat))∧w.cell? ⟨b,off+t * 5+1,none⟩=some (.int .i64 ((js.getD t default).n:Nat))∧w.cell? ⟨b,off+t * 5+2,none⟩=some (.int .i64 (js.getD t default).rsp.id)∧w.cell? ⟨b,off+t * 5+3,none⟩=some (.int .i64 (js.getD t default).rsp.code)∧w.cell? ⟨b,off+t * 5+4,none⟩=some (.slice da dn dc)∧Ints w B (.slice da dn dc) (js.getD t default).rsp.data):=by
 obtain⟨D,⟨ao,cap,hv,h1,h2,h0,h9,h3⟩,rfl,hd⟩:=h;simp only[List.length_map]at hv h1 h0 h3 ⊢;refine⟨ao,cap,hv,h1,h2,h0,fun hn=>?_⟩;obtain⟨b,off,ha,hlt,hc⟩:=h3 hn;refine⟨b,off,ha,hlt,fun t ht=>?_⟩;have e:(D.map tjRow).getD t []=tjRow (D[t]):=by simp[List.getD,ht]
 have e2:(D.map (·.1)).getD t default=(D[t]).1:=by simp[List.getD,ht]
 have c0:=hc t ht 0 (by omega);have c1:=hc t ht 1 (by omega);have c2:=hc t ht 2 (by omega);have c3:=hc t ht 3 (by omega);have c4:=hc t ht 4 (by omega);have hi:=hd _ (List.getElem_mem ht);obtain⟨da,dc,he,_⟩:=hi.opened;rw[e]at c0 c1 c2 c3 c4;rw[e2];rw[he]at hi;exact⟨da,_,dc,by simpa[tjRow]using c0,by simpa[tjRow]using c1,by simpa[tjRow]using c2,by simpa[tjRow]using c3,by simpa[tjRow,he]using c4,hi⟩
theorem Nats.ints {w:World} {B:Nat} {v:Value} {xs:List Nat} (h:Nats w B v xs) (hx:∀x∈xs,x<1000):Ints w B v (xs.map fun(x:Nat)=>(x:Int)) :=
 ⟨by rw[List.map_map];exact h,fun x hx2=>by obtain⟨y,hy,rfl⟩:=List.mem_map.1 hx2;have:=hx y hy;unfold I64;omega⟩
theorem CyV.rows {w : World} {B : Nat} {a0 a1 a2 a3 a4 : Value} {st : Cy} {P : List PS} {Q : List SS} (hv : CyV w B a0 a1 a2 a3 a4 st P Q) : ∃ (d0 d1 d4 : Option Addr) (c0 c1 c4 pg po pc tg tp tc : Nat), a0 = .slice d0 st.ws.length c0 ∧ a1 = .slice d1 st.hs.length c1 ∧ a2 = .slice (some ⟨pg, po, none⟩) 3 pc ∧ a3 = .slice (some ⟨tg, tp, none⟩) 4 tc ∧ a4 = .slice d4 st.told.length c4 ∧ pg < B ∧ tg < B ∧
  (∀k,k<3→∃qa qc oa oc,w.cell? ⟨pg,po+k * 4,none⟩=some (.int .i64 ((st.ports k).next:Nat))∧w.cell? ⟨pg,po+k * 4+1,none⟩=some (.slice qa (st.ports k).queue.length qc)∧w.cell? ⟨pg,po+k * 4+2,none⟩=some (.slice oa (st.ports k).out.length oc)∧w.cell? ⟨pg,po+k * 4+3,none⟩=some (.int .i64 ((st.ports k).last:Nat))∧Nats w B (.slice qa (st.ports k).queue.length qc) (st.ports k).queue∧Jbs w B (.slice oa (st.ports k).out.length oc) (st.ports k).out) ∧
  (∀k,k<4→∃qa qc oa oc,w.cell? ⟨tg,tp+k * 3,none⟩=some (.slice qa (st.slaves k).pipe.length qc)∧w.cell? ⟨tg,tp+k * 3+1,none⟩=some (.slice oa (st.slaves k).done.length oc)∧w.cell? ⟨tg,tp+k * 3+2,none⟩=some (.int .i64 ((st.slaves k).last:Nat))∧Jbs w B (.slice qa (st.slaves k).pipe.length qc) (st.slaves k).pipe∧JobsV w B (.slice oa (st.slaves k).done.length oc) (st.slaves k).done):=by
 obtain⟨d0,c0,e0,_⟩:=hv.ws.opened;obtain⟨d1,c1,e1,_⟩:=hv.hs.opened;obtain⟨pg,po,pc,e2,_,_,hpg,hpc⟩:=hv.ps.at (by rw[hv.lp];omega)
 obtain⟨tg,tp,tc,e3,_,_,htg,htc⟩:=hv.ss.at (by rw[hv.lq];omega)
 obtain⟨d4,c4,e4,_⟩:=hv.told.cells;rw[hv.lp]at e2 hpc;rw[hv.lq]at e3 htc;refine⟨d0,d1,d4,c0,c1,c4,pg,po,pc,tg,tp,tc,e0,e1,e2,e3,e4,hpg,htg,fun k hk=>?_,fun k hk=>?_⟩
 ·have h1:=hv.pn k hk;have h2:=hv.q k hk;have h3:=hv.o k hk;have h4:=hpc k default hk;obtain⟨x,hx⟩:∃x,x=P.getD k default:=⟨_,rfl⟩
  rw[←hx]at h1 h2 h3 h4;obtain⟨nx,⟨qa,qn,qc⟩,⟨oa,on,oc⟩,la⟩:=x;simp only[sl]at h1 h2 h3;obtain rfl:=h2.len;obtain rfl:=h3.len;have g0:=h4 0 (by omega);have g1:=h4 1 (by omega);have g2:=h4 2 (by omega);have g3:=h4 3 (by omega);rw[←h1.1,←h1.2];exact⟨qa,qc,oa,oc,by simp only[rowPS,List.getElem?_cons_zero,List.getElem?_cons_succ]at g0;exact g0,by simp only[rowPS,List.getElem?_cons_zero,List.getElem?_cons_succ]at g1;exact g1,by simp only[rowPS,List.getElem?_cons_zero,List.getElem?_cons_succ]at g2;exact g2,by simp only[rowPS,List.getElem?_cons_zero,List.getElem?_cons_succ]at g3;exact g3,h2,h3⟩
 ·have h1:=hv.sn k hk;have h2:=hv.p k hk;have h3:=hv.d k hk;have h4:=htc k default hk;obtain⟨x,hx⟩:∃x,x=Q.getD k default:=⟨_,rfl⟩
  rw[←hx]at h1 h2 h3 h4;obtain⟨⟨qa,qn,qc⟩,⟨oa,on,oc⟩,la⟩:=x;simp only[sl]at h1 h2 h3;obtain rfl:=h2.len;obtain rfl:=h3.len;have g0:=h4 0 (by omega);have g1:=h4 1 (by omega);have g2:=h4 2 (by omega);rw[←h1];exact⟨qa,qc,oa,oc,by simp only[rowSS,List.getElem?_cons_zero,List.getElem?_cons_succ]at g0;exact g0,by simp only[rowSS,List.getElem?_cons_zero,List.getElem?_cons_succ]at g1;exact g1,by simp only[rowSS,List.getElem?_cons_zero,List.getElem?_cons_succ]at g2;exact g2,h2,h3⟩
theorem JobsV.take {w:World} {B:Nat} {a:Option Addr} {n k m:Nat} {js:List TJ} (h:JobsV w B (.slice a n k) js) (hm:m≤n):JobsV w B (.slice a m k) (js.take m):=by
 obtain⟨D,⟨ao,cap,hv,h1,h2,h0,h9,h3⟩,rfl,hd⟩:=h;simp only[List.length_map,Value.slice.injEq]at hv h1 h0 h3;obtain⟨rfl,rfl,rfl⟩:=hv;have hl:(D.take m).length=m:=by rw[List.length_take];omega
 refine⟨D.take m,⟨a,k,by rw[List.length_map,hl],by rw[List.length_map,hl];omega,h2,by rw[List.length_map,hl];omega,h9,fun hn=>?_⟩,by rw[List.map_take],fun x hx=>hd x (List.mem_of_mem_take hx)⟩;rw[List.length_map,hl]at hn;obtain⟨b,off,ha,hlt,hc⟩:=h3 (by omega);refine⟨b,off,ha,hlt,fun t ht j hj=>?_⟩;rw[List.length_map,hl]at ht;rw[hc t (by omega) j hj];simp[List.getD,List.getElem?_take,ht]
theorem InV.bits {w:World} {B:Nat} {ra ta sa:Option Addr} {rc tc sc:Nat} {inp:Inp} (h:InV w B (.agg #[.slice ra 3 rc,.slice ta 4 tc,.slice sa 3 sc]) inp):∃rb ro sb so,ra=some ⟨rb,ro,none⟩∧sa=some ⟨sb,so,none⟩∧rb<B∧sb<B∧(∀j,j<3→w.cell? ⟨rb,ro+j,none⟩=some (.bool (inp.ready.getD j false)))∧(∀j,j<3→w.cell? ⟨sb,so+j,none⟩=some (.bool (inp.send.getD j false))):=by
 obtain⟨⟨ra', rc', ta', tc', sa', sc', e,k1,_,k3⟩,l1,_,l3⟩:=h;simp only[Value.agg.injEq,Array.mk.injEq,List.cons.injEq,Value.slice.injEq,and_true]at e;obtain⟨⟨rfl,_,rfl⟩,_,⟨rfl,_,rfl⟩⟩:=e;obtain⟨a1,c1,e1,_,_,_,_,h1⟩:=k1.opened;obtain⟨a3,c3,e3,_,_,_,_,h3⟩:=k3.opened;simp only[Value.slice.injEq,true_and]at e1 e3;obtain⟨rb,ro,rfl,q1,q2⟩:=h1 (by omega);obtain⟨sb,so,rfl,q3,q4⟩:=h3 (by omega);exact⟨rb,ro,sb,so,e1.1,e3.1,q1,q3,fun j hj=>q2 j (by omega),fun j hj=>q4 j (by omega)⟩
end Go.Proofs.YtgkdoehkmbhfiaaGreat
namespace Go.Proofs.YtgkdoehkmbhfiaaGreat
open Go.RowKit
def InL (g n:Nat) (V:Nat→Value) (b:Nat):Prop:=b=g∨∃i,i<n∧(V i).ownBlock=some b
structure BoxL {α:Type} (w:World) (base e sz:Nat) (f:α→List Value) (g n:Nat) (V:Nat→Value) (A:Nat→List α):Prop where
 bx:Bx w g ((List.range n).map V)
 own:∀i,i<n→Owns w base e sz f (V i) (A i)
 ap:∀i j,i<n→j<n→i≠j→Apart (V i) (V j)
 fr:∀i,i<n→(V i).ownBlock≠some g
 lb:base≤g
section
variable {α : Type} {w w' : World} {base e sz g n : Nat} {f : α → List Value} {V : Nat → Value} {A : Nat → List α}
theorem BoxL.lt (h:BoxL w base e sz f g n V A) {b:Nat} (hb:InL g n V b):base≤b∧b<w.heap.size:=by
 rcases hb with rfl|⟨i,hi,hb⟩
 ·exact⟨h.lb,h.bx.lt⟩
 ·exact OwnR.lt (h.own i hi) b hb
theorem BoxL.kept (h:BoxL w base e sz f g n V A) (hk:∀b,InL g n V b→w'.heap[b]? = w.heap[b]?):BoxL w' base e sz f g n V A :=
 ⟨h.bx.kept (hk g (.inl rfl)),fun i hi=>OwnR.kept (h.own i hi) fun b hb=>hk b (.inr ⟨i,hi,hb⟩),h.ap,h.fr,h.lb⟩
theorem BoxL.below (h:BoxL w base e sz f g n V A) (hb:Below w.heap.size w w'):BoxL w' base e sz f g n V A:=h.kept fun b hi=>hb.block b (h.lt hi).2
theorem BoxL.cell (h:BoxL w base e sz f g n V A) {i:Nat} (hi:i<n):w.cell? ⟨g,i,none⟩=some (V i):=by
 rw[h.bx.c i (by simpa using hi)];simp[hi]
theorem BoxL.free (h:BoxL w base e sz f g n V A) {i:Nat} (hi:i<n):w.frozen? ⟨g,i,none⟩=false:=h.bx.f i (by simpa using hi)
theorem range_set {n i:Nat} (hi:i<n) (V:Nat→Value) (v:Value):((List.range n).map V).set i v=(List.range n).map (upd V i v):=by
 apply List.ext_getElem?;intro j;by_cases hj:j<n
 ·rw[List.getElem?_set];by_cases e:i=j
  ·subst e;simp[hi,zA1]
  ·rw[if_neg e];simp[hj,zA0 _ _ (Ne.symm e)]
 ·rw[List.getElem?_eq_none (by simp;omega),List.getElem?_eq_none (by simp;omega)]
theorem BoxL.put (h : BoxL w base e sz f g n V A) {i : Nat} (hi : i < n) {v' : Value} {xs : List α} (ho : Owns w' base e sz f v' xs) (hk : ∀ b, b < w.heap.size → (V i).ownBlock ≠ some b → w'.heap[b]? = w.heap[b]?) (hn : ∀ b, v'.ownBlock = some b → (V i).ownBlock = some b ∨ w.heap.size ≤ b) :
  BoxL (w'.setCell ⟨g,i,none⟩ v') base e sz f g n (upd V i v') (upd A i xs):=by
 have hg:=h.bx.lt;have hvg:v'.ownBlock≠some g:=fun e=>by
  rcases hn g e with h1|h1
  ·exact h.fr i hi h1
  ·omega
 have hx:Bx w' g ((List.range n).map V):=h.bx.kept (hk g hg (h.fr i hi));refine⟨?_,fun j hj=>?_,fun j k hj hk2 hne=>?_,fun j hj=>?_,h.lb⟩
 ·have:=hx.set i (by simpa using hi) v'
  rwa [range_set hi]at this
 ·by_cases ej:j=i
  ·subst ej;rw[zA1,zA1];exact OwnR.kept ho fun b hb=>Below.heap_setCell _ _ _ _ (fun e=>hvg (by rw[hb];exact congrArg some e))
  ·rw[zA0 _ _ ej,zA0 _ _ ej];refine OwnR.kept (OwnR.kept (h.own j hj) fun b hb=>hk b (OwnR.lt (h.own j hj) b hb).2 fun e=>h.ap j i hj hi ej b hb e) fun b hb=>Below.heap_setCell _ _ _ _ (fun e=>h.fr j hj (by rw[hb];exact congrArg some e))
 ·have key:∀m,m<n→m≠i→Apart v' (V m):=fun m hm hmi b hb hc=>by
   rcases hn b hb with h1|h1
   ·exact h.ap i m hi hm (Ne.symm hmi) b h1 hc
   ·have:=(OwnR.lt (h.own m hm) b hc).2;omega
  by_cases ej:j=i
  ·subst ej;rw[zA1,zA0 _ _ (Ne.symm hne)];exact key k hk2 (Ne.symm hne)
  ·rw[zA0 _ _ ej];by_cases ek:k=i
   ·subst ek;rw[zA1];exact(key j hj ej).symm
   ·rw[zA0 _ _ ek];exact h.ap j k hj hk2 hne
 ·by_cases ej:j=i
  ·subst ej;rw[zA1];exact hvg
  ·rw[zA0 _ _ ej];exact h.fr j hj
end
theorem inL_put {g n i m:Nat} {V:Nat→Value} {v':Value} (hi:i<n) (hn:∀b,v'.ownBlock=some b→(V i).ownBlock=some b∨m≤b) {b:Nat} (h:InL g n (upd V i v') b):InL g n V b∨m≤b:=by
 rcases h with rfl|⟨j,hj,hb⟩
 ·exact .inl (.inl rfl)
 ·by_cases e:j=i
  ·subst e;rw[zA1]at hb;exact(hn b hb).imp (fun h=>.inr ⟨j,hj,h⟩) id
  ·rw[zA0 _ _ e]at hb;exact .inl (.inr ⟨j,hj,hb⟩)
structure KeptX (X:Nat→Prop) (w w':World):Prop where
 size:w.heap.size≤w'.heap.size
 block:∀b,b<w.heap.size→¬X b→w'.heap[b]? = w.heap[b]?
theorem KeptX.refl (X:Nat→Prop) (w:World):KeptX X w w:=⟨Nat.le_refl _,fun _ _ _=>rfl⟩
theorem KeptX.of {X:Nat→Prop} {w w':World} (h:Below w.heap.size w w'):KeptX X w w':=⟨h.size,fun b hb _=>h.block b hb⟩
theorem KeptX.trans {X X':Nat→Prop} {u v w:World} (h:KeptX X u v) (k:KeptX X' v w) (hx:∀b,X' b→X b∨u.heap.size≤b):KeptX X u w :=
 ⟨Nat.le_trans h.size k.size,fun b hb hn=>(k.block b (Nat.lt_of_lt_of_le hb h.size) fun e=>(hx b e).elim hn fun h=>by omega).trans (h.block b hb hn)⟩
theorem KeptX.cell {X:Nat→Prop} {w w':World} (h:KeptX X w w') {p:Addr} {v:Value} (hp:¬X p.block) (hc:w.cell? p=some v):w'.cell? p=some v:=by
 rw[←hc];simp only[World.cell?,h.block _ (World.block_lt_of_cell? w _ hc) hp]
def CyBoxX (w:World) (gs:Nat) (X:Nat→Prop) (st:Cy):Prop:=∃(V:Nat→Value) (N:Nat→Nat) (C:Nat→List Value) (D:Nat→List TJV),Bx w gs [V 0,V 1,V 2,V 3,V 4]∧Raw w 0 V N C∧Cont st [] V N C D∧Free V gs∧¬X gs∧(∀b,X b→Free V b)∧∀κ,κ<20→∀x∈D κ,IntsD w (fun b=>b<w.heap.size∧b≠gs∧¬X b) x.2 x.1.rsp.data
theorem CyBoxX.box {w:World} {gs:Nat} {X:Nat→Prop} {st:Cy} (h:CyBoxX w gs X st):CyBox w gs st:=by
 obtain⟨V,N,C,D,h1,h2,h3,h4,h5,h6,h7⟩:=h;exact⟨V,N,C,D,h1,h2,h3,h4,fun κ hκ x hx=>(h7 κ hκ x hx).weak fun b hb=>⟨hb.1,hb.2.1⟩⟩
theorem CyBoxX.keep {w w':World} {gs:Nat} {X X':Nat→Prop} {st:Cy} (h:CyBoxX w gs X st) (hk:KeptX X w w') (hX:∀b,X' b→X b∨w.heap.size≤b):CyBoxX w' gs X' st:=by
 obtain⟨V,N,C,D,h1,h2,h3,h4,h5,h6,h7⟩:=h;refine⟨V,N,C,D,h1.kept (hk.block _ h1.lt h5),h2.kept fun b hb hf=>hk.block b hb fun e=>hf (h6 b e),h3,h4,fun e=>?_,fun b hb=>?_,fun κ hκ x hx=>?_⟩
 ·rcases hX gs e with h|h
  ·exact h5 h
  ·have:=h1.lt;omega
 ·rcases hX b hb with h|h
  ·exact h6 b h
  ·exact fun κ hκ e=>by have:=(h2.lt hκ e).2;omega
 ·refine((h7 κ hκ x hx).kept fun b hb=>hk.block b hb.1 hb.2.2).weak fun b hb=>⟨Nat.lt_of_lt_of_le hb.1 hk.size,hb.2.1,fun e=>?_⟩
  rcases hX b e with h|h
  ·exact hb.2.2 h
  ·have:=hb.1;omega
theorem CyBoxX.ngs {w:World} {gs:Nat} {X:Nat→Prop} {st:Cy} (h:CyBoxX w gs X st):¬X gs:=by
 obtain⟨V,N,C,D,h1,h2,h3,h4,h5,h6,h7⟩:=h;exact h5
theorem CyBox.apart {w w':World} {gs:Nat} {X:Nat→Prop} {st:Cy} (h:CyBox w gs st) (hb:Below w.heap.size w w') (hX:∀b,X b→w.heap.size≤b):CyBoxX w' gs X st:=by
 obtain⟨V,N,C,D,h1,h2,h3,h4,h5⟩:=h;have h0:CyBoxX w gs (fun _=>False) st:=⟨V,N,C,D,h1,h2,h3,h4,fun h=>h,fun _ h=>h.elim,fun κ hκ x hx=>(h5 κ hκ x hx).weak fun b hb=>⟨hb.1,hb.2,fun h=>h⟩⟩
 exact h0.keep (KeptX.of hb) fun b hb=>.inr (hX b hb)
def PushD {α:Type} (wo:World) (base e sz:Nat) (f:α→List Value) (g n:Nat) (V:Nat→Value) (A:Nat→List α) (i:Nat) (y:α) (W:World):Prop :=
 ∃V', BoxL W base e sz f g n V' (upd A i (A i++[y]))∧KeptX (InL g n V) wo W∧Below base wo W∧∀b,InL g n V' b→InL g n V b∨wo.heap.size≤b
def pushC {α : Type} (wo : World) (base e sz : Nat) (f : α → List Value) (g n : Nat) (V : Nat → Value) (A : Nat → List α) (i : Nat) (y : α) (us : List Value) (W : World) : Prop := match us with
 |[]=>Below wo.heap.size wo W
 |[v0]=>Below wo.heap.size wo W∧∃h,v0=.slice (some ⟨h,0,none⟩) 1 1∧∀j u,(f y)[j]? = some u→W.cell? ⟨h,j,none⟩=some u
 |[_,v1]=>∃W0,Below wo.heap.size wo W0∧Owns W base e sz f v1 (A i++[y])∧(∀b,b<W0.heap.size→(V i).ownBlock≠some b→W.heap[b]? = W0.heap[b]?)∧W0.heap.size≤W.heap.size∧Below base W0 W∧(∀k,v1.ownBlock=some k→(V i).ownBlock=some k∨W0.heap.size≤k)
 |[_,_,_]=>PushD wo base e sz f g n V A i y W
 |_=>False
section
variable {α : Type} {wo W : World} {base e sz g n i : Nat} {f : α → List Value} {V : Nat → Value} {A : Nat → List α} {y : α}
theorem pushC_store {v0 v1 v2:Value} (hb:BoxL wo base e sz f g n V A) (hi:i<n) (h:pushC wo base e sz f g n V A i y [v0,v1] W):pushC wo base e sz f g n V A i y [v0,v1,v2] (W.setCell ⟨g,i,none⟩ v1):=by
 obtain⟨W0,h1,h2,h3,h4,h5,h6⟩:=h;have hg:=hb.bx.lt;have hlb:=hb.lb;have hB:=(hb.below h1).put hi h2 h3 h6;refine⟨_,hB,⟨by simp only[World.size_setCell];exact Nat.le_trans h1.size h4,fun b hbl hn=>?_⟩,((h1.mono (Nat.le_trans hlb (Nat.le_of_lt hg))).trans h5).setCell (p:=⟨g,i,none⟩) hlb _,fun b hbb=>?_⟩
 ·rw[Below.heap_setCell _ _ _ _ (fun e=>hn (.inl e)),h3 b (Nat.lt_of_lt_of_le hbl h1.size) fun e=>hn (.inr ⟨i,hi,e⟩)];exact h1.block b hbl
 ·exact(inL_put hi h6 hbb).imp id fun h=>Nat.le_trans h1.size h
theorem pushC_cell {v0 v1:Value} (hb:BoxL wo base e sz f g n V A) (hi:i<n) (h:pushC wo base e sz f g n V A i y [v0,v1] W):W.cell? ⟨g,i,none⟩=some (V i)∧W.frozen? ⟨g,i,none⟩=false:=by
 obtain⟨W0,h1,h2,h3,h4,h5,h6⟩:=h;have hx:=(hb.bx.below h1 hb.bx.lt).kept (h3 g (Nat.lt_of_lt_of_le hb.bx.lt h1.size) (hb.fr i hi));exact⟨by rw[hx.c i (by simpa using hi)];simp[hi],hx.f i (by simpa using hi)⟩
end
end Go.Proofs.YtgkdoehkmbhfiaaGreat
namespace Go.Proofs.YtgkdoehkmbhfiaaGreat
open Go.RowKit
theorem Jbs.head {w:World} {B:Nat} {a:Option Addr} {n k:Nat} {j:Jb} {rest:List Jb} (h:Jbs w B (.slice a n k) (j::rest)):∃b o,a=some ⟨b,o,none⟩∧n=rest.length+1∧b<B∧w.cell? ⟨b,o,none⟩=some (.int .i64 j.who)∧w.cell? ⟨b,o+1,none⟩=some (.int .i64 j.n)∧w.cell? ⟨b,o+2,none⟩=some (.int .i64 j.left):=by
 obtain⟨b,off,cap,e,_,_,hb,hc⟩:=Arr.at (f:=jbRow) h (by simp);simp only[Value.slice.injEq,List.length_cons]at e;obtain⟨rfl,rfl,rfl⟩:=e;have h0:=hc 0 default (by simp) 0 (by omega);have h1:=hc 0 default (by simp) 1 (by omega);have h2:=hc 0 default (by simp) 2 (by omega);exact⟨b,off,rfl,rfl,hb,by simpa[jbRow]using h0,by simpa[jbRow]using h1,by simpa[jbRow]using h2⟩
theorem reqSlave_nat {c : Cfg} (hbus : Bus c) {who n : Nat} (hw : who < 3) (hn : n < (c.prog who).length) {args : Array Value} {w : World} (h : Calls Tryz.prog 13 args w fun e w' => e = .returned (.int .i64 (if (mapOk c.ms && reqOk ((c.prog who).getD n default)) = true then zJ2 c.ms ((c.prog who).getD n default) else -1)) ∧ Below w.heap.size w w') :
  Calls Tryz.prog 13 args w fun e w' => e=.returned (.int .i64 (c.slv who n:Nat))∧Below w.heap.size w w':=by
 refine h.mono ?_;rintro e w' ⟨rfl,hb⟩;have hok:(mapOk c.ms&&reqOk ((c.prog who).getD n default))=true:=by rw[Bool.and_eq_true];exact⟨hbus.ms,hbus.req hw hn⟩
 rw[if_pos hok];exact⟨congrArg (fun x=>Ending.returned (.int .i64 x)) (slv_nat hbus.ms),hb⟩
end Go.Proofs.YtgkdoehkmbhfiaaGreat
namespace Go.Proofs.YtgkdoehkmbhfiaaGreat
def evN (k w:Nat) (l:List Ev):Nat:=(l.filter (fun e=>e.kind==k&&e.who==w)).length
def askB (A:Nat→List Nat) (k:Nat) (l:List Ev):Nat→List Nat:=fun w=>A w++List.replicate (evN 1 w l) k
def asks (c : Cfg) : List Inp → Cy → (Nat → List Nat) → Nat → Nat → List Nat
 |[],_,A,_=>A
 |i::rest,st,A,k=>asks c rest (cyc c i st) (askB A k (evs c i st)) (k+1)
end Go.Proofs.YtgkdoehkmbhfiaaGreat
namespace Go.Proofs.YtgkdoehkmbhfiaaGreat
open Go.RowKit
theorem rowN_one1 (x:Nat):∀u∈rowN x,u.oneCell' = true:=by intro u hu;simp only[rowN,List.mem_singleton]at hu;subst hu;rfl
end Go.Proofs.YtgkdoehkmbhfiaaGreat
namespace Go.Proofs.YtgkdoehkmbhfiaaGreat
def lineL (st st':Cy) (w:Nat):List Jb:=(st'.ports w).out.filter fun o=>!(st.ports w).out.any fun p=>p.n==o.n
def dist (l v:Nat):Nat:=(v+2 - l) % 3
structure FairL (c:Cfg) (x2:Cy) (y:Lt) (k:Nat):Prop where
 u:∀w,w<3→y.used w=false→y.st.ports w=x2.ports w
 t:∀w,w<3→y.used w=true→∃n rest i,(x2.ports w).queue=n::rest∧i<k∧(y.st.ports w).queue=rest∧(y.st.ports w).out=(x2.ports w).out++[⟨w,n,i⟩]∧(y.st.slaves i).last=w
 z:∀i,k≤i→(y.st.slaves i).last=(x2.slaves i).last
 f : ∀ i, i < k → ((∀ w, w < 3 → y.used w = true → ∀ n rest, (x2.ports w).queue = n :: rest → (y.st.ports w).out ≠ (x2.ports w).out ++ [⟨w, n, i⟩]) ∧ (y.st.slaves i).last = (x2.slaves i).last) ∨
  ((y.st.slaves i).last < 3 ∧ y.used (y.st.slaves i).last = true ∧ (∃ n, (y.st.ports (y.st.slaves i).last).out = (x2.ports (y.st.slaves i).last).out ++ [⟨(y.st.slaves i).last, n, i⟩]) ∧
   ∀w,w<3→y.used w=false→may c x2 w i=true→dist (x2.slaves i).last (y.st.slaves i).last<dist (x2.slaves i).last w)
theorem firstK_first {m:Nat→Bool} {n k:Nat} (h:firstK m n=some k):∀j,1≤j→j<k→m j=false:=by
 intro j h1 h2;by_cases hj:m j=true
 ·exfalso
  obtain⟨_,hkn,hmk⟩:=zH7 h;obtain⟨i,hi1,hi2,hi3,hi4⟩:∃i,1≤i∧i<k∧m i=true∧∀l,1≤l→l<i→m l=false:=by
   have key:∀d i,i=d→1≤i→i<k→m i=true→∃i,1≤i∧i<k∧m i=true∧∀l,1≤l→l<i→m l=false:=by
    intro d
    induction d using Nat.strongRecOn with
    |_ d ih=>
     intro i hid hi1 hi2 hi3;by_cases hex:∃l,1≤l∧l<i∧m l=true
     ·obtain⟨l,l1,l2,l3⟩:=hex;exact ih l (by omega) l rfl l1 (by omega) l3
     ·exact ⟨i, hi1, hi2, hi3, fun l l1 l2 => by
       cases hml:m l with
       |false=>rfl
       |true=>exact absurd ⟨l,l1,l2,hml⟩ hex⟩
   exact key j j rfl h1 h2 hj
  have:=firstK_hit (m:=m) (n:=n) hi1 (by omega) hi3 hi4;rw[h]at this;simp only[Option.some.injEq]at this;omega
 ·simpa using hj
theorem may_ports {c:Cfg} {a b:Cy} {w i:Nat} (h:a.ports w=b.ports w):may c a w i=may c b w i:=by unfold may;rw[h]
theorem fair_skip {c:Cfg} {x2:Cy} {y:Lt} {k:Nat} (h:FairL c x2 y k):FairL c x2 y (k+1):=by
 refine⟨h.u,fun w hw hu=>?_,fun i hi=>h.z i (by omega),fun i hi=>?_⟩
 ·obtain⟨n,rest,i,h1,h2,h3⟩:=h.t w hw hu;exact⟨n,rest,i,h1,by omega,h3⟩
 ·by_cases e:i<k
  ·exact h.f i e
  ·have hik:i=k:=by omega
   subst hik;refine .inl ⟨fun w hw hu n rest hq ho=>?_,h.z i (Nat.le_refl _)⟩;obtain⟨n', rest', i', h1,h2,_,h4,_⟩:=h.t w hw hu;rw[h4]at ho;have:=List.append_cancel_left ho;simp only[List.cons.injEq,Jb.mk.injEq,and_true,true_and]at this;omega
theorem fair_let1 {c:Cfg} {x2:Cy} {y:Lt} {k:Nat} (hk:k<4) (hl2:(x2.slaves k).last<3) (h:FairL c x2 y k):FairL c x2 (let1 c k y) (k+1):=by
 unfold let1
 split
 ·split
  ·exact fair_skip h
  ·rename_i m hm;obtain⟨m1,m2,m3⟩:=zH7 hm
   split
   ·exact fair_skip h
   ·rename_i n rest hq;have hz:=h.z k (Nat.le_refl _);obtain⟨v,hv⟩:∃v,v=((y.st.slaves k).last+m) % 3:=⟨_,rfl⟩
    have hv3:v<3:=by omega
    have m3':=m3;unfold letM at m3';rw[←hv]at hq m3' ⊢;simp only[Bool.and_eq_true,Bool.not_eq_true']at m3';obtain⟨hu,hmay⟩:=m3';have hpv:=h.u v hv3 hu;rw[hpv]at hq;refine⟨fun w hw huw=>?_,fun w hw huw=>?_,fun i hi=>?_,fun i hi=>?_⟩
    ·simp only[letDo]at huw ⊢;by_cases e:w=v
     ·subst e;rw[zA1]at huw;cases huw
     ·rw[zA0 _ _ e]at huw ⊢;exact h.u w hw huw
    ·simp only[letDo]at huw ⊢;by_cases e:w=v
     ·subst e;refine⟨n,rest,k,hq,Nat.lt_succ_self _,?_,?_,?_⟩
      ·rw[zA1]
      ·rw[zA1,hpv]
      ·rw[zA1]
     ·rw[zA0 _ _ e]at huw;obtain⟨n', rest', i', h1,h2,h3,h4,h5⟩:=h.t w hw huw;refine⟨n', rest', i', h1,by omega,?_,?_,?_⟩
      ·rw[zA0 _ _ e];exact h3
      ·rw[zA0 _ _ e];exact h4
      ·rw[zA0 _ _ (show i' ≠ k by omega)];exact h5
    ·simp only[letDo];rw[zA0 _ _ (show i≠k by omega)];exact h.z i (by omega)
    ·by_cases e:i=k
     ·subst e
      right
      have hlast:((letDo c i v n rest y).st.slaves i).last=v:=by simp only[letDo];rw[zA1]
      rw[hlast];refine⟨hv3,by simp only[letDo];rw[zA1],⟨n,by simp only[letDo];rw[zA1,hpv]⟩,fun w hw huw hmw=>?_⟩;simp only[letDo]at huw;have hwv:w≠v:=fun e=>by subst e;rw[zA1]at huw;cases huw
      rw[zA0 _ _ hwv]at huw;have hL:(y.st.slaves i).last=(x2.slaves i).last:=hz;obtain⟨d,hd⟩:∃d,d=dist (x2.slaves i).last w:=⟨_,rfl⟩
      have hd3:d<3:=by rw[hd];unfold dist;omega
      have hdw:((y.st.slaves i).last+(d+1)) % 3=w:=by rw[hL,hd];unfold dist;omega
      have hmw2:letM c i y (d+1)=true:=by
       unfold letM;rw[hdw,huw,may_ports (h.u w hw huw),hmw];rfl
      have hle:m≤d+1:=by
       rcases Nat.lt_or_ge (d+1) m with hlt|hge
       ·exfalso
        have:=firstK_first hm (d+1) (by omega) hlt;rw[hmw2]at this;cases this
       ·exact hge
      have hdv:dist (x2.slaves i).last v=m - 1:=by rw[hv,hL];unfold dist;omega
      rw[hdv,←hd];have:m≠d+1:=fun e=>hwv (by rw[←hdw,hv,e])
      omega
     ·rcases h.f i (by omega) with⟨h1,h2⟩|⟨h1,h2,⟨n', h3⟩,h4⟩
      ·left
       refine⟨fun w hw huw n' rest' hq' ho=>?_,by simp only[letDo];rw[zA0 _ _ e];exact h2⟩;simp only[letDo]at huw ho;by_cases e2:w=v
       ·subst e2;rw[zA1]at ho;rw[hpv]at ho;have:=List.append_cancel_left ho;simp only[List.cons.injEq,Jb.mk.injEq,and_true,true_and]at this;omega
       ·rw[zA0 _ _ e2]at huw ho;exact h1 w hw huw n' rest' hq' ho
      ·right
       have hlast:((letDo c k v n rest y).st.slaves i).last=(y.st.slaves i).last:=by simp only[letDo];rw[zA0 _ _ e]
       rw[hlast];have hne:(y.st.slaves i).last≠v:=fun e2=>by rw[e2,hu]at h2;cases h2
       refine⟨h1,by simp only[letDo];rw[zA0 _ _ hne];exact h2,⟨n', by simp only[letDo];rw[zA0 _ _ hne];exact h3⟩,fun w hw huw hmw=>?_⟩;simp only[letDo]at huw;by_cases e2:w=v
       ·subst e2;rw[zA1]at huw;cases huw
       ·rw[zA0 _ _ e2]at huw;exact h4 w hw huw hmw
 ·exact fair_skip h
def mayQ (c : Cfg) (st : Cy) (w : Nat) : Bool := match (st.ports w).queue with
 |[]=>false
 |n::_=>decide ((st.ports w).out.length<4)&&!(st.ports w).out.any fun o=>c.id w o.n==c.id w n&&o.left != c.slv w n
def letB (st x:Cy) (j s:Nat):Bool:=(lineL st x j).any fun o=>o.left==s
theorem lineL_of {st x:Cy} {w:Nat} {a b:List Jb} (h:(x.ports w).out=a++b) (ha:∀o∈a,o∈(st.ports w).out) (hb:∀o∈b,∀p∈(st.ports w).out,p.n≠o.n):lineL st x w=b:=by
 unfold lineL;rw[h,List.filter_append];have f1:(a.filter fun o=>!(st.ports w).out.any fun p=>p.n==o.n)=[]:=by
  rw[List.filter_eq_nil_iff];intro o ho;simp only[Bool.not_eq_true,Bool.not_eq_false', List.any_eq_true,beq_iff_eq];exact⟨o,ha o ho,rfl⟩
 have f2:(b.filter fun o=>!(st.ports w).out.any fun p=>p.n==o.n)=b:=by
  rw[List.filter_eq_self];intro o ho;simp only[Bool.not_eq_true', List.any_eq_false,beq_iff_eq];exact fun p hp he=>hb o ho p hp he
 rw[f1,f2,List.nil_append]
theorem mayQ_may {c:Cfg} {st:Cy} {w n:Nat} {rest:List Nat} (hq:(st.ports w).queue=n::rest):may c st w (c.slv w n)=mayQ c st w:=by
 unfold may mayQ;rw[hq];simp
theorem fair_step {c : Cfg} (hb : Bus c) {inp : Inp} {st : Cy} (hg : Good c st) {w n : Nat} {rest rest' : List Nat} (hw : w < 3) (hq : (st.ports w).queue = n :: rest) (hq' : ((cyc c inp st).ports w).queue = n :: rest') (hmay : mayQ c (cyc c inp st) w = true) :
  (((cyc c inp st).slaves (c.slv w n)).last=(st.slaves (c.slv w n)).last∧∀j,j<3→letB st (cyc c inp st) j (c.slv w n)=false) ∨
  (∃j,j<3∧j≠w∧((cyc c inp st).slaves (c.slv w n)).last=j∧dist (st.slaves (c.slv w n)).last j<dist (st.slaves (c.slv w n)).last w∧∀i,i<3→(letB st (cyc c inp st) i (c.slv w n)=true↔i=j)):=by
 have h1:Good c (zD9 inp (st,[])).1∧(∀s,((zD9 inp (st,[])).1.slaves s).last=(st.slaves s).last)∧∀w,((zD9 inp (st,[])).1.ports w).queue=(st.ports w).queue∧∀o∈((zD9 inp (st,[])).1.ports w).out,o∈(st.ports w).out:=by
  refine zC9 (P:=fun x:Cy×List Ev=>Good c x.1∧(∀s,(x.1.slaves s).last=(st.slaves s).last)∧∀w,(x.1.ports w).queue=(st.ports w).queue∧∀o∈(x.1.ports w).out,o∈(st.ports w).out) 3 (st,[]) ⟨hg,fun _=>rfl,fun w=>⟨rfl,fun o ho=>ho⟩⟩ ?_;intro i x hi hx;refine⟨good_tell1 hx.1 hi,fun s=>?_,fun w=>?_⟩
  ·rw[←hx.2.1 s];unfold tell1
   split
   ·split
    ·rfl
    ·rename_i k hk
     split
     ·rfl
     ·simp only[zD6];by_cases hs:s=((x.1.ports i).last+k) % 4
      ·rw[hs,zA1]
      ·rw[zA0 _ _ hs]
   ·rfl
  ·unfold tell1
   split
   ·split
    ·exact hx.2.2 w
    ·split
     ·exact hx.2.2 w
     ·simp only[zD6];by_cases e:w=i
      ·subst e;rw[zA1];exact⟨(hx.2.2 w).1,fun o ho=>(hx.2.2 w).2 o (List.mem_of_mem_eraseP ho)⟩
      ·rw[zA0 _ _ e];exact hx.2.2 w
   ·exact hx.2.2 w
 obtain⟨x1,hx1⟩:∃x,x=zD9 inp (st,[]):=⟨_,rfl⟩
 rw[←hx1]at h1;obtain⟨g1,l1,q1⟩:=h1;have h2:Good c (zF2 c inp x1).1∧(∀s,((zF2 c inp x1).1.slaves s).last=(st.slaves s).last)∧∀w,(zF2 c inp x1).1.ports w=x1.1.ports w:=by
  refine zC9 (P:=fun x:Cy×List Ev=>Good c x.1∧(∀s,(x.1.slaves s).last=(st.slaves s).last)∧∀w,x.1.ports w=x1.1.ports w) 4 x1 ⟨g1,l1,fun _=>rfl⟩ ?_;intro i x hi hx;refine⟨good_work1 hb hx.1 hi,fun s=>?_,fun w=>?_⟩
  ·rw[←hx.2.1 s];unfold work1
   split
   ·rfl
   ·split
    ·rfl
    ·split
     ·simp only[workDec];by_cases e:s=i
      ·rw[e,zA1]
      ·rw[zA0 _ _ e]
     ·split
      ·simp only[zI1];by_cases e:s=i
       ·rw[e,zA1]
       ·rw[zA0 _ _ e]
      ·rfl
  ·rw[←hx.2.2 w];unfold work1
   split
   ·rfl
   ·split
    ·rfl
    ·split
     ·rfl
     ·split
      ·rfl
      ·rfl
 obtain⟨x2,hx2⟩:∃x,x=zF2 c inp x1:=⟨_,rfl⟩
 rw[←hx2]at h2;obtain⟨g2,l2,p2⟩:=h2;have hl3:∀i,i<4→(x2.1.slaves i).last<3:=fun i hi=>by have:=(g2.s i hi).l;omega
 have h3:FairL c x2.1 (letAll c x2.1) 4 :=
  fair_let1 (k:=3) (by omega) (hl3 3 (by omega)) (fair_let1 (k:=2) (by omega) (hl3 2 (by omega)) (fair_let1 (k:=1) (by omega) (hl3 1 (by omega)) (fair_let1 (k:=0) (y:=⟨x2.1,fun _=>false,fun _=>0⟩) (by omega) (hl3 0 (by omega)) ⟨fun _ _ _=>rfl,fun w _ hu=>(by cases hu),fun _ _=>rfl,fun i hi=>absurd hi (Nat.not_lt_zero _)⟩)))
 have hnx:∀w,((letAll c x2.1).st.ports w).next=(st.ports w).next:=fun w=>by
  have hA:=(grow_let (c:=c) (st:=x2.1)).2 w;have hB:=(grow_work (c:=c) (inp:=inp) (x:=x1)).2 w;have hC:=(grow_tell (inp:=inp) (st:=st)).nx w;rw[hA,hx2,hB,hx1,hC]
 obtain⟨y,hy⟩:∃y,y=letAll c x2.1:=⟨_,rfl⟩
 rw[←hy]at h3 hnx;have h4:(∀s,(zI0 c inp (y.st,x2.2)).1.slaves s=y.st.slaves s)∧∀w,((zI0 c inp (y.st,x2.2)).1.ports w).out=(y.st.ports w).out∧(∃m,((zI0 c inp (y.st,x2.2)).1.ports w).queue=(y.st.ports w).queue++m∧∀i∈m,(st.ports w).next≤i)∧(st.ports w).next≤((zI0 c inp (y.st,x2.2)).1.ports w).next:=by
  refine zC9 (P:=fun x:Cy×List Ev=>(∀s,x.1.slaves s=y.st.slaves s)∧∀w,(x.1.ports w).out=(y.st.ports w).out∧(∃m,(x.1.ports w).queue=(y.st.ports w).queue++m∧∀i∈m,(st.ports w).next≤i)∧(st.ports w).next≤(x.1.ports w).next) 3 (y.st,x2.2) ⟨fun _=>rfl,fun w=>⟨rfl,⟨[],by simp,by simp⟩,by rw[hnx];exact Nat.le_refl _⟩⟩ ?_;intro i x _ hx;unfold ask1
  split
  ·refine⟨hx.1,fun w=>?_⟩;simp only[askDo];by_cases e:w=i
   ·subst e;rw[zA1];obtain⟨m,hm1,hm2⟩:=(hx.2 w).2.1
    exact ⟨(hx.2 w).1, ⟨m ++ [(x.1.ports w).next], by rw [← List.append_assoc, ← hm1], fun j hj => by
     rcases List.mem_append.1 hj with hj|hj
     ·exact hm2 j hj
     ·rw[List.mem_singleton.1 hj];exact(hx.2 w).2.2⟩,Nat.le_succ_of_le (hx.2 w).2.2⟩
   ·rw[zA0 _ _ e];exact hx.2 w
  ·exact hx
 have e:step c inp st=zI0 c inp (y.st,x2.2):=by rw[hy,hx2,hx1];rfl
 have hcy:cyc c inp st=(zI0 c inp (y.st,x2.2)).1:=by unfold cyc;rw[e]
 rw[hcy]at hq' hmay ⊢;obtain⟨hs,hp⟩:=h4;have hpw:=hg.p w hw;have hx2q:∀v,(x2.1.ports v).queue=(st.ports v).queue:=fun v=>by rw[p2 v,(q1 v).1]
 have hx2o:∀v,∀o∈(x2.1.ports v).out,o∈(st.ports v).out:=fun v o ho=>(q1 v).2 o (by rw[←p2 v];exact ho)
 have hrange:=hpw.q;rw[hq]at hrange;obtain⟨r1,r2,_⟩:=range'_cons hrange;have huw:y.used w=false:=by
  cases huw:y.used w with
  |false=>rfl
  |true=>
   exfalso
   obtain⟨n', rest'', i,a1,_,a3,_,_⟩:=h3.t w hw huw;rw[hx2q,hq]at a1;simp only[List.cons.injEq]at a1;obtain⟨m,hm1,hm2⟩:=(hp w).2.1;rw[hq', a3]at hm1;have hin:n∈rest'' ++ m:=by rw[←hm1];exact List.mem_cons_self ..
   rcases List.mem_append.1 hin with hin|hin
   ·rw[←a1.2,r2,List.mem_range'_1]at hin;omega
   ·have h5:=hm2 n hin;have h6:=hpw.qn;rw[List.length_cons]at r1;rw[hq,List.length_cons]at h6;omega
 have hyw:=h3.u w hw huw;have hmx:may c x2.1 w (c.slv w n)=true:=by
  rw[mayQ_may (by rw[hx2q,hq])];unfold mayQ at hmay ⊢;rw[hq']at hmay;rw[hx2q,hq];simp only at hmay ⊢;rw[(hp w).1,hyw]at hmay;exact hmay
 have hs4:c.slv w n<4:=slv_lt4 hb.ms _;have hlet:∀j,j<3→∀s,letB st (zI0 c inp (y.st,x2.2)).1 j s=true→y.used j=true∧∃m r,(x2.1.ports j).queue=m::r∧(y.st.ports j).out=(x2.1.ports j).out++[⟨j,m,s⟩]∧(y.st.slaves s).last=j:=fun j hj s hl=>by
  cases huj:y.used j with
  |false=>
   exfalso
   have e1:lineL st (zI0 c inp (y.st,x2.2)).1 j=[]:=lineL_of (a:=(x2.1.ports j).out) (by rw[(hp j).1,h3.u j hj huj,List.append_nil]) (hx2o j) (fun o ho=>by cases ho);unfold letB at hl;rw[e1]at hl;cases hl
  |true=>
   obtain⟨m,r,i,a1,a2,a3,a4,a5⟩:=h3.t j hj huj
   have e1 : lineL st (zI0 c inp (y.st, x2.2)).1 j = [⟨j, m, i⟩] := lineL_of (a := (x2.1.ports j).out) (by rw [(hp j).1, a4]) (hx2o j) (fun o ho p hp2 he => by
    rw[List.mem_singleton.1 ho]at he;have hjp:=hg.p j hj;have hm:m∈(st.ports j).queue:=by rw[←hx2q,a1];exact List.mem_cons_self ..
    rw[hjp.q,List.mem_range'_1]at hm;have:=(hjp.o p hp2).2.2;simp only at he;omega)
   unfold letB at hl;rw[e1]at hl;simp only[List.any_cons,List.any_nil,Bool.or_false,beq_iff_eq]at hl;subst hl;exact⟨rfl,m,r,a1,a4,a5⟩
 have hletI:∀j,j<3→∀s m,y.used j=true→(y.st.ports j).out=(x2.1.ports j).out++[⟨j,m,s⟩]→letB st (zI0 c inp (y.st,x2.2)).1 j s=true:=fun j hj s m huj ho=>by
  obtain⟨m', r,i,a1,a2,a3,a4,a5⟩:=h3.t j hj huj
  have e1 : lineL st (zI0 c inp (y.st, x2.2)).1 j = [⟨j, m', i⟩] := lineL_of (a := (x2.1.ports j).out) (by rw [(hp j).1, a4]) (hx2o j) (fun o ho p hp2 he => by
   rw[List.mem_singleton.1 ho]at he;have hjp:=hg.p j hj;have hm:m' ∈ (st.ports j).queue:=by rw[←hx2q,a1];exact List.mem_cons_self ..
   rw[hjp.q,List.mem_range'_1]at hm;have:=(hjp.o p hp2).2.2;simp only at he;omega)
  rw[a4]at ho;have:=List.append_cancel_left ho;simp only[List.cons.injEq,Jb.mk.injEq,and_true,true_and]at this;unfold letB;rw[e1];simp[this.2]
 rcases h3.f (c.slv w n) hs4 with⟨f1,f2⟩|⟨f1,f2,⟨m,f3⟩,f4⟩
 ·left
  refine⟨by rw[hs,f2,l2],fun j hj=>?_⟩;cases hl:letB st (zI0 c inp (y.st,x2.2)).1 j (c.slv w n) with
  |false=>rfl
  |true=>
   exfalso
   obtain⟨b1,m,r,b2,b3,_⟩:=hlet j hj _ hl;exact f1 j hj b1 m r b2 b3
 ·right
  refine⟨(y.st.slaves (c.slv w n)).last,f1,fun e=>?_,by rw[hs],?_,fun i hi=>⟨fun hl=>?_,fun hi2=>?_⟩⟩
  ·rw[e,huw]at f2;cases f2
  ·have:=f4 w hw huw hmx
   rwa [l2]at this
  ·obtain⟨_,_,_,_,_,b4⟩:=hlet i hi _ hl;exact b4.symm
  ·subst hi2;exact hletI _ f1 _ m f2 f3
def keepB (c : Cfg) (st x : Cy) (w : Nat) : Bool := match (st.ports w).queue, (x.ports w).queue with
 |n::_,m::_=>n==m&&mayQ c x w
 |_,_=>false
def headS (c:Cfg) (st:Cy) (w:Nat):Nat:=c.slv w ((st.ports w).queue.headD 0)
def condB (c:Cfg) (st x:Cy) (w j:Nat):Bool:=j != w&&letB st x j (headS c st w)&&mayQ c st w
def fairJ (c : Cfg) (st x : Cy) (w : Nat) (wt : List Nat) : Nat → List Nat
 |0=>wt
 |j+1=>fairJ c st x w wt j++if condB c st x w j then[j] else[]
def fairN (c:Cfg) (st x:Cy) (wt:Nat→List Nat) (w:Nat):List Nat:=if keepB c st x w then fairJ c st x w (wt w) 3 else[]
def FairI (c:Cfg) (wt:Nat→List Nat) (st:Cy):Prop :=
 ∀w,w<3→wt w=[]∨((∃n rest,(st.ports w).queue=n::rest)∧mayQ c st w=true∧∀j∈wt w,j<3∧dist (st.slaves (headS c st w)).last w<dist (st.slaves (headS c st w)).last j)
theorem fair_zero (c:Cfg) (st:Cy):FairI c (fun _=>[]) st:=fun _ _=>.inl rfl
theorem fairJ_of {c:Cfg} {st x:Cy} {w:Nat} {wt:List Nat} (h:∀j,j<3→condB c st x w j=false):∀k,k≤3→fairJ c st x w wt k=wt:=by
 intro k
 induction k with
 |zero=>intro _;rfl
 |succ k ih=>intro hk;simp only[fairJ];rw[ih (by omega),h k (by omega)];simp
theorem fairJ_one {c:Cfg} {st x:Cy} {w:Nat} {wt:List Nat} {v:Nat} (h:∀j,j<3→(condB c st x w j=true↔j=v)):∀k,k≤3→fairJ c st x w wt k=wt++if v<k then[v] else[]:=by
 intro k
 induction k with
 |zero=>intro _;simp[fairJ]
 |succ k ih=>
  intro hk;simp only[fairJ];rw[ih (by omega)];by_cases e:k=v
  ·subst e;rw[if_pos ((h k (by omega)).2 rfl),if_neg (Nat.lt_irrefl _),if_pos (Nat.lt_succ_self _)];simp
  ·have hc:¬condB c st x w k=true:=fun h2=>e ((h k (by omega)).1 h2)
   rw[if_neg hc,List.append_nil];by_cases h2:v<k
   ·rw[if_pos h2,if_pos (by omega)]
   ·rw[if_neg h2,if_neg (by omega)]
theorem fairJ_len (c:Cfg) (st x:Cy) (w:Nat) (wt:List Nat):∀k,(fairJ c st x w wt k).length≤wt.length+k:=by
 intro k
 induction k with
 |zero=>exact Nat.le_refl _
 |succ k ih=>
  simp only[fairJ,List.length_append]
  split
  ·simp only[List.length_cons,List.length_nil];omega
  ·simp only[List.length_nil];omega
theorem fairN_len (c:Cfg) (st x:Cy) (wt:Nat→List Nat) (w:Nat):(fairN c st x wt w).length≤(wt w).length+3:=by
 unfold fairN
 split
 ·exact fairJ_len ..
 ·simp
theorem keep_cases {c:Cfg} {st x:Cy} {w:Nat} (h:keepB c st x w=true):∃n rest rest', (st.ports w).queue=n::rest∧(x.ports w).queue=n::rest' ∧ mayQ c x w=true∧headS c st w=c.slv w n∧headS c x w=c.slv w n:=by
 unfold keepB at h
 split at h
 ·rename_i n rest m rest' h1 h2;simp only[Bool.and_eq_true,beq_iff_eq]at h;obtain⟨rfl,h3⟩:=h;exact⟨n,rest,rest', h1,h2,h3,by unfold headS;rw[h1];rfl,by unfold headS;rw[h2];rfl⟩
 ·cases h
theorem fair_next {c : Cfg} (hb : Bus c) {inp : Inp} {st : Cy} (hg : Good c st) {wt : Nat → List Nat} (h : FairI c wt st) :
  (∀w,w<3→keepB c st (cyc c inp st) w=true→∀j,j<3→condB c st (cyc c inp st) w j=true→j ∉ fairJ c st (cyc c inp st) w (wt w) j)∧FairI c (fairN c st (cyc c inp st) wt) (cyc c inp st):=by
 obtain⟨x,hx⟩:∃x,x=cyc c inp st:=⟨_,rfl⟩
 have key : ∀ w, w < 3 → keepB c st x w = true →
   ((∀j,j<3→condB c st x w j=false)∧(wt w=[]∨(x.slaves (headS c x w)).last=(st.slaves (headS c st w)).last)) ∨
   (∃v,v<3∧v≠w∧(x.slaves (headS c x w)).last=v∧(∀j,j<3→(condB c st x w j=true↔j=v))∧dist (st.slaves (headS c st w)).last v<dist (st.slaves (headS c st w)).last w):=by
  intro w hw hk;obtain⟨n,rest,rest', q1,q2,q3,q4,q5⟩:=keep_cases hk;rw[hx]at q2 q3;have hf:=fair_step hb hg (inp:=inp) hw q1 q2 q3;rw[←hx]at hf;rw[q4,q5];by_cases hm:mayQ c st w=true
  ·rcases hf with⟨f1,f2⟩|⟨v,f1,f2,f3,f4,f5⟩
   ·refine .inl ⟨fun j hj=>?_,.inr f1⟩;unfold condB;rw[q4,f2 j hj];simp
   ·refine .inr ⟨v,f1,f2,f3,fun j hj=>?_,f4⟩;unfold condB;rw[q4,hm];simp only[Bool.and_true,Bool.and_eq_true,bne_iff_ne]
    constructor
    ·intro h2;exact(f5 j hj).1 h2.2
    ·intro h2;subst h2;exact⟨f2,(f5 j hj).2 rfl⟩
  ·refine .inl ⟨fun j _=>?_,?_⟩
   ·unfold condB;have:mayQ c st w=false:=by simpa using hm
    rw[this];simp
   ·rcases h w hw with h1|⟨_,h2,_⟩
    ·exact .inl h1
    ·exact absurd h2 hm
 rw[←hx];refine⟨fun w hw hk j hj hc hin=>?_,fun w hw=>?_⟩
 ·rcases key w hw hk with⟨h1,_⟩|⟨v,v1,v2,v3,v4,v5⟩
  ·rw[h1 j hj]at hc;cases hc
  ·obtain rfl:=(v4 j hj).1 hc;rw[fairJ_one v4 j (by omega),if_neg (Nat.lt_irrefl _),List.append_nil]at hin;rcases h w hw with h1|⟨_,_,h2⟩
   ·rw[h1]at hin;cases hin
   ·have:=(h2 j hin).2;omega
 ·by_cases hk:keepB c st x w=true
  ·have hN:fairN c st x wt w=fairJ c st x w (wt w) 3:=by unfold fairN;rw[if_pos hk]
   obtain⟨n,rest,rest', q1,q2,q3,q4,q5⟩:=keep_cases hk;rw[hN];rcases key w hw hk with⟨h1,h2⟩|⟨v,v1,v2,v3,v4,v5⟩
   ·rw[fairJ_of h1 3 (Nat.le_refl _)];rcases h w hw with h3|⟨_,_,h3⟩
    ·exact .inl h3
    ·rcases h2 with h2|h2
     ·exact .inl h2
     ·exact .inr ⟨⟨n,rest', q2⟩,q3,by rw[h2];exact h3⟩
   ·rw[fairJ_one v4 3 (Nat.le_refl _),if_pos v1];refine .inr ⟨⟨n,rest', q2⟩,q3,fun j hj=>?_⟩;rw[v3];rcases List.mem_append.1 hj with hj|hj
    ·rcases h w hw with h3|⟨_,_,h3⟩
     ·rw[h3]at hj;cases hj
     ·obtain⟨a1,a2⟩:=h3 j hj;have hs4:headS c st w<4:=by rw[q4];exact slv_lt4 hb.ms _
      have hl3:(st.slaves (headS c st w)).last<3:=by have:=(hg.s _ hs4).l;omega
      refine⟨a1,?_⟩;unfold dist at v5 a2 ⊢;omega
    ·rw[List.mem_singleton.1 hj];refine⟨v1,?_⟩;unfold dist;omega
  ·left
   unfold fairN;rw[if_neg hk]
end Go.Proofs.YtgkdoehkmbhfiaaGreat
