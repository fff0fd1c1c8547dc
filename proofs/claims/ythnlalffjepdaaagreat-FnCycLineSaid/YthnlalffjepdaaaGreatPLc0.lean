/- What is told was asked long enough ago: its store's slowness and two cycles more lie between. No program in sight. -/
import Derived.Test.YthnlalffjepdaaaGreatPCs
import Derived.Test.YthnlalffjepdaaaGreatPInv
import Derived.Test.YthnlalffjepdaaaGreatPE1
import Derived.Test.YthnlalffjepdaaaGreatPMs
import Derived.Test.YthnlalffjepdaaaGreatPFl
import Derived.Test.YthnlalffjepdaaaGreatPCloneP
import Derived.Test.YthnlalffjepdaaaGreatPLt
import Derived.StillTail
import Derived.StillTailTactics
import Derived.Deep.RegionWith
import Derived.Deep.Cut
import Derived.Deep.CutRange
set_option linter.unusedVariables false
set_option linter.unusedSimpArgs false
set_option maxHeartbeats 16000000
namespace Go.Proofs.YthnlalffjepdaaaGreat
open Go.RowKit
def CyBox (w:World) (gs:Nat) (st:Cy):Prop:=∃(V:Nat→Value) (N:Nat→Nat) (C:Nat→List Value) (D:Nat→List TJV),Bx w gs [V 0,V 1,V 2,V 3,V 4]∧Raw w 0 V N C∧Cont st [] V N C D∧Free V gs∧∀κ,κ<20→∀x∈D κ,IntsD w (fun b=>b<w.heap.size∧b≠gs) x.2 x.1.rsp.data
theorem CyBox.below {w w':World} {gs:Nat} {st:Cy} (h:CyBox w gs st) (hb:Below w.heap.size w w'):CyBox w' gs st:=by
 obtain⟨V,N,C,D,h1,h2,h3,h4,h5⟩:=h;exact⟨V,N,C,D,h1.below hb h1.lt,h2.below hb,h3,h4,fun κ hκ x hx=>((h5 κ hκ x hx).kept fun b hb2=>hb.block b hb2.1).weak fun b hb2=>⟨Nat.lt_of_lt_of_le hb2.1 hb.size,hb2.2⟩⟩
theorem CyBox.lt {w:World} {gs:Nat} {st:Cy} (h:CyBox w gs st):gs<w.heap.size:=by obtain⟨V,N,C,D,h1,_⟩:=h;exact h1.lt
theorem raw_zero {w:World} {base:Nat} {V:Nat→Value} {N:Nat→Nat} {C:Nat→List Value} (h:Raw w base V N C):Raw w 0 V N C:=⟨fun κ hκ=>OwnR.rebase (h.own κ hκ) (Nat.zero_le _),h.ap⟩
theorem CyBox.new {w w':World} {base gs:Nat} {st:Cy} {V:Nat→Value} {N:Nat→Nat} {C:Nat→List Value} {D:Nat→List TJV} (h:CyR w base st V N C D) (hb:Below w.heap.size w w') (hg:w.heap.size≤gs) (hx:Bx w' gs [V 0,V 1,V 2,V 3,V 4]):CyBox w' gs st :=
 ⟨V,N,C,D,hx,raw_zero (h.raw.below hb),h.con,fun κ hκ e=>by have:=(h.raw.lt hκ e).2;omega,fun κ hκ x hx2=>((h.dat κ hκ x hx2).kept fun b hb2=>hb.block b hb2.2.1).weak fun b hb2=>⟨Nat.lt_of_lt_of_le hb2.2.1 hb.size,by have:=hb2.2.1;omega⟩⟩
theorem CyBox.set {w w':World} {base gs:Nat} {st:Cy} {V:Nat→Value} {N:Nat→Nat} {C:Nat→List Value} {D:Nat→List TJV} (h:CyR w base st V N C D) (hk:∀b,b≠gs→w'.heap[b]? = w.heap[b]?) (hz:w'.heap.size=w.heap.size) (hg:gs<base) (hx:Bx w' gs [V 0,V 1,V 2,V 3,V 4]):CyBox w' gs st:=by
 have hf:Free V gs:=fun κ hκ e=>by have:=(h.raw.lt hκ e).1;omega
 exact⟨V,N,C,D,hx,raw_zero (h.raw.kept fun b _ hb=>hk b fun e=>hb (e▸hf)),h.con,hf,fun κ hκ x hx2=>((h.dat κ hκ x hx2).kept fun b hb2=>hk b (by have:=hb2.1;omega)).weak fun b hb2=>⟨by rw[hz];exact hb2.2.1,by have:=hb2.1;omega⟩⟩
theorem CyBox.view {c:Cfg} (hb:Bus c) {w:World} {gs:Nat} {st:Cy} (h:CyBox w gs st) (hg:Good c st):∃b0 b1 b2 b3 b4 n0 n1 n2 n3 n4 k0 k1 k2 k3 k4 P Q,Bx w gs [.slice b0 n0 k0,.slice b1 n1 k1,.slice b2 n2 k2,.slice b3 n3 k3,.slice b4 n4 k4]∧CyV w w.heap.size (.slice b0 n0 k0) (.slice b1 n1 k1) (.slice b2 n2 k2) (.slice b3 n3 k3) (.slice b4 n4 k4) st P Q:=by
 obtain⟨V,N,C,D,h1,h2,h3,h4,h5⟩:=h;obtain⟨P,Q,hv⟩:=cyV_raw h2 h3 (fun κ hκ x hx=>(h5 κ hκ x hx).to fun b hb=>hb.1) (zH7 hb hg) (atm_i64 hg.atm).1 (atm_i64 hg.atm).2;obtain⟨b0,b1,b2,b3,b4,n0,n1,n2,n3,n4,k0,k1,k2,k3,k4,e0,e1,e2,e3,e4⟩:=hv.sl;rw[e0,e1,e2,e3,e4]at hv h1;exact⟨b0,b1,b2,b3,b4,n0,n1,n2,n3,n4,k0,k1,k2,k3,k4,P,Q,h1,hv⟩
theorem Bx.put5 {w:World} {g:Nat} {a b c d e:Value} (h:Bx w g [a,b,c,d,e]) (a' b' c' d' e':Value):Bx (((((w.setCell ⟨g,0,none⟩ a').setCell ⟨g,1,none⟩ b').setCell ⟨g,2,none⟩ c').setCell ⟨g,3,none⟩ d').setCell ⟨g,4,none⟩ e') g [a', b', c', d', e']:=by
 have:=((((h.set 0 (by simp) a').set 1 (by simp) b').set 2 (by simp) c').set 3 (by simp) d').set 4 (by simp) e';simpa using this
theorem zK3 {w:World} {g:Nat} {a' b' c' d' e':Value} (b:Nat) (hb:b≠g):(((((w.setCell ⟨g,0,none⟩ a').setCell ⟨g,1,none⟩ b').setCell ⟨g,2,none⟩ c').setCell ⟨g,3,none⟩ d').setCell ⟨g,4,none⟩ e').heap[b]? = w.heap[b]?:=by
 rw[Below.heap_setCell _ _ _ _ hb,Below.heap_setCell _ _ _ _ hb,Below.heap_setCell _ _ _ _ hb,Below.heap_setCell _ _ _ _ hb,Below.heap_setCell _ _ _ _ hb]
theorem CopP.store {st st' : Cy} {w wa : World} {e : Ending} {gs : Nat} (hs : CyBox w gs st) (h : CopP st' w e wa) : ∃ b0 b1 b2 b3 b4 n0 n1 n2 n3 n4 k0 k1 k2 k3 k4, e = .returned (.agg #[.slice b0 n0 k0, .slice b1 n1 k1, .slice b2 n2 k2, .slice b3 n3 k3, .slice b4 n4 k4]) ∧ (∃ a b c d f, Bx wa gs [a, b, c, d, f]) ∧ Below w.heap.size w wa ∧
  CyBox (((((wa.setCell ⟨gs,0,none⟩ (.slice b0 n0 k0)).setCell ⟨gs,1,none⟩ (.slice b1 n1 k1)).setCell ⟨gs,2,none⟩ (.slice b2 n2 k2)).setCell ⟨gs,3,none⟩ (.slice b3 n3 k3)).setCell ⟨gs,4,none⟩ (.slice b4 n4 k4)) gs st':=by
 obtain⟨V,N,C,D,b0,b1,b2,b3,b4,n0,n1,n2,n3,n4,k0,k1,k2,k3,k4,⟨e0,e1,e2,e3,e4⟩,he,hr,hb⟩:=h.sl;obtain⟨V0,N0,C0,D0,hx,_⟩:=hs;have hx2:=hx.below hb hx.lt;refine⟨b0,b1,b2,b3,b4,n0,n1,n2,n3,n4,k0,k1,k2,k3,k4,he,⟨_,_,_,_,_,hx2⟩,hb,CyBox.set hr zK3 (by simp) hx.lt ?_⟩;rw[e0,e1,e2,e3,e4];exact hx2.put5 _ _ _ _ _
theorem CyBox.rows {c : Cfg} (hb : Bus c) {w : World} {gs : Nat} {st : Cy} (h : CyBox w gs st) (hg : Good c st) : ∃ (b0 b1 b4 : Option Addr) (n0 n1 k0 k1 k4 pg po pc tg tp tc : Nat) (P : List PS) (Q : List SS), Bx w gs [.slice b0 n0 k0, .slice b1 n1 k1, .slice (some ⟨pg, po, none⟩) 3 pc, .slice (some ⟨tg, tp, none⟩) 4 tc, .slice b4 st.told.length k4] ∧
  CyV w w.heap.size (.slice b0 n0 k0) (.slice b1 n1 k1) (.slice (some ⟨pg,po,none⟩) 3 pc) (.slice (some ⟨tg,tp,none⟩) 4 tc) (.slice b4 st.told.length k4) st P Q ∧
  (∀k,k<3→∀j,j<4→w.cell? ⟨pg,po+k * 4+j,none⟩=(rowPS (P.getD k default))[j]?)∧(∀k,k<4→∀j,j<3→w.cell? ⟨tg,tp+k * 3+j,none⟩=(rowSS (Q.getD k default))[j]?) ∧
  (∀k,k<3→∃qa qc oa oc,P.getD k default=⟨(st.ports k).next,(qa,(st.ports k).queue.length,qc),(oa,(st.ports k).out.length,oc),(st.ports k).last⟩) ∧
  (∀k,k<4→∃qa qc oa oc,Q.getD k default=⟨(qa,(st.slaves k).pipe.length,qc),(oa,(st.slaves k).done.length,oc),(st.slaves k).last⟩):=by
 obtain⟨b0,b1,b2,b3,b4,n0,n1,n2,n3,n4,k0,k1,k2,k3,k4,P,Q,hx,hv⟩:=h.view hb hg;obtain⟨pg,po,pc,e2,_,_,_,hpc⟩:=hv.ps.at (by rw[hv.lp];omega)
 obtain⟨tg,tp,tc,e3,_,_,_,htc⟩:=hv.ss.at (by rw[hv.lq];omega)
 rw[hv.lp]at e2 hpc;rw[hv.lq]at e3 htc;have e4:=hv.told.len;rw[e2,e3,e4]at hx hv;refine⟨b0,b1,b4,n0,n1,k0,k1,k4,pg,po,pc,tg,tp,tc,P,Q,hx,hv,fun k hk j hj=>hpc k default hk j hj,fun k hk j hj=>htc k default hk j hj,fun k hk=>?_,fun k hk=>?_⟩
 ·have h1:=hv.pn k hk;have h2:=hv.q k hk;have h3:=hv.o k hk;obtain⟨x,hx⟩:∃x,x=P.getD k default:=⟨_,rfl⟩
  rw[←hx]at h1 h2 h3 ⊢;obtain⟨nx,⟨qa,qn,qc⟩,⟨oa,on,oc⟩,la⟩:=x;simp only[sl]at h1 h2 h3;rw[←h1.1,←h1.2,←h2.len,←h3.len];exact⟨_,_,_,_,rfl⟩
 ·have h1:=hv.sn k hk;have h2:=hv.p k hk;have h3:=hv.d k hk;obtain⟨x,hx⟩:∃x,x=Q.getD k default:=⟨_,rfl⟩
  rw[←hx]at h1 h2 h3 ⊢;obtain⟨⟨qa,qn,qc⟩,⟨oa,on,oc⟩,la⟩:=x;simp only[sl]at h1 h2 h3;rw[←h1,←h2.len,←h3.len];exact⟨_,_,_,_,rfl⟩
theorem JobsV.cells {w : World} {B : Nat} {v : Value} {js : List TJ} (h : JobsV w B v js) :
  ∃ ao cap, v = .slice ao js.length cap ∧ js.length ≤ cap ∧ cap ≤ 9223372036854775807 ∧ js.length ≤ 140737488351232 ∧
   (js.length≠0→∃b off,ao=some ⟨b,off,none⟩∧b<B∧∀t,t<js.length→∃da dn dc,w.cell? ⟨b,off+t * 5,none⟩=some (.int .i64 ((js.getD t default).who:Nat))∧w.cell? ⟨b,off+t * 5+1,none⟩=some (.int .i64 ((js.getD t default).n:Nat))∧w.cell? ⟨b,off+t * 5+2,none⟩=some (.int .i64 (js.getD t default).rsp.id)∧w.cell? ⟨b,off+t * 5+3,none⟩=some (.int .i64 (js.getD t default).rsp.code)∧w.cell? ⟨b,off+t * 5+4,none⟩=some (.slice da dn dc)∧Ints w B (.slice da dn dc) (js.getD t default).rsp.data):=by
 obtain⟨D,⟨ao,cap,hv,h1,h2,h0,h9,h3⟩,rfl,hd⟩:=h;simp only[List.length_map]at hv h1 h0 h3 ⊢;refine⟨ao,cap,hv,h1,h2,h0,fun hn=>?_⟩;obtain⟨b,off,ha,hlt,hc⟩:=h3 hn;refine⟨b,off,ha,hlt,fun t ht=>?_⟩;have e:(D.map tjRow).getD t []=tjRow (D[t]):=by simp[List.getD,ht]
 have e2:(D.map (·.1)).getD t default=(D[t]).1:=by simp[List.getD,ht]
 have c0:=hc t ht 0 (by omega);have c1:=hc t ht 1 (by omega);have c2:=hc t ht 2 (by omega);have c3:=hc t ht 3 (by omega);have c4:=hc t ht 4 (by omega);have hi:=hd _ (List.getElem_mem ht);obtain⟨da,dc,he,_⟩:=hi.opened;rw[e]at c0 c1 c2 c3 c4;rw[e2];rw[he]at hi;exact⟨da,_,dc,by simpa[tjRow]using c0,by simpa[tjRow]using c1,by simpa[tjRow]using c2,by simpa[tjRow]using c3,by simpa[tjRow,he]using c4,hi⟩
theorem Nats.ints {w:World} {B:Nat} {v:Value} {xs:List Nat} (h:Nats w B v xs) (hx:∀x∈xs,x<1000):Ints w B v (xs.map fun(x:Nat)=>(x:Int)) :=
 ⟨by rw[List.map_map];exact h,fun x hx2=>by obtain⟨y,hy,rfl⟩:=List.mem_map.1 hx2;have:=hx y hy;unfold I64;omega⟩
theorem CyV.rows {w : World} {B : Nat} {a0 a1 a2 a3 a4 : Value} {st : Cy} {P : List PS} {Q : List SS} (hv : CyV w B a0 a1 a2 a3 a4 st P Q) : ∃ (d0 d1 d4 : Option Addr) (c0 c1 c4 pg po pc tg tp tc : Nat), a0 = .slice d0 st.ws.length c0 ∧ a1 = .slice d1 st.hs.length c1 ∧ a2 = .slice (some ⟨pg, po, none⟩) 3 pc ∧ a3 = .slice (some ⟨tg, tp, none⟩) 4 tc ∧ a4 = .slice d4 st.told.length c4 ∧ pg < B ∧ tg < B ∧
  (∀k,k<3→∃qa qc oa oc,w.cell? ⟨pg,po+k * 4,none⟩=some (.int .i64 ((st.ports k).next:Nat))∧w.cell? ⟨pg,po+k * 4+1,none⟩=some (.slice qa (st.ports k).queue.length qc)∧w.cell? ⟨pg,po+k * 4+2,none⟩=some (.slice oa (st.ports k).out.length oc)∧w.cell? ⟨pg,po+k * 4+3,none⟩=some (.int .i64 ((st.ports k).last:Nat))∧Nats w B (.slice qa (st.ports k).queue.length qc) (st.ports k).queue∧Jbs w B (.slice oa (st.ports k).out.length oc) (st.ports k).out) ∧
  (∀k,k<4→∃qa qc oa oc,w.cell? ⟨tg,tp+k * 3,none⟩=some (.slice qa (st.slaves k).pipe.length qc)∧w.cell? ⟨tg,tp+k * 3+1,none⟩=some (.slice oa (st.slaves k).done.length oc)∧w.cell? ⟨tg,tp+k * 3+2,none⟩=some (.int .i64 ((st.slaves k).last:Nat))∧Jbs w B (.slice qa (st.slaves k).pipe.length qc) (st.slaves k).pipe∧JobsV w B (.slice oa (st.slaves k).done.length oc) (st.slaves k).done):=by
 obtain⟨d0,c0,e0,_⟩:=hv.ws.opened;obtain⟨d1,c1,e1,_⟩:=hv.hs.opened;obtain⟨pg,po,pc,e2,_,_,hpg,hpc⟩:=hv.ps.at (by rw[hv.lp];omega)
 obtain⟨tg,tp,tc,e3,_,_,htg,htc⟩:=hv.ss.at (by rw[hv.lq];omega)
 obtain⟨d4,c4,e4,_⟩:=hv.told.cells;rw[hv.lp]at e2 hpc;rw[hv.lq]at e3 htc;refine⟨d0,d1,d4,c0,c1,c4,pg,po,pc,tg,tp,tc,e0,e1,e2,e3,e4,hpg,htg,fun k hk=>?_,fun k hk=>?_⟩
 ·have h1:=hv.pn k hk;have h2:=hv.q k hk;have h3:=hv.o k hk;have h4:=hpc k default hk;obtain⟨x,hx⟩:∃x,x=P.getD k default:=⟨_,rfl⟩
  rw[←hx]at h1 h2 h3 h4;obtain⟨nx,⟨qa,qn,qc⟩,⟨oa,on,oc⟩,la⟩:=x;simp only[sl]at h1 h2 h3;obtain rfl:=h2.len;obtain rfl:=h3.len;have g0:=h4 0 (by omega);have g1:=h4 1 (by omega);have g2:=h4 2 (by omega);have g3:=h4 3 (by omega);rw[←h1.1,←h1.2];exact⟨qa,qc,oa,oc,by simp only[rowPS,List.getElem?_cons_zero,List.getElem?_cons_succ]at g0;exact g0,by simp only[rowPS,List.getElem?_cons_zero,List.getElem?_cons_succ]at g1;exact g1,by simp only[rowPS,List.getElem?_cons_zero,List.getElem?_cons_succ]at g2;exact g2,by simp only[rowPS,List.getElem?_cons_zero,List.getElem?_cons_succ]at g3;exact g3,h2,h3⟩
 ·have h1:=hv.sn k hk;have h2:=hv.p k hk;have h3:=hv.d k hk;have h4:=htc k default hk;obtain⟨x,hx⟩:∃x,x=Q.getD k default:=⟨_,rfl⟩
  rw[←hx]at h1 h2 h3 h4;obtain⟨⟨qa,qn,qc⟩,⟨oa,on,oc⟩,la⟩:=x;simp only[sl]at h1 h2 h3;obtain rfl:=h2.len;obtain rfl:=h3.len;have g0:=h4 0 (by omega);have g1:=h4 1 (by omega);have g2:=h4 2 (by omega);rw[←h1];exact⟨qa,qc,oa,oc,by simp only[rowSS,List.getElem?_cons_zero,List.getElem?_cons_succ]at g0;exact g0,by simp only[rowSS,List.getElem?_cons_zero,List.getElem?_cons_succ]at g1;exact g1,by simp only[rowSS,List.getElem?_cons_zero,List.getElem?_cons_succ]at g2;exact g2,h2,h3⟩
theorem JobsV.take {w:World} {B:Nat} {a:Option Addr} {n k m:Nat} {js:List TJ} (h:JobsV w B (.slice a n k) js) (hm:m≤n):JobsV w B (.slice a m k) (js.take m):=by
 obtain⟨D,⟨ao,cap,hv,h1,h2,h0,h9,h3⟩,rfl,hd⟩:=h;simp only[List.length_map,Value.slice.injEq]at hv h1 h0 h3;obtain⟨rfl,rfl,rfl⟩:=hv;have hl:(D.take m).length=m:=by rw[List.length_take];omega
 refine⟨D.take m,⟨a,k,by rw[List.length_map,hl],by rw[List.length_map,hl];omega,h2,by rw[List.length_map,hl];omega,h9,fun hn=>?_⟩,by rw[List.map_take],fun x hx=>hd x (List.mem_of_mem_take hx)⟩;rw[List.length_map,hl]at hn;obtain⟨b,off,ha,hlt,hc⟩:=h3 (by omega);refine⟨b,off,ha,hlt,fun t ht j hj=>?_⟩;rw[List.length_map,hl]at ht;rw[hc t (by omega) j hj];simp[List.getD,List.getElem?_take,ht]
theorem InV.bits {w:World} {B:Nat} {ra ta sa:Option Addr} {rc tc sc:Nat} {inp:Inp} (h:InV w B (.agg #[.slice ra 3 rc,.slice ta 4 tc,.slice sa 3 sc]) inp):∃rb ro sb so,ra=some ⟨rb,ro,none⟩∧sa=some ⟨sb,so,none⟩∧rb<B∧sb<B∧(∀j,j<3→w.cell? ⟨rb,ro+j,none⟩=some (.bool (inp.ready.getD j false)))∧(∀j,j<3→w.cell? ⟨sb,so+j,none⟩=some (.bool (inp.send.getD j false))):=by
 obtain⟨⟨ra', rc', ta', tc', sa', sc', e,k1,_,k3⟩,l1,_,l3⟩:=h;simp only[Value.agg.injEq,Array.mk.injEq,List.cons.injEq,Value.slice.injEq,and_true]at e;obtain⟨⟨rfl,_,rfl⟩,_,⟨rfl,_,rfl⟩⟩:=e;obtain⟨a1,c1,e1,_,_,_,_,h1⟩:=k1.opened;obtain⟨a3,c3,e3,_,_,_,_,h3⟩:=k3.opened;simp only[Value.slice.injEq,true_and]at e1 e3;obtain⟨rb,ro,rfl,q1,q2⟩:=h1 (by omega);obtain⟨sb,so,rfl,q3,q4⟩:=h3 (by omega);exact⟨rb,ro,sb,so,e1.1,e3.1,q1,q3,fun j hj=>q2 j (by omega),fun j hj=>q4 j (by omega)⟩
theorem elem_TlmEvent:Elem 54 66 3 24:=zE5 Tryz.underlying54 (z:=.agg #[.int .i64 0,.int .i64 0,.int .i64 0]) (by kernel_rfl) rfl (by omega)
theorem sClone_TlmEvent {α : Type} (f : α → List Value) (hf : ∀ x, (f x).length = 3) (h1 : ∀ x, ∀ u ∈ f x, u.oneCell' = true) (v : Value) (ys : List α) (B : Nat) (w : World) (ha : Arr w B 3 v (ys.map f)) (hlen : ys.length * 24 ≤ 140737488355328) :
  Calls Tryz.prog 126 #[v] w (CloneP f 66 3 ys w):=by
 have ha0:=hid ha;obtain⟨ao,cap,rfl,g1,g2,g0,g9,g3⟩:=ha;simp only[List.length_map]at g1 g2 g0 ⊢;clear g3;cases ao with
 |none=>
  obtain rfl:=g9 rfl;have hy:ys=[]:=by
   rcases ys with _|⟨y,ys⟩
   ·rfl
   ·simp at g1
  subst hy;have he:=fun w=>Lib.run_eql_slice_nil (P:=Tryz.prog) w 54 66 none 0 0 0 0 Tryz.underlying54
  go_enter Tryz.func126,Tryz.ntmps126
  go_wp2_with fail
  go_ret
  exact⟨_,rfl,Owns.zero,Below.refl _ _⟩
 |some ad=>
  have he:=fun w=>Lib.run_eql_slice_nil (P:=Tryz.prog) w 54 66 (some ad) ys.length cap 0 0 Tryz.underlying54
  clear g9
  go_enter Tryz.func126,Tryz.ntmps126
  go_wp2_with (at_builtin;go_must (refine zF6 elem_TlmEvent f hf h1 _ rfl _ _ rfl w.heap.size _ [] (by rfl) (Owns.lit (Nat.le_refl _)) _ ys (min B w.heap.size) (by rfl) (by have:=(ha0.out).fit (by omega) (by intro r hr;obtain⟨y,_,rfl⟩:=List.mem_map.1 hr;exact hf y);simp only[List.length_map]at this;exact this.below ((Below.refl _ _).alloc (Nat.min_le_right _ _) _)) (by simpa using hlen) (by simp;omega) (by simp) ?_);intro v' w1 hown1 hb1 _)
  go_ret
  exact⟨v', rfl,by simpa using hown1,((Below.refl _ _).alloc (Nat.le_refl _) _).trans hb1⟩
theorem sClip_TlmEvent (a:Option Addr) (n c:Nat) (w:World) (hc:n≤c) (hm:c≤9223372036854775807):Calls Tryz.prog 67 #[.slice a n c] w fun e w' => e=.returned (.slice a n n)∧w=w':=by
 go_enter Tryz.func67,Tryz.ntmps67
 go_wp2_with fail
 go_ret
 exact⟨rfl,rfl⟩
theorem clone_TlmEvent {α : Type} (f : α → List Value) (hf : ∀ x, (f x).length = 3) (h1 : ∀ x, ∀ u ∈ f x, u.oneCell' = true) (v : Value) (ys : List α) (B : Nat) (w : World) (ha : Arr w B 3 v (ys.map f)) (hlen : ys.length * 24 ≤ 140737488355328) :
  Calls Tryz.prog 77 #[v] w (CloneP f 66 3 ys w):=by
 go_enter Tryz.func77,Tryz.ntmps77
 go_wp2_with fail
 refine(sClone_TlmEvent f hf h1 v ys B w ha hlen).mono ?_;rintro e w1 ⟨u,rfl,hown,hb⟩;obtain⟨a,c,rfl,hc1,hc2⟩:=hown.shape
 go_wp2_with fail
 refine(sClip_TlmEvent a ys.length c _ hc1 hc2).mono ?_;rintro e w2 ⟨rfl,rfl⟩
 go_wp2_with fail
 go_ret
 exact⟨_,rfl,hown.clip,hb⟩
end Go.Proofs.YthnlalffjepdaaaGreat
namespace Go.Proofs.YthnlalffjepdaaaGreat
open Go.RowKit
theorem evs_len (c:Cfg) (inp:Inp) (st:Cy):(evs c inp st).length≤10:=by
 have h1:=tellAll_len inp (st,[]);have h2:=workAll_len c inp (zC3 inp (st,[]));have h3:∀x:Cy×List Ev,(askAll c inp x).2.length≤x.2.length+3:=fun x=>by
  have g0:=ask1_len c inp 0 x;have g1:=ask1_len c inp 1 (ask1 c inp 0 x);have g2:=ask1_len c inp 2 (ask1 c inp 1 (ask1 c inp 0 x));show(ask1 c inp 2 (ask1 c inp 1 (ask1 c inp 0 x))).2.length≤_;omega
 have h4:=h3 ((zE0 c (zC9 c inp (zC3 inp (st,[]))).1).st,(zC9 c inp (zC3 inp (st,[]))).2);show(askAll c inp ((zE0 c (zC9 c inp (zC3 inp (st,[]))).1).st,(zC9 c inp (zC3 inp (st,[]))).2)).2.length≤10;simp only[List.length_nil]at h1;simp only at h4;omega
theorem fieldHap (va:Option Addr) (n vc:Nat) (a b c d:Int) (w:World):(Instr.field 116 (.agg #[.slice va n vc,.int .i64 a,.int .i64 b,.int .i64 c,.int .i64 d]) 0).run Tryz.prog w=.ok (.slice va n vc) w:=by
 simp[go_sem,Instr.field,asAgg]
attribute [local go_sem] fieldHap
def EvP (es:List Ev) (w:World) (e:Ending) (w':World):Prop:=∃v,e=.returned v∧Owns w' w.heap.size 66 3 evRow v es∧Below w.heap.size w w'
set_option maxRecDepth 8000 in
theorem cycEvents_any {c : Cfg} (hbus : Bus c) {w : World} {B : Nat} {u v : Value} (hc : BusV w B u c) {a0 a1 a2 a3 a4 : Value} {st : Cy} {P : List PS} {Q : List SS} (h : CyV w B a0 a1 a2 a3 a4 st P Q) {inp : Inp} (hi : InV w B v inp) (hB : B ≤ w.heap.size) (hg : Good c st) :
  Calls Tryz.prog 27 #[u,.agg #[a0,a1,a2,a3,a4],v] w (EvP (evs c inp st) w):=by
 obtain⟨mv,lb,lo,lc,pb,po,pc,QQ,K,rfl,⟨ma,mn,mk,rfl⟩,_,_,_,_,_,_⟩:=hc.opened hbus;obtain⟨z0,z1,z2,z3,z4,n0,n1,n2,n3,n4,k0,k1,k2,k3,k4,rfl,rfl,rfl,rfl,rfl⟩:=h.sl;obtain⟨ra,rc,ta,tc,sa,sc,rfl⟩:=hi.three;have HOK:=hid (fun(W:World) (hW:Below w.heap.size w W)=>cycOk_any hbus (hc.below (hW.mono hB)) (h.below (hW.mono hB)) (Nat.le_trans hB hW.size) hg);have HCP:=hid (fun(W:World) (hW:Below w.heap.size w W)=>zJ2 (h.below (hW.mono hB)) (Nat.le_trans hB hW.size) (zH7 hbus hg));have HBV:=hid hc;have HIV:=hid hi;obtain⟨w0,hw0⟩:∃W,W=((w.alloc (.cells #[.slice ma mn mk,.slice (some ⟨lb,lo,none⟩) 4 lc,.slice (some ⟨pb,po,none⟩) 3 pc] 27)).alloc (.cells #[.slice z0 n0 k0,.slice z1 n1 k1,.slice z2 n2 k2,.slice z3 n3 k3,.slice z4 n4 k4] 46)).alloc (.cells #[.slice ra 3 rc,.slice ta 4 tc,.slice sa 3 sc] 64):=⟨_,rfl⟩
 have hb0:Below w.heap.size w w0:=by rw[hw0];exact(((Below.refl _ _).alloc (Nat.le_refl _) _).alloc (by simp) _).alloc (by simp <;> omega) _
 obtain⟨g1,hg1⟩:∃g,g=w.heap.size+1:=⟨_,rfl⟩
 obtain⟨g2,hg2⟩:∃g,g=w.heap.size+1+1:=⟨_,rfl⟩
 have X0 := hid (show Bx w0 w.heap.size [.slice ma mn mk, .slice (some ⟨lb, lo, none⟩) 4 lc, .slice (some ⟨pb, po, none⟩) 3 pc] by
  rw[hw0];exact((Bx.new w #[.slice ma mn mk,.slice (some ⟨lb,lo,none⟩) 4 lc,.slice (some ⟨pb,po,none⟩) 3 pc] 27 (by simp)).below ((Below.refl _ _).alloc (Nat.le_refl _) _) (by simp)).below ((Below.refl _ _).alloc (Nat.le_refl _) _) (by simp <;> omega))
 have X1 := hid (show Bx w0 g1 [.slice z0 n0 k0, .slice z1 n1 k1, .slice z2 n2 k2, .slice z3 n3 k3, .slice z4 n4 k4] by
  rw[hw0,hg1];have:=(Bx.new (w.alloc (.cells #[.slice ma mn mk,.slice (some ⟨lb,lo,none⟩) 4 lc,.slice (some ⟨pb,po,none⟩) 3 pc] 27)) #[.slice z0 n0 k0,.slice z1 n1 k1,.slice z2 n2 k2,.slice z3 n3 k3,.slice z4 n4 k4] 46 (by simp)).below ((Below.refl _ _).alloc (Nat.le_refl _) (.cells #[.slice ra 3 rc,.slice ta 4 tc,.slice sa 3 sc] 64)) (by simp);simpa using this)
 have X2 := hid (show Bx w0 g2 [.slice ra 3 rc, .slice ta 4 tc, .slice sa 3 sc] by
  rw[hw0,hg2];have:=Bx.new ((w.alloc (.cells #[.slice ma mn mk,.slice (some ⟨lb,lo,none⟩) 4 lc,.slice (some ⟨pb,po,none⟩) 3 pc] 27)).alloc (.cells #[.slice z0 n0 k0,.slice z1 n1 k1,.slice z2 n2 k2,.slice z3 n3 k3,.slice z4 n4 k4] 46)) #[.slice ra 3 rc,.slice ta 4 tc,.slice sa 3 sc] 64 (by simp);simpa using this)
 have HB0:=hid hb0;have HSZ:=hid (show w0.heap.size=w.heap.size+3 by rw[hw0];simp);obtain⟨b0,b1,b2⟩:=X0.out.three.1;obtain⟨t0,t1,t2,t3,t4⟩:=X1.out.five.1;obtain⟨i0,i1,i2⟩:=X2.out.three.1;clear hc h hi hb0
 go_enter Tryz.func27,Tryz.ntmps27
 go_upto_region 1 with fail
 rw[←hw0,←hg2,←hg1];have HG1:=hid hg1;have HG2:=hid hg2;clear hw0 hg1 hg2
 go_upto_region 3 with (first
  |(go_at_call 30;go_loud ((with_reducible refine(HOK.out _ HB0.out).mono ?_));rintro e w1 ⟨rfl,hb1⟩;have HQ1:=hid hb1;have HB1:=hid (HB0.out.trans (hb1.mono HB0.out.size));clear t0 t1 t2 t3 t4 b0 b1 b2 i0 i1 i2;obtain⟨i0,i1,i2⟩:=(X2.out.below hb1 X2.out.lt).three.1;clear hb1)
  |(go_at_call 53;go_loud ((with_reducible refine(inOk_any _ _ _ _ _ _).mono ?_));rintro e w2 ⟨rfl,hb2⟩;have HQ2:=hid (HQ1.out.trans (hb2.mono HQ1.out.size));have HB2:=hid (HB1.out.trans (hb2.mono HB1.out.size));clear hb2 i0 i1 i2))
 obtain⟨t0,t1,t2,t3,t4⟩:=(X1.out.below HQ2.out X1.out.lt).five.1
 go_upto_region 4 with(go_at_call 65;go_loud ((with_reducible refine(HCP.out _ HB2.out).mono ?_));rintro e w3 ⟨V,N,C,D,rfl,hcr,hb3⟩;have HQ3:=hid (HQ2.out.trans (hb3.mono HQ2.out.size));have HB3:=hid (HB2.out.trans (hb3.mono HB2.out.size));have HQ23:=hid hb3;obtain⟨A,m,KK,e0,e1,e2,e3,e4⟩:=hcr.raw.sl;have HE:=hid (show V 0=.slice (A 0) (m 0) (KK 0)∧V 1=.slice (A 1) (m 1) (KK 1)∧V 2=.slice (A 2) (m 2) (KK 2)∧V 3=.slice (A 3) (m 3) (KK 3)∧V 4=.slice (A 4) (m 4) (KK 4) from⟨e0,e1,e2,e3,e4⟩);rw[e0,e1,e2,e3,e4];have HCR:=hid hcr;clear hcr hb3 e0 e1 e2 e3 e4 t0 t1 t2 t3 t4)
 obtain⟨w4,hw4⟩:∃W,W=w3.alloc (.cells #[.slice (A 0) (m 0) (KK 0),.slice (A 1) (m 1) (KK 1),.slice (A 2) (m 2) (KK 2),.slice (A 3) (m 3) (KK 3),.slice (A 4) (m 4) (KK 4)] 46):=⟨_,rfl⟩
 obtain⟨S,hS⟩:∃g,g=w3.heap.size:=⟨_,rfl⟩
 rw[←hw4,←hS];have hb4:Below w3.heap.size w3 w4:=by rw[hw4];exact(Below.refl _ _).alloc (Nat.le_refl _) _
 have HCB:=hid (HCR.out.box (S:=S) hb4 (by omega) (by rw[HE.out.1,HE.out.2.1,HE.out.2.2.1,HE.out.2.2.2.1,HE.out.2.2.2.2,hw4];exact zA8 _ _ hS) HQ23.out.size);have HQ4:=hid (HQ3.out.trans (hb4.mono HQ3.out.size));have HB4:=hid (HB3.out.trans (hb4.mono HB3.out.size));obtain⟨b0,b1,b2⟩:=(X0.out.below HQ4.out X0.out.lt).three.1;obtain⟨i0,i1,i2⟩:=(X2.out.below HQ4.out X2.out.lt).three.1;have HST:=hid (step_any hbus HCB.out hg (HBV.out.below (HB4.out.mono hB)) (HIV.out.below (HB4.out.mono hB)) (Nat.le_trans hB HB2.out.size));clear hw4 hS hb4
 go_wp2_with (first
  |(go_at_call 66;go_loud ((with_reducible refine(HST.out).mono ?_));rintro e w5 ⟨V', N', C', D', ve,rfl,_,_,hb5,hev,_⟩;obtain⟨va,vc,rfl,_⟩:=hev.shape;have HEV:=hid hev;have HQ5:=hid hb5;clear hb5 hev b0 b1 b2 i0 i1 i2)
  |(go_at_call 77;go_loud ((with_reducible refine(clone_TlmEvent evRow (fun _=>rfl) evRow_one _ (evs c inp st) _ _ (HEV.out.arr (fun _=>rfl) (by have:=evs_len c inp st;omega)) (by have:=evs_len c inp st;omega)).mono ?_));rintro e w6 ⟨v6,rfl,ho6,hb6⟩;have HO6:=hid ho6;have HB6:=hid hb6;clear ho6 hb6))
 go_ret
 exact⟨v6,rfl,OwnR.rebase HO6.out (by have:=HB4.out.size;have:=HQ5.out.size;omega),(HB4.out.trans (HQ5.out.mono HB2.out.size)).trans (HB6.out.mono (by have:=HB4.out.size;have:=HQ5.out.size;omega))⟩
end Go.Proofs.YthnlalffjepdaaaGreat
namespace Go.Proofs.YthnlalffjepdaaaGreat
open Go.RowKit
def InL (g n:Nat) (V:Nat→Value) (b:Nat):Prop:=b=g∨∃i,i<n∧(V i).ownBlock=some b
structure BoxL {α:Type} (w:World) (base e sz:Nat) (f:α→List Value) (g n:Nat) (V:Nat→Value) (A:Nat→List α):Prop where
 bx:Bx w g ((List.range n).map V)
 own:∀i,i<n→Owns w base e sz f (V i) (A i)
 ap:∀i j,i<n→j<n→i≠j→Apart (V i) (V j)
 fr:∀i,i<n→(V i).ownBlock≠some g
 lb:base≤g
section
variable {α : Type} {w w' : World} {base e sz g n : Nat} {f : α → List Value} {V : Nat → Value} {A : Nat → List α}
theorem BoxL.lt (h:BoxL w base e sz f g n V A) {b:Nat} (hb:InL g n V b):base≤b∧b<w.heap.size:=by
 rcases hb with rfl|⟨i,hi,hb⟩
 ·exact⟨h.lb,h.bx.lt⟩
 ·exact OwnR.lt (h.own i hi) b hb
theorem BoxL.kept (h:BoxL w base e sz f g n V A) (hk:∀b,InL g n V b→w'.heap[b]? = w.heap[b]?):BoxL w' base e sz f g n V A :=
 ⟨h.bx.kept (hk g (.inl rfl)),fun i hi=>OwnR.kept (h.own i hi) fun b hb=>hk b (.inr ⟨i,hi,hb⟩),h.ap,h.fr,h.lb⟩
theorem BoxL.below (h:BoxL w base e sz f g n V A) (hb:Below w.heap.size w w'):BoxL w' base e sz f g n V A:=h.kept fun b hi=>hb.block b (h.lt hi).2
theorem BoxL.cell (h:BoxL w base e sz f g n V A) {i:Nat} (hi:i<n):w.cell? ⟨g,i,none⟩=some (V i):=by
 rw[h.bx.c i (by simpa using hi)];simp[hi]
theorem range_set {n i:Nat} (hi:i<n) (V:Nat→Value) (v:Value):((List.range n).map V).set i v=(List.range n).map (upd V i v):=by
 apply List.ext_getElem?;intro j;by_cases hj:j<n
 ·rw[List.getElem?_set];by_cases e:i=j
  ·subst e;simp[hi,zA1]
  ·rw[if_neg e];simp[hj,zA0 _ _ (Ne.symm e)]
 ·rw[List.getElem?_eq_none (by simp;omega),List.getElem?_eq_none (by simp;omega)]
theorem BoxL.put (h : BoxL w base e sz f g n V A) {i : Nat} (hi : i < n) {v' : Value} {xs : List α} (ho : Owns w' base e sz f v' xs) (hk : ∀ b, b < w.heap.size → (V i).ownBlock ≠ some b → w'.heap[b]? = w.heap[b]?) (hn : ∀ b, v'.ownBlock = some b → (V i).ownBlock = some b ∨ w.heap.size ≤ b) :
  BoxL (w'.setCell ⟨g,i,none⟩ v') base e sz f g n (upd V i v') (upd A i xs):=by
 have hg:=h.bx.lt;have hvg:v'.ownBlock≠some g:=fun e=>by
  rcases hn g e with h1|h1
  ·exact h.fr i hi h1
  ·omega
 have hx:Bx w' g ((List.range n).map V):=h.bx.kept (hk g hg (h.fr i hi));refine⟨?_,fun j hj=>?_,fun j k hj hk2 hne=>?_,fun j hj=>?_,h.lb⟩
 ·have:=hx.set i (by simpa using hi) v'
  rwa [range_set hi]at this
 ·by_cases ej:j=i
  ·subst ej;rw[zA1,zA1];exact OwnR.kept ho fun b hb=>Below.heap_setCell _ _ _ _ (fun e=>hvg (by rw[hb];exact congrArg some e))
  ·rw[zA0 _ _ ej,zA0 _ _ ej];refine OwnR.kept (OwnR.kept (h.own j hj) fun b hb=>hk b (OwnR.lt (h.own j hj) b hb).2 fun e=>h.ap j i hj hi ej b hb e) fun b hb=>Below.heap_setCell _ _ _ _ (fun e=>h.fr j hj (by rw[hb];exact congrArg some e))
 ·have key:∀m,m<n→m≠i→Apart v' (V m):=fun m hm hmi b hb hc=>by
   rcases hn b hb with h1|h1
   ·exact h.ap i m hi hm (Ne.symm hmi) b h1 hc
   ·have:=(OwnR.lt (h.own m hm) b hc).2;omega
  by_cases ej:j=i
  ·subst ej;rw[zA1,zA0 _ _ (Ne.symm hne)];exact key k hk2 (Ne.symm hne)
  ·rw[zA0 _ _ ej];by_cases ek:k=i
   ·subst ek;rw[zA1];exact(key j hj ej).symm
   ·rw[zA0 _ _ ek];exact h.ap j k hj hk2 hne
 ·by_cases ej:j=i
  ·subst ej;rw[zA1];exact hvg
  ·rw[zA0 _ _ ej];exact h.fr j hj
end
theorem inL_put {g n i m:Nat} {V:Nat→Value} {v':Value} (hi:i<n) (hn:∀b,v'.ownBlock=some b→(V i).ownBlock=some b∨m≤b) {b:Nat} (h:InL g n (upd V i v') b):InL g n V b∨m≤b:=by
 rcases h with rfl|⟨j,hj,hb⟩
 ·exact .inl (.inl rfl)
 ·by_cases e:j=i
  ·subst e;rw[zA1]at hb;exact(hn b hb).imp (fun h=>.inr ⟨j,hj,h⟩) id
  ·rw[zA0 _ _ e]at hb;exact .inl (.inr ⟨j,hj,hb⟩)
structure KeptX (X:Nat→Prop) (w w':World):Prop where
 size:w.heap.size≤w'.heap.size
 block:∀b,b<w.heap.size→¬X b→w'.heap[b]? = w.heap[b]?
theorem KeptX.refl (X:Nat→Prop) (w:World):KeptX X w w:=⟨Nat.le_refl _,fun _ _ _=>rfl⟩
theorem KeptX.of {X:Nat→Prop} {w w':World} (h:Below w.heap.size w w'):KeptX X w w':=⟨h.size,fun b hb _=>h.block b hb⟩
theorem KeptX.trans {X X':Nat→Prop} {u v w:World} (h:KeptX X u v) (k:KeptX X' v w) (hx:∀b,X' b→X b∨u.heap.size≤b):KeptX X u w :=
 ⟨Nat.le_trans h.size k.size,fun b hb hn=>(k.block b (Nat.lt_of_lt_of_le hb h.size) fun e=>(hx b e).elim hn fun h=>by omega).trans (h.block b hb hn)⟩
theorem KeptX.cell {X:Nat→Prop} {w w':World} (h:KeptX X w w') {p:Addr} {v:Value} (hp:¬X p.block) (hc:w.cell? p=some v):w'.cell? p=some v:=by
 rw[←hc];simp only[World.cell?,h.block _ (World.block_lt_of_cell? w _ hc) hp]
def CyBoxX (w:World) (gs:Nat) (X:Nat→Prop) (st:Cy):Prop:=∃(V:Nat→Value) (N:Nat→Nat) (C:Nat→List Value) (D:Nat→List TJV),Bx w gs [V 0,V 1,V 2,V 3,V 4]∧Raw w 0 V N C∧Cont st [] V N C D∧Free V gs∧¬X gs∧(∀b,X b→Free V b)∧∀κ,κ<20→∀x∈D κ,IntsD w (fun b=>b<w.heap.size∧b≠gs∧¬X b) x.2 x.1.rsp.data
theorem CyBoxX.box {w:World} {gs:Nat} {X:Nat→Prop} {st:Cy} (h:CyBoxX w gs X st):CyBox w gs st:=by
 obtain⟨V,N,C,D,h1,h2,h3,h4,h5,h6,h7⟩:=h;exact⟨V,N,C,D,h1,h2,h3,h4,fun κ hκ x hx=>(h7 κ hκ x hx).weak fun b hb=>⟨hb.1,hb.2.1⟩⟩
theorem CyBoxX.keep {w w':World} {gs:Nat} {X X':Nat→Prop} {st:Cy} (h:CyBoxX w gs X st) (hk:KeptX X w w') (hX:∀b,X' b→X b∨w.heap.size≤b):CyBoxX w' gs X' st:=by
 obtain⟨V,N,C,D,h1,h2,h3,h4,h5,h6,h7⟩:=h;refine⟨V,N,C,D,h1.kept (hk.block _ h1.lt h5),h2.kept fun b hb hf=>hk.block b hb fun e=>hf (h6 b e),h3,h4,fun e=>?_,fun b hb=>?_,fun κ hκ x hx=>?_⟩
 ·rcases hX gs e with h|h
  ·exact h5 h
  ·have:=h1.lt;omega
 ·rcases hX b hb with h|h
  ·exact h6 b h
  ·exact fun κ hκ e=>by have:=(h2.lt hκ e).2;omega
 ·refine((h7 κ hκ x hx).kept fun b hb=>hk.block b hb.1 hb.2.2).weak fun b hb=>⟨Nat.lt_of_lt_of_le hb.1 hk.size,hb.2.1,fun e=>?_⟩
  rcases hX b e with h|h
  ·exact hb.2.2 h
  ·have:=hb.1;omega
theorem CyBoxX.ngs {w:World} {gs:Nat} {X:Nat→Prop} {st:Cy} (h:CyBoxX w gs X st):¬X gs:=by
 obtain⟨V,N,C,D,h1,h2,h3,h4,h5,h6,h7⟩:=h;exact h5
theorem CyBox.apart {w w':World} {gs:Nat} {X:Nat→Prop} {st:Cy} (h:CyBox w gs st) (hb:Below w.heap.size w w') (hX:∀b,X b→w.heap.size≤b):CyBoxX w' gs X st:=by
 obtain⟨V,N,C,D,h1,h2,h3,h4,h5⟩:=h;have h0:CyBoxX w gs (fun _=>False) st:=⟨V,N,C,D,h1,h2,h3,h4,fun h=>h,fun _ h=>h.elim,fun κ hκ x hx=>(h5 κ hκ x hx).weak fun b hb=>⟨hb.1,hb.2,fun h=>h⟩⟩
 exact h0.keep (KeptX.of hb) fun b hb=>.inr (hX b hb)
def PushD {α:Type} (wo:World) (base e sz:Nat) (f:α→List Value) (g n:Nat) (V:Nat→Value) (A:Nat→List α) (i:Nat) (y:α) (W:World):Prop :=
 ∃V', BoxL W base e sz f g n V' (upd A i (A i++[y]))∧KeptX (InL g n V) wo W∧Below base wo W∧∀b,InL g n V' b→InL g n V b∨wo.heap.size≤b
def pushC {α : Type} (wo : World) (base e sz : Nat) (f : α → List Value) (g n : Nat) (V : Nat → Value) (A : Nat → List α) (i : Nat) (y : α) (us : List Value) (W : World) : Prop := match us with
 |[]=>Below wo.heap.size wo W
 |[v0]=>Below wo.heap.size wo W∧∃h,v0=.slice (some ⟨h,0,none⟩) 1 1∧∀j u,(f y)[j]? = some u→W.cell? ⟨h,j,none⟩=some u
 |[_,v1]=>∃W0,Below wo.heap.size wo W0∧Owns W base e sz f v1 (A i++[y])∧(∀b,b<W0.heap.size→(V i).ownBlock≠some b→W.heap[b]? = W0.heap[b]?)∧W0.heap.size≤W.heap.size∧Below base W0 W∧(∀k,v1.ownBlock=some k→(V i).ownBlock=some k∨W0.heap.size≤k)
 |[_,_,_]=>PushD wo base e sz f g n V A i y W
 |_=>False
section
variable {α : Type} {wo W : World} {base e sz g n i : Nat} {f : α → List Value} {V : Nat → Value} {A : Nat → List α} {y : α}
theorem pushC_kept {us:List Value} (hi:i<n) (h:pushC wo base e sz f g n V A i y us W):KeptX (InL g n V) wo W:=by
 match us,h with
 |[],h=>exact KeptX.of h
 |[_],h=>exact KeptX.of h.1
 |[_,_],⟨W0,h1,_,h2,h3,_⟩=>exact⟨Nat.le_trans h1.size h3,fun b hb hn=>(h2 b (Nat.lt_of_lt_of_le hb h1.size) fun e=>hn (.inr ⟨i,hi,e⟩)).trans (h1.block b hb)⟩
 |[_,_,_],⟨_,_,h,_⟩=>exact h
theorem pushC_store {v0 v1 v2:Value} (hb:BoxL wo base e sz f g n V A) (hi:i<n) (h:pushC wo base e sz f g n V A i y [v0,v1] W):pushC wo base e sz f g n V A i y [v0,v1,v2] (W.setCell ⟨g,i,none⟩ v1):=by
 obtain⟨W0,h1,h2,h3,h4,h5,h6⟩:=h;have hg:=hb.bx.lt;have hlb:=hb.lb;have hB:=(hb.below h1).put hi h2 h3 h6;refine⟨_,hB,⟨by simp only[World.size_setCell];exact Nat.le_trans h1.size h4,fun b hbl hn=>?_⟩,((h1.mono (Nat.le_trans hlb (Nat.le_of_lt hg))).trans h5).setCell (p:=⟨g,i,none⟩) hlb _,fun b hbb=>?_⟩
 ·rw[Below.heap_setCell _ _ _ _ (fun e=>hn (.inl e)),h3 b (Nat.lt_of_lt_of_le hbl h1.size) fun e=>hn (.inr ⟨i,hi,e⟩)];exact h1.block b hbl
 ·exact(inL_put hi h6 hbb).imp id fun h=>Nat.le_trans h1.size h
theorem pushC_cell {v0 v1:Value} (hb:BoxL wo base e sz f g n V A) (hi:i<n) (h:pushC wo base e sz f g n V A i y [v0,v1] W):W.cell? ⟨g,i,none⟩=some (V i)∧W.frozen? ⟨g,i,none⟩=false:=by
 obtain⟨W0,h1,h2,h3,h4,h5,h6⟩:=h;have hx:=(hb.bx.below h1 hb.bx.lt).kept (h3 g (Nat.lt_of_lt_of_le hb.bx.lt h1.size) (hb.fr i hi));exact⟨by rw[hx.c i (by simpa using hi)];simp[hi],hx.f i (by simpa using hi)⟩
theorem pushC_sl {v0 v1:Value} (h:pushC wo base e sz f g n V A i y [v0,v1] W):∃a m c,v1=.slice a m c:=by
 obtain⟨W0,h1,h2,_⟩:=h;obtain⟨a,c,e,_⟩:=h2.shape;exact⟨a,_,c,e⟩
theorem pushC_load {us:List Value} (hb:BoxL wo base e sz f g n V A) (hi:i<n) (h:pushC wo base e sz f g n V A i y us W) (hl:us.length≤2):W.cell? ⟨g,i,none⟩=some (V i):=by
 match us,h,hl with
 |[],h,_=>exact(hb.below h).cell hi
 |[_],h,_=>exact(hb.below h.1).cell hi
 |[_,_],h,_=>exact(pushC_cell hb hi h).1
 |[_,_,_],_,hl=>simp at hl
end
end Go.Proofs.YthnlalffjepdaaaGreat
namespace Go.Proofs.YthnlalffjepdaaaGreat
def WkOk (c:Cfg) (inp:Inp) (st:Cy) (e:Ev):Prop :=
 e.kind=2∧e.who<3∧e.n<(c.prog e.who).length∧c.slv e.who e.n<4∧inp.stall.getD (c.slv e.who e.n) false=false∧∃rest,(st.slaves (c.slv e.who e.n)).pipe=⟨e.who,e.n,0⟩::rest
structure WkI (c:Cfg) (inp:Inp) (st:Cy) (l:List Ev) (x:Cy×List Ev) (k:Nat):Prop where
 g:Good c x.1
 ev:∃es,x.2=l++es∧(∀e∈es,WkOk c inp st e∧c.slv e.who e.n<k)∧es.Pairwise (fun a b=>c.slv a.who a.n<c.slv b.who b.n)
 pipe:∀s,k≤s→(x.1.slaves s).pipe=(st.slaves s).pipe
theorem WkI.skip {c:Cfg} {inp:Inp} {st:Cy} {l:List Ev} {x:Cy×List Ev} {k:Nat} (h:WkI c inp st l x k):WkI c inp st l x (k+1):=by
 obtain⟨es,h1,h2,h3⟩:=h.ev;exact⟨h.g,⟨es,h1,fun e he=>⟨(h2 e he).1,by have:=(h2 e he).2;omega⟩,h3⟩,fun s hs=>h.pipe s (by omega)⟩
theorem Good.slvKey {c:Cfg} {st:Cy} (h:Good c st) {s w n:Nat} (hs:s<4) (hk:(w,n)∈zA7 (st.slaves s)):c.slv w n=s:=by
 obtain⟨hw,o,ho,rfl,hl⟩:=h.key hs hk;rw[←hl];exact((h.p w hw).o o ho).2.1.symm
theorem wkI_step {c:Cfg} (hb:Bus c) {inp:Inp} {st:Cy} {l:List Ev} {x:Cy×List Ev} {k:Nat} (hk:k<4) (h:WkI c inp st l x k):WkI c inp st l (work1 c inp k x) (k+1):=by
 have hg:=good_work1 hb (inp:=inp) h.g hk;obtain⟨es,h1,h2,h3⟩:=h.ev;unfold work1 at hg ⊢
 split
 ·exact h.skip
 ·rename_i hst
  split
  ·exact h.skip
  ·rename_i j rest hp;rw[if_neg hst]at hg;simp only[hp]at hg
   split
   ·rename_i hl;rw[if_pos hl]at hg;refine⟨hg,⟨es,h1,fun e he=>⟨(h2 e he).1,by have:=(h2 e he).2;omega⟩,h3⟩,fun s hs=>?_⟩;simp only[zK7];rw[zA0 _ _ (show s≠k by omega)];exact h.pipe s (by omega)
   ·rename_i hl;rw[if_neg hl]at hg
    split
    ·rename_i hd;rw[if_pos hd]at hg;have hin:(j.who,j.n)∈zA7 (x.1.slaves k):=by simp[zA7,hp]
     have hw:=(h.g.key hk hin).1;have hn:=h.g.keyN hk hin;have hs:=h.g.slvKey hk hin;have hj0:j.left=0:=by omega
     refine⟨hg,⟨es++[⟨2,j.who,j.n⟩],by simp[zG3,h1],fun e he=>?_,?_⟩,fun s hs2=>?_⟩
     ·rcases List.mem_append.1 he with he|he
      ·exact⟨(h2 e he).1,by have:=(h2 e he).2;omega⟩
      ·rw[List.mem_singleton.1 he];refine⟨⟨rfl,hw,hn,by simp only;omega,by simp only;rw[hs];simpa using hst,rest,?_⟩,by simp only;omega⟩;simp only;rw[hs,←h.pipe k (Nat.le_refl _),hp,←hj0]
     ·rw[List.pairwise_append];refine⟨h3,List.pairwise_singleton _ _,fun a ha b hb2=>?_⟩;rw[List.mem_singleton.1 hb2];have:=(h2 a ha).2;simp only;omega
     ·simp only[zG3];rw[zA0 _ _ (show s≠k by omega)];exact h.pipe s (by omega)
    ·exact h.skip
theorem tell1_pipe {inp:Inp} {x:Cy×List Ev} {w:Nat} (s:Nat):((tell1 inp w x).1.slaves s).pipe=(x.1.slaves s).pipe:=by
 unfold tell1
 split
 ·split
  ·rfl
  ·rename_i k hk
   split
   ·rfl
   ·simp only[zF3];by_cases hs:s=((x.1.ports w).last+k) % 4
    ·rw[hs,zA1]
    ·rw[zA0 _ _ hs]
 ·rfl
theorem tell1_kind {inp:Inp} {x:Cy×List Ev} {w:Nat} (h:∀e∈x.2,e.kind=3):∀e∈(tell1 inp w x).2,e.kind=3:=by
 unfold tell1
 split
 ·split
  ·exact h
  ·split
   ·exact h
   ·intro e he;rcases List.mem_append.1 he with he|he
    ·exact h e he
    ·rw[List.mem_singleton.1 he]
 ·exact h
theorem ask1_ev {c:Cfg} {inp:Inp} {l:List Ev} {x:Cy×List Ev} {w:Nat} (h:∃a,x.2=l++a∧∀e∈a,e.kind=1):∃a,(ask1 c inp w x).2=l++a∧∀e∈a,e.kind=1:=by
 obtain⟨a,h1,h2⟩:=h;unfold ask1
 split
 ·refine⟨a++[⟨1,w,(x.1.ports w).next⟩],by simp[askDo,h1],fun e he=>?_⟩;rcases List.mem_append.1 he with he|he
  ·exact h2 e he
  ·rw[List.mem_singleton.1 he]
 ·exact⟨a,h1,h2⟩
theorem evs_law {c:Cfg} (hb:Bus c) {inp:Inp} {st:Cy} (hg:Good c st):∃t es a,evs c inp st=t++es++a∧(∀e∈t,e.kind=3)∧(∀e∈a,e.kind=1)∧(∀e∈es,WkOk c inp st e)∧es.Pairwise (fun a b=>c.slv a.who a.n<c.slv b.who b.n):=by
 have h1:Good c (zC3 inp (st,[])).1∧(∀s,((zC3 inp (st,[])).1.slaves s).pipe=(st.slaves s).pipe)∧∀e∈(zC3 inp (st,[])).2,e.kind=3:=by
  refine zD2 (P:=fun x:Cy×List Ev=>Good c x.1∧(∀s,(x.1.slaves s).pipe=(st.slaves s).pipe)∧∀e∈x.2,e.kind=3) 3 (st,[]) ⟨hg,fun _=>rfl,fun e he=>by cases he⟩ ?_;intro i x hi hx;exact⟨good_tell1 hx.1 hi,fun s=>(tell1_pipe s).trans (hx.2.1 s),tell1_kind hx.2.2⟩
 obtain⟨x1,hx1⟩:∃x,x=zC3 inp (st,[]):=⟨_,rfl⟩
 rw[←hx1]at h1;have h2:WkI c inp st x1.2 (zC9 c inp x1) 4 :=
  wkI_step hb (k:=3) (by omega) (wkI_step hb (k:=2) (by omega) (wkI_step hb (k:=1) (by omega) (wkI_step hb (k:=0) (x:=x1) (by omega) ⟨h1.1,⟨[],by simp,by simp,List.Pairwise.nil⟩,fun s _=>h1.2.1 s⟩)))
 obtain⟨es,e1,e2,e3⟩:=h2.ev;have h3:∃a,(askAll c inp ((zE0 c (zC9 c inp x1).1).st,(zC9 c inp x1).2)).2=(zC9 c inp x1).2++a∧∀e∈a,e.kind=1 :=
  zD2 (P:=fun x:Cy×List Ev=>∃a,x.2=(zC9 c inp x1).2++a∧∀e∈a,e.kind=1) 3 ((zE0 c (zC9 c inp x1).1).st,(zC9 c inp x1).2) ⟨[],by simp,by simp⟩ fun _ _ _ hx=>ask1_ev hx
 obtain⟨a,a1,a2⟩:=h3;refine⟨x1.2,es,a,?_,h1.2.2,a2,fun e he=>(e2 e he).1,e3⟩;rw[←e1,←a1,hx1];rfl
def doneN (c:Cfg) (s:Nat) (l:List Ev):Nat:=(l.filter (fun e=>e.kind==2&&c.slv e.who e.n==s)).length
theorem zI1 (c:Cfg) (s:Nat) (a b:List Ev):doneN c s (a++b)=doneN c s a+doneN c s b:=by simp[doneN]
theorem doneN_no {c:Cfg} {s:Nat} {l:List Ev} (h:∀e∈l,¬(e.kind=2∧c.slv e.who e.n=s)):doneN c s l=0:=by
 unfold doneN;rw[List.length_eq_zero_iff,List.filter_eq_nil_iff];intro e he;simpa using h e he
theorem evs_at {c:Cfg} (hb:Bus c) {inp:Inp} {st:Cy} (hg:Good c st) {m:Nat} (hm:m<(evs c inp st).length) (hk:((evs c inp st).getD m default).kind=2):WkOk c inp st ((evs c inp st).getD m default)∧doneN c (c.slv ((evs c inp st).getD m default).who ((evs c inp st).getD m default).n) ((evs c inp st).take m)=0:=by
 obtain⟨t,wk,a,e,ht,ha,hw,hp⟩:=evs_law hb (inp:=inp) hg;rw[e]at hm hk ⊢;have g:∀{l1 l2:List Ev} {i:Nat},i<l1.length→(l1++l2).getD i default=l1.getD i default:=fun hi=>by simp[List.getD,List.getElem?_append_left hi]
 have g2:∀{l1 l2:List Ev} {i:Nat},l1.length≤i→(l1++l2).getD i default=l2.getD (i - l1.length) default:=fun hi=>by simp[List.getD,List.getElem?_append_right hi]
 have mem:∀{l:List Ev} {i:Nat},i<l.length→l.getD i default∈l:=fun hi=>by simp[List.getD,hi]
 by_cases h1:m<t.length
 ·rw[List.append_assoc,g h1]at hk;have:=ht _ (mem h1);omega
 ·by_cases h2:m - t.length<wk.length
  ·have hlt:m<(t++wk).length:=by rw[List.length_append];omega
   rw[g hlt,g2 (Nat.le_of_not_lt h1)]at hk ⊢;refine⟨hw _ (mem h2),?_⟩;have htk:(t++wk++a).take m=t++wk.take (m - t.length):=by
    rw[List.append_assoc,List.take_append,List.take_of_length_le (by omega),List.take_append];simp[show m - t.length - wk.length=0 by omega]
   rw[htk,zI1,doneN_no fun e he hc=>by have:=ht e he;omega,doneN_no fun e he hc=>?_];obtain⟨i,hi,rfl⟩:=List.mem_iff_getElem.1 he;rw[List.length_take]at hi;have hq:=List.pairwise_iff_getElem.1 hp i (m - t.length) (by omega) h2 (by omega);have he2:wk.getD (m - t.length) default=wk[m - t.length]:=by simp[List.getD,h2]
   rw[List.getElem_take,he2]at hc;omega
  ·have hge:(t++wk).length≤m:=by rw[List.length_append];omega
   rw[g2 hge]at hk;have:=ha _ (mem (i:=m - (t++wk).length) (by simp only[List.length_append]at hm hge ⊢;omega));omega
end Go.Proofs.YthnlalffjepdaaaGreat
namespace Go.Proofs.YthnlalffjepdaaaGreat
open Go.RowKit
theorem doneN_one1 {c:Cfg} (s:Nat) (l:List Ev) (e:Ev):doneN c s (l++[e])=doneN c s l+(if e.kind=2∧c.slv e.who e.n=s then 1 else 0):=by
 rw[zI1]
 congr 1
 unfold doneN;by_cases h:e.kind=2∧c.slv e.who e.n=s
 ·simp[h.1,h.2]
 ·rw[if_neg h,List.filter_cons_of_neg (by simpa using h)];rfl
theorem reqSlave_nat {c : Cfg} (hbus : Bus c) {who n : Nat} (hw : who < 3) (hn : n < (c.prog who).length) {args : Array Value} {w : World} (h : Calls Tryz.prog 28 args w fun e w' => e = .returned (.int .i64 (if (mapOk c.ms && reqOk ((c.prog who).getD n default)) = true then zJ7 c.ms ((c.prog who).getD n default) else -1)) ∧ Below w.heap.size w w') :
  Calls Tryz.prog 28 args w fun e w' => e=.returned (.int .i64 (c.slv who n:Nat))∧Below w.heap.size w w':=by
 refine h.mono ?_;rintro e w' ⟨rfl,hb⟩;have hok:(mapOk c.ms&&reqOk ((c.prog who).getD n default))=true:=by rw[Bool.and_eq_true];exact⟨hbus.ms,hbus.req hw hn⟩
 rw[if_pos hok];exact⟨congrArg (fun x=>Ending.returned (.int .i64 x)) (slv_nat hbus.ms),hb⟩
end Go.Proofs.YthnlalffjepdaaaGreat
namespace Go.Proofs.YthnlalffjepdaaaGreat
def evN (k w:Nat) (l:List Ev):Nat:=(l.filter (fun e=>e.kind==k&&e.who==w)).length
theorem doneN_one {c:Cfg} (hb:Bus c) {inp:Inp} {st:Cy} (hg:Good c st) (s:Nat):doneN c s (evs c inp st)≤(if(st.slaves s).pipe.length=0 then 0 else 1):=by
 obtain⟨t,wk,a,e,ht,ha,hw,hp⟩:=evs_law hb (inp:=inp) hg;rw[e,zI1,zI1,doneN_no (l:=t) fun e he hc=>by have:=ht e he;omega,doneN_no (l:=a) fun e he hc=>by have:=ha e he;omega,Nat.zero_add,Nat.add_zero];clear e;have h1:doneN c s wk≤1:=by
  unfold doneN
  induction wk with
  |nil=>simp
  |cons x xs ih=>
   rw[List.pairwise_cons]at hp;by_cases hx:(x.kind==2&&c.slv x.who x.n==s)=true
   ·rw[show(x::xs).filter (fun e=>e.kind==2&&c.slv e.who e.n==s)=x::xs.filter (fun e=>e.kind==2&&c.slv e.who e.n==s) from List.filter_cons_of_pos hx];have:xs.filter (fun e=>e.kind==2&&c.slv e.who e.n==s)=[]:=by
     rw[List.filter_eq_nil_iff];intro y hy;have:=hp.1 y hy;simp at hx ⊢;intro _;omega
    rw[this];simp
   ·rw[show(x::xs).filter (fun e=>e.kind==2&&c.slv e.who e.n==s)=xs.filter (fun e=>e.kind==2&&c.slv e.who e.n==s) from List.filter_cons_of_neg hx];exact ih (fun e he=>hw e (List.mem_cons_of_mem _ he)) hp.2
 split
 ·rename_i h0;rw[Nat.le_zero];refine doneN_no fun e he ⟨_,h3⟩=>?_
  obtain⟨_,_,_,_,_,rest,hr⟩:=hw e he;rw[h3]at hr;rw[hr]at h0;simp at h0
 ·exact h1
def askB (A:Nat→List Nat) (k:Nat) (l:List Ev):Nat→List Nat:=fun w=>A w++List.replicate (evN 1 w l) k
def asks (c : Cfg) : List Inp → Cy → (Nat → List Nat) → Nat → Nat → List Nat
 |[],_,A,_=>A
 |i::rest,st,A,k=>asks c rest (cyc c i st) (askB A k (evs c i st)) (k+1)
end Go.Proofs.YthnlalffjepdaaaGreat
