/- A cycle: who asks asks. -/
import Derived.Test.YtgkdoehkmbhfiaaGreatRCp1
import Derived.Test.YtgkdoehkmbhfiaaGreatRDl
import Derived.Test.YtgkdoehkmbhfiaaGreatRMr
import Derived.Test.YtgkdoehkmbhfiaaGreatRWrd
import Derived.BigGuardPart
import Derived.Deep.QuietTactic
import Derived.BigQuiet
set_option linter.unusedVariables false
set_option linter.unusedSimpArgs false
set_option maxHeartbeats 16000000
namespace Go.Proofs.YtgkdoehkmbhfiaaGreat
open Go.RowKit
def prow (V:Nat→Value) (st:Cy) (P:List PS) (i k:Nat):List Value:=if k<i then ptRow V (st.ports k) k else rowPS (P.getD k default)
def srow (V:Nat→Value) (st:Cy) (Q:List SS) (j k:Nat):List Value:=if k<j then svRow V (st.slaves k) k else rowSS (Q.getD k default)
structure CpM (w:World) (base:Nat) (st:Cy) (P:List PS) (Q:List SS) (i j:Nat) (V:Nat→Value) (N:Nat→Nat) (C:Nat→List Value) (D:Nat→List TJV):Prop where
 raw:Raw w base V N C
 n0:N 0=st.ws.length
 c0:C 0=st.ws.flatMap rowI
 n1:N 1=st.hs.length
 c1:C 1=st.hs.flatMap rowI
 n2:N 2=3
 c2:C 2=prow V st P i 0++prow V st P i 1++prow V st P i 2
 n3:N 3=4
 c3:C 3=srow V st Q j 0++srow V st Q j 1++srow V st Q j 2++srow V st Q j 3
 n4:N 4=st.told.length
 c4:C 4=(D 4).flatMap tjRow
 t4:(D 4).map (·.1)=st.told
 q:∀k,k<i→N (5+k)=(st.ports k).queue.length∧C (5+k)=(st.ports k).queue.flatMap rowN∧N (8+k)=(st.ports k).out.length∧C (8+k)=(st.ports k).out.flatMap jbRow
 s:∀k,k<j→N (11+k)=(st.slaves k).pipe.length∧C (11+k)=(st.slaves k).pipe.flatMap jbRow∧N (15+k)=(st.slaves k).done.length∧C (15+k)=(D (15+k)).flatMap tjRow∧(D (15+k)).map (·.1)=(st.slaves k).done
 e:V 19=vnil∧N 19=0∧C 19=[]
 dat:∀κ,κ<20→∀x∈D κ,IntsD w (fun b=>base≤b∧b<w.heap.size∧Free V b) x.2 x.1.rsp.data
theorem CpM.fin {w:World} {base:Nat} {st:Cy} {P:List PS} {Q:List SS} {V:Nat→Value} {N:Nat→Nat} {C:Nat→List Value} {D:Nat→List TJV} (h:CpM w base st P Q 3 4 V N C D):CyR w base st V N C D :=
 ⟨h.raw,⟨h.n0,h.c0,h.n1,h.c1,h.n2,by rw[h.c2];simp[prow],h.n3,by rw[h.c3];simp[srow],h.n4,h.c4,h.t4,fun i hi=>(h.q i hi).1,fun i hi=>(h.q i hi).2.1,fun i hi=>(h.q i hi).2.2.1,fun i hi=>(h.q i hi).2.2.2,fun s hs=>(h.s s hs).1,fun s hs=>(h.s s hs).2.1,fun s hs=>(h.s s hs).2.2.1,fun s hs=>(h.s s hs).2.2.2.1,fun s hs=>(h.s s hs).2.2.2.2,h.e.2.1,h.e.2.2⟩,h.e.1,h.dat⟩
theorem CpM.below {w w':World} {base:Nat} {st:Cy} {P:List PS} {Q:List SS} {i j:Nat} {V:Nat→Value} {N:Nat→Nat} {C:Nat→List Value} {D:Nat→List TJV} (h:CpM w base st P Q i j V N C D) (hb:Below w.heap.size w w'):CpM w' base st P Q i j V N C D :=
 { h with raw:=h.raw.below hb,dat:=fun κ hκ x hx=>((h.dat κ hκ x hx).kept fun b hb2=>hb.block b hb2.2.1).weak fun b hb2=>⟨hb2.1,Nat.lt_of_lt_of_le hb2.2.1 hb.size,hb2.2.2⟩ }
theorem CpM.addr2 {w:World} {base:Nat} {st:Cy} {P:List PS} {Q:List SS} {i j:Nat} {V:Nat→Value} {N:Nat→Nat} {C:Nat→List Value} {D:Nat→List TJV} (h:CpM w base st P Q i j V N C D):∃g off cap,V 2=.slice (some ⟨g,off,none⟩) 3 cap∧base≤g∧g<w.heap.size:=by
 have:=h.raw.own 2 (by omega);rw[h.n2]at this;obtain⟨g,off,cap,e,_,_,hb,hz⟩:=OwnR.addr this (by omega);exact⟨g,off,cap,e,hb,hz⟩
theorem CpM.addr3 {w:World} {base:Nat} {st:Cy} {P:List PS} {Q:List SS} {i j:Nat} {V:Nat→Value} {N:Nat→Nat} {C:Nat→List Value} {D:Nat→List TJV} (h:CpM w base st P Q i j V N C D):∃g off cap,V 3=.slice (some ⟨g,off,none⟩) 4 cap∧base≤g∧g<w.heap.size:=by
 have:=h.raw.own 3 (by omega);rw[h.n3]at this;obtain⟨g,off,cap,e,_,_,hb,hz⟩:=OwnR.addr this (by omega);exact⟨g,off,cap,e,hb,hz⟩
theorem CpM.start {w' : World} {base m : Nat} {a b p s t : Value} {st : Cy} {P : List PS} {Q : List SS} {D1 : List TJV} (hO : CpO w' base a b p s st.ws st.hs P Q) (hP : P.length = 3) (hQ : Q.length = 4) (hm : base ≤ m) (ho : Owns w' m 65 5 tjRow t D1) (hD : D1.map (·.1) = st.told)
  (hd:∀x∈D1,IntsD w' (fun b=>m≤b∧b<w'.heap.size∧t.ownBlock≠some b) x.2 x.1.rsp.data) (hl:Low m a∧Low m b∧Low m p∧Low m s) :
  ∃V N C D,CpM w' base st P Q 0 0 V N C D∧V 0=a∧V 1=b∧V 2=p∧V 3=s∧V 4=t:=by
 obtain⟨P0,P1,P2,rfl⟩:∃x y z,P=[x,y,z]:=by
  rcases P with _|⟨x,_|⟨y,_|⟨z,_|⟨u,r⟩⟩⟩⟩ <;> simp at hP
  exact⟨x,y,z,rfl⟩
 obtain⟨Q0,Q1,Q2,Q3,rfl⟩:∃x y z u,Q=[x,y,z,u]:=by
  rcases Q with _|⟨x,_|⟨y,_|⟨z,_|⟨u,_|⟨v,r⟩⟩⟩⟩⟩ <;> simp at hQ
  exact⟨x,y,z,u,rfl⟩
 have lt:∀k,t.ownBlock=some k→m≤k:=fun k hk=>(OwnR.lt ho k hk).1
 have at1:∀{v:Value},Low m v→Apart v t:=fun h k h1 h2=>by have:=h k h1;have:=lt k h2;omega
 have dl:D1.length=st.told.length:=by rw[←hD,List.length_map]
 refine ⟨fun κ => match κ with | 0 => a | 1 => b | 2 => p | 3 => s | 4 => t | _ => vnil, fun κ => match κ with | 0 => st.ws.length | 1 => st.hs.length | 2 => 3 | 3 => 4 | 4 => st.told.length | _ => 0,
  fun κ=>match κ with|0=>st.ws.flatMap rowI|1=>st.hs.flatMap rowI|2=>rowPS P0++rowPS P1++rowPS P2|3=>rowSS Q0++rowSS Q1++rowSS Q2++rowSS Q3|4=>D1.flatMap tjRow|_=>[],fun κ=>if κ=4 then D1 else[],?_,rfl,rfl,rfl,rfl,rfl⟩
 refine⟨⟨fun κ hκ=>?_,fun κ μ hκ hμ hne=>?_⟩,rfl,rfl,rfl,rfl,rfl,by simp[prow,List.getD],rfl,by simp[srow,List.getD],rfl,by simp,by simp;exact hD,fun k hk=>by omega,fun k hk=>by omega,⟨rfl,rfl,rfl⟩,fun κ hκ x hx=>?_⟩
 ·rcases κ with _|_|_|_|_|κ
  ·exact hO.oa
  ·exact hO.ob
  ·have:=hO.op;unfold Owns at this;simpa[ety,esz]using this
  ·have:=hO.os;unfold Owns at this;simpa[ety,esz]using this
  ·have:=OwnR.rebase ho hm;rw[dl]at this;exact this
  ·exact⟨by simp,.inl ⟨rfl,rfl⟩⟩
 ·have hx:∀v:Value,Apart v vnil:=fun v k _ h2=>by simp[vnil,Value.ownBlock]at h2
  have hx':∀v:Value,Apart vnil v:=fun v k h2 _=>by simp[vnil,Value.ownBlock]at h2
  rcases κ with _|_|_|_|_|κ <;> rcases μ with _|_|_|_|_|μ <;> first|exact absurd rfl hne|exact hx _|exact hx' _|exact hO.ab|exact hO.ab.symm|exact hO.pq|exact hO.pq.symm|exact hO.ap|exact hO.ap.symm|exact hO.aq|exact hO.aq.symm|exact hO.bp|exact hO.bp.symm|exact hO.bq|exact hO.bq.symm|exact at1 hl.1|exact(at1 hl.1).symm|exact at1 hl.2.1|exact(at1 hl.2.1).symm|exact at1 hl.2.2.1|exact(at1 hl.2.2.1).symm|exact at1 hl.2.2.2|exact(at1 hl.2.2.2).symm
 ·by_cases e:κ=4
  ·rw[if_pos e]at hx;refine(hd x hx).weak fun b hb=>⟨by have:=hb.1;omega,hb.2.1,fun κ hκ=>?_⟩
   have hb1:=hb.1;rcases κ with _|_|_|_|_|κ
   ·exact fun e=>by have:=hl.1 b e;omega
   ·exact fun e=>by have:=hl.2.1 b e;omega
   ·exact fun e=>by have:=hl.2.2.1 b e;omega
   ·exact fun e=>by have:=hl.2.2.2 b e;omega
   ·exact hb.2.2
   ·exact fun e=>by simp[vnil,Value.ownBlock]at e
  ·rw[if_neg e]at hx;simp at hx
theorem CpM.port {w w' : World} {base : Nat} {st : Cy} {P : List PS} {Q : List SS} {k pb po pc : Nat} {V : Nat → Value} {N : Nat → Nat} {C : Nat → List Value} {D : Nat → List TJV} (h : CpM w base st P Q k 0 V N C D) (hk : k < 3) (hV : V 2 = .slice (some ⟨pb, po, none⟩) 3 pc)
  (hn:(P.getD k default).next=(st.ports k).next∧(P.getD k default).last=(st.ports k).last) (hc:CqP base pb po pc k (C 2) (st.ports k).queue (st.ports k).out w w') (hbase:base≤w.heap.size) :
  ∃V' N' C', CpM w' base st P Q (k+1) 0 V' N' C' D∧V' 0=V 0∧V' 1=V 1∧V' 2=V 2∧V' 3=V 3∧V' 4=V 4:=by
 obtain⟨u,v,o1,o2,ap,o3,ht⟩:=hc;have hg:(V 2).ownBlock=some pb:=by rw[hV];rfl
 have hkk:∀b,b<w.heap.size→b≠pb→w'.heap[b]? = w.heap[b]?:=fun b h1 h2=>ht.block b h1 h2
 have hr:=h.raw.two (κ:=5+k) (ρ:=8+k) (μ:=2) (g:=pb) (by omega) (by omega) (by omega) (by omega) (by omega) (by omega) hg hkk (by rw[hV,h.n2];exact o3) (by rw[(ety_q hk).1,(ety_q hk).2];exact OwnR.rebase o1 hbase) (by rw[(ety_o hk).1,(ety_o hk).2];exact OwnR.rebase o2 hbase) (fun b hb=>(OwnR.lt o1 b hb).1) (fun b hb=>(OwnR.lt o2 b hb).1) ap;have eV:∀i,i≠5+k→i≠8+k→upd (upd V (5+k) u) (8+k) v i=V i:=fun i h1 h2=>by rw[zA0 _ _ h2,zA0 _ _ h1]
 have eN:∀i,i≠5+k→i≠8+k→upd (upd N (5+k) (st.ports k).queue.length) (8+k) (st.ports k).out.length i=N i:=fun i h1 h2=>by rw[zA0 _ _ h2,zA0 _ _ h1]
 have eC:∀i,i≠5+k→i≠8+k→i≠2→upd (upd (upd C (5+k) ((st.ports k).queue.flatMap rowN)) (8+k) ((st.ports k).out.flatMap jbRow)) 2 (((C 2).set (k * 4+1) u).set (k * 4+2) v) i=C i:=fun i h1 h2 h3=>by rw[zA0 _ _ h3,zA0 _ _ h2,zA0 _ _ h1]
 have eq5:upd (upd V (5+k) u) (8+k) v (5+k)=u:=by rw[zA0 _ _ (by omega),zA1]
 have eq8:upd (upd V (5+k) u) (8+k) v (8+k)=v:=zA1 _ _ _;refine⟨_,_,_,⟨hr,?_,?_,?_,?_,?_,?_,?_,?_,?_,?_,h.t4,fun i hi=>?_,fun i hi=>by omega,?_,fun κ hκ x hx=>?_⟩,eV 0 (by omega) (by omega),eV 1 (by omega) (by omega),eV 2 (by omega) (by omega),eV 3 (by omega) (by omega),eV 4 (by omega) (by omega)⟩
 ·rw[eN 0 (by omega) (by omega)];exact h.n0
 ·rw[eC 0 (by omega) (by omega) (by omega)];exact h.c0
 ·rw[eN 1 (by omega) (by omega)];exact h.n1
 ·rw[eC 1 (by omega) (by omega) (by omega)];exact h.c1
 ·rw[eN 2 (by omega) (by omega)];exact h.n2
 ·rw[zA1,h.c2];have old:∀i,i<k→ptRow (upd (upd V (5+k) u) (8+k) v) (st.ports i) i=ptRow V (st.ports i) i:=fun i hi=>by
   simp only[ptRow,eV (5+i) (by omega) (by omega),eV (8+i) (by omega) (by omega)]
  rcases(show k=0∨k=1∨k=2 by omega)with rfl|rfl|rfl
  ·simp[prow,ptRow,rowPS,eq5,eq8,upd];exact⟨congrArg (fun n:Nat=>(n:Int)) hn.1,congrArg (fun n:Nat=>(n:Int)) hn.2⟩
  ·rw[show prow V st P 1 0=ptRow V (st.ports 0) 0 by simp[prow],show prow (upd (upd V (5+1) u) (8+1) v) st P (1+1) 0=ptRow V (st.ports 0) 0 by rw[←old 0 (by omega)];simp[prow]];simp[prow,ptRow,rowPS,upd];exact⟨congrArg (fun n:Nat=>(n:Int)) hn.1,congrArg (fun n:Nat=>(n:Int)) hn.2⟩
  ·rw[show prow V st P 2 0=ptRow V (st.ports 0) 0 by simp[prow],show prow V st P 2 1=ptRow V (st.ports 1) 1 by simp[prow],show prow (upd (upd V (5+2) u) (8+2) v) st P (2+1) 0=ptRow V (st.ports 0) 0 by rw[←old 0 (by omega)];simp[prow],show prow (upd (upd V (5+2) u) (8+2) v) st P (2+1) 1=ptRow V (st.ports 1) 1 by rw[←old 1 (by omega)];simp[prow]];simp[prow,ptRow,rowPS,upd];exact⟨congrArg (fun n:Nat=>(n:Int)) hn.1,congrArg (fun n:Nat=>(n:Int)) hn.2⟩
 ·rw[eN 3 (by omega) (by omega)];exact h.n3
 ·rw[eC 3 (by omega) (by omega) (by omega)];exact h.c3
 ·rw[eN 4 (by omega) (by omega)];exact h.n4
 ·rw[eC 4 (by omega) (by omega) (by omega)];exact h.c4
 ·by_cases e:i=k
  ·subst e;refine⟨?_,?_,zA1 _ _ _,?_⟩
   ·rw[zA0 _ _ (by omega),zA1]
   ·rw[zA0 _ _ (by omega),zA0 _ _ (by omega),zA1]
   ·rw[zA0 _ _ (by omega),zA1]
  ·obtain⟨h1,h2,h3,h4⟩:=h.q i (by omega);rw[eN (5+i) (by omega) (by omega),eN (8+i) (by omega) (by omega),eC (5+i) (by omega) (by omega) (by omega),eC (8+i) (by omega) (by omega) (by omega)];exact⟨h1,h2,h3,h4⟩
 ·rw[eV 19 (by omega) (by omega),eN 19 (by omega) (by omega),eC 19 (by omega) (by omega) (by omega)];exact h.e
 ·refine((h.dat κ hκ x hx).kept fun b hb=>hkk b hb.2.1 fun e=>hb.2.2 2 (by omega) (by rw[hg,e])).weak fun b hb=>⟨hb.1,Nat.lt_of_lt_of_le hb.2.1 ht.size,fun μ hμ=>?_⟩
  by_cases e2:μ=8+k
  ·subst e2;rw[eq8];exact fun e=>by have:=(OwnR.lt o2 b e).1;have:=hb.2.1;omega
  ·by_cases e1:μ=5+k
   ·subst e1;rw[eq5];exact fun e=>by have:=(OwnR.lt o1 b e).1;have:=hb.2.1;omega
   ·rw[eV μ e1 e2];exact hb.2.2 μ hμ
theorem CpM.store {w w' : World} {base : Nat} {st : Cy} {P : List PS} {Q : List SS} {k pb po pc : Nat} {V : Nat → Value} {N : Nat → Nat} {C : Nat → List Value} {D : Nat → List TJV} (h : CpM w base st P Q 3 k V N C D) (hk : k < 4) (hV : V 3 = .slice (some ⟨pb, po, none⟩) 4 pc)
  (hn:(Q.getD k default).last=(st.slaves k).last) (hc:CrP base pb po pc k (C 3) (st.slaves k).pipe (st.slaves k).done w w') (hbase:base≤w.heap.size) :
  ∃V' N' C' D', CpM w' base st P Q 3 (k+1) V' N' C' D' ∧ V' 0=V 0∧V' 1=V 1∧V' 2=V 2∧V' 3=V 3∧V' 4=V 4:=by
 obtain⟨u,v,m,D1,o1,hm,o2,hD1,hd1,hlu,o3,ht⟩:=hc;have hg:(V 3).ownBlock=some pb:=by rw[hV];rfl
 have hkk:∀b,b<w.heap.size→b≠pb→w'.heap[b]? = w.heap[b]?:=fun b h1 h2=>ht.block b h1 h2
 have dl:D1.length=(st.slaves k).done.length:=by rw[←hD1,List.length_map]
 have ap:Apart u v:=fun b h1 h2=>by have:=hlu b h1;have:=(OwnR.lt o2 b h2).1;omega
 have hr:=h.raw.two (κ:=11+k) (ρ:=15+k) (μ:=3) (g:=pb) (by omega) (by omega) (by omega) (by omega) (by omega) (by omega) hg hkk (by rw[hV,h.n3];exact o3) (by rw[(ety_p hk).1,(ety_p hk).2];exact OwnR.rebase o1 hbase) (by rw[(ety_d hk).1,(ety_d hk).2];exact OwnR.rebase o2 (Nat.le_trans hbase hm)) (fun b hb=>(OwnR.lt o1 b hb).1) (fun b hb=>Nat.le_trans hm (OwnR.lt o2 b hb).1) ap;have eV:∀i,i≠11+k→i≠15+k→upd (upd V (11+k) u) (15+k) v i=V i:=fun i h1 h2=>by rw[zA0 _ _ h2,zA0 _ _ h1]
 have eN:∀i,i≠11+k→i≠15+k→upd (upd N (11+k) (st.slaves k).pipe.length) (15+k) D1.length i=N i:=fun i h1 h2=>by rw[zA0 _ _ h2,zA0 _ _ h1]
 have eC:∀i,i≠11+k→i≠15+k→i≠3→upd (upd (upd C (11+k) ((st.slaves k).pipe.flatMap jbRow)) (15+k) (D1.flatMap tjRow)) 3 (((C 3).set (k * 3) u).set (k * 3+1) v) i=C i:=fun i h1 h2 h3=>by rw[zA0 _ _ h3,zA0 _ _ h2,zA0 _ _ h1]
 have eq5:upd (upd V (11+k) u) (15+k) v (11+k)=u:=by rw[zA0 _ _ (by omega),zA1]
 have eq8:upd (upd V (11+k) u) (15+k) v (15+k)=v:=zA1 _ _ _;refine⟨_,_,_,upd D (15+k) D1,⟨hr,?_,?_,?_,?_,?_,?_,?_,?_,?_,?_,?_,fun i hi=>?_,fun i hi=>?_,?_,fun κ hκ x hx=>?_⟩,eV 0 (by omega) (by omega),eV 1 (by omega) (by omega),eV 2 (by omega) (by omega),eV 3 (by omega) (by omega),eV 4 (by omega) (by omega)⟩
 ·rw[eN 0 (by omega) (by omega)];exact h.n0
 ·rw[eC 0 (by omega) (by omega) (by omega)];exact h.c0
 ·rw[eN 1 (by omega) (by omega)];exact h.n1
 ·rw[eC 1 (by omega) (by omega) (by omega)];exact h.c1
 ·rw[eN 2 (by omega) (by omega)];exact h.n2
 ·rw[eC 2 (by omega) (by omega) (by omega),h.c2];have old:∀i,i<3→ptRow (upd (upd V (11+k) u) (15+k) v) (st.ports i) i=ptRow V (st.ports i) i:=fun i hi=>by
   simp only[ptRow,eV (5+i) (by omega) (by omega),eV (8+i) (by omega) (by omega)]
  simp only[prow,if_pos (show(0:Nat)<3 by omega),if_pos (show(1:Nat)<3 by omega),if_pos (show(2:Nat)<3 by omega),old 0 (by omega),old 1 (by omega),old 2 (by omega)]
 ·rw[eN 3 (by omega) (by omega)];exact h.n3
 ·rw[zA1,h.c3];have old:∀i,i<k→srow (upd (upd V (11+k) u) (15+k) v) st Q (k+1) i=srow V st Q k i:=fun i hi=>by
   simp only[srow,if_pos (show i<k+1 by omega),if_pos hi,svRow,eV (11+i) (by omega) (by omega),eV (15+i) (by omega) (by omega)]
  have new:∀i,k<i→srow (upd (upd V (11+k) u) (15+k) v) st Q (k+1) i=rowSS (Q.getD i default):=fun i hi=>by
   simp only[srow,if_neg (show ¬i<k+1 by omega)]
  have new':∀i,k≤i→srow V st Q k i=rowSS (Q.getD i default):=fun i hi=>by
   simp only[srow,if_neg (show ¬i<k by omega)]
  have row:∀i,∃x y z,srow V st Q k i=[x,y,z]:=fun i=>by
   unfold srow;split
   ·exact⟨_,_,_,rfl⟩
   ·exact⟨_,_,_,rfl⟩
  have mid:srow (upd (upd V (11+k) u) (15+k) v) st Q (k+1) k=[u,v,.int .i64 (st.slaves k).last]:=by
   simp only[srow,if_pos (show k<k+1 by omega),svRow,eq5,eq8]
  have last:srow V st Q k k=[sl (Q.getD k default).p,sl (Q.getD k default).d,.int .i64 (st.slaves k).last]:=by
   rw[new' k (Nat.le_refl _),rowSS,hn]
  rcases(show k=0∨k=1∨k=2∨k=3 by omega)with rfl|rfl|rfl|rfl
  ·rw[mid,last,new 1 (by omega),new 2 (by omega),new 3 (by omega),new' 1 (by omega),new' 2 (by omega),new' 3 (by omega)];rfl
  ·obtain⟨x,y,z,e0⟩:=row 0;rw[mid,last,old 0 (by omega),new 2 (by omega),new 3 (by omega),new' 2 (by omega),new' 3 (by omega),e0];rfl
  ·obtain⟨x,y,z,e0⟩:=row 0;obtain⟨x1,y1,z1,e1⟩:=row 1;rw[mid,last,old 0 (by omega),old 1 (by omega),new 3 (by omega),new' 3 (by omega),e0,e1];rfl
  ·obtain⟨x,y,z,e0⟩:=row 0;obtain⟨x1,y1,z1,e1⟩:=row 1;obtain⟨x2,y2,z2,e2⟩:=row 2;rw[mid,last,old 0 (by omega),old 1 (by omega),old 2 (by omega),e0,e1,e2];rfl
 ·rw[eN 4 (by omega) (by omega)];exact h.n4
 ·rw[eC 4 (by omega) (by omega) (by omega),zA0 _ _ (by omega)];exact h.c4
 ·rw[zA0 _ _ (by omega)];exact h.t4
 ·obtain⟨h1,h2,h3,h4⟩:=h.q i hi;rw[eN (5+i) (by omega) (by omega),eN (8+i) (by omega) (by omega),eC (5+i) (by omega) (by omega) (by omega),eC (8+i) (by omega) (by omega) (by omega)];exact⟨h1,h2,h3,h4⟩
 ·by_cases e:i=k
  ·subst e;refine⟨?_,?_,?_,?_,?_⟩
   ·rw[zA0 _ _ (by omega),zA1]
   ·rw[zA0 _ _ (by omega),zA0 _ _ (by omega),zA1]
   ·rw[zA1,dl]
   ·rw[zA0 _ _ (by omega),zA1,zA1]
   ·rw[zA1];exact hD1
  ·obtain⟨h1,h2,h3,h4,h5⟩:=h.s i (by omega);rw[eN (11+i) (by omega) (by omega),eN (15+i) (by omega) (by omega),eC (11+i) (by omega) (by omega) (by omega),eC (15+i) (by omega) (by omega) (by omega),zA0 D D1 (by omega)];exact⟨h1,h2,h3,h4,h5⟩
 ·rw[eV 19 (by omega) (by omega),eN 19 (by omega) (by omega),eC 19 (by omega) (by omega) (by omega)];exact h.e
 ·by_cases eκ:κ=15+k
  ·subst eκ;rw[zA1]at hx;refine(hd1 x hx).weak fun b hb=>⟨by have:=hb.1;omega,hb.2.1,fun μ hμ=>?_⟩
   have hb1:=hb.1;by_cases e2:μ=15+k
   ·subst e2;rw[eq8];exact hb.2.2
   ·by_cases e1:μ=11+k
    ·subst e1;rw[eq5];exact fun e=>by have:=hlu b e;omega
    ·rw[eV μ e1 e2];exact fun e=>by have:=(h.raw.lt hμ e).2;omega
  ·rw[zA0 _ _ eκ]at hx;refine((h.dat κ hκ x hx).kept fun b hb=>hkk b hb.2.1 fun e=>hb.2.2 3 (by omega) (by rw[hg,e])).weak fun b hb=>⟨hb.1,Nat.lt_of_lt_of_le hb.2.1 ht.size,fun μ hμ=>?_⟩
   have hb2:=hb.2.1;by_cases e2:μ=15+k
   ·subst e2;rw[eq8];exact fun e=>by have:=(OwnR.lt o2 b e).1;omega
   ·by_cases e1:μ=11+k
    ·subst e1;rw[eq5];exact fun e=>by have:=(OwnR.lt o1 b e).1;omega
    ·rw[eV μ e1 e2];exact hb.2.2 μ hμ
structure SmallC (st:Cy):Prop where
 ws:st.ws.length≤1000
 hs:st.hs.length≤1000
 told:st.told.length≤1000∧∀j∈st.told,j.rsp.data.length≤1000
 q:∀i,i<3→(st.ports i).queue.length≤1000
 o:∀i,i<3→(st.ports i).out.length≤1000
 p:∀s,s<4→(st.slaves s).pipe.length≤1000
 d:∀s,s<4→(st.slaves s).done.length≤1000∧∀j∈(st.slaves s).done,j.rsp.data.length≤1000
theorem BoxC.ne {w:World} {g:Nat} {a b p d t:Value} (hB:BoxC w g a b p d t) {base e sz n:Nat} {v:Value} {xs:List Value} (ho:OwnR w base e sz v n xs) (hT:39≠e):v.ownBlock≠some g:=by
 intro hk;obtain⟨_,h2⟩:=ho;rcases h2 with⟨rfl,_⟩|⟨g', off,cap,cur,rfl,_,hh,_⟩
 ·simp[Value.ownBlock]at hk
 ·simp[Value.ownBlock]at hk;subst hk;unfold BoxC at hB;rw[hh]at hB;simp only[Option.some.injEq,Obj.cells.injEq]at hB;exact hT hB.2.1.symm
theorem Arr.at {w : World} {B sz : Nat} {v : Value} {α : Type} {f : α → List Value} {xs : List α} (h : Arr w B sz v (xs.map f)) (hn : xs.length ≠ 0) :
  ∃b off cap,v=.slice (some ⟨b,off,none⟩) xs.length cap∧xs.length≤cap∧cap≤9223372036854775807∧b<B∧∀t (d:α),t<xs.length→∀j,j<sz→w.cell? ⟨b,off+t * sz+j,none⟩=(f (xs.getD t d))[j]?:=by
 obtain⟨ao,cap,hv,h1,h2,h0,h9,h3⟩:=h;simp only[List.length_map]at hv h1 h0 h3;obtain⟨b,off,rfl,hlt,hc⟩:=h3 hn;refine⟨b,off,cap,hv,h1,h2,hlt,fun t d ht j hj=>?_⟩;rw[hc t ht j hj];simp[List.getD,ht]
theorem CyR.rebase {w:World} {base base':Nat} {st:Cy} {V:Nat→Value} {N:Nat→Nat} {C:Nat→List Value} {D:Nat→List TJV} (h:CyR w base st V N C D) (hb:base' ≤ base):CyR w base' st V N C D :=
 ⟨⟨fun κ hκ=>OwnR.rebase (h.raw.own κ hκ) hb,h.raw.ap⟩,h.con,h.v19,fun κ hκ x hx=>(h.dat κ hκ x hx).weak fun b h2=>⟨Nat.le_trans hb h2.1,h2.2⟩⟩
def CopP (st:Cy) (w:World) (e:Ending) (w':World):Prop:=∃V N C D,e=.returned (.agg #[V 0,V 1,V 2,V 3,V 4])∧CyR w' w.heap.size st V N C D∧Below w.heap.size w w'
set_option maxRecDepth 8000 in
theorem cycCopyV_any {w : World} {B : Nat} {a0 a1 a2 a3 a4 : Value} {st : Cy} {P : List PS} {Q : List SS} (h : CyV w B a0 a1 a2 a3 a4 st P Q) (hB : B ≤ w.heap.size) (hsm : SmallC st) :
  Calls Tryz.prog 45 #[.agg #[a0,a1,a2,a3,a4]] w (CopP st w):=by
 obtain⟨sg,so,sc,rfl,sc1,sc2,sg2,hsc⟩:=h.ps.at (by rw[h.lp];omega)
 obtain⟨tg,tp,tc,rfl,tc1,tc2,tg2,htc⟩:=h.ss.at (by rw[h.lq];omega)
 obtain⟨ya,yb,rfl⟩:∃a c,a0=.slice a st.ws.length c:=by obtain⟨a,c,e,_⟩:=h.ws.1;exact⟨a,c,by simpa using e⟩
 obtain⟨za,zb,rfl⟩:∃a c,a1=.slice a st.hs.length c:=by obtain⟨a,c,e,_⟩:=h.hs.1;exact⟨a,c,by simpa using e⟩
 obtain⟨ua,un,ub,rfl⟩:∃a n c,a4=.slice a n c:=by obtain⟨D,⟨a,c,e,_⟩,_⟩:=h.told;exact⟨a,_,c,e⟩
 rw[h.lp]at h sc1 hsc ⊢;rw[h.lq]at h tc1 htc ⊢;have HV:=hid h;have HSM:=hid hsm;have HSC:=hid hsc;have HTC:=hid htc;obtain⟨D0,hj1,hj2,hj3⟩:=h.told;have hd5:D0.length≤1000:=by have:=hsm.told.1;rw[←hj2,List.length_map]at this;exact this
 have hd6:∀x∈D0,x.1.rsp.data.length≤1000:=fun x hx=>hsm.told.2 x.1 (by rw[←hj2];exact List.mem_map.2 ⟨x,hx,rfl⟩)
 have HJ1:=hid hj1;have HJ2:=hid hj2;have HJ3:=hid hj3;have HD5:=hid hd5;have HD6:=hid hd6;clear h hsm hsc htc hj1 hj2 hj3 hd5 hd6
 go_enter Tryz.func45,Tryz.ntmps45
 go_upto_region 1 with fail
 obtain⟨W2,hW2⟩:∃W2,W2=(w.alloc (.cells #[.slice ya st.ws.length yb,.slice za st.hs.length zb,.slice (some ⟨sg,so,none⟩) 3 sc,.slice (some ⟨tg,tp,none⟩) 4 tc,.slice ua un ub] 39)).alloc (.cells #[.slice none 0 0,.slice none 0 0,.slice none 0 0,.slice none 0 0,.slice none 0 0] 39):=⟨_,rfl⟩
 have HB2:=hid (show Below w.heap.size w W2 by rw[hW2];exact(bx1 _ _).alloc (by simp) _);have HS:=hid (show Bx W2 w.heap.size [.slice ya st.ws.length yb,.slice za st.hs.length zb,.slice (some ⟨sg,so,none⟩) 3 sc,.slice (some ⟨tg,tp,none⟩) 4 tc,.slice ua un ub] by rw[hW2];exact(Bx.new w #[.slice ya st.ws.length yb,.slice za st.hs.length zb,.slice (some ⟨sg,so,none⟩) 3 sc,.slice (some ⟨tg,tp,none⟩) 4 tc,.slice ua un ub] _ (by simp)).below (bx1 _ _) (by simp));have HR:=hid (show Bx W2 (w.heap.size+1) [vnil,vnil,vnil,vnil,vnil] by rw[hW2];have:=Bx.new (w.alloc (.cells #[.slice ya st.ws.length yb,.slice za st.hs.length zb,.slice (some ⟨sg,so,none⟩) 3 sc,.slice (some ⟨tg,tp,none⟩) 4 tc,.slice ua un ub] 39)) #[vnil,vnil,vnil,vnil,vnil] 39 (by simp);simpa using this);rw[←hW2];have HZ:=hid (show W2.heap.size=w.heap.size+2 by rw[hW2];simp);clear hW2;have HV2:=hid ((HV.out.below (HB2.out.mono hB)).mono (show B≤W2.heap.size by have:=HB2.out.size;omega))
 go_cut [3] from 8 to 20 (fun u wd=>CpP u st.ws st.hs P Q st.told W2 wd)
 case first=>
  rename_i J K' hJ hK;exact cp1_region _ _ _ _ _ _ _ _ _ _ _ _ _ _ _ _ _ _ _ _ _ _ _ _ _ _ _ _ _ _ _ _ _ _ _ _ _ _ _ _ _ _ _ _ _ _ _ _ _ _ _ _ _ _ _ _ _ _ _ _ _ _ _ _ _ _ _ _ _ _ _ w.heap.size _ _ _ _ _ st.ws st.hs P Q st.told D0 W2 HS.out ⟨_,_,rfl,HV2.out.ws,HV2.out.hs⟩ HV2.out.ps HV2.out.ss ((HJ1.out.below (HB2.out.mono hB)).mono (by have:=HB2.out.size;omega)) HJ2.out (fun x hx=>((HJ3.out x hx).below (HB2.out.mono hB)).mono (by have:=HB2.out.size;omega)) (by have:=HSM.out.ws;omega) (by have:=HSM.out.hs;omega) (by rw[HV.out.lp];omega) (by rw[HV.out.lq];omega) HD5.out HD6.out (fun u3 u8 u9 u10 u11 u12 u13 u14 u15 u16 u17 u18 u19 u20 wd h=>hK _ _ (Met.intro (hJ _ _ ⟨u3,u8,u9,u10,u11,u12,u13,u14,u15,u16,u17,u18,u19,u20,h,rfl⟩)))
 case rest=>
  obtain⟨g,qa,qb,qp,qs,qt,m,D1,rfl,hg,hBx,hO,hm,ho,hD,hd,hl,hb⟩:=hcut;obtain⟨V,N,C,D,hC,rfl,rfl,rfl,rfl,rfl⟩:=CpM.start hO HV.out.lp HV.out.lq hm ho hD hd hl;obtain⟨ya2,yb2,e0⟩:∃a c,V 0=.slice a st.ws.length c:=by have:=(hC.raw.own 0 (by omega)).form;rw[hC.n0]at this;obtain⟨a,c,e,_⟩:=this;exact⟨a,c,e⟩
  obtain⟨za2,zb2,e1⟩:∃a c,V 1=.slice a st.hs.length c:=by have:=(hC.raw.own 1 (by omega)).form;rw[hC.n1]at this;obtain⟨a,c,e,_⟩:=this;exact⟨a,c,e⟩
  obtain⟨va2,vb2,e4⟩:∃a c,V 4=.slice a st.told.length c:=by have:=(hC.raw.own 4 (by omega)).form;rw[hC.n4]at this;obtain⟨a,c,e,_⟩:=this;exact⟨a,c,e⟩
  obtain⟨pg,po,pc,e2,pgb,pgz⟩:=hC.addr2;obtain⟨qg,qo,qc,e3,qgb,qgz⟩:=hC.addr3;have hgp:g≠pg:=fun e=>hBx.ne (hC.raw.own 2 (by omega)) (by decide) (by rw[e2,e];rfl)
  have hgq:g≠qg:=fun e=>hBx.ne (hC.raw.own 3 (by omega)) (by decide) (by rw[e3,e];rfl)
  rw[e0,e1,e2,e3,e4]at hBx;have HBx:=hid hBx;have HCx:=hid (show ∃V N C D,CpM wc W2.heap.size st P Q 0 0 V N C D∧V 0=.slice ya2 st.ws.length yb2∧V 1=.slice za2 st.hs.length zb2∧V 2=.slice (some ⟨pg,po,none⟩) 3 pc∧V 3=.slice (some ⟨qg,qo,none⟩) 4 qc∧V 4=.slice va2 st.told.length vb2 from⟨V,N,C,D,hC,e0,e1,e2,e3,e4⟩);have HBe:=hid (HB2.out.trans (hb.mono (by rw[HZ.out];omega)));have HSx:=hid (HS.out.below hb HS.out.lt);have HRx:=hid (HR.out.below hb HR.out.lt);have HGP:=hid hgp;have HGQ:=hid hgq;clear hBx hC hb e0 e1 e2 e3 e4 hO ho hD hd hl hgp hgq pgz qgz;obtain⟨⟨r0,r1,r2,r3,r4⟩,_⟩:=HSx.out.five
  go_wp2_with fail
  clear r0 r1 r2 r3 r4
  go_loopw [24] (fun i wr=>∃k:Nat,i=.int .i64 k∧k≤3∧BoxC wr g (.slice ya2 st.ws.length yb2) (.slice za2 st.hs.length zb2) (.slice (some ⟨pg,po,none⟩) 3 pc) (.slice (some ⟨qg,qo,none⟩) 4 qc) (.slice va2 st.told.length vb2)∧(∃V N C D,CpM wr W2.heap.size st P Q k 0 V N C D∧V 0=.slice ya2 st.ws.length yb2∧V 1=.slice za2 st.hs.length zb2∧V 2=.slice (some ⟨pg,po,none⟩) 3 pc∧V 3=.slice (some ⟨qg,qo,none⟩) 4 qc∧V 4=.slice va2 st.told.length vb2)∧Below w.heap.size w wr∧Bx wr w.heap.size [.slice ya st.ws.length yb,.slice za st.hs.length zb,.slice (some ⟨sg,so,none⟩) 3 sc,.slice (some ⟨tg,tp,none⟩) 4 tc,.slice ua un ub]∧Bx wr (w.heap.size+1) [vnil,vnil,vnil,vnil,vnil]) (fun i _=>3 - (intOf i).toNat)
  case atStart=>exact⟨0,rfl,by omega,HBx.out,HCx.out,HBe.out,HSx.out,HRx.out⟩
  case round=>
   clear HBx HCx HBe HSx HRx;obtain⟨k,rfl,hk3,hB1,⟨V,N,C,D,hC,e0,e1,e2,e3,e4⟩,hbl,hS,hR⟩:=hrel;have HBx:=hid hB1;have HCx:=hid hC;have HBe:=hid hbl;have HSx:=hid hS;have HRx:=hid hR;have HE:=hid (show V 0=.slice ya2 st.ws.length yb2∧V 1=.slice za2 st.hs.length zb2∧V 2=.slice (some ⟨pg,po,none⟩) 3 pc∧V 3=.slice (some ⟨qg,qo,none⟩) 4 qc∧V 4=.slice va2 st.told.length vb2 from⟨e0,e1,e2,e3,e4⟩);clear hB1 hC hbl hS hR e0 e1 e2 e3 e4;by_cases hlt:k<3
   ·obtain⟨x,hx⟩:∃x,x=P.getD k default:=⟨_,rfl⟩
    have hc:∀j,j<4→wr.cell? ⟨sg,so+k * 4+j,none⟩=(rowPS x)[j]?:=fun j hj=>by
     rw[hx,←HSC.out k default hlt j hj];exact HBe.out.cell (p:=⟨sg,_,none⟩) (Nat.lt_of_lt_of_le sg2 hB)
    have HX:=hid hx;clear hx;obtain⟨nx,⟨qa1,qn1,qc1⟩,⟨oa1,on1,oc1⟩,la⟩:=x;have c0:=hc 0 (by omega);have c1:=hc 1 (by omega);have c2:=hc 2 (by omega);have c3:=hc 3 (by omega);simp only[rowPS,sl,List.getElem?_cons_zero,List.getElem?_cons_succ,Nat.add_zero]at c0 c1 c2 c3;have hlti:(k:Int)<3:=by omega
    clear hc
    go_upto_region 5 with fail
    clear c0 c1 c2 c3;obtain⟨wo,hwo⟩:∃W,W=wr:=⟨_,rfl⟩
    subst hwo;obtain⟨W3,hW3⟩:∃W3,W3=wo.alloc (.cells #[.int .i64 (nx:Nat),.slice qa1 qn1 qc1,.slice oa1 on1 oc1,.int .i64 (la:Nat)] 48):=⟨_,rfl⟩
    rw[←hW3];have HB3:=hid (show Below wo.heap.size wo W3 by rw[hW3];exact bx1 _ _);have HE1:=hid (show W3.cell? ⟨wo.heap.size,1,none⟩=some (.slice qa1 qn1 qc1) by rw[hW3];simp[go_sem]);have HE2:=hid (show W3.cell? ⟨wo.heap.size,2,none⟩=some (.slice oa1 on1 oc1) by rw[hW3];simp[go_sem]);have HBy:=hid (HBx.out.below HB3.out HBx.out.lt);have HCy:=hid (HCx.out.below HB3.out);have HZ3:=hid (show W3.heap.size=wo.heap.size+1 by rw[hW3];simp);have HBl:=hid (HBe.out.trans (HB3.out.mono HBe.out.size));clear hW3;obtain⟨hv0,hv1,hv2,hv3,hv4⟩:=HE.out;obtain⟨pg', po', pc', e2', pgb', pgz'⟩:=HCx.out.addr2;rw[hv2]at e2';simp only[Value.slice.injEq,Option.some.injEq,Addr.mk.injEq]at e2';obtain⟨⟨rfl,rfl,_⟩,_,rfl⟩:=e2';have hO:=HCy.out.raw.own 2 (by omega);rw[HCy.out.n2,hv2]at hO;have hlen:(C 2).length=12:=hO.1;have hW2s:w.heap.size≤W2.heap.size:=HB2.out.size
    refine cp5_region _ _ _ _ _ _ _ _ _ _ _ _ _ _ _ _ _ _ _ _ _ _ _ _ _ _ _ _ _ _ _ _ _ _ _ _ _ _ _ _ _ _ _ _ _ _ _ _ _ _ _ _ _ _ _ _ _ _ _ _ _ _ _ _ _ _ _ _ _ g k wo.heap.size W2.heap.size pg po pc B (C 2) _ _ qa1 qn1 qc1 oa1 on1 oc1 (st.ports k).queue (st.ports k).out W3 HGP.out HBy.out.lt HBy.out.bx.five.1.2.2.1 (by have := HZ3.out; omega) (by omega) (by have := HBl.out.size; omega) hlt (by omega) (by have := HZ3.out; omega) hO (List.getElem?_eq_getElem (by rw [hlen]; omega)) (List.getElem?_eq_getElem (by rw [hlen]; omega)) HE1.out HE2.out
     (by have:=(HV.out.q k hlt).below (HBl.out.mono hB);rw[←HX.out]at this;exact this) (by have:=(HV.out.o k hlt).below (HBl.out.mono hB);rw[←HX.out]at this;exact this) (by have:=HSM.out.q k hlt;omega) (by have:=HSM.out.o k hlt;omega) ?_
    intro u29 u30 u31 u32 u33 u34 u35 u36 u37 u38 u39 u40 u41 u42 u43 u44 wc hcut;obtain⟨w5,hw5⟩:∃W,W=wc:=⟨_,rfl⟩
    subst hw5;obtain⟨V', N', C', hC', f0,f1,f2,f3,f4⟩:=HCy.out.port hlt hv2 (HV.out.pn k hlt) hcut (by have:=HBl.out.size;have:=HZ3.out;omega);obtain⟨uu,uv,_,_,_,_,hT⟩:=hcut;have HT:=hid hT;have HC':=hid hC';have HF:=hid (show V' 0=.slice ya2 st.ws.length yb2∧V' 1=.slice za2 st.hs.length zb2∧V' 2=.slice (some ⟨pg,po,none⟩) 3 pc∧V' 3=.slice (some ⟨qg,qo,none⟩) 4 qc∧V' 4=.slice va2 st.told.length vb2 from⟨f0.trans hv0,f1.trans hv1,f2.trans hv2,f3.trans hv3,f4.trans hv4⟩);clear hT hC' f0 f1 f2 f3 f4 hv0 hv1 hv2 hv3 hv4 hO hlen;unfold cp5A
    go_wp2_with fail
    go_roundw
    case rel=>
     have hs:=HZ3.out;have hw2:w.heap.size≤pg:=by omega
     refine⟨k+1,by go_num,by omega,HBy.out.touch HT.out HGP.out,⟨V', N', C', D,HC'.out,HF.out⟩,HBl.out.trans (HT.out.below hw2 HBl.out.size),?_,?_⟩
     ·exact(HSx.out.below HB3.out HSx.out.lt).kept (HT.out.block _ (by have:=HSx.out.lt;omega) (by have:=HZ.out;omega))
     ·exact(HRx.out.below HB3.out HRx.out.lt).kept (HT.out.block _ (by have:=HRx.out.lt;omega) (by have:=HZ.out;omega))
    case measure=>simp[intOf];omega
   ·obtain rfl:k=3:=by omega
    have HCx:=hid (show ∃V N C D,CpM wr W2.heap.size st P Q 3 0 V N C D∧V 0=.slice ya2 st.ws.length yb2∧V 1=.slice za2 st.hs.length zb2∧V 2=.slice (some ⟨pg,po,none⟩) 3 pc∧V 3=.slice (some ⟨qg,qo,none⟩) 4 qc∧V 4=.slice va2 st.told.length vb2 from⟨V,N,C,D,HCx.out,HE.out⟩);obtain⟨⟨r0,r1,r2,r3,r4⟩,_⟩:=HSx.out.five
    go_wp2_with fail
    clear r0 r1 r2 r3 r4
    go_loopw [49] (fun i wr=>∃k:Nat,i=.int .i64 k∧k≤4∧BoxC wr g (.slice ya2 st.ws.length yb2) (.slice za2 st.hs.length zb2) (.slice (some ⟨pg,po,none⟩) 3 pc) (.slice (some ⟨qg,qo,none⟩) 4 qc) (.slice va2 st.told.length vb2)∧(∃V N C D,CpM wr W2.heap.size st P Q 3 k V N C D∧V 0=.slice ya2 st.ws.length yb2∧V 1=.slice za2 st.hs.length zb2∧V 2=.slice (some ⟨pg,po,none⟩) 3 pc∧V 3=.slice (some ⟨qg,qo,none⟩) 4 qc∧V 4=.slice va2 st.told.length vb2)∧Below w.heap.size w wr∧Bx wr w.heap.size [.slice ya st.ws.length yb,.slice za st.hs.length zb,.slice (some ⟨sg,so,none⟩) 3 sc,.slice (some ⟨tg,tp,none⟩) 4 tc,.slice ua un ub]∧Bx wr (w.heap.size+1) [vnil,vnil,vnil,vnil,vnil]) (fun i _=>4 - (intOf i).toNat)
    case atStart=>exact⟨0,rfl,by omega,HBx.out,HCx.out,HBe.out,HSx.out,HRx.out⟩
    case round=>
     clear HBx HCx HBe HSx HRx HE;obtain⟨k,rfl,hk3,hB1,⟨V,N,C,D,hC,e0,e1,e2,e3,e4⟩,hbl,hS,hR⟩:=hrel;have HBx:=hid hB1;have HCx:=hid hC;have HBe:=hid hbl;have HSx:=hid hS;have HRx:=hid hR;have HE:=hid (show V 0=.slice ya2 st.ws.length yb2∧V 1=.slice za2 st.hs.length zb2∧V 2=.slice (some ⟨pg,po,none⟩) 3 pc∧V 3=.slice (some ⟨qg,qo,none⟩) 4 qc∧V 4=.slice va2 st.told.length vb2 from⟨e0,e1,e2,e3,e4⟩);clear hB1 hC hbl hS hR e0 e1 e2 e3 e4;by_cases hlt:k<4
     ·obtain⟨x,hx⟩:∃x,x=Q.getD k default:=⟨_,rfl⟩
      have hc:∀j,j<3→wr.cell? ⟨tg,tp+k * 3+j,none⟩=(rowSS x)[j]?:=fun j hj=>by
       rw[hx,←HTC.out k default hlt j hj];exact HBe.out.cell (p:=⟨tg,_,none⟩) (Nat.lt_of_lt_of_le tg2 hB)
      have HX:=hid hx;clear hx;obtain⟨⟨qa1,qn1,qc1⟩,⟨oa1,on1,oc1⟩,la⟩:=x;have c0:=hc 0 (by omega);have c1:=hc 1 (by omega);have c2:=hc 2 (by omega);simp only[rowSS,sl,List.getElem?_cons_zero,List.getElem?_cons_succ,Nat.add_zero]at c0 c1 c2;have hlti:(k:Int)<4:=by omega
      clear hc
      go_upto_region 10 with fail
      clear c0 c1 c2;obtain⟨wo,hwo⟩:∃W,W=wr:=⟨_,rfl⟩
      subst hwo;obtain⟨W3,hW3⟩:∃W3,W3=wo.alloc (.cells #[.slice qa1 qn1 qc1,.slice oa1 on1 oc1,.int .i64 (la:Nat)] 94):=⟨_,rfl⟩
      rw[←hW3];have HB3:=hid (show Below wo.heap.size wo W3 by rw[hW3];exact bx1 _ _);have HE1:=hid (show W3.cell? ⟨wo.heap.size,0,none⟩=some (.slice qa1 qn1 qc1) by rw[hW3];simp[go_sem]);have HE2:=hid (show W3.cell? ⟨wo.heap.size,1,none⟩=some (.slice oa1 on1 oc1) by rw[hW3];simp[go_sem]);have HBy:=hid (HBx.out.below HB3.out HBx.out.lt);have HCy:=hid (HCx.out.below HB3.out);have HZ3:=hid (show W3.heap.size=wo.heap.size+1 by rw[hW3];simp);have HBl:=hid (HBe.out.trans (HB3.out.mono HBe.out.size));clear hW3;obtain⟨hv0,hv1,hv2,hv3,hv4⟩:=HE.out;obtain⟨pg', po', pc', e2', pgb', pgz'⟩:=HCx.out.addr3;rw[hv3]at e2';simp only[Value.slice.injEq,Option.some.injEq,Addr.mk.injEq]at e2';obtain⟨⟨rfl,rfl,_⟩,_,rfl⟩:=e2';have hO:=HCy.out.raw.own 3 (by omega);rw[HCy.out.n3,hv3]at hO;have hlen:(C 3).length=12:=hO.1;have hW2s:w.heap.size≤W2.heap.size:=HB2.out.size;obtain⟨D5,hj1,hj2,hj3⟩:=HV.out.d k hlt;rw[←HX.out]at hj1
      refine cp10_region _ _ _ _ _ _ _ _ _ _ _ _ _ _ _ _ _ _ _ _ _ _ _ _ _ _ _ _ _ _ _ _ _ _ _ _ _ _ _ _ _ _ _ _ _ _ _ _ _ _ _ _ _ _ _ _ _ _ _ _ _ _ _ _ _ _ _ _ _ g k wo.heap.size W2.heap.size qg qo qc B (C 3) _ _ qa1 qn1 qc1 oa1 on1 oc1 (st.slaves k).pipe (st.slaves k).done D5 W3 HGQ.out HBy.out.lt HBy.out.bx.five.1.2.2.2.1 (by have := HZ3.out; omega) (by omega) (by have := HBl.out.size; omega) hlt (by omega) (by have := HZ3.out; omega) hO (List.getElem?_eq_getElem (by rw [hlen]; omega)) (List.getElem?_eq_getElem (by rw [hlen]; omega)) HE1.out HE2.out
       (by have:=(HV.out.p k hlt).below (HBl.out.mono hB);rw[←HX.out]at this;exact this) (hj1.below (HBl.out.mono hB)) hj2 (fun y hy=>(hj3 y hy).below (HBl.out.mono hB)) (by have:=HSM.out.p k hlt;omega) (by have:=(HSM.out.d k hlt).1;rw[←hj2,List.length_map]at this;exact this) (fun y hy=>(HSM.out.d k hlt).2 y.1 (by rw[←hj2];exact List.mem_map.2 ⟨y,hy,rfl⟩)) ?_
      intro u54 u55 u56 u57 u58 u59 u60 u61 u62 u63 u64 u65 u66 u67 u68 u69 wc hcut;obtain⟨w5,hw5⟩:∃W,W=wc:=⟨_,rfl⟩
      subst hw5;obtain⟨V', N', C', D', hC', f0,f1,f2,f3,f4⟩:=HCy.out.store hlt hv3 (HV.out.sn k hlt) hcut (by have:=HBl.out.size;have:=HZ3.out;omega);obtain⟨uu,uv,um,uD,_,_,_,_,_,_,_,hT⟩:=hcut;have HT:=hid hT;have HC':=hid hC';have HF:=hid (show V' 0=.slice ya2 st.ws.length yb2∧V' 1=.slice za2 st.hs.length zb2∧V' 2=.slice (some ⟨pg,po,none⟩) 3 pc∧V' 3=.slice (some ⟨qg,qo,none⟩) 4 qc∧V' 4=.slice va2 st.told.length vb2 from⟨f0.trans hv0,f1.trans hv1,f2.trans hv2,f3.trans hv3,f4.trans hv4⟩);clear hT hC' f0 f1 f2 f3 f4 hv0 hv1 hv2 hv3 hv4 hO hlen hj1 hj2 hj3;unfold cp10A
      go_wp2_with fail
      go_roundw
      case rel=>
       have hs:=HZ3.out;have hw2:w.heap.size≤qg:=by omega
       refine⟨k+1,by go_num,by omega,HBy.out.touch HT.out HGQ.out,⟨V', N', C', D', HC'.out,HF.out⟩,HBl.out.trans (HT.out.below hw2 HBl.out.size),?_,?_⟩
       ·exact(HSx.out.below HB3.out HSx.out.lt).kept (HT.out.block _ (by have:=HSx.out.lt;omega) (by have:=HZ.out;omega))
       ·exact(HRx.out.below HB3.out HRx.out.lt).kept (HT.out.block _ (by have:=HRx.out.lt;omega) (by have:=HZ.out;omega))
      case measure=>simp[intOf];omega
     ·obtain rfl:k=4:=by omega
      obtain⟨⟨r0,r1,r2,r3,r4⟩,_⟩:=HBx.out.bx.five;obtain⟨⟨q0,q1,q2,q3,q4⟩,f0,f1,f2,f3,f4⟩:=HRx.out.five;have hrl:=HRx.out.lt;obtain⟨hv0,hv1,hv2,hv3,hv4⟩:=HE.out;have HE0:=hid HE.out;clear hv0 hv1 hv2 hv3 hv4 HE
      go_wp2_with fail
      refine bodyPost_ret (zB0 Tryz.results45 _ _ ⟨w.heap.size+1,0,none⟩ (.agg #[.slice ya2 st.ws.length yb2,.slice za2 st.hs.length zb2,.slice (some ⟨pg,po,none⟩) 3 pc,.slice (some ⟨qg,qo,none⟩) 4 qc,.slice va2 st.told.length vb2]) rfl (zM4 _ _ _ _ _ _ _ (by simp[go_sem, *]) (by simp[go_sem, *]) (by simp[go_sem, *]) (by simp[go_sem, *]) (by simp[go_sem, *]))) rfl ⟨V,N,C,D,?_,?_,?_⟩
      ·rw[HE0.out.1,HE0.out.2.1,HE0.out.2.2.1,HE0.out.2.2.2.1,HE0.out.2.2.2.2]
      ·have hz:=HZ.out;exact(HCx.out.fin.kept (fun b h1 h2=>(touchC (w.heap.size+1) _ _ _ _ _ _).block b h2 (by omega)) (touchC (w.heap.size+1) _ _ _ _ _ _).size).rebase (by omega)
      ·exact((((HBe.out.setCell (by exact Nat.le_succ _) _).setCell (by exact Nat.le_succ _) _).setCell (by exact Nat.le_succ _) _).setCell (by exact Nat.le_succ _) _).setCell (by exact Nat.le_succ _) _
def TriB (w:World) (g:Nat) (u:Nat→Int):Prop:=w.heap[g]? = some (.cells #[.int .i64 (u 0),.int .i64 (u 1),.int .i64 (u 2)] 154 (0,0))
theorem TriB.cells {w:World} {g:Nat} {u:Nat→Int} (h:TriB w g u) {k:Nat} (hk:k<3):w.cell? ⟨g,k,none⟩=some (.int .i64 (u k))∧w.frozen? ⟨g,k,none⟩=false∧g<w.heap.size:=by
 have:=zA3 h;unfold TriB at h;rcases(show k=0∨k=1∨k=2 by omega)with rfl|rfl|rfl <;> exact⟨by simp[World.cell?,h],by simp[World.frozen?,h],this⟩
theorem TriB.put {w:World} {g:Nat} {u:Nat→Int} (h:TriB w g u) {k:Nat} (hk:k<3) (b:Int):TriB (w.setCell ⟨g,k,none⟩ (.int .i64 b)) g (upd u k b):=by
 unfold TriB at h ⊢;rcases(show k=0∨k=1∨k=2 by omega)with rfl|rfl|rfl <;> simp[World.setCell,Array.getElem?_modify,h,upd]
theorem TriB.below {w w':World} {g C:Nat} {u:Nat→Int} (h:TriB w g u) (hb:Below C w w') (hg:g<C):TriB w' g u:=(hb.block g hg).trans h
def FitP (g5:Nat) (L:Nat→Int) (who n:Nat) (w:World) (e:Ending) (w':World):Prop:=e=.returned (.bool true)∧TriB w' g5 (upd L who n)∧Touch g5 w w'
set_option maxRecDepth 4000 in
theorem fits_any {w : World} {B g5 g2 g3 pg po pc s : Nat} {L : Nat → Int} {P : List PS} {st : Cy} (hL : TriB w g5 L) (h2 : w.cell? ⟨g2, 2, none⟩ = some (.slice (some ⟨pg, po, none⟩) 3 pc)) (h3 : w.cell? ⟨g3, 0, none⟩ = some (.int .i64 (s : Nat)))
  (hB5:B≤g5) (hn2:g2≠g5) (hn3:g3≠g5) (hpg:pg<B)
  (hps:∀t,t<3→∀j,j<4→w.cell? ⟨pg,po+t * 4+j,none⟩=(rowPS (P.getD t default))[j]?) (hpo:∀i,i<3→Jbs w B (sl (P.getD i default).o) (st.ports i).out) {who n:Nat} (hw:who<3) (hlast:L who<(n:Int)) (hos:(st.ports who).out.Pairwise (fun a b=>a.n<b.n)) (ho4:(st.ports who).out.length≤4) (hin:∃o∈(st.ports who).out,o.n=n∧o.left=s) :
  Calls Tryz.prog 108 #[.int .i64 who,.int .i64 n,.pointer (some ⟨g5,0,none⟩),.pointer (some ⟨g2,0,none⟩),.pointer (some ⟨g3,0,none⟩)] w (FitP g5 L who n w):=by
 obtain⟨l0,lf,lz⟩:=hL.cells hw;obtain⟨lv,hlv⟩:∃x,x=L who:=⟨_,rfl⟩
 rw[←hlv]at l0 hlast;have g1:decide ((n:Int)≤lv)=false:=by rw[decide_eq_false_iff_not];omega
 have hwi:(who:Int)<3:=by omega
 have hp5:=hps who hw;have HJ:=hid (hpo who hw);obtain⟨x,hx⟩:∃x,x=P.getD who default:=⟨_,rfl⟩
 rw[←hx]at hp5 HJ;obtain⟨nx,⟨qa,qn,qc⟩,⟨oa,on,oc⟩,la⟩:=x;have p0:=hp5 0 (by omega);have p1:=hp5 1 (by omega);have p2:=hp5 2 (by omega);have p3:=hp5 3 (by omega);simp only[rowPS,sl,List.getElem?_cons_zero,List.getElem?_cons_succ,Nat.add_zero]at p0 p1 p2 p3;simp only[sl]at HJ;obtain⟨ao,cp,e,hcap1,hcap2,_,_,h9⟩:=HJ.out.opened;simp only[Value.slice.injEq]at e;obtain⟨rfl,rfl,rfl⟩:=e;obtain⟨o,ho,hon,hol⟩:=hin;obtain⟨i,hil,hio⟩:=List.mem_iff_getElem.1 ho;obtain⟨oo,hoo⟩:∃l,l=(st.ports who).out:=⟨_,rfl⟩
 have hidx:idxP (fun j:Jb=>j.n==n) (st.ports who).out=(i:Nat):=by
  refine zM6 _ _ i default hil (by simp[List.getD,hil,hio,hon]) fun j hj=>?_
  rw[List.pairwise_iff_getElem]at hos;have:=hos j i (by omega) hil hj;rw[hio,hon]at this;simp[List.getD,show j<(st.ports who).out.length by omega];omega
 obtain⟨b,off,hoa,hbB,hcells⟩:=h9 (by omega);subst hoa;have cl:=(hcells i hil).2.2;have hgl:((st.ports who).out.getD i default).left=s:=by simp[List.getD,hil,hio,hol]
 rw[hgl]at cl;have hbz:b≠g5:=by omega
 have hil4:(i:Int)<((st.ports who).out.length:Int):=by omega
 have hi0:(0:Int)≤(i:Int):=by omega
 have HI:=hid hidx;have HL:=hid hL;obtain⟨ol,holn⟩:∃x,x=(st.ports who).out.length:=⟨_,rfl⟩
 rw[←holn]at p2 HJ hcap1 hil4;have HOLN:=hid holn;have hlvn:=hid hlv;have i1:=hid (zH4 (who:Int));rw[show inB (who:Int) 0 2=true by simp[inB];omega]at i1;obtain⟨w1,hw1⟩:∃W,W=w.setCell ⟨g5,who,none⟩ (.int .i64 (n:Nat)):=⟨_,rfl⟩
 have ht1:Touch g5 w w1:=by rw[hw1];exact Touch.setCell _ _ _ _
 have HL1:=hid (show TriB w1 g5 (upd L who n) by rw[hw1];exact hL.put hw n);have hpz:pg<w.heap.size:=World.block_lt_of_cell? w _ p0;have kc:∀g o,g≠g5→g<w.heap.size→w1.cell? ⟨g,o,none⟩=w.cell? ⟨g,o,none⟩:=fun g o h1 h2=>ht1.cell h1 h2
 have u2:=(kc g2 2 hn2 (World.block_lt_of_cell? w _ h2)).trans h2;have u3:=(kc g3 0 hn3 (World.block_lt_of_cell? w _ h3)).trans h3;have v0:=(kc pg (po+who * 4) (by omega) hpz).trans p0;have v1:=(kc pg (po+who * 4+1) (by omega) hpz).trans p1;have v2:=(kc pg (po+who * 4+2) (by omega) hpz).trans p2;have v3:=(kc pg (po+who * 4+3) (by omega) hpz).trans p3;have vl:=(kc b (off+i * 3+2) hbz (World.block_lt_of_cell? w _ cl)).trans cl;have HT1:=hid ht1;have HJ1:=hid (HJ.out.below (ht1.below (B:=B) (by omega) (by have:=World.block_lt_of_cell? w _ l0;simp only at this;omega)));have hBz:B≤w1.heap.size:=by have:=ht1.size;have:g5<w.heap.size:=lz;omega
 have hbz1:b<w1.heap.size:=World.block_lt_of_cell? w1 _ vl;have hgz:g2<w1.heap.size:=World.block_lt_of_cell? w1 _ u2;have hg3z:g3<w1.heap.size:=World.block_lt_of_cell? w1 _ u3;have hpz1:pg<w1.heap.size:=World.block_lt_of_cell? w1 _ v0;have HOA:=hid (outAt_any (nx:Int) (la:Int) qa (some ⟨b,off,none⟩) qn qc oc n (st.ports who).out B w1 (by rw[←HOLN.out];exact HJ1.out) hBz);rw[←HOLN.out]at HOA;clear hlv holn hps hpo hp5 hx hcells ho hon hol hio hos hidx hgl kc p0 p1 p2 p3 ht1 hL hcap1 cl hoo h2 h3 h9
 go_enter Tryz.func108,Tryz.ntmps108
 go_upto_region 4 with(go_at_call 56;refine(i1.out _).mono ?_;rintro e w9 ⟨rfl,rfl⟩)
 rw[←hw1];clear hw1 l0 lf
 go_upto_region 5 with(go_at_call 109;go_loud (with_reducible refine(HOA.out).mono ?_);unfold OutAtP;rw[HI.out];rintro e w2 ⟨rfl,hb2⟩;have s2:=(hb2.cell (p:=⟨g2,2,none⟩) hgz).trans u2;have s3:=(hb2.cell (p:=⟨g3,0,none⟩) hg3z).trans u3;have t0:=(hb2.cell (p:=⟨pg,po+who * 4,none⟩) hpz1).trans v0;have t1:=(hb2.cell (p:=⟨pg,po+who * 4+1,none⟩) hpz1).trans v1;have t2:=(hb2.cell (p:=⟨pg,po+who * 4+2,none⟩) hpz1).trans v2;have tl:=(hb2.cell (p:=⟨b,off+i * 3+2,none⟩) hbz1).trans vl;have HB2:=hid hb2;clear hb2)
 clear u2 u3 v0 v1 v2 v3 vl
 go_quiet (fail)
 go_wp2_with fail
 go_ret
 exact⟨by rfl,(HL1.out.below (Below.draws HB2.out _) (zA3 HL1.out)),HT1.out.trans ((Touch.of_below HB2.out (Nat.le_refl _)).trans (Touch.of_below (Below.draws (Below.refl _ _) _) (Nat.le_refl _)))⟩
theorem rspOk_yes (a : Option Addr) (n cp : Nat) (x : Rs) (B : Nat) (w : World) (h : Ints w B (.slice a n cp) x.data) (hB : B ≤ w.heap.size) (hok : rspOk x = true) :
  Calls Tryz.prog 110 #[.agg #[.int .i64 x.id,.int .i64 x.code,.slice a n cp]] w fun e w' => e=.returned (.bool true)∧Below w.heap.size w w':=by
 simp only[rspOk,Bool.and_eq_true,decide_eq_true_eq]at hok;obtain⟨⟨⟨h1,h2⟩,h3⟩,h4⟩:=hok;obtain⟨ao,cap,hdv,_⟩:=h.opened;rw[hdv]at h ⊢;clear hdv;have H1:=hid h1;have H2:=hid h2;have H4:=hid h4;have HI:=hid h;have h3':(x.data.length:Int)≤4:=by omega
 clear h1 h2 h4 h
 go_enter Tryz.func110,Tryz.ntmps110
 go_wp2_with (first
  |(go_at_call 63;refine(zH5 _ _ _ _).mono ?_;(first|rw[H1.out]|rw[H2.out]);rintro e w' ⟨rfl,rfl⟩)
  |(go_at_call 97;refine(zK2 _ x.data B _ (HI.out.below ((Below.refl _ _).alloc hB _))).mono ?_;rw[H4.out];rintro e w' ⟨rfl,rfl⟩))
 go_ret
 exact⟨rfl,(Below.refl _ _).alloc (Nat.le_refl _) _⟩
def lastK (l:List (Nat×Nat)) (w:Nat):Int:=match (nsOf w l).getLast? with|some n=>n|none=>-1
theorem lastK_snoc (l:List (Nat×Nat)) (w n:Nat):lastK (l++[(w,n)])=upd (lastK l) w (n:Nat):=by
 funext v
 unfold lastK;rw[zM3];by_cases h:v=w
 ·subst h;rw[zA1,show nsOf v [(v,n)]=[n] from by simp[nsOf]];simp
 ·rw[zA0 _ _ h,show nsOf v [(w,n)]=[] from by simp[nsOf,Ne.symm h],List.append_nil]
theorem keys_sorted {c:Cfg} {st:Cy} (hg:Good c st) {s w:Nat} (hs:s<4) (hw:w<3):(nsOf w (zA7 (st.slaves s))).Pairwise (·<·):=by
 rw[hg.link s w hs hw,List.pairwise_map];exact(((hg.p w hw).os).filter _)
theorem lastK_lt {c:Cfg} {st:Cy} (hg:Good c st) {s i:Nat} (hs:s<4) {w n:Nat} (hi:(zA7 (st.slaves s))[i]? = some (w,n)):w<3∧lastK ((zA7 (st.slaves s)).take i) w<(n:Int)∧(∃o∈(st.ports w).out,o.n=n∧o.left=s)∧n<(c.prog w).length:=by
 have hm:=List.mem_of_getElem? hi;obtain⟨hw,ho⟩:=hg.key hs hm;refine⟨hw,?_,ho,hg.keyN hs hm⟩;have hp:=keys_sorted hg hs hw;obtain⟨hlt,he⟩:=List.getElem?_eq_some_iff.1 hi;have e:zA7 (st.slaves s)=(zA7 (st.slaves s)).take i++(w,n)::(zA7 (st.slaves s)).drop (i+1):=by
  rw[←he,List.getElem_cons_drop,List.take_append_drop]
 rw[e,zM3,zM2,List.pairwise_append]at hp;unfold lastK;rcases h:(nsOf w ((zA7 (st.slaves s)).take i)).getLast? with _|m
 ·show(-1:Int)<n;omega
 ·have:=hp.2.2 m (List.mem_of_getLast? h) n (by simp);show(m:Int)<n;omega
theorem take_snocK {l:List (Nat×Nat)} {i:Nat} {k:Nat×Nat} (h:l[i]? = some k):l.take (i+1)=l.take i++[k]:=by
 rw[List.take_add_one,h];rfl
theorem rowN_one (n:Nat):∀u∈rowN n,u.oneCell' = true:=by
 intro u hu;simp only[rowN,List.mem_cons,List.not_mem_nil,or_false]at hu;rcases hu with rfl;rfl
theorem ask1_no {c:Cfg} {inp:Inp} {who:Nat} {x:Cy×List Ev} (h:¬(inp.send.getD who false=true∧(x.1.ports who).queue.length<2∧(x.1.ports who).next<(c.prog who).length)):ask1 c inp who x=x:=by unfold ask1;rw[if_neg h]
theorem ask1_yes {c:Cfg} {inp:Inp} {who:Nat} {x:Cy×List Ev} (h:inp.send.getD who false=true∧(x.1.ports who).queue.length<2∧(x.1.ports who).next<(c.prog who).length):ask1 c inp who x=askDo who x:=by unfold ask1;rw[if_pos h]
theorem ask1_len (c:Cfg) (inp:Inp) (who:Nat) (x:Cy×List Ev):(ask1 c inp who x).2.length≤x.2.length+1:=by
 unfold ask1
 split
 ·simp[askDo]
 ·omega
set_option maxRecDepth 4000 in
theorem ask_any {c : Cfg} (hbus : Bus c) {w : World} {base S Hb : Nat} {L : Nat → Value} {st : Cy} {ev : List Ev} {V0 : Nat → Value} {N0 : Nat → Nat} {C0 : Nat → List Value} {D0 : Nat → List TJV} (hm : CyM w base S Hb L st ev V0 N0 C0 D0) (hg : Good c st) (hev : ev.length ≤ 500) {inp : Inp} {v u : Value} {B : Nat} (hc : BusV w B u c) (hin : InV w B v inp) (hB : B ≤ base) :
  Calls Tryz.prog 93 #[.pointer (some ⟨S,0,none⟩),u,v,.pointer (some ⟨Hb,0,none⟩)] w (PartP base S Hb L (zK1 c inp (st,ev)) V0 w):=by
 obtain⟨⟨ra,rc,ta,tc,sa,sc,rfl,hr1,hr2,hr3⟩,hl1,hl2,hl3⟩:=hin;obtain⟨mv,lb,lo,lc,pb,po', pc', Q,K,rfl,⟨ma,mn,mk,rfl⟩,hms,hlb,hpb', hlat,hprog,hreq⟩:=hc.opened hbus;have HM:=hid hm;have HG0:=hid hg;have hS:=zA3 hm.bs;have hbw:base≤w.heap.size:=Nat.le_trans hm.s0 (Nat.le_of_lt (zA3 hm.bs));obtain⟨q0,q1,q2,q3,q4,qf⟩:=hm.box;obtain⟨pg,po,pc,hV2,hpc,hpc2,_,_⟩:=hm.ports;rw[hV2]at q2;have HR:=hid hr3;have HL3:=hid hl3;have HPR:=hid hprog;rw[hl3];clear hm hg hr1 hr2 hr3 hl1 hl2 hl3 hV2 qf q0 q1 q3 q4 hpc2 hpc hc hms hlat hprog hreq hlb
 go_enter Tryz.func93,Tryz.ntmps93
 go_wp2_with fail
 obtain⟨w0,hw0⟩:∃W,W=(w.alloc (.cells #[.slice ma mn mk,.slice (some ⟨lb,lo,none⟩) 4 lc,.slice (some ⟨pb,po', none⟩) 3 pc'] 27)).alloc (.cells #[.slice ra inp.ready.length rc,.slice ta inp.stall.length tc,.slice sa 3 sc] 45):=⟨_,rfl⟩
 rw[←hw0];have hb0:Below w.heap.size w w0:=by rw[hw0];exact((Below.refl _ _).alloc (Nat.le_refl _) _).alloc (by simp) _
 have hz0:w0.heap.size=w.heap.size+2:=by rw[hw0];simp
 have HC0:=hid (show w0.heap[w.heap.size]? = some (.cells #[.slice ma mn mk,.slice (some ⟨lb,lo,none⟩) 4 lc,.slice (some ⟨pb,po', none⟩) 3 pc'] 27 (0,0)) by rw[hw0];rw[((Below.refl _ _).alloc (Nat.le_refl _) _).block _ (by simp)];show(w.heap.push _)[w.heap.size]? = _;simp);have HI0:=hid (show w0.heap[w.heap.size+1]? = some (.cells #[.slice ra inp.ready.length rc,.slice ta inp.stall.length tc,.slice sa 3 sc] 45 (0,0)) by rw[hw0];exact zA9 _ _ (by simp));have HFR:=hid (HM.out.fresh (w':=w0) (Nat.le_refl w.heap.size) (by omega));have HFR1:=hid (HM.out.fresh (w':=w0) (Nat.le_succ w.heap.size) (by omega));have HKB:=hid (Kp.below (S:=S) (Hb:=Hb) (V:=V0) hb0);have HM0:=hid (HM.out.below hb0);have HB0:=hid (hb0.mono hbw);have HR0:=hid HR.out;clear hw0 hb0 hz0 q2 HM HR hS
 go_loopw [15] (fun i wr=>∃k:Nat,k≤3∧i=.int .i64 k∧Good c (foldN (ask1 c inp) k (st,ev)).1∧(foldN (ask1 c inp) k (st,ev)).2.length≤ev.length+k∧(∃V N C D,CyM wr base S Hb L (foldN (ask1 c inp) k (st,ev)).1 (foldN (ask1 c inp) k (st,ev)).2 V N C D∧Kp S Hb V0 w0 V wr)∧Below base w wr) (fun i _=>3 - (intOf i).toNat)
 case atStart=>exact⟨0,by omega,by go_num,HG0.out,by simp[foldN],⟨_,_,_,_,HM0.out,Kp.refl _ _ _ _⟩,HB0.out⟩
 case round=>
  obtain⟨k,hk,rfl,hg,hlen,⟨V,N,C,D,hm,hkp⟩,hbl⟩:=hrel;have hib:=((hkp _ HFR1.out).1).trans HI0.out;have hcb:=((hkp _ HFR.out).1).trans HC0.out;have HKP:=hid hkp;clear hkp;by_cases hlt:k<3
  ·have hlti:(k:Int)<3:=by omega
   obtain⟨x,hx⟩:∃x,x=foldN (ask1 c inp) k (st,ev):=⟨_,rfl⟩
   have HX1:=hid (show foldN (ask1 c inp) (k+1) (st,ev)=ask1 c inp k x by rw[hx];rfl);rw[←hx]at hg hlen hm;have hwl:=zA3 hib;obtain⟨i0,i1,i2⟩:wr.cell? ⟨w.heap.size+1,0,none⟩=some (.slice ra inp.ready.length rc)∧wr.cell? ⟨w.heap.size+1,1,none⟩=some (.slice ta inp.stall.length tc)∧wr.cell? ⟨w.heap.size+1,2,none⟩=some (.slice sa 3 sc):=by refine⟨?_,?_,?_⟩ <;> simp[World.cell?,hib]
   obtain⟨b0,b1,b2⟩:wr.cell? ⟨w.heap.size,0,none⟩=some (.slice ma mn mk)∧wr.cell? ⟨w.heap.size,1,none⟩=some (.slice (some ⟨lb,lo,none⟩) 4 lc)∧wr.cell? ⟨w.heap.size,2,none⟩=some (.slice (some ⟨pb,po', none⟩) 3 pc'):=by refine⟨?_,?_,?_⟩ <;> simp[World.cell?,hcb]
   have hpk:wr.cell? ⟨pb,po' + k,none⟩=some (.slice (Q k) (c.prog k).length (K k)):=(hbl.cell (p:=⟨pb,_,none⟩) (Nat.lt_of_lt_of_le hpb' hB)).trans (HPR.out k hlt);have HM:=hid hm;have HG:=hid hg;have HBL:=hid hbl;have HLEN:=hid hlen;have hS:=zA3 hm.bs;obtain⟨q0,q1,q2,q3,q4,qf⟩:=hm.box;obtain⟨pg,po,pc,hV2,hpc,hpc2,hpb,hpz⟩:=hm.ports;obtain⟨p0,p1,p2,p3,pf⟩:=hm.port hV2 hlt;have HV2:=hid hV2;rw[hV2]at q2;obtain⟨qa,qc,hqs,_,_⟩:=(hm.oQueue hlt).shape;rw[hqs]at p1;have HQS:=hid hqs;obtain⟨rb,ro,hra,hrb,hrc⟩:∃b off,sa=some ⟨b,off,none⟩∧b<B∧wr.cell? ⟨b,off+k,none⟩=some (.bool (inp.send.getD k false)):=by
    obtain⟨ao,cp,eo,_,_,_,_,ho⟩:=HR0.out.opened;obtain⟨b,off,rfl,hb,hc⟩:=ho (by rw[HL3.out];omega);simp only[Value.slice.injEq]at eo;exact⟨b,off,eo.1,hb,(hbl.cell (p:=⟨b,_,none⟩) (Nat.lt_of_lt_of_le hb hB)).trans (hc k (by rw[HL3.out];exact hlt))⟩
   obtain⟨snd,hsnd⟩:∃r,r=inp.send.getD k false:=⟨_,rfl⟩
   rw[←hsnd]at hrc;have HSND:=hid hsnd;have hnx:=(hg.p k hlt).nx;have hpl:=hbus.twelve hlt;have hq2:=(hg.p k hlt).q2;subst hra;clear hm hg hib hcb hbl hlen hx hV2 hqs hsnd HM0 HG0;by_cases hgo:snd=true∧(x.1.ports k).queue.length<2∧(x.1.ports k).next<(c.prog k).length
   ·obtain⟨rfl,hql,hnl⟩:=hgo;have hqli:((x.1.ports k).queue.length:Int)<2:=by omega
    have hnli:((x.1.ports k).next:Int)<((c.prog k).length:Int):=by omega
    have HYES:=hid (ask1_yes (c:=c) (inp:=inp) (who:=k) (x:=x) ⟨HSND.out.symm,hql,hnl⟩)
    go_upto_region 5 with fail
    go_quiet (fail)
    go_upto_region 6 with fail
    obtain⟨w1,hw1⟩:∃W,W=wr.drewN nq:=⟨_,rfl⟩
    rw[←hw1];have hbd:Below wr.heap.size wr w1:=by rw[hw1];exact Below.draws (Below.refl _ _) _
    have hbd0:Below base wr w1:=by rw[hw1];exact Below.draws (Below.refl _ _) _
    have HM1:=hid (HM.out.below hbd);have HM1d:=hid (HM.out.below hbd.drew);have HK1:=hid (HKP.out.trans (Kp.below (S:=S) (Hb:=Hb) (V:=V) hbd.drew));have HB1:=hid (HBL.out.trans hbd0.drew);obtain⟨p0,p1,p2,p3,pf⟩:=HM1.out.port HV2.out hlt;rw[HQS.out]at p1;have HOQ:=hid (HM1d.out.oQueue hlt);rw[HQS.out]at HOQ;have hpg1:pg<w1.drew.heap.size:=Nat.lt_of_lt_of_le hpz hbd.size;have hpne:∀κ,κ<20→κ≠2→(V κ).ownBlock≠some pg:=fun κ hκ hne e=>HM.out.raw.ap κ 2 hκ (by omega) hne pg e (by rw[HV2.out];rfl)
    have hpg1':pg<w1.heap.size:=hpg1;have hbw1:base≤w1.drew.heap.size:=Nat.le_trans hpb (Nat.le_of_lt hpg1);have hqne:some pg≠(Value.slice qa (x.1.ports k).queue.length qc).ownBlock:=by rw[←HQS.out];exact Ne.symm (hpne (5+k) (by omega) (by omega))
    clear hw1 hbd hbd0 q0 q1 q2 q3 q4 qf i0 i1 i2 b0 b1 b2 hrc hpk
    go_cut [] from 50 to 62 (fun wd=>∃v' N' C', CyM wd base S Hb L { x.1 with ports:=upd x.1.ports k { x.1.ports k with queue:=(x.1.ports k).queue++[(x.1.ports k).next] } } x.2 (upd V (5+k) v') N' C' D∧Kp S Hb V w1.drew (upd V (5+k) v') wd∧Below base w1.drew wd)
    case first=>
     go_region_law (first
      |(refine step_push3 elem_int rowN (fun _=>rfl) w1.drew rfl (.tmp 54) (.tmp 59) rfl base (.slice qa (x.1.ports k).queue.length qc) (x.1.ports k).queue (x.1.ports k).next (rowN_one _) (by rfl) HOQ.out _ (by rfl) _ _ (by rfl) (by first|rfl|(simp;done)) (by omega) (by omega) hbw1 ?_;intro v' w2 ho hb2 hk2 hv2;obtain⟨va,vc,hv', _,_⟩:=ho.shape;simp only[List.length_append,List.length_cons,List.length_nil,Nat.zero_add]at hv';subst hv';obtain⟨g0,g1⟩:=cell_of (hk2 pg hpg1 hqne) (po+k * 4+1);rw[show w1.drew.cell? ⟨pg,po+k * 4+1,none⟩=_ from p1]at g0;rw[show w1.drew.frozen? ⟨pg,po+k * 4+1,none⟩=_ from pf _]at g1;have HO:=hid ho;have HK:=hid hk2;have HW:=hid hv2;have HB2:=hid hb2;clear ho hb2 hk2 hv2))
     all_goals
      go_wp2_with fail
      obtain⟨N', C', hc1,hc2⟩:=HM1d.out.setQueue hlt HV2.out (fun b hb hne=>HK.out b hb (by rw[←HQS.out];exact Ne.symm hne)) HB2.out.size HO.out (fun q hq=>by rw[HQS.out];exact HW.out q hq);go_meet
      case rel=>exact⟨_,N', C', hc1,hc2,HB2.out.setCell (p:=⟨pg,_,none⟩) hpb _⟩
    case rest=>
     clear p0 p1 p2 p3 pf HM1 HM1d;obtain⟨w3,hw3⟩:∃W,W=wc:=⟨_,rfl⟩
     subst hw3;obtain⟨v4,N3,C3,hm3,hk3,hb3⟩:=hcut;have HK3:=hid (HK1.out.trans hk3);have HB3:=hid (HB1.out.trans hb3);have e2:upd V (5+k) v4 2=.slice (some ⟨pg,po,none⟩) 3 pc:=(zA0 _ _ (by omega)).trans HV2.out;have E2:=hid e2;obtain⟨p0,p1,p2,p3,pf⟩:=hm3.port e2 hlt;simp only[zA1]at p0;have HM3:=hid hm3;clear hm3 hk3 hb3 e2 p1 p2 p3 pf
     go_upto_region 8 with (first
      |(go_at_call 144;go_loud ((with_reducible refine(add_ask k (x.1.ports k).next HM3.out (by have:=HLEN.out;omega)).mono ?_);rintro e w4 ⟨rfl,v9,N4,C4,hm4,hb4,_,hk4⟩;have e2:upd (upd V (5+k) v4) 19 v9 2=.slice (some ⟨pg,po,none⟩) 3 pc:=((zA0 _ _ (by omega)).trans E2.out);have E4:=hid e2;obtain⟨p0,p1,p2,p3,pf⟩:=hm4.port e2 hlt;simp only[zA1]at p0;have HM4:=hid hm4;have HB4:=hid (HB3.out.trans hb4);have HK4:=hid (HK3.out.trans hk4);clear hm4 hb4 hk4 e2 p1 p2 p3)))
     have hnx12:((x.1.ports k).next:Int)≤12:=by omega
     go_wp2_with fail
     obtain⟨N5,C5,hm5,hk5⟩:=HM4.out.setNext hlt E4.out ((x.1.ports k).next+1);rw[show(((x.1.ports k).next+1:Nat):Int)=((x.1.ports k).next:Int)+1 from by omega]at hm5 hk5;have HST:=hid (hm5.congr (st':=(ask1 c inp k x).1) (ev':=(ask1 c inp k x).2) (by rw[HYES.out];simp only[askDo,upd_upd,zA1]) (by rw[HYES.out];rfl));have HK5:=hid (HK4.out.trans hk5);have HB5:=hid (HB4.out.setCell (p:=⟨pg,po+k * 4,none⟩) hpb (.int .i64 (((x.1.ports k).next:Int)+1)));clear hm5 hk5
     go_roundw
     case rel=>exact⟨k+1,by omega,by go_num,by rw[HX1.out];exact good_ask1 HG.out hlt,by rw[HX1.out];have:=ask1_len c inp k x;have:=HLEN.out;omega,by rw[HX1.out];exact⟨_,_,_,_,HST.out,HK5.out⟩,HB5.out⟩
     case measure=>simp[intOf];omega
   ·have HNO:=hid (ask1_no (c:=c) (inp:=inp) (who:=k) (x:=x) (by rw[←HSND.out];exact hgo));have hc3:snd=false∨(snd=true∧decide (((x.1.ports k).queue.length:Int)<2)=false)∨(snd=true∧((x.1.ports k).queue.length:Int)<2∧decide ((x.1.ports k).next<(c.prog k).length)=false):=by
     rcases snd with _|_
     ·exact .inl rfl
     ·right
      by_cases h1:(x.1.ports k).queue.length<2
      ·right
       refine⟨rfl,by omega,?_⟩;rw[decide_eq_false_iff_not];intro h2;exact hgo ⟨rfl,h1,h2⟩
      ·left
       refine⟨rfl,?_⟩;rw[decide_eq_false_iff_not];omega
    clear hgo;rcases hc3 with rfl|⟨rfl,h2⟩|⟨rfl,h2,h3⟩
    all_goals
     go_upto_region 5 with fail
     go_quiet (fail)
     go_wp2_with fail
     obtain⟨w1,hw1⟩:∃W,W=wr.drewN nq:=⟨_,rfl⟩
     have hbd:Below wr.heap.size wr w1:=by rw[hw1];exact Below.draws (Below.refl _ _) _
     have hbd0:Below base wr w1:=by rw[hw1];exact Below.draws (Below.refl _ _) _
     have HM1:=hid (HM.out.below hbd);have HK1:=hid (HKP.out.trans (Kp.below (S:=S) (Hb:=Hb) (V:=V) hbd));have HB1:=hid (HBL.out.trans hbd0);rw[hw1]at HM1 HK1 HB1;clear hw1 hbd hbd0
     go_roundw
     case rel=>exact⟨k+1,by omega,by go_num,by rw[HX1.out,HNO.out];exact HG.out,by rw[HX1.out,HNO.out];have:=HLEN.out;omega,by rw[HX1.out,HNO.out];exact⟨_,_,_,_,HM1.out,HK1.out⟩,HB1.out⟩
     case measure=>simp[intOf];omega
  ·obtain rfl:k=3:=by omega
   go_wp2_with fail
   exact bodyPost_end (v:=.tuple #[]) (by simp[results,Tryz.results93,go_sem]) rfl ⟨rfl,V,N,C,D,hm,HKB.out.trans HKP.out,hbl⟩
end Go.Proofs.YtgkdoehkmbhfiaaGreat
