/- slices.SortStableFunc of jobs; rising; none. -/
import Derived.Test.YtgkdoehkmbhfiaaGreatQDr7
import Derived.Test.YtgkdoehkmbhfiaaGreatQLib
import Derived.Test.YtgkdoehkmbhfiaaGreatQDr2
import Derived.Test.YtgkdoehkmbhfiaaGreatQFl
import Derived.Test.YtgkdoehkmbhfiaaGreatQRp0
set_option linter.unusedVariables false
set_option linter.unusedSimpArgs false
set_option maxHeartbeats 16000000
namespace Go.Proofs.YtgkdoehkmbhfiaaGreat
open Go.RowKit
def rowN (n:Nat):List Value:=[.int .i64 n]
def jbRow (j:Jb):List Value:=[.int .i64 j.who,.int .i64 j.n,.int .i64 j.left]
abbrev TJV:=TJ×Value
def tjRow (x:TJV):List Value:=[.int .i64 x.1.who,.int .i64 x.1.n,.int .i64 x.1.rsp.id,.int .i64 x.1.rsp.code,x.2]
def evRow (e:Ev):List Value:=[.int .i64 e.kind,.int .i64 e.who,.int .i64 e.n]
def ptRow (V:Nat→Value) (p:Pt) (i:Nat):List Value:=[.int .i64 p.next,V (5+i),V (8+i),.int .i64 p.last]
def svRow (V:Nat→Value) (v:Sv) (s:Nat):List Value:=[V (11+s),V (15+s),.int .i64 v.last]
structure Cont (st:Cy) (ev:List Ev) (V:Nat→Value) (N:Nat→Nat) (C:Nat→List Value) (D:Nat→List TJV):Prop where
 n0:N 0=st.ws.length
 c0:C 0=st.ws.flatMap rowI
 n1:N 1=st.hs.length
 c1:C 1=st.hs.flatMap rowI
 n2:N 2=3
 c2:C 2=ptRow V (st.ports 0) 0++ptRow V (st.ports 1) 1++ptRow V (st.ports 2) 2
 n3:N 3=4
 c3:C 3=svRow V (st.slaves 0) 0++svRow V (st.slaves 1) 1++svRow V (st.slaves 2) 2++svRow V (st.slaves 3) 3
 n4:N 4=st.told.length
 c4:C 4=(D 4).flatMap tjRow
 t4:(D 4).map (·.1)=st.told
 nq:∀i,i<3→N (5+i)=(st.ports i).queue.length
 cq:∀i,i<3→C (5+i)=(st.ports i).queue.flatMap rowN
 no:∀i,i<3→N (8+i)=(st.ports i).out.length
 co:∀i,i<3→C (8+i)=(st.ports i).out.flatMap jbRow
 np:∀s,s<4→N (11+s)=(st.slaves s).pipe.length
 cp:∀s,s<4→C (11+s)=(st.slaves s).pipe.flatMap jbRow
 nd:∀s,s<4→N (15+s)=(st.slaves s).done.length
 cd:∀s,s<4→C (15+s)=(D (15+s)).flatMap tjRow
 td:∀s,s<4→(D (15+s)).map (·.1)=(st.slaves s).done
 ne:N 19=ev.length
 ce:C 19=ev.flatMap evRow
def DFree (V:Nat→Value) (S Hb:Nat) (w:World) (b:Nat):Prop:=b<w.heap.size∧Free V b∧b≠S∧b≠Hb
def Clr (L:Nat→Value) (v:Value):Prop:=∀i,4≤i→∀b,(L i).ownBlock=some b→v.ownBlock≠some b
def DatP (L:Nat→Value) (w:World) (P:Nat→Prop) (x:TJV):Prop:=IntsD w P x.2 x.1.rsp.data∧(x.1.rsp.data≠[]→Clr L x.2)
theorem DatP.kept {L:Nat→Value} {w w':World} {P:Nat→Prop} {x:TJV} (h:DatP L w P x) (hk:Keeps P w w'):DatP L w' P x:=⟨h.1.kept hk,h.2⟩
theorem DatP.weak {L:Nat→Value} {w:World} {P Q:Nat→Prop} {x:TJV} (h:DatP L w P x) (hs:∀b,P b→Q b):DatP L w Q x:=⟨h.1.weak hs,h.2⟩
theorem DatP.put {L:Nat→Value} {w:World} {P:Nat→Prop} {x:TJV} (h:DatP L w P x) {s:Nat} (hs:s<4) (u:Value):DatP (upd L s u) w P x:=⟨h.1,fun hn i hi b hb=>h.2 hn i hi b (by rwa [zA0 _ _ (by omega)]at hb)⟩
structure CyM (w:World) (base S Hb:Nat) (L:Nat→Value) (st:Cy) (ev:List Ev) (V:Nat→Value) (N:Nat→Nat) (C:Nat→List Value) (D:Nat→List TJV):Prop where
 raw:Raw w base V N C
 con:Cont st ev V N C D
 bs:w.heap[S]? = some (.cells #[V 0,V 1,V 2,V 3,V 4] 39 (0,0))
 bh:w.heap[Hb]? = some (.cells #[V 19,L 0,L 1,L 2,L 3] 98 (0,0))
 fs:Free V S
 fh:Free V Hb
 ne:S≠Hb
 s0:base≤S
 h0:base≤Hb
 lx:∀i,4≤i→∀b,(L i).ownBlock=some b→b<w.heap.size
 dat:∀κ,κ<20→∀x∈D κ,DatP L w (DFree V S Hb w) x
theorem zA3 {w:World} {b:Nat} {o:Obj} (h:w.heap[b]? = some o):b<w.heap.size:=(Array.getElem?_eq_some_iff.1 h).1
theorem CyM.below {w w':World} {base S Hb:Nat} {L:Nat→Value} {st:Cy} {ev:List Ev} {V:Nat→Value} {N:Nat→Nat} {C:Nat→List Value} {D:Nat→List TJV} (h:CyM w base S Hb L st ev V N C D) (hb:Below w.heap.size w w'):CyM w' base S Hb L st ev V N C D :=
 ⟨h.raw.below hb,h.con,(hb.block S (zA3 h.bs)).trans h.bs,(hb.block Hb (zA3 h.bh)).trans h.bh,h.fs,h.fh,h.ne,h.s0,h.h0,fun i hi b hb2=>Nat.lt_of_lt_of_le (h.lx i hi b hb2) hb.size,fun κ hκ x hx=>((h.dat κ hκ x hx).kept fun b hb2=>hb.block b hb2.1).weak fun b hb2=>⟨Nat.lt_of_lt_of_le hb2.1 hb.size,hb2.2⟩⟩
theorem CyM.put {w w1 : World} {base S Hb : Nat} {L : Nat → Value} {st st' : Cy} {ev : List Ev} {V : Nat → Value} {N : Nat → Nat} {C : Nat → List Value} {D D' : Nat → List TJV} (h : CyM w base S Hb L st ev V N C D)
  {κ μ g off cap j n:Nat} {v:Value} {c:List Value} (hκ:5≤κ∧κ<19) (hμ:μ=2∨μ=3) (hV:V μ=.slice (some ⟨g,off,none⟩) (N μ) cap) (hj:j<N μ * esz μ)
  (hk:∀b,b<w.heap.size→(V κ).ownBlock≠some b→w1.heap[b]? = w.heap[b]?) (hsz:w.heap.size≤w1.heap.size) (ho:OwnR w1 base (ety κ) (esz κ) v n c) (hv:∀k,v.ownBlock=some k→(V κ).ownBlock=some k∨w.heap.size≤k)
  (hD:∀i,i≠κ→D' i=D i) (hd:∀x∈D' κ,DatP L w1 (DFree (upd V κ v) S Hb w1) x)
  (hc:Cont st' ev (upd V κ v) (upd N κ n) (upd (upd C κ c) μ ((C μ).set j v)) D') :
  CyM (w1.setCell ⟨g,off+j,none⟩ v) base S Hb L st' ev (upd V κ v) (upd N κ n) (upd (upd C κ c) μ ((C μ).set j v)) D':=by
 have hκ2:κ<20:=by omega
 have hμ2:μ<20:=by omega
 have hne:μ≠κ:=by omega
 have hgo:(V μ).ownBlock=some g:=by rw[hV];rfl
 have r1:=h.raw.chg hκ2 hk ho hv;have r2:=r1.set (κ:=μ) (g:=g) (off:=off) (cap:=cap) (j:=j) hμ2 (by rw[zA0 _ _ hne,zA0 _ _ hne];exact hV) (by rw[zA0 _ _ hne];exact hj) v;rw[zA0 C _ hne]at r2;have hgS:S≠g:=fun e=>h.fs μ hμ2 (by rw[hgo,e])
 have hgH:Hb≠g:=fun e=>h.fh μ hμ2 (by rw[hgo,e])
 have hset:∀b,b≠g→(w1.setCell ⟨g,off+j,none⟩ v).heap[b]? = w1.heap[b]?:=fun b hb=>Below.heap_setCell _ _ _ _ hb
 have hz:(w1.setCell ⟨g,off+j,none⟩ v).heap.size=w1.heap.size:=by simp
 have hS:=zA3 h.bs;have hH:=zA3 h.bh;have eV:∀i,i≠κ→upd V κ v i=V i:=fun i hi=>zA0 _ _ hi
 refine⟨r2,hc,?_,?_,h.fs.chg (w:=w) hS hv hκ2,h.fh.chg (w:=w) hH hv hκ2,h.ne,h.s0,h.h0,fun i hi b hb=>by rw[hz];exact Nat.lt_of_lt_of_le (h.lx i hi b hb) hsz,fun ν hν x hx=>?_⟩
 ·rw[hset S hgS,hk S hS (h.fs κ hκ2),h.bs,eV 0 (by omega),eV 1 (by omega),eV 2 (by omega),eV 3 (by omega),eV 4 (by omega)]
 ·rw[hset Hb hgH,hk Hb hH (h.fh κ hκ2),h.bh,eV 19 (by omega)]
 ·have hgn:∀b,DFree (upd V κ v) S Hb w1 b→b≠g:=fun b hb e=>hb.2.1 μ hμ2 (by rw[eV μ hne,hgo,e])
  have step:∀{x:TJV},DatP L w1 (DFree (upd V κ v) S Hb w1) x→DatP L (w1.setCell ⟨g,off+j,none⟩ v) (DFree (upd V κ v) S Hb (w1.setCell ⟨g,off+j,none⟩ v)) x:=fun hi=>
   (hi.kept fun b hb=>hset b (hgn b hb)).weak fun b hb=>⟨by rw[hz];exact hb.1,hb.2⟩
  by_cases e:ν=κ
  ·subst e;exact step (hd x hx)
  ·rw[hD ν e]at hx;exact step (((h.dat ν hν x hx).kept fun b hb=>hk b hb.1 (hb.2.1 κ hκ2)).weak fun b hb=>⟨Nat.lt_of_lt_of_le hb.1 hsz,hb.2.1.chg (w:=w) hb.1 hv hκ2,hb.2.2⟩)
theorem CyM.old {w w1 : World} {base S Hb : Nat} {L : Nat → Value} {st : Cy} {ev : List Ev} {V : Nat → Value} {N : Nat → Nat} {C : Nat → List Value} {D : Nat → List TJV} (h : CyM w base S Hb L st ev V N C D) {κ ν : Nat} {v : Value} {x : TJV} (hκ : κ < 20) (hν : ν < 20)
  (hk:∀b,b<w.heap.size→(V κ).ownBlock≠some b→w1.heap[b]? = w.heap[b]?) (hsz:w.heap.size≤w1.heap.size) (hv:∀k,v.ownBlock=some k→(V κ).ownBlock=some k∨w.heap.size≤k) (hx:x∈D ν):DatP L w1 (DFree (upd V κ v) S Hb w1) x :=
 ((h.dat ν hν x hx).kept fun b hb=>hk b hb.1 (hb.2.1 κ hκ)).weak fun b hb=>⟨Nat.lt_of_lt_of_le hb.1 hsz,hb.2.1.chg (w:=w) hb.1 hv hκ,hb.2.2⟩
theorem CyM.cell {w : World} {base S Hb : Nat} {L : Nat → Value} {st st' : Cy} {ev : List Ev} {V : Nat → Value} {N : Nat → Nat} {C : Nat → List Value} {D : Nat → List TJV} (h : CyM w base S Hb L st ev V N C D)
  {κ g off cap j:Nat} {u:Value} (hκ:κ<20) (hV:V κ=.slice (some ⟨g,off,none⟩) (N κ) cap) (hj:j<N κ * esz κ) (hc:Cont st' ev V N (upd C κ ((C κ).set j u)) D) :
  CyM (w.setCell ⟨g,off+j,none⟩ u) base S Hb L st' ev V N (upd C κ ((C κ).set j u)) D:=by
 have hgo:(V κ).ownBlock=some g:=by rw[hV];rfl
 have hset:∀b,b≠g→(w.setCell ⟨g,off+j,none⟩ u).heap[b]? = w.heap[b]?:=fun b hb=>Below.heap_setCell _ _ _ _ hb
 have hgS:S≠g:=fun e=>h.fs κ hκ (by rw[hgo,e])
 have hgH:Hb≠g:=fun e=>h.fh κ hκ (by rw[hgo,e])
 refine⟨h.raw.set hκ hV hj u,hc,(hset S hgS).trans h.bs,(hset Hb hgH).trans h.bh,h.fs,h.fh,h.ne,h.s0,h.h0,fun i hi b hb=>by simpa using h.lx i hi b hb,fun ν hν x hx=>?_⟩;exact((h.dat ν hν x hx).kept fun b hb=>hset b (fun e=>hb.2.1 κ hκ (by rw[hgo,e]))).weak fun b hb=>⟨by simpa using hb.1,hb.2⟩
theorem CyM.toldPut {w w1 : World} {base S Hb : Nat} {L : Nat → Value} {st st' : Cy} {ev : List Ev} {V : Nat → Value} {N : Nat → Nat} {C : Nat → List Value} {D D' : Nat → List TJV} (h : CyM w base S Hb L st ev V N C D)
  {n:Nat} {v:Value} {c:List Value} (hk:∀b,b<w.heap.size→(V 4).ownBlock≠some b→w1.heap[b]? = w.heap[b]?) (hsz:w.heap.size≤w1.heap.size) (ho:OwnR w1 base (ety 4) (esz 4) v n c) (hv:∀k,v.ownBlock=some k→(V 4).ownBlock=some k∨w.heap.size≤k)
  (hD:∀i,i≠4→D' i=D i) (hd:∀x∈D' 4,DatP L w1 (DFree (upd V 4 v) S Hb w1) x)
  (hc:Cont st' ev (upd V 4 v) (upd N 4 n) (upd C 4 c) D') :
  CyM (w1.setCell ⟨S,4,none⟩ v) base S Hb L st' ev (upd V 4 v) (upd N 4 n) (upd C 4 c) D':=by
 have r1:=h.raw.chg (κ:=4) (by omega) hk ho hv;have hset:∀b,b≠S→(w1.setCell ⟨S,4,none⟩ v).heap[b]? = w1.heap[b]?:=fun b hb=>Below.heap_setCell _ _ _ _ hb
 have hS:=zA3 h.bs;have hH:=zA3 h.bh;have f1:=h.fs.chg (w:=w) hS hv (κ:=4) (by omega);have f2:=h.fh.chg (w:=w) hH hv (κ:=4) (by omega);have eV:∀i,i≠4→upd V 4 v i=V i:=fun i hi=>zA0 _ _ hi
 refine⟨r1.kept fun b _ hb=>hset b (fun e=>hb (by rw[e];exact f1)),hc,?_,?_,f1,f2,h.ne,h.s0,h.h0,fun i hi b hb=>by simpa using Nat.lt_of_lt_of_le (h.lx i hi b hb) hsz,fun ν hν x hx=>?_⟩
 ·have hb1:=(hk S hS (h.fs 4 (by omega))).trans h.bs;rw[eV 0 (by omega),eV 1 (by omega),eV 2 (by omega),eV 3 (by omega),zA1];simp[World.setCell,Array.getElem?_modify,hb1]
 ·rw[hset Hb (Ne.symm h.ne),hk Hb hH (h.fh 4 (by omega)),h.bh,eV 19 (by omega)]
 ·have step:∀{x:TJV},DatP L w1 (DFree (upd V 4 v) S Hb w1) x→DatP L (w1.setCell ⟨S,4,none⟩ v) (DFree (upd V 4 v) S Hb (w1.setCell ⟨S,4,none⟩ v)) x:=fun hi=>
   (hi.kept fun b hb=>hset b hb.2.2.1).weak fun b hb=>⟨by simpa using hb.1,hb.2⟩
  by_cases e:ν=4
  ·subst e;exact step (hd x hx)
  ·rw[hD ν e]at hx;exact step (h.old (by omega) hν hk hsz hv hx)
theorem CyM.evPut {w w1 : World} {base S Hb : Nat} {L : Nat → Value} {st : Cy} {ev ev' : List Ev} {V : Nat → Value} {N : Nat → Nat} {C : Nat → List Value} {D : Nat → List TJV} (h : CyM w base S Hb L st ev V N C D)
  {n:Nat} {v:Value} {c:List Value} (hk:∀b,b<w.heap.size→(V 19).ownBlock≠some b→w1.heap[b]? = w.heap[b]?) (hsz:w.heap.size≤w1.heap.size) (ho:OwnR w1 base (ety 19) (esz 19) v n c) (hv:∀k,v.ownBlock=some k→(V 19).ownBlock=some k∨w.heap.size≤k)
  (hc:Cont st ev' (upd V 19 v) (upd N 19 n) (upd C 19 c) D) :
  CyM (w1.setCell ⟨Hb,0,none⟩ v) base S Hb L st ev' (upd V 19 v) (upd N 19 n) (upd C 19 c) D:=by
 have r1:=h.raw.chg (κ:=19) (by omega) hk ho hv;have hset:∀b,b≠Hb→(w1.setCell ⟨Hb,0,none⟩ v).heap[b]? = w1.heap[b]?:=fun b hb=>Below.heap_setCell _ _ _ _ hb
 have hS:=zA3 h.bs;have hH:=zA3 h.bh;have f1:=h.fs.chg (w:=w) hS hv (κ:=19) (by omega);have f2:=h.fh.chg (w:=w) hH hv (κ:=19) (by omega);have eV:∀i,i≠19→upd V 19 v i=V i:=fun i hi=>zA0 _ _ hi
 refine⟨r1.kept fun b _ hb=>hset b (fun e=>hb (by rw[e];exact f2)),hc,?_,?_,f1,f2,h.ne,h.s0,h.h0,fun i hi b hb=>by simpa using Nat.lt_of_lt_of_le (h.lx i hi b hb) hsz,fun ν hν x hx=>?_⟩
 ·rw[hset S h.ne,hk S hS (h.fs 19 (by omega)),h.bs,eV 0 (by omega),eV 1 (by omega),eV 2 (by omega),eV 3 (by omega),eV 4 (by omega)]
 ·have hb1:=(hk Hb hH (h.fh 19 (by omega))).trans h.bh;rw[zA1];simp[World.setCell,Array.getElem?_modify,hb1]
 ·exact((h.old (ν:=ν) (κ:=19) (by omega) hν hk hsz hv hx).kept fun b hb=>hset b hb.2.2.2).weak fun b hb=>⟨by simpa using hb.1,hb.2⟩
theorem CyM.letPut {w : World} {base S Hb : Nat} {L : Nat → Value} {st : Cy} {ev : List Ev} {V : Nat → Value} {N : Nat → Nat} {C : Nat → List Value} {D : Nat → List TJV} (h : CyM w base S Hb L st ev V N C D) {s : Nat} (hs : s < 4) (u : Value) :
  CyM (w.setCell ⟨Hb,1+s,none⟩ u) base S Hb (upd L s u) st ev V N C D:=by
 have hset:∀b,b≠Hb→(w.setCell ⟨Hb,1+s,none⟩ u).heap[b]? = w.heap[b]?:=fun b hb=>Below.heap_setCell _ _ _ _ hb
 refine⟨h.raw.kept fun b _ hb=>hset b (fun e=>hb (by rw[e];exact h.fh)),h.con,(hset S h.ne).trans h.bs,?_,h.fs,h.fh,h.ne,h.s0,h.h0,fun i hi b hb=>by rw[zA0 _ _ (by omega)]at hb;simpa using h.lx i hi b hb,fun ν hν x hx=>?_⟩
 ·have hb1:=h.bh;rcases(show s=0∨s=1∨s=2∨s=3 by omega)with rfl|rfl|rfl|rfl <;> simp[World.setCell,Array.getElem?_modify,hb1,upd]
 ·exact(((h.dat ν hν x hx).kept fun b hb=>hset b hb.2.2.2).weak fun b hb=>⟨by simpa using hb.1,hb.2⟩).put hs u
theorem CyM.atm {w w1 : World} {base S Hb : Nat} {L : Nat → Value} {st : Cy} {ev : List Ev} {V : Nat → Value} {N : Nat → Nat} {C : Nat → List Value} {D : Nat → List TJV} (h : CyM w base S Hb L st ev V N C D) {ws hs : List Int}
  (hk:∀b,b<w.heap.size→(V 0).ownBlock≠some b→(V 1).ownBlock≠some b→w1.heap[b]? = w.heap[b]?) (hsz:w.heap.size≤w1.heap.size) (h0:Owns w1 base 3 1 rowI (V 0) ws) (h1:Owns w1 base 3 1 rowI (V 1) hs) :
  CyM w1 base S Hb L { st with ws:=ws,hs:=hs } ev V (upd (upd N 0 ws.length) 1 hs.length) (upd (upd C 0 (ws.flatMap rowI)) 1 (hs.flatMap rowI)) D:=by
 have hS:=zA3 h.bs;have hH:=zA3 h.bh;refine⟨⟨fun κ hκ=>?_,h.raw.ap⟩,?_,(hk S hS (h.fs 0 (by omega)) (h.fs 1 (by omega))).trans h.bs,(hk Hb hH (h.fh 0 (by omega)) (h.fh 1 (by omega))).trans h.bh,h.fs,h.fh,h.ne,h.s0,h.h0,fun i hi b hb=>Nat.lt_of_lt_of_le (h.lx i hi b hb) hsz,fun ν hν x hx=>?_⟩
 ·by_cases e1:κ=1
  ·subst e1;simp only[zA1];exact h1
  ·by_cases e0:κ=0
   ·subst e0;simp only[zA1,zA0 _ _ (show(0:Nat)≠1 by omega)];exact h0
   ·simp only[zA0 _ _ e1,zA0 _ _ e0];exact(h.raw.own κ hκ).kept fun k hk2=>hk k (h.raw.lt hκ hk2).2 (fun hk3=>h.raw.ap κ 0 hκ (by omega) e0 k hk2 hk3) (fun hk3=>h.raw.ap κ 1 hκ (by omega) e1 k hk2 hk3)
 ·have c:=h.con;have u:∀{α:Type} {f:Nat→α} {a b:α} {i:Nat},2≤i→upd (upd f 0 a) 1 b i=f i:=fun hi=>by rw[zA0 _ _ (by omega),zA0 _ _ (by omega)]
  refine⟨by simp[upd],by simp[upd],by simp[upd],by simp[upd],by rw[u (by omega)];exact c.n2,by rw[u (by omega)];exact c.c2,by rw[u (by omega)];exact c.n3,by rw[u (by omega)];exact c.c3,by rw[u (by omega)];exact c.n4,by rw[u (by omega)];exact c.c4,c.t4,?_,?_,?_,?_,?_,?_,?_,?_,c.td,by rw[u (by omega)];exact c.ne,by rw[u (by omega)];exact c.ce⟩
  ·intro i hi;rw[u (by omega)];exact c.nq i hi
  ·intro i hi;rw[u (by omega)];exact c.cq i hi
  ·intro i hi;rw[u (by omega)];exact c.no i hi
  ·intro i hi;rw[u (by omega)];exact c.co i hi
  ·intro i hi;rw[u (by omega)];exact c.np i hi
  ·intro i hi;rw[u (by omega)];exact c.cp i hi
  ·intro i hi;rw[u (by omega)];exact c.nd i hi
  ·intro i hi;rw[u (by omega)];exact c.cd i hi
 ·exact((h.dat ν hν x hx).kept fun b hb=>hk b hb.1 (hb.2.1 0 (by omega)) (hb.2.1 1 (by omega))).weak fun b hb=>⟨Nat.lt_of_lt_of_le hb.1 hsz,hb.2⟩
theorem elem_TlmJob:Elem 37 65 5 56:=zF1 Tryz.underlying37 (z:=.agg #[.int .i64 0,.int .i64 0,.int .i64 0,.int .i64 0,.slice none 0 0]) (by kernel_rfl) rfl (by omega)
theorem sClone_TlmJob {α : Type} (f : α → List Value) (hf : ∀ x, (f x).length = 5) (h1 : ∀ x, ∀ u ∈ f x, u.oneCell' = true) (v : Value) (ys : List α) (B : Nat) (w : World) (ha : Arr w B 5 v (ys.map f)) (hlen : ys.length * 56 ≤ 140737488355328) :
  Calls Tryz.prog 169 #[v] w (zL0 f 65 5 ys w):=by
 have ha0:=hid ha;obtain⟨ao,cap,rfl,g1,g2,g0,g9,g3⟩:=ha;simp only[List.length_map]at g1 g2 g0 ⊢;clear g3;cases ao with
 |none=>
  obtain rfl:=g9 rfl;have hy:ys=[]:=by
   rcases ys with _|⟨y,ys⟩
   ·rfl
   ·simp at g1
  subst hy;have he:=fun w=>Lib.run_eql_slice_nil (P:=Tryz.prog) w 37 65 none 0 0 0 0 Tryz.underlying37
  go_enter Tryz.func169,Tryz.ntmps169
  go_wp2_with fail
  go_ret
  exact⟨_,rfl,Owns.zero,Below.refl _ _⟩
 |some ad=>
  have he:=fun w=>Lib.run_eql_slice_nil (P:=Tryz.prog) w 37 65 (some ad) ys.length cap 0 0 Tryz.underlying37
  clear g9
  go_enter Tryz.func169,Tryz.ntmps169
  go_wp2_with (at_builtin;go_must (refine zG2 elem_TlmJob f hf h1 _ rfl _ _ rfl w.heap.size _ [] (by rfl) (Owns.lit (Nat.le_refl _)) _ ys (min B w.heap.size) (by rfl) (by have:=(ha0.out).fit (by omega) (by intro r hr;obtain⟨y,_,rfl⟩:=List.mem_map.1 hr;exact hf y);simp only[List.length_map]at this;exact this.below ((Below.refl _ _).alloc (Nat.min_le_right _ _) _)) (by simpa using hlen) (by simp;omega) (by simp) ?_);intro v' w1 hown1 hb1 _)
  go_ret
  exact⟨v', rfl,by simpa using hown1,((Below.refl _ _).alloc (Nat.le_refl _) _).trans hb1⟩
theorem sClip_TlmJob (a:Option Addr) (n c:Nat) (w:World) (hc:n≤c) (hm:c≤9223372036854775807):Calls Tryz.prog 168 #[.slice a n c] w fun e w' => e=.returned (.slice a n n)∧w=w':=by
 go_enter Tryz.func168,Tryz.ntmps168
 go_wp2_with fail
 go_ret
 exact⟨rfl,rfl⟩
theorem clone_TlmJob {α : Type} (f : α → List Value) (hf : ∀ x, (f x).length = 5) (h1 : ∀ x, ∀ u ∈ f x, u.oneCell' = true) (v : Value) (ys : List α) (B : Nat) (w : World) (ha : Arr w B 5 v (ys.map f)) (hlen : ys.length * 56 ≤ 140737488355328) :
  Calls Tryz.prog 138 #[v] w (zL0 f 65 5 ys w):=by
 go_enter Tryz.func138,Tryz.ntmps138
 go_wp2_with fail
 refine(sClone_TlmJob f hf h1 v ys B w ha hlen).mono ?_;rintro e w1 ⟨u,rfl,hown,hb⟩;obtain⟨a,c,rfl,hc1,hc2⟩:=hown.shape
 go_wp2_with fail
 refine(sClip_TlmJob a ys.length c _ hc1 hc2).mono ?_;rintro e w2 ⟨rfl,rfl⟩
 go_wp2_with fail
 go_ret
 exact⟨_,rfl,hown.clip,hb⟩
abbrev TJA:=TJ×(Option Addr×Nat×Nat)
def toA (x:TJA):TJV:=(x.1,.slice x.2.1 x.2.2.1 x.2.2.2)
def rowA (x:TJA):List Value:=tjRow (toA x)
theorem zD8 (x:TJA):(rowA x).length=5:=rfl
theorem rowA_one (x:TJA):∀u∈rowA x,u.oneCell' = true:=by
 intro u hu;simp only[rowA,toA,tjRow,List.mem_cons,List.not_mem_nil,or_false]at hu;rcases hu with rfl|rfl|rfl|rfl|rfl <;> rfl
theorem exA : ∀ (D : List TJV), (∀ x ∈ D, ∃ a n c, x.2 = .slice a n c) → ∃ A : List TJA, A.map toA = D
 |[],_=>⟨[],rfl⟩
 |x::D,h=>by
  obtain⟨A,hA⟩:=exA D fun y hy=>h y (by simp[hy])
  obtain⟨a,n,c,e⟩:=h x (by simp);exact⟨(x.1,a,n,c)::A,by simp only[List.map_cons,hA,toA,←e]⟩
theorem owns_map {α β:Type} {w:World} {base e sz:Nat} {f:β→List Value} {g:α→β} {v:Value} {xs:List α} (h:Owns w base e sz (fun x=>f (g x)) v xs):Owns w base e sz f v (xs.map g):=by
 unfold Owns at h ⊢;rw[List.length_map,List.flatMap_map];exact h
def CjP (D:List TJV) (w:World) (e:Ending) (w':World):Prop :=
 ∃u D', e=.returned u∧Owns w' w.heap.size 65 5 tjRow u D' ∧ D'.map (·.1)=D.map (·.1)∧(∀x∈D', IntsD w' (fun b=>w.heap.size≤b∧b<w'.heap.size∧u.ownBlock≠some b) x.2 x.1.rsp.data)∧Below w.heap.size w w'
theorem zH3 (D : List TJV) (v : Value) (B : Nat) (w : World) (hv : Arr w B 5 v (D.map tjRow)) (hd : ∀ x ∈ D, Ints w B x.2 x.1.rsp.data) (hB : B ≤ w.heap.size) (hl : D.length ≤ 1000) (hdl : ∀ x ∈ D, x.1.rsp.data.length ≤ 1000) :
  Calls Tryz.prog 87 #[v] w (CjP D w):=by
 obtain⟨A,rfl⟩:=exA D fun x hx=>by obtain⟨ao,cap,e,_⟩:=(hd x hx).1;exact⟨_,_,_,e⟩
 rw[List.map_map]at hv;have HV:=hid hv;have HD:=hid hd;have HDL:=hid hdl;rw[List.length_map]at hl;clear hv hd hdl
 go_enter Tryz.func87,Tryz.ntmps87
 go_wp2_with fail
 refine(clone_TlmJob rowA zD8 rowA_one _ A B w HV.out (by omega)).mono ?_;rintro e w1 ⟨u,rfl,ho,hb⟩;obtain⟨ua,uc,rfl,huc,huc2⟩:=ho.shape;have HO:=hid ho;have HB:=hid hb;clear ho hb
 go_wp2_with fail
 go_loopw [10] (fun i wr=>∃k:Nat,k≤A.length∧i=.int .i64 k∧(∃A', A'.length=A.length∧Owns wr w.heap.size 65 5 rowA (.slice ua A.length uc) A' ∧ A'.map (·.1)=A.map (·.1)∧(∀j,j<k→∀x,A'[j]? = some x→IntsD wr (fun b=>w.heap.size≤b∧b<wr.heap.size∧(Value.slice ua A.length uc).ownBlock≠some b) (toA x).2 x.1.rsp.data)∧(∀j,k≤j→A'[j]? = A[j]?))∧Below w.heap.size w wr) (fun i _=>A.length - (intOf i).toNat)
 case atStart=>exact⟨0,by omega,rfl,⟨A,rfl,HO.out,rfl,fun j hj=>by omega,fun _ _=>rfl⟩,HB.out⟩
 case round=>
  obtain⟨k,hk,rfl,⟨A', hl', ho', hm', hn', hs'⟩,hbl⟩:=hrel;by_cases hlt:k<A.length
  ·have hlti:(k:Int)<(A.length:Int):=by omega
   obtain⟨g,off,cap,hvs,hcap,hcap2,hgb,hgz⟩:=OwnR.addr ho' (by omega);simp only[Value.slice.injEq]at hvs;obtain⟨rfl,hll,rfl⟩:=hvs;clear hll;obtain⟨x,hx⟩:∃x,A'[k]? = some x:=⟨A'[k]'(by omega),List.getElem?_eq_getElem _⟩
   have hgd:A'.getD k default=x:=by simp[List.getD,hx]
   have hc:∀i,i<5→wr.cell? ⟨g,off+k * 5+i,none⟩=(rowA x)[i]?:=fun i hi=>by rw[←hgd];exact Owns.cellAt ho' zD8 k i default (by omega) hi
   obtain⟨⟨wh,n,ri,rc,rd⟩,da,dn,dc⟩:=x;have c0:=hc 0 (by omega);have c1:=hc 1 (by omega);have c2:=hc 2 (by omega);have c3:=hc 3 (by omega);have c4:=hc 4 (by omega);simp only[rowA,toA,tjRow,List.getElem?_cons_zero,List.getElem?_cons_succ,Nat.add_zero]at c0 c1 c2 c3 c4;have hfz:=Owns.frozenAt ho';have hxm:((⟨wh,n,ri,rc,rd⟩,da,dn,dc):TJA)∈A:=List.mem_of_getElem? (by rw[←hs' k (by omega)];exact hx);have hxd:Ints w B (.slice da dn dc) rd:=HD.out _ (List.mem_map.2 ⟨_,hxm,rfl⟩);have hxl:rd.length≤1000:=HDL.out _ (List.mem_map.2 ⟨_,hxm,rfl⟩);have hsz:=ho'.1;have hbl2:Below w.heap.size w (wr.alloc (.cells #[.int .i64 (wh:Nat),.int .i64 (n:Nat),.int .i64 ri,.int .i64 rc,.slice da dn dc] 65)):=hbl.alloc hbl.size _;have hbl1:Below wr.heap.size wr (wr.alloc (.cells #[.int .i64 (wh:Nat),.int .i64 (n:Nat),.int .i64 ri,.int .i64 rc,.slice da dn dc] 65)):=(Below.refl _ _).alloc (Nat.le_refl _) _;have HL:=hid hl';have HO':=hid ho';have HM:=hid hm';have HN:=hid hn';have HS:=hid hs';have HBL:=hid hbl;have HX:=hid hx;have HFZ:=hid hfz;have HB2:=hid hbl2;have HB1:=hid hbl1;have HXD:=hid hxd;have HXL:=hid hxl;clear hl' ho' hm' hn' hs' hbl hx hgd hc hfz hbl2 hbl1 hxm hxd hsz
   go_upto_region 5 with fail
   obtain⟨w2,hw2⟩:∃W,W=wr.alloc (.cells #[.int .i64 (wh:Nat),.int .i64 (n:Nat),.int .i64 ri,.int .i64 rc,.slice da dn dc] 65):=⟨_,rfl⟩
   rw[←hw2]at HB2 HB1;rw[←hw2];have d4:w2.cell? ⟨wr.heap.size,4,none⟩=some (.slice da dn dc):=by rw[hw2,World.cell?_alloc_at _ _ _ _ rfl];rfl
   have hz2:w2.heap.size=wr.heap.size+1:=by rw[hw2];simp
   clear hw2 c0 c1 c2 c3 c4;have hfz2:w2.frozen? ⟨g,off+k * 5+4,none⟩=false:=(HB1.out.frozen (p:=⟨g,_,none⟩) hgz).trans (HFZ.out _);have c42:w2.cell? ⟨g,off+k * 5+4,none⟩=some (.slice da dn dc):=by
    rw[HB1.out.cell (p:=⟨g,_,none⟩) hgz];have:=Owns.cellAt HO'.out zD8 k 4 default (by rw[HL.out];exact hlt) (by omega);rw[this,show A'.getD k default=((⟨wh,n,ri,rc,rd⟩,da,dn,dc):TJA) by simp[List.getD,HX.out]];rfl
   have hg2:g<w2.heap.size:=by omega
   have HXA:=hid (show Arr w2 B 1 (.slice da dn dc) (rd.map rowI) from(HXD.out.below (HB2.out.mono hB)).1)
   go_wp2_with (first
    |(go_at_call 88;(with_reducible refine(zH4 rowI zE9 zH9 _ rd B w2 HXA.out (by omega)).mono ?_);rintro e w3 ⟨u2,rfl,ho2,hb2⟩;obtain⟨ba,bc,rfl,_,_⟩:=ho2.shape;have hfz3:=(hb2.frozen (p:=⟨g,off+k * 5+4,none⟩) hg2).trans hfz2;have c43:=(hb2.cell (p:=⟨g,off+k * 5+4,none⟩) hg2).trans c42;have HO2:=hid ho2;have HB3:=hid hb2;clear ho2 hb2))
   have hw:=HB1.out.trans (HB3.out.mono HB1.out.size);have hbw:Below w.heap.size w w3:=HB2.out.trans (HB3.out.mono HB2.out.size);have hsz3:=HB3.out.size;obtain⟨y,hy⟩:∃y:TJA,y=(⟨wh,n,ri,rc,rd⟩,ba,rd.length,bc):=⟨_,rfl⟩
   have ho4:=Owns.putRow (OwnR.kept HO'.out (fun b hb=>hw.block b (OwnR.lt HO'.out b hb).2)) zD8 k 4 default y (.slice ba rd.length bc) (by rw[HL.out];exact hlt) (by omega) (by rw[show A'.getD k default=((⟨wh,n,ri,rc,rd⟩,da,dn,dc):TJA) by simp[List.getD,HX.out],hy];rfl);have hset:∀b,b≠g→(w3.setCell ⟨g,off+k * 5+4,none⟩ (.slice ba rd.length bc)).heap[b]? = w3.heap[b]?:=fun b hb=>Below.heap_setCell _ _ _ _ hb
   have hz4:(w3.setCell ⟨g,off+k * 5+4,none⟩ (.slice ba rd.length bc)).heap.size=w3.heap.size:=by simp
   have hyd:IntsD (w3.setCell ⟨g,off+k * 5+4,none⟩ (.slice ba rd.length bc)) (fun b=>w.heap.size≤b∧b<(w3.setCell ⟨g,off+k * 5+4,none⟩ (.slice ba rd.length bc)).heap.size∧(Value.slice (some ⟨g,off,none⟩) A.length uc).ownBlock≠some b) (toA y).2 y.1.rsp.data:=by
    rw[hy];refine Owns.intsD (xs:=rd) (OwnR.kept HO2.out (fun b hb=>hset b (by have:=(OwnR.lt HO2.out b hb).1;omega))) (fun b hb=>?_) (by omega) HXD.out.2;have h1:=OwnR.lt HO2.out b hb;have h2:=HB2.out.size;refine⟨by omega,by rw[hz4];exact h1.2,?_⟩;simp only[Value.ownBlock,ne_eq,Option.some.injEq];omega
   go_roundw
   case rel=>
    refine⟨k+1,by omega,by go_num,⟨A'.set k y,by rw[List.length_set];exact HL.out,ho4,?_,fun j hj z hz=>?_,fun j hj=>?_⟩,hbw.setCell (p:=⟨g,_,none⟩) hgb _⟩
    ·rw[←HM.out];apply List.ext_getElem?;intro i;rw[List.getElem?_map,List.getElem?_map,List.getElem?_set]
     split
     ·rename_i e;subst e;rw[HX.out,if_pos (by rw[HL.out];exact hlt),hy];rfl
     ·rfl
    ·rw[List.getElem?_set]at hz
     split at hz
     ·rename_i e;subst e;rw[if_pos (by rw[HL.out];exact hlt)]at hz;obtain rfl:=Option.some.inj hz;exact hyd
     ·exact((HN.out j (by omega) z hz).kept fun b hb=>(hset b (fun e=>hb.2.2 (by rw[e];rfl))).trans (hw.block b hb.2.1)).weak fun b hb=>⟨hb.1,by rw[hz4];exact Nat.lt_of_lt_of_le hb.2.1 hw.size,hb.2.2⟩
    ·rw[List.getElem?_set,if_neg (by omega)];exact HS.out j (by omega)
   case measure=>simp[intOf];omega
  ·obtain rfl:k=A.length:=by omega
   have hkf:decide ((A.length:Int)<(A.length:Int))=false:=by simp
   go_wp2_with fail
   go_ret
   refine⟨_,A'.map toA,rfl,owns_map ho', by rw[List.map_map,List.map_map];exact hm', fun x hx=>?_,hbl⟩;obtain⟨y,hy,rfl⟩:=List.mem_map.1 hx;obtain⟨j,hj,e⟩:=List.getElem_of_mem hy;exact hn' j (by omega) y (by rw[List.getElem?_eq_getElem hj,e])
def aLt (x y:TJA):Bool:=kLt x.1 y.1
theorem ordA:Ord3 aLt (fun x y:TJA=>kLe x.1 y.1):=⟨fun a b=>ordK.t a.1 b.1,fun a b=>ordK.f a.1 b.1,fun a b c=>ordK.tr a.1 b.1 c.1⟩
theorem Owns.put5 {w : World} {base e g off n c : Nat} {xs : List TJA} (h : Owns w base e 5 rowA (.slice (some ⟨g, off, none⟩) n c) xs) (k : Nat) (hk : k < xs.length) (wh nn : Nat) (ri rc : Int) (rd : List Int) (da : Option Addr) (dn dc : Nat) :
  Owns (((((w.setCell ⟨g,off+k * 5,none⟩ (.int .i64 wh)).setCell ⟨g,off+k * 5+1,none⟩ (.int .i64 nn)).setCell ⟨g,off+k * 5+2,none⟩ (.int .i64 ri)).setCell ⟨g,off+k * 5+3,none⟩ (.int .i64 rc)).setCell ⟨g,off+k * 5+4,none⟩ (.slice da dn dc)) base e 5 rowA (.slice (some ⟨g,off,none⟩) n c) (xs.set k (⟨wh,nn,⟨ri,rc,rd⟩⟩,da,dn,dc)):=by
 obtain⟨x,hx⟩:∃x,x=xs.getD k default:=⟨_,rfl⟩
 have gd:∀(ys:List TJA) (y:TJA),k<ys.length→(ys.set k y).getD k default=y:=fun ys y h=>by simp[List.getD,h]
 have h1:=h.putRow zD8 k 0 default (⟨wh,x.1.n,x.1.rsp⟩,x.2) (.int .i64 wh) hk (by omega) (by rw[←hx];rfl);have h2:=h1.putRow zD8 k 1 default (⟨wh,nn,x.1.rsp⟩,x.2) (.int .i64 nn) (by simpa using hk) (by omega) (by rw[gd _ _ hk];rfl);have h3:=h2.putRow zD8 k 2 default (⟨wh,nn,⟨ri,x.1.rsp.code,rd⟩⟩,x.2) (.int .i64 ri) (by simpa using hk) (by omega) (by rw[gd _ _ (by simpa using hk)];rfl);have h4:=h3.putRow zD8 k 3 default (⟨wh,nn,⟨ri,rc,rd⟩⟩,x.2) (.int .i64 rc) (by simpa using hk) (by omega) (by rw[gd _ _ (by simpa using hk)];rfl);have h5:=h4.putRow zD8 k 4 default (⟨wh,nn,⟨ri,rc,rd⟩⟩,da,dn,dc) (.slice da dn dc) (by simpa using hk) (by omega) (by rw[gd _ _ (by simpa using hk)];rfl);simpa only[List.set_set,Nat.add_zero]using h5
theorem touch5 (s o:Nat) (w:World) (a b c d e:Value):Touch s w (((((w.setCell ⟨s,o,none⟩ a).setCell ⟨s,o+1,none⟩ b).setCell ⟨s,o+2,none⟩ c).setCell ⟨s,o+3,none⟩ d).setCell ⟨s,o+4,none⟩ e) :=
 ((((Touch.setCell _ _ _ _).trans (Touch.setCell _ _ _ _)).trans (Touch.setCell _ _ _ _)).trans (Touch.setCell _ _ _ _)).trans (Touch.setCell _ _ _ _)
def SortP (base g off cap:Nat) (A:List TJA) (w:World) (e:Ending) (w':World):Prop :=
 e=.returned (.tuple #[])∧Owns w' base 65 5 rowA (.slice (some ⟨g,off,none⟩) A.length cap) (zL5 aLt A)∧Touch g w w'
set_option maxRecDepth 4000 in
theorem insSort_any (base g off cap : Nat) (A : List TJA) (w : World) (ho : Owns w base 65 5 rowA (.slice (some ⟨g, off, none⟩) A.length cap) A) (hl : A.length ≤ 100) (hn : 0 < A.length) :
  Calls Tryz.prog 163 #[.slice (some ⟨g,off,none⟩) A.length cap,.int .i64 0,.int .i64 A.length,.func (.func 75) #[] #[]] w (SortP base g off cap A w):=by
 obtain⟨n,hnn⟩:∃n,n=A.length:=⟨_,rfl⟩
 have hK2:=zB3 (K:=75) Tryz.func75 (by kernel_rfl) (by kernel_rfl);rw[←hnn]at hl hn ho ⊢;have HNN:=hid hnn;have HO:=hid ho;have hcap:n≤cap∧cap≤9223372036854775807:=by
  obtain⟨a,c,e,h1,h2⟩:=OwnR.form (n:=A.length) (by rw[hnn]at ho;exact ho);simp only[Value.slice.injEq]at e;obtain⟨_,_,rfl⟩:=e;exact⟨by omega,h2⟩
 obtain⟨hc1,hc2⟩:=hcap;have hgz:=(OwnR.lt ho g rfl).2;have HGZ:=hid hgz;clear ho hnn hgz
 go_enter Tryz.func163,Tryz.ntmps163
 go_wp2_with fail
 go_loopw [8] (fun i wr=>∃k:Nat,k<n∧i=.int .i64 ((k:Int)+1)∧Owns wr base 65 5 rowA (.slice (some ⟨g,off,none⟩) n cap) (isort aLt k A)∧Touch g w wr) (fun i _=>n+1 - (intOf i).toNat)
 case atStart=>exact⟨0,hn,by go_num,HO.out,Touch.refl _ _⟩
 case round=>
  obtain⟨k,hk,rfl,ho,ht⟩:=hrel;have HO2:=hid ho;have HT:=hid ht;clear ho ht;by_cases hlt:k+1<n
  ·have hlti:(k:Int)+1<(n:Int):=by omega
   go_wp2_with fail
   obtain⟨w1,hw1⟩:∃W,W=wr:=⟨_,rfl⟩
   subst hw1
   go_loopw [9] (fun j wr=>∃m:Nat,m≤k+1∧j=.int .i64 (m:Int)∧(∃L:List TJA,L.length=n∧down aLt m L=isort aLt (k+1) A∧Owns wr base 65 5 rowA (.slice (some ⟨g,off,none⟩) n cap) L)∧Touch g w wr) (fun j _=>(intOf j).toNat)
   case atStart=>exact⟨k+1,Nat.le_refl _,by go_num,⟨isort aLt k A,by rw[isort_len];exact HNN.out.symm,rfl,HO2.out⟩,HT.out⟩
   case round=>
    clear HO2 HT;obtain⟨m,hm,rfl,⟨L,hL,hd,ho⟩,ht⟩:=hrel;have HL:=hid hL;have HD:=hid hd;have HO3:=hid ho;have HT3:=hid ht;clear hL hd ho ht;by_cases hm0:m=0
    ·subst hm0;have h0:decide ((0:Int)<((0:Nat):Int))=false:=by simp
     go_wp2_with fail
     go_region
     go_wp2_with fail
     go_roundw
     case rel=>exact⟨k+1,hlt,by go_num,by rw[←HD.out];exact HO3.out,HT3.out.drew⟩
     case measure=>simp[intOf];omega
    ·obtain⟨p,hmp⟩:∃p,m=p+1:=⟨m - 1,by omega⟩
     have ew:IntKind.i64.wrap ((m:Int) - 1)=(p:Int):=by rw[IntKind.wrap_i64];omega
     have hpn:m<n:=by omega
     have hL:=HL.out;have hx5:∀i,i<5→wr.cell? ⟨g,off+m * 5+i,none⟩=(rowA (L.getD m default))[i]?:=fun i hi=>Owns.cellAt HO3.out zD8 m i default (by omega) hi
     have hy5:∀i,i<5→wr.cell? ⟨g,off+p * 5+i,none⟩=(rowA (L.getD p default))[i]?:=fun i hi=>Owns.cellAt HO3.out zD8 p i default (by omega) hi
     obtain⟨x,hx⟩:∃x,x=L.getD m default:=⟨_,rfl⟩
     obtain⟨y,hy⟩:∃y,y=L.getD p default:=⟨_,rfl⟩
     rw[←hx]at hx5;rw[←hy]at hy5;have HX:=hid hx;have HY:=hid hy;clear hx hy;obtain⟨⟨xw,xn,xi,xc,xd⟩,xa,xl,xk⟩:=x;obtain⟨⟨yw,yn,yi,yc,yd⟩,ya,yl,yk⟩:=y;have x0:=hx5 0 (by omega);have x1:=hx5 1 (by omega);have x2:=hx5 2 (by omega);have x3:=hx5 3 (by omega);have x4:=hx5 4 (by omega);have y0:=hy5 0 (by omega);have y1:=hy5 1 (by omega);have y2:=hy5 2 (by omega);have y3:=hy5 3 (by omega);have y4:=hy5 4 (by omega);simp only[rowA,toA,tjRow,List.getElem?_cons_zero,List.getElem?_cons_succ,Nat.add_zero]at x0 x1 x2 x3 x4 y0 y1 y2 y3 y4;have hpi:(0:Int)<(m:Int):=by omega
     have hpi2:(m:Int)<(n:Int):=by omega
     have hpi3:(p:Int)<(n:Int):=by omega
     have hmp0:0<m:=by omega
     have hmpd:decide (0<m)=true:=by simpa using hmp0
     have HMP:=hid hmp;clear hmp;have hgz:g<wr.heap.size:=(OwnR.lt HO3.out g rfl).2;obtain⟨r,hr⟩:∃r,r=kcmp ⟨xw,xn,⟨xi,xc,xd⟩⟩ ⟨yw,yn,⟨yi,yc,yd⟩⟩:=⟨_,rfl⟩
     have HR:=hid hr;have HKL:=hid (kcmp_lt ⟨xw,xn,⟨xi,xc,xd⟩⟩ ⟨yw,yn,⟨yi,yc,yd⟩⟩);rw[←hr]at HKL;clear hr hx5 hy5 hL;obtain⟨wo,hwo⟩:∃W,W=wr:=⟨_,rfl⟩
     subst hwo
     go_upto_region 4 with fail
     go_cut [34] from 18 to 52 (fun u wd=>u=.bool (decide (r<0))∧Below wo.heap.size wo wd)
     case first=>
      go_region_held3 (fun w' => w'.cell? ⟨g, off + m * 5, none⟩ = some (.int .i64 (xw : Nat)) ∧ w'.cell? ⟨g, off + m * 5 + 1, none⟩ = some (.int .i64 (xn : Nat)) ∧ w'.cell? ⟨g, off + m * 5 + 2, none⟩ = some (.int .i64 xi) ∧ w'.cell? ⟨g, off + m * 5 + 3, none⟩ = some (.int .i64 xc) ∧ w'.cell? ⟨g, off + m * 5 + 4, none⟩ = some (.slice xa xl xk) ∧ w'.cell? ⟨g, off + p * 5, none⟩ = some (.int .i64 (yw : Nat)) ∧ w'.cell? ⟨g, off + p * 5 + 1, none⟩ = some (.int .i64 (yn : Nat)) ∧ w'.cell? ⟨g, off + p * 5 + 2, none⟩ = some (.int .i64 yi) ∧ w'.cell? ⟨g, off + p * 5 + 3, none⟩ = some (.int .i64 yc) ∧ w'.cell? ⟨g, off + p * 5 + 4, none⟩ = some (.slice ya yl yk))
       (first|exact s6|go_keep)
       (first
        |(go_at_call 75;(with_reducible refine(cmpJobs_any ⟨xw,xn,⟨xi,xc,xd⟩⟩ ⟨yw,yn,⟨yi,yc,yd⟩⟩ xa ya xl xk yl yk _).mono ?_);unfold CmpP;rw[←HR.out];rintro e w5 ⟨rfl,hb5⟩;have hb5':=(show Below wo.heap.size wo wo.drew from(Below.refl _ _).drew).trans hb5;have HB5:=hid hb5';have s6:w5.cell? ⟨g,off+m * 5,none⟩=some (.int .i64 (xw:Nat))∧w5.cell? ⟨g,off+m * 5+1,none⟩=some (.int .i64 (xn:Nat))∧w5.cell? ⟨g,off+m * 5+2,none⟩=some (.int .i64 xi)∧w5.cell? ⟨g,off+m * 5+3,none⟩=some (.int .i64 xc)∧w5.cell? ⟨g,off+m * 5+4,none⟩=some (.slice xa xl xk)∧w5.cell? ⟨g,off+p * 5,none⟩=some (.int .i64 (yw:Nat))∧w5.cell? ⟨g,off+p * 5+1,none⟩=some (.int .i64 (yn:Nat))∧w5.cell? ⟨g,off+p * 5+2,none⟩=some (.int .i64 yi)∧w5.cell? ⟨g,off+p * 5+3,none⟩=some (.int .i64 yc)∧w5.cell? ⟨g,off+p * 5+4,none⟩=some (.slice ya yl yk):=⟨(hb5'.cell (p:=⟨g,off+m * 5,none⟩) hgz).trans x0,(hb5'.cell (p:=⟨g,off+m * 5+1,none⟩) hgz).trans x1,(hb5'.cell (p:=⟨g,off+m * 5+2,none⟩) hgz).trans x2,(hb5'.cell (p:=⟨g,off+m * 5+3,none⟩) hgz).trans x3,(hb5'.cell (p:=⟨g,off+m * 5+4,none⟩) hgz).trans x4,(hb5'.cell (p:=⟨g,off+p * 5,none⟩) hgz).trans y0,(hb5'.cell (p:=⟨g,off+p * 5+1,none⟩) hgz).trans y1,(hb5'.cell (p:=⟨g,off+p * 5+2,none⟩) hgz).trans y2,(hb5'.cell (p:=⟨g,off+p * 5+3,none⟩) hgz).trans y3,(hb5'.cell (p:=⟨g,off+p * 5+4,none⟩) hgz).trans y4⟩))
      go_wp2_with fail
      go_meet
      case rel=>exact⟨rfl,HB5.out⟩
     case rest=>
      obtain⟨w5,hw5⟩:∃W,W=wc:=⟨_,rfl⟩
      subst hw5;obtain⟨rfl,hb5⟩:=hcut;have HB5:=hid hb5;have HO5:=hid (HO3.out.below hb5);have HT5:=hid (HT3.out.trans (Touch.of_below hb5 (Nat.le_refl _)));have hgz5:g<w5.heap.size:=Nat.lt_of_lt_of_le hgz hb5.size;rw[←hb5.cell (p:=⟨g,_,none⟩) hgz]at x0 x1 x2 x3 x4 y0 y1 y2 y3 y4;have hfz:=Owns.frozenAt HO5.out;have hgx:L.getD m default=(⟨xw,xn,⟨xi,xc,xd⟩⟩,xa,xl,xk):=HX.out.symm;have hgy:L.getD p default=(⟨yw,yn,⟨yi,yc,yd⟩⟩,ya,yl,yk):=HY.out.symm;have HGX:=hid hgx;have HGY:=hid hgy;clear hb5 hgx hgy;rcases hq:decide (r<0)with _|_
      ·have HST := hid (show down aLt m L = L by
        rw[HMP.out];refine down_stop aLt p L ?_;rw[←HMP.out,HGX.out,HGY.out];exact HKL.out.symm.trans hq)
       clear hq
       go_wp2_with fail
       go_roundw
       case rel=>exact⟨k+1,hlt,by go_num,by rw[←HD.out,HST.out];exact HO5.out,HT5.out⟩
       case measure=>simp[intOf];omega
      ·have HST := hid (show down aLt m L = down aLt p ((L.set m (⟨yw, yn, ⟨yi, yc, yd⟩⟩, ya, yl, yk)).set p (⟨xw, xn, ⟨xi, xc, xd⟩⟩, xa, xl, xk)) by
        have h1:=down_less aLt p L (by rw[←HMP.out,HGX.out,HGY.out];exact HKL.out.symm.trans hq);rw[←HMP.out,HGX.out,HGY.out]at h1;exact h1)
       clear hq
       go_upto_region 6 with fail
       have f0:=hfz (off+m * 5);have f1:=hfz (off+m * 5+1);have f2:=hfz (off+m * 5+2);have f3:=hfz (off+m * 5+3);have f4:=hfz (off+m * 5+4);have e0:=hfz (off+p * 5);have e1:=hfz (off+p * 5+1);have e2:=hfz (off+p * 5+2);have e3:=hfz (off+p * 5+3);have e4:=hfz (off+p * 5+4);have HO6:=hid (HO5.out.put5 m (by rw[HL.out];exact hpn) yw yn yi yc yd ya yl yk);have HT6:=hid (HT5.out.trans (touch5 g (off+m * 5) w5 (.int .i64 yw) (.int .i64 yn) (.int .i64 yi) (.int .i64 yc) (.slice ya yl yk)))
       have HG6 := hid (show (L.set m (⟨yw, yn, ⟨yi, yc, yd⟩⟩, ya, yl, yk)).getD p default = (⟨yw, yn, ⟨yi, yc, yd⟩⟩, ya, yl, yk) by
        have:m≠p:=by have:=HMP.out;omega
        rw[←HGY.out];simp[List.getD,List.getElem?_set,this])
       have HPL:=hid (show p<(L.set m (⟨yw,yn,⟨yi,yc,yd⟩⟩,ya,yl,yk)).length by rw[List.length_set,HL.out];have:=HMP.out;omega);have hy6:∀i,i<5→(((((w5.setCell ⟨g,off+m * 5,none⟩ (.int .i64 yw)).setCell ⟨g,off+m * 5+1,none⟩ (.int .i64 yn)).setCell ⟨g,off+m * 5+2,none⟩ (.int .i64 yi)).setCell ⟨g,off+m * 5+3,none⟩ (.int .i64 yc)).setCell ⟨g,off+m * 5+4,none⟩ (.slice ya yl yk)).cell? ⟨g,off+p * 5+i,none⟩=(rowA ((L.set m (⟨yw,yn,⟨yi,yc,yd⟩⟩,ya,yl,yk)).getD p default))[i]?:=fun i hi=>Owns.cellAt HO6.out zD8 p i default HPL.out hi
       rw[HG6.out]at hy6;have z0:=hy6 0 (by omega);have z1:=hy6 1 (by omega);have z2:=hy6 2 (by omega);have z3:=hy6 3 (by omega);have z4:=hy6 4 (by omega);simp only[rowA,toA,tjRow,List.getElem?_cons_zero,List.getElem?_cons_succ,Nat.add_zero]at z0 z1 z2 z3 z4;clear hfz hy6
       go_region
       have HO7:=hid (HO6.out.put5 p HPL.out xw xn xi xc xd xa xl xk);have HT7:=hid (HT6.out.trans (touch5 g (off+p * 5) _ (.int .i64 xw) (.int .i64 xn) (.int .i64 xi) (.int .i64 xc) (.slice xa xl xk)));clear x0 x1 x2 x3 x4 y0 y1 y2 y3 y4 z0 z1 z2 z3 z4 f0 f1 f2 f3 f4 e0 e1 e2 e3 e4;generalize hw7:(((((((((w5.setCell ⟨g,off+m * 5,none⟩ (.int .i64 yw)).setCell ⟨g,off+m * 5+1,none⟩ (.int .i64 yn)).setCell ⟨g,off+m * 5+2,none⟩ (.int .i64 yi)).setCell ⟨g,off+m * 5+3,none⟩ (.int .i64 yc)).setCell ⟨g,off+m * 5+4,none⟩ (.slice ya yl yk)).setCell ⟨g,off+p * 5,none⟩ (.int .i64 xw)).setCell ⟨g,off+p * 5+1,none⟩ (.int .i64 xn)).setCell ⟨g,off+p * 5+2,none⟩ (.int .i64 xi)).setCell ⟨g,off+p * 5+3,none⟩ (.int .i64 xc)).setCell ⟨g,off+p * 5+4,none⟩ (.slice xa xl xk)=w7 at HO7 HT7 ⊢;clear hw7
       go_wp2_with fail
       go_roundw
       case rel=>exact⟨p,by have:=HMP.out;omega,by go_num,⟨_,by rw[List.length_set,List.length_set];exact HL.out,by rw[←HST.out];exact HD.out,HO7.out.drewd⟩,HT7.out.drewd⟩
       case measure=>simp[intOf];have:=HMP.out;omega
  ·obtain rfl:k+1=n:=by omega
   go_wp2_with fail
   exact bodyPost_end (v:=.tuple #[]) (by simp[results,Tryz.results163,go_sem]) rfl ⟨rfl,by unfold zL5;rw[show A.length - 1=k by rw[←HNN.out];omega,←HNN.out];exact HO2.out,HT.out⟩
set_option maxRecDepth 4000 in
theorem insSort0_any (a : Option Addr) (c : Nat) (w : World) :
  Calls Tryz.prog 163 #[.slice a 0 c,.int .i64 0,.int .i64 0,.func (.func 75) #[] #[]] w fun e w' => e=.returned (.tuple #[])∧w=w':=by
 go_enter Tryz.func163,Tryz.ntmps163
 go_wp2_with fail
 refine wp_loop_rounds 1 ?_;rw[rounds_succ]
 go_wp2_with fail
 exact bodyPost_end (v:=.tuple #[]) (by simp[results,Tryz.results163,go_sem]) rfl ⟨rfl,rfl⟩
def StP (base:Nat) (v:Value) (A:List TJA) (w:World) (e:Ending) (w':World):Prop :=
 e=.returned (.tuple #[])∧Owns w' base 65 5 rowA v (zL5 aLt A)∧w.grownBy w' v.ownBlock
theorem insSortV_any {base : Nat} {v : Value} {A : List TJA} {w : World} (ho : Owns w base 65 5 rowA v A) (hl : A.length ≤ 100) :
  Calls Tryz.prog 163 #[v,.int .i64 0,.int .i64 A.length,.func (.func 75) #[] #[]] w (StP base v A w):=by
 rcases A with _|⟨x,A⟩
 ·obtain⟨a,c,rfl,_,_⟩:=ho.shape;refine(insSort0_any a c w).mono ?_;rintro e w' ⟨rfl,rfl⟩;exact⟨rfl,ho,rfl,rfl,rfl,Nat.le_refl _,fun _ _ _=>rfl⟩
 ·obtain⟨g,off,cap,rfl,_,_,_,_⟩:=OwnR.addr ho (by simp);refine(insSort_any base g off cap (x::A) w ho hl (by simp)).mono ?_;rintro e w' ⟨rfl,h2,ht⟩;exact⟨rfl,h2,ht.os,ht.tape,ht.output,ht.size,fun i hi hne=>ht.block i hi (fun e=>hne (by rw[e];rfl))⟩
set_option maxRecDepth 4000 in
theorem stable_any {base : Nat} {v : Value} {A : List TJA} {w : World} (ho : Owns w base 65 5 rowA v A) (hl : A.length ≤ 19) :
  Calls Tryz.prog 125 #[v,.int .i64 A.length,.func (.func 75) #[] #[]] w (StP base v A w):=by
 have HO:=hid ho;obtain⟨a,c,rfl,_,_⟩:=ho.shape;obtain⟨n,hn⟩:∃n,n=A.length:=⟨_,rfl⟩
 rw[←hn]at HO hl ⊢
 have HC := hid (show Calls Tryz.prog 163 #[.slice a n c, .int .i64 0, .int .i64 n, .func (.func 75) #[] #[]] w (StP base (.slice a n c) A w) by
  have:=insSortV_any (v:=.slice a n c) HO.out (by rw[←hn];omega);rw[←hn]at this;exact this)
 have h1:decide ((20:Int)≤(n:Int))=false:=by rw[decide_eq_false_iff_not];omega
 have h2:decide ((20:Int)<(n:Int))=false:=by rw[decide_eq_false_iff_not];omega
 have h1':decide (20≤n)=false:=by rw[decide_eq_false_iff_not];omega
 have h2':decide (20<n)=false:=by rw[decide_eq_false_iff_not];omega
 clear ho hn hl
 go_enter Tryz.func125,Tryz.ntmps125
 go_wp2_with fail
 refine wp_loop_rounds 1 ?_;rw[rounds_succ]
 go_wp2_with (go_at_call 163;refine(HC.out).mono ?_;rintro e w1 ⟨rfl,hs⟩;have HS:=hid hs;clear hs)
 refine wp_loop_rounds 1 ?_;rw[rounds_succ]
 go_wp2_with fail
 exact bodyPost_end (v:=.tuple #[]) (by simp[results,Tryz.results125,go_sem]) rfl ⟨rfl,HS.out⟩
theorem sortJobs_any {base : Nat} {v : Value} {A : List TJA} {w : World} (ho : Owns w base 65 5 rowA v A) (hl : A.length ≤ 19) :
  Calls Tryz.prog 74 #[v,.func (.func 75) #[] #[]] w (StP base v A w):=by
 have HC:=hid (stable_any ho hl);obtain⟨a,c,rfl,_,_⟩:=ho.shape;obtain⟨n,hn⟩:∃n,n=A.length:=⟨_,rfl⟩
 rw[←hn]at HC ⊢;clear ho hn hl
 go_enter Tryz.func74,Tryz.ntmps74
 go_wp2_with (go_at_call 125;refine(HC.out).mono ?_;rintro e w1 ⟨rfl,hs⟩;have HS:=hid hs;clear hs)
 exact bodyPost_end (v:=.tuple #[]) (by simp[results,Tryz.results74,go_sem]) rfl ⟨rfl,HS.out⟩
theorem none_any (a:Option Addr) (c:Nat) (w:World):Calls Tryz.prog 112 #[.agg #[.int .i64 0,.int .i64 0,.slice a 0 c]] w fun e w' => e=.returned (.bool true)∧Below w.heap.size w w':=by
 go_enter Tryz.func112,Tryz.ntmps112
 go_wp2_with fail
 go_ret
 exact⟨rfl,(Below.refl _ _).alloc (Nat.le_refl _) _⟩
def RisP (w:World) (e:Ending) (w':World):Prop:=e=.returned (.bool true)∧Below w.heap.size w w'
set_option maxRecDepth 4000 in
theorem rising_any (A : List TJA) (v : Value) (B : Nat) (w : World) (hv : Arr w B 5 v (A.map rowA)) (hB : B ≤ w.heap.size) (hl : A.length ≤ 1000) (hr : ∀ i, i + 1 < A.length → aLt (A.getD i default) (A.getD (i + 1) default) = true) :
  Calls Tryz.prog 111 #[v] w (RisP w):=by
 obtain⟨ao,cap,hva,h1,h2,h0,h9,h3⟩:=hv;simp only[List.length_map]at hva h1 h0 h3;subst hva;obtain⟨n,hn⟩:∃n,n=A.length:=⟨_,rfl⟩
 rw[←hn]at h1 h0 h3 hl ⊢;have HN:=hid hn;have HR:=hid hr;have HA:=hid h3;clear hr h3 hn
 go_enter Tryz.func111,Tryz.ntmps111
 go_wp2_with fail
 go_loopw [3] (fun i wr=>∃k:Nat,i=.int .i64 k∧1≤k∧Below w.heap.size w wr) (fun i _=>n - (intOf i).toNat)
 case atStart=>exact⟨1,by go_num,Nat.le_refl _,Below.refl _ _⟩
 case round=>
  obtain⟨k,rfl,hk1,hbl⟩:=hrel;have HBL:=hid hbl;by_cases hlt:k<n
  ·have hki:(k:Int)<(n:Int):=by omega
   obtain⟨p,hkp⟩:∃p,k=p+1:=⟨k - 1,by omega⟩
   have ew:IntKind.i64.wrap ((k:Int) - 1)=(p:Int):=by rw[IntKind.wrap_i64];omega
   have hpi:(p:Int)<(n:Int):=by omega
   obtain⟨g,off,rfl,hgB,hc⟩:=HA.out (by omega);have hlt2:k<A.length:=by rw[←HN.out];exact hlt
   have hgz:g<wr.heap.size:=Nat.lt_of_lt_of_le hgB (Nat.le_trans hB hbl.size);have cell:∀t,t<n→∀i,i<5→wr.cell? ⟨g,off+t * 5+i,none⟩=(rowA (A.getD t default))[i]?:=fun t ht i hi=>by
    rw[hbl.cell (p:=⟨g,_,none⟩) (Nat.lt_of_lt_of_le hgB hB),hc t ht i hi];simp[List.getD,show t<A.length by rw[←HN.out];exact ht]
   have hx5:=cell k hlt;have hy5:=cell p (by omega);have hlt3:=HR.out p (by omega);rw[←hkp]at hlt3;obtain⟨x,hx⟩:∃x,x=A.getD k default:=⟨_,rfl⟩
   obtain⟨y,hy⟩:∃y,y=A.getD p default:=⟨_,rfl⟩
   rw[←hx]at hx5 hlt3;rw[←hy]at hy5 hlt3;clear hx hy cell hc hbl;obtain⟨⟨xw,xn,xi,xc,xd⟩,xa,xl,xk⟩:=x;obtain⟨⟨yw,yn,yi,yc,yd⟩,ya,yl,yk⟩:=y;have x0:=hx5 0 (by omega);have x1:=hx5 1 (by omega);have x2:=hx5 2 (by omega);have x3:=hx5 3 (by omega);have x4:=hx5 4 (by omega);have y0:=hy5 0 (by omega);have y1:=hy5 1 (by omega);have y2:=hy5 2 (by omega);have y3:=hy5 3 (by omega);have y4:=hy5 4 (by omega);simp only[rowA,toA,tjRow,List.getElem?_cons_zero,List.getElem?_cons_succ,Nat.add_zero]at x0 x1 x2 x3 x4 y0 y1 y2 y3 y4;obtain⟨r,hr⟩:∃r,r=kcmp ⟨yw,yn,⟨yi,yc,yd⟩⟩ ⟨xw,xn,⟨xi,xc,xd⟩⟩:=⟨_,rfl⟩
   have hr0:decide ((0:Int)≤r)=false:=by rw[hr,kcmp_ge,show kLt ⟨yw,yn,⟨yi,yc,yd⟩⟩ ⟨xw,xn,⟨xi,xc,xd⟩⟩=true from hlt3];rfl
   have HRR:=hid hr;have HKP:=hid hkp;clear hr hx5 hy5 hlt3 hlt2 hkp;obtain⟨wo,hwo⟩:∃W,W=wr:=⟨_,rfl⟩
   subst hwo
   go_upto_region 4 with fail
   go_region_held3 (fun w' => w'.cell? ⟨g, off + k * 5, none⟩ = some (.int .i64 (xw : Nat)) ∧ w'.cell? ⟨g, off + k * 5 + 1, none⟩ = some (.int .i64 (xn : Nat)) ∧ w'.cell? ⟨g, off + k * 5 + 2, none⟩ = some (.int .i64 xi) ∧ w'.cell? ⟨g, off + k * 5 + 3, none⟩ = some (.int .i64 xc) ∧ w'.cell? ⟨g, off + k * 5 + 4, none⟩ = some (.slice xa xl xk) ∧ w'.cell? ⟨g, off + p * 5, none⟩ = some (.int .i64 (yw : Nat)) ∧ w'.cell? ⟨g, off + p * 5 + 1, none⟩ = some (.int .i64 (yn : Nat)) ∧ w'.cell? ⟨g, off + p * 5 + 2, none⟩ = some (.int .i64 yi) ∧ w'.cell? ⟨g, off + p * 5 + 3, none⟩ = some (.int .i64 yc) ∧ w'.cell? ⟨g, off + p * 5 + 4, none⟩ = some (.slice ya yl yk))
    (first|exact s6|go_keep)
    (first
     |(go_at_call 75;(with_reducible refine(cmpJobs_any ⟨yw,yn,⟨yi,yc,yd⟩⟩ ⟨xw,xn,⟨xi,xc,xd⟩⟩ ya xa yl yk xl xk _).mono ?_);unfold CmpP;rw[←HRR.out];rintro e w5 ⟨rfl,hb5⟩;have hb5':=(show Below wo.heap.size wo wo.drew from(Below.refl _ _).drew).trans hb5;have HB5:=hid hb5';have s6:w5.cell? ⟨g,off+k * 5,none⟩=some (.int .i64 (xw:Nat))∧w5.cell? ⟨g,off+k * 5+1,none⟩=some (.int .i64 (xn:Nat))∧w5.cell? ⟨g,off+k * 5+2,none⟩=some (.int .i64 xi)∧w5.cell? ⟨g,off+k * 5+3,none⟩=some (.int .i64 xc)∧w5.cell? ⟨g,off+k * 5+4,none⟩=some (.slice xa xl xk)∧w5.cell? ⟨g,off+p * 5,none⟩=some (.int .i64 (yw:Nat))∧w5.cell? ⟨g,off+p * 5+1,none⟩=some (.int .i64 (yn:Nat))∧w5.cell? ⟨g,off+p * 5+2,none⟩=some (.int .i64 yi)∧w5.cell? ⟨g,off+p * 5+3,none⟩=some (.int .i64 yc)∧w5.cell? ⟨g,off+p * 5+4,none⟩=some (.slice ya yl yk):=⟨(hb5'.cell (p:=⟨g,off+k * 5,none⟩) hgz).trans x0,(hb5'.cell (p:=⟨g,off+k * 5+1,none⟩) hgz).trans x1,(hb5'.cell (p:=⟨g,off+k * 5+2,none⟩) hgz).trans x2,(hb5'.cell (p:=⟨g,off+k * 5+3,none⟩) hgz).trans x3,(hb5'.cell (p:=⟨g,off+k * 5+4,none⟩) hgz).trans x4,(hb5'.cell (p:=⟨g,off+p * 5,none⟩) hgz).trans y0,(hb5'.cell (p:=⟨g,off+p * 5+1,none⟩) hgz).trans y1,(hb5'.cell (p:=⟨g,off+p * 5+2,none⟩) hgz).trans y2,(hb5'.cell (p:=⟨g,off+p * 5+3,none⟩) hgz).trans y3,(hb5'.cell (p:=⟨g,off+p * 5+4,none⟩) hgz).trans y4⟩))
   go_wp2_with fail
   go_roundw
   case rel=>exact⟨k+1,by go_num,by omega,HBL.out.trans (HB5.out.mono HBL.out.size)⟩
   case measure=>simp[intOf];omega
  ·have hki:decide ((k:Int)<(n:Int))=false:=by rw[decide_eq_false_iff_not];omega
   go_wp2_with fail
   go_ret
   exact⟨rfl,HBL.out⟩
end Go.Proofs.YtgkdoehkmbhfiaaGreat
