/- A cycle: may's test of a job whose id is another one: the guard strikes what is behind it (printed by wip/gen_my.py). -/
import Derived.Test.YtgkdoehkmbhfiaaGreatQCpy
import Derived.Test.YtgkdoehkmbhfiaaGreatQMc
import Derived.Test.YtgkdoehkmbhfiaaGreatQMq
import Derived.Test.YtgkdoehkmbhfiaaGreatQRp0
import Derived.Test.YtgkdoehkmbhfiaaGreatQDr7
import Derived.Test.YtgkdoehkmbhfiaaGreatQDl
import Derived.Test.YtgkdoehkmbhfiaaGreatQRu2
set_option linter.unusedVariables false
set_option linter.unusedSimpArgs false
set_option maxHeartbeats 16000000
namespace Go.Proofs.YtgkdoehkmbhfiaaGreat
open Go.RowKit
theorem loadVar_tlm (w:World) (g:Nat) (a b c d e f:Value) (h0:w.cell? ⟨g,0,none⟩=some a) (h1:w.cell? ⟨g,1,none⟩=some b) (h2:w.cell? ⟨g,2,none⟩=some c) (h3:w.cell? ⟨g,3,none⟩=some d) (h4:w.cell? ⟨g,4,none⟩=some e) (h5:w.cell? ⟨g,5,none⟩=some f):(loadVar 77 ⟨g,0,none⟩).run Tryz.prog w=.ok (.agg #[a,b,c,d,e,f]) w:=by
 simp[loadVar,go_sem,h0,h1,h2,h3,h4,h5]
theorem Rd.low {lo lo':Nat} {w:World} (h:lo' ≤ lo):∀b,Rd lo w b→Rd lo' w b:=fun _ hb=>⟨Nat.le_trans h hb.1,hb.2⟩
theorem JobsP.low {w:World} {lo lo':Nat} {u:Value} {js:List TJ} (h:JobsP w lo u js) (hl:lo' ≤ lo):JobsP w lo' u js:=let ⟨D,h1,h2,h3⟩:=h;⟨D,h1.weak (Rd.low hl),h2,fun x hx=>(h3 x hx).weak (Rd.low hl)⟩
def TlCP (ws hs:List Int) (ks:List Nat) (j3 j4 j5:List TJ) (w:World) (en:Ending) (w':World):Prop :=
 ∃y0 y1 y2 y3 y4 y5,en=.returned (.agg #[y0,y1,y2,y3,y4,y5])∧IntsD w' (Rd w.heap.size w') y0 ws∧IntsD w' (Rd w.heap.size w') y1 hs∧ArrD w' (Rd w.heap.size w') 1 y2 (ks.map rowN)∧JobsP w' w.heap.size y3 j3∧JobsP w' w.heap.size y4 j4∧JobsP w' w.heap.size y5 j5∧Below w.heap.size w w'
def ShortJ (js:List TJ):Prop:=js.length≤1000∧∀j∈js,j.rsp.data.length≤1000
theorem ShortJ.of {js:List TJ} {D:List TJV} (hs:ShortJ js) (e:D.map (·.1)=js):D.length≤1000∧∀x∈D,x.1.rsp.data.length≤1000:=⟨by have:=hs.1;rw[←e,List.length_map]at this;exact this,fun x hx=>hs.2 x.1 (by rw[←e];exact List.mem_map.2 ⟨x,hx,rfl⟩)⟩
set_option maxRecDepth 8000 in
theorem tlmCopy_any {w : World} {B : Nat} {v0 v1 v2 v3 v4 v5 : Value} {ws hs : List Int} {ks : List Nat} {j3 j4 j5 : List TJ} (h0 : Ints w B v0 ws) (h1 : Ints w B v1 hs) (h2 : Nats w B v2 ks) (h3 : JobsV w B v3 j3) (h4 : JobsV w B v4 j4) (h5 : JobsV w B v5 j5) (hB : B ≤ w.heap.size)
  (l0:ws.length≤1000) (l1:hs.length≤1000) (l2:ks.length≤1000) (l3:ShortJ j3) (l4:ShortJ j4) (l5:ShortJ j5) :
  Calls Tryz.prog 76 #[.agg #[v0,v1,v2,v3,v4,v5]] w (TlCP ws hs ks j3 j4 j5 w):=by
 have H0:=hid h0;have H1:=hid h1;obtain⟨a0,c0,rfl⟩:∃a c,v0=.slice a ws.length c:=by obtain⟨a,c,e,_⟩:=h0.1;exact⟨a,c,by simpa using e⟩
 obtain⟨a1,c1,rfl⟩:∃a c,v1=.slice a hs.length c:=by obtain⟨a,c,e,_⟩:=h1.1;exact⟨a,c,by simpa using e⟩
 obtain⟨a2,c2,rfl⟩:∃a c,v2=.slice a ks.length c:=by obtain⟨a,c,e,_⟩:=h2;exact⟨a,c,by simpa using e⟩
 have H2:=hid (show Arr w B 1 (.slice a2 ks.length c2) (ks.map rowN) from h2);obtain⟨D3,k3,e3,i3⟩:=h3;obtain⟨D4,k4,e4,i4⟩:=h4;obtain⟨D5,k5,e5,i5⟩:=h5;obtain⟨a3,n3,c3,rfl⟩:∃a n c,v3=.slice a n c:=by obtain⟨a,c,e,_⟩:=k3;exact⟨a,_,c,e⟩
 obtain⟨a4,n4,c4,rfl⟩:∃a n c,v4=.slice a n c:=by obtain⟨a,c,e,_⟩:=k4;exact⟨a,_,c,e⟩
 obtain⟨a5,n5,c5,rfl⟩:∃a n c,v5=.slice a n c:=by obtain⟨a,c,e,_⟩:=k5;exact⟨a,_,c,e⟩
 have L3:=hid (l3.of e3);have L4:=hid (l4.of e4);have L5:=hid (l5.of e5);have K3:=hid k3;have K4:=hid k4;have K5:=hid k5;have I3:=hid i3;have I4:=hid i4;have I5:=hid i5;have E3:=hid e3;have E4:=hid e4;have E5:=hid e5;clear h0 h1 h2 k3 k4 k5 i3 i4 i5 e3 e4 e5 l3 l4 l5;obtain⟨W2,hW2⟩:∃W2,W2=(w.alloc (.cells #[.slice a0 ws.length c0,.slice a1 hs.length c1,.slice a2 ks.length c2,.slice a3 n3 c3,.slice a4 n4 c4,.slice a5 n5 c5] 77)).alloc (.cells #[.slice none 0 0,.slice none 0 0,.slice none 0 0,.slice none 0 0,.slice none 0 0,.slice none 0 0] 77):=⟨_,rfl⟩
 have HW2:=hid (show Below w.heap.size w W2 by rw[hW2];exact(bx1 _ _).alloc (by simp) _);have HS:=hid (show Bx W2 w.heap.size [.slice a0 ws.length c0,.slice a1 hs.length c1,.slice a2 ks.length c2,.slice a3 n3 c3,.slice a4 n4 c4,.slice a5 n5 c5] by rw[hW2];exact(Bx.new w #[.slice a0 ws.length c0,.slice a1 hs.length c1,.slice a2 ks.length c2,.slice a3 n3 c3,.slice a4 n4 c4,.slice a5 n5 c5] _ (by simp)).below (bx1 _ _) (by simp));have HR:=hid (show Bx W2 (w.heap.size+1) [vnil,vnil,vnil,vnil,vnil,vnil] by rw[hW2];have:=Bx.new (w.alloc (.cells #[.slice a0 ws.length c0,.slice a1 hs.length c1,.slice a2 ks.length c2,.slice a3 n3 c3,.slice a4 n4 c4,.slice a5 n5 c5] 77)) #[vnil,vnil,vnil,vnil,vnil,vnil] 77 (by simp);simpa using this);have HZ:=hid (show W2.heap.size=w.heap.size+2 by rw[hW2];simp);have HBL:=hid (HW2.out.mono hB)
 go_enter Tryz.func76,Tryz.ntmps76
 go_upto_region 1 with fail
 rw[←hW2];clear hW2;refine tm_region _ _ _ _ _ _ _ _ _ _ _ _ _ _ _ _ _ w.heap.size (w.heap.size+1) B _ _ _ _ _ _ ws hs ks j3 j4 j5 D3 D4 D5 W2 HS.out HR.out (by omega) (by have:=HZ.out;omega) (by omega) (H0.out.below HBL.out) (H1.out.below HBL.out) (H2.out.below HBL.out) (K3.out.below HBL.out) E3.out (fun x hx=>(I3.out x hx).below HBL.out) L3.out (K4.out.below HBL.out) E4.out (fun x hx=>(I4.out x hx).below HBL.out) L4.out (K5.out.below HBL.out) E5.out (fun x hx=>(I5.out x hx).below HBL.out) L5.out (by omega) (by omega) l2 ?_;intro _ _ _ _ _ _ _ _ _ _ _ _ _ _ _ _ wz hP;obtain⟨b0,b1,b2,b3,b4,b5,hBx,o0,o1,o2,o3,o4,o5,ht⟩:=hP;have hz:=HZ.out;obtain⟨⟨r0,r1,r2,r3,r4,r5⟩,_⟩:=hBx.six;have OUT:=hid (show TlCP ws hs ks j3 j4 j5 w (.returned (.agg #[b0,b1,b2,b3,b4,b5])) wz from⟨b0,b1,b2,b3,b4,b5,rfl,o0.weak (Rd.low HW2.out.size),o1.weak (Rd.low HW2.out.size),o2.weak (Rd.low HW2.out.size),o3.low HW2.out.size,o4.low HW2.out.size,o5.low HW2.out.size,HW2.out.trans (ht.below (by omega) (by omega))⟩);clear o0 o1 o2 o3 o4 o5 ht hBx;unfold tmA
 go_wp2_with fail
 exact bodyPost_ret (zB0 Tryz.results76 _ _ ⟨w.heap.size+1,0,none⟩ (.agg #[b0,b1,b2,b3,b4,b5]) rfl (loadVar_tlm _ _ _ _ _ _ _ _ r0 r1 r2 r3 r4 r5)) rfl OUT.out
def noRsp:Rs:=⟨0,0,[]⟩
def qW (st:Cy) (i:Nat):List TJ:=(st.ports i).queue.map fun n=>⟨i,n,noRsp⟩
def pW (st:Cy) (s:Nat):List TJ:=(st.slaves s).pipe.map fun j=>⟨j.who,j.n,noRsp⟩
def qWs (st:Cy) (k:Nat):List TJ:=(List.range k).flatMap (qW st)
def pWs (st:Cy) (k:Nat):List TJ:=(List.range k).flatMap (pW st)
def dWs (st:Cy) (k:Nat):List TJ:=(List.range k).flatMap fun s=>(st.slaves s).done
def nexts (st:Cy) (k:Nat):List Nat:=(List.range k).map fun i=>(st.ports i).next
theorem zE1 {α:Type} (f:Nat→List α) (k:Nat):(List.range (k+1)).flatMap f=(List.range k).flatMap f++f k:=by rw[List.range_succ,List.flatMap_append];simp
theorem qWs_succ (st:Cy) (k:Nat):qWs st (k+1)=qWs st k++qW st k:=zE1 _ _
theorem pWs_succ (st:Cy) (k:Nat):pWs st (k+1)=pWs st k++pW st k:=zE1 _ _
theorem dWs_succ (st:Cy) (k:Nat):dWs st (k+1)=dWs st k++(st.slaves k).done:=zE1 _ _
theorem nexts_succ (st:Cy) (k:Nat):nexts st (k+1)=nexts st k++[(st.ports k).next]:=by unfold nexts;rw[List.range_succ];simp
def waits (st:Cy):List TJ:=qWs st 3++pWs st 4
def dones (st:Cy):List TJ:=dWs st 4
theorem waits_keys (st:Cy):(waits st).map kOf=kWait st:=by
 simp[waits,qWs,pWs,kWait,kQ,kP,qW,pW,List.range_succ,kOf,Function.comp_def]
theorem dones_keys (st:Cy):(dones st).map kOf=kDone st:=by
 simp[dones,dWs,kDone,kD,List.range_succ]
 rfl
theorem waits_none (st:Cy):∀j∈waits st,j.rsp=noRsp:=by
 intro j hj;simp only[waits,qWs,pWs,qW,pW,List.mem_append,List.mem_flatMap,List.mem_map]at hj;rcases hj with⟨_,_,_,_,rfl⟩|⟨_,_,_,_,rfl⟩ <;> rfl
theorem dones_mem {st:Cy} {j:TJ} (hj:j∈dones st):∃s,s<4∧j∈(st.slaves s).done:=by
 simp only[dones,dWs,List.mem_flatMap,List.mem_range]at hj;exact hj
theorem zN0 {α : Type} (f : Nat → List α) (b : Nat) : ∀ k, (∀ i, i < k → (f i).length ≤ b) → ((List.range k).flatMap f).length ≤ k * b
 |0,_=>by simp
 |k+1,h=>by
  rw[zE1,List.length_append,Nat.add_mul,Nat.one_mul];have:=zN0 f b k fun i hi=>h i (by omega)
  have:=h k (by omega);omega
theorem qWs_len {c:Cfg} {st:Cy} (hg:Good c st) {k:Nat} (hk:k≤3):(qWs st k).length≤6:=by
 have:=zN0 (qW st) 2 k fun i hi=>by rw[qW,List.length_map];exact(hg.p i (by omega)).q2
 unfold qWs;omega
theorem pWs_len {c:Cfg} {st:Cy} (hg:Good c st) {k:Nat} (hk:k≤4):(pWs st k).length≤8:=by
 have:=zN0 (pW st) 2 k fun i hi=>by rw[pW,List.length_map];exact(hg.s i (by omega)).p2
 unfold pWs;omega
theorem dWs_len {c:Cfg} {st:Cy} (hg:Good c st) {k:Nat} (hk:k≤4):(dWs st k).length≤8:=by
 have:=zN0 (fun s=>(st.slaves s).done) 2 k fun i hi=>(hg.s i (by omega)).d2
 unfold dWs;omega
def rowW (x:TJ):TJA:=(x,none,0,0)
structure AbM (w2 w:World) (gX:Nat) (a0 a1 a4 va vw vd:Value) (ks:List Nat) (W D:List TJA):Prop where
 box:w.heap[gX]? = some (.cells #[a0,a1,va,vw,vd,a4] 77 (0,0))
 oa:Owns w (gX+1) 3 1 rowN va ks
 ow:Owns w (gX+1) 65 5 rowA vw W
 od:Owns w (gX+1) 65 5 rowA vd D
 ap:Apart vw vd
 bl:Below gX w2 w
theorem AbM.cells {w2 w:World} {gX:Nat} {a0 a1 a4 va vw vd:Value} {ks:List Nat} {W D:List TJA} (h:AbM w2 w gX a0 a1 a4 va vw vd ks W D):(w.cell? ⟨gX,0,none⟩=some a0∧w.cell? ⟨gX,1,none⟩=some a1∧w.cell? ⟨gX,2,none⟩=some va∧w.cell? ⟨gX,3,none⟩=some vw∧w.cell? ⟨gX,4,none⟩=some vd∧w.cell? ⟨gX,5,none⟩=some a4)∧(∀o,w.frozen? ⟨gX,o,none⟩=false)∧gX<w.heap.size:=by
 have:=h.box;exact⟨⟨by simp[World.cell?,this],by simp[World.cell?,this],by simp[World.cell?,this],by simp[World.cell?,this],by simp[World.cell?,this],by simp[World.cell?,this]⟩,fun o=>by simp[World.frozen?,this],zA3 this⟩
theorem AbM.below {w2 w w':World} {gX:Nat} {a0 a1 a4 va vw vd:Value} {ks:List Nat} {W D:List TJA} (h:AbM w2 w gX a0 a1 a4 va vw vd ks W D) (hb:Below w.heap.size w w'):AbM w2 w' gX a0 a1 a4 va vw vd ks W D :=
 ⟨(hb.block gX h.cells.2.2).trans h.box,h.oa.below hb,h.ow.below hb,h.od.below hb,h.ap,h.bl.trans (hb.mono (Nat.le_of_lt h.cells.2.2))⟩
def OneB (v:Value) (v':Value) (w w':World):Prop:=w.heap.size≤w'.heap.size∧(∀b,b<w.heap.size→v.ownBlock≠some b→w'.heap[b]? = w.heap[b]?)∧(∀k,v'.ownBlock=some k→v.ownBlock=some k∨w.heap.size≤k)
theorem Owns.oneB {α:Type} {f:α→List Value} {w w':World} {base e sz:Nat} {v v' u:Value} {xs:List α} (h:Owns w base e sz f u xs) (ho:OneB v v' w w') (ha:Apart u v):Owns w' base e sz f u xs :=
 OwnR.kept h fun k hk=>ho.2.1 k (OwnR.lt h k hk).2 fun e=>ha k hk e
theorem oneB_apart {α:Type} {f:α→List Value} {w w':World} {base e sz:Nat} {v v' u:Value} {xs:List α} (h:Owns w base e sz f u xs) (ho:OneB v v' w w') (ha:Apart u v):Apart u v':=fun k hk hk' => by
 rcases ho.2.2 k hk' with h1|h1
 ·exact ha k hk h1
 ·have:=(OwnR.lt h k hk).2;omega
theorem apartT' {α β:Type} {f:α→List Value} {f2:β→List Value} {w:World} {base base2 e e2 sz sz2:Nat} {v u:Value} {xs:List α} {ys:List β} (h:Owns w base e sz f v xs) (h2:Owns w base2 e2 sz2 f2 u ys) (hT:e≠e2):Apart v u:=by
 intro k hk hu;obtain⟨_,h1⟩:=h;obtain⟨_,h3⟩:=h2;rcases h1 with⟨rfl,_⟩|⟨g,off,cap,cur,rfl,_,hh,_⟩
 ·simp[Value.ownBlock]at hk
 rcases h3 with⟨rfl,_⟩|⟨g2,off2,cap2,cur2,rfl,_,hh2,_⟩
 ·simp[Value.ownBlock]at hu
 simp[Value.ownBlock]at hk hu;subst hk hu;rw[hh]at hh2;simp only[Option.some.injEq,Obj.cells.injEq]at hh2;exact hT hh2.2.1
theorem AbM.gap {α:Type} {f:α→List Value} {w:World} {gX e sz:Nat} {v:Value} {xs:List α} (h:Owns w (gX+1) e sz f v xs):v.ownBlock≠some gX:=fun hk=>by have:=(OwnR.lt h gX hk).1;omega
theorem AbM.setA {w2 w w1:World} {gX:Nat} {a0 a1 a4 va vw vd va':Value} {ks ks':List Nat} {W D:List TJA} (h:AbM w2 w gX a0 a1 a4 va vw vd ks W D) (ho:Owns w1 (gX+1) 3 1 rowN va' ks') (h1:OneB va va' w w1) (hb:Below (gX+1) w w1):AbM w2 (w1.setCell ⟨gX,2,none⟩ va') gX a0 a1 a4 va' vw vd ks' W D:=by
 have hx:=(h1.2.1 gX h.cells.2.2 (AbM.gap h.oa)).trans h.box;have hw:Apart vw va:=apartT' h.ow h.oa (by decide);have hd:Apart vd va:=apartT' h.od h.oa (by decide);exact⟨by simp[World.setCell,Array.getElem?_modify,hx],Owns.set' ho _ _ _ (fun k hk=>by have:=(OwnR.lt ho k hk).1;omega),Owns.set' (h.ow.oneB h1 hw) _ _ _ (fun k hk=>by have:=(OwnR.lt h.ow k hk).1;omega),Owns.set' (h.od.oneB h1 hd) _ _ _ (fun k hk=>by have:=(OwnR.lt h.od k hk).1;omega),h.ap,(h.bl.trans (hb.mono (Nat.le_succ _))).setCell (p:=⟨gX,_,none⟩) (Nat.le_refl _) _⟩
theorem AbM.setW {w2 w w1:World} {gX:Nat} {a0 a1 a4 va vw vd vw':Value} {ks:List Nat} {W W' D:List TJA} (h:AbM w2 w gX a0 a1 a4 va vw vd ks W D) (ho:Owns w1 (gX+1) 65 5 rowA vw' W') (h1:OneB vw vw' w w1) (hb:Below (gX+1) w w1):AbM w2 (w1.setCell ⟨gX,3,none⟩ vw') gX a0 a1 a4 va vw' vd ks W' D:=by
 have hx:=(h1.2.1 gX h.cells.2.2 (AbM.gap h.ow)).trans h.box;have ha:Apart va vw:=apartT' h.oa h.ow (by decide);exact⟨by simp[World.setCell,Array.getElem?_modify,hx],Owns.set' (h.oa.oneB h1 ha) _ _ _ (fun k hk=>by have:=(OwnR.lt h.oa k hk).1;omega),Owns.set' ho _ _ _ (fun k hk=>by have:=(OwnR.lt ho k hk).1;omega),Owns.set' (h.od.oneB h1 h.ap.symm) _ _ _ (fun k hk=>by have:=(OwnR.lt h.od k hk).1;omega),(oneB_apart h.od h1 h.ap.symm).symm,(h.bl.trans (hb.mono (Nat.le_succ _))).setCell (p:=⟨gX,_,none⟩) (Nat.le_refl _) _⟩
theorem AbM.setD {w2 w w1:World} {gX:Nat} {a0 a1 a4 va vw vd vd':Value} {ks:List Nat} {W D D':List TJA} (h:AbM w2 w gX a0 a1 a4 va vw vd ks W D) (ho:Owns w1 (gX+1) 65 5 rowA vd' D') (h1:OneB vd vd' w w1) (hb:Below (gX+1) w w1):AbM w2 (w1.setCell ⟨gX,4,none⟩ vd') gX a0 a1 a4 va vw vd' ks W D':=by
 have hx:=(h1.2.1 gX h.cells.2.2 (AbM.gap h.od)).trans h.box;have ha:Apart va vd:=apartT' h.oa h.od (by decide);exact⟨by simp[World.setCell,Array.getElem?_modify,hx],Owns.set' (h.oa.oneB h1 ha) _ _ _ (fun k hk=>by have:=(OwnR.lt h.oa k hk).1;omega),Owns.set' (h.ow.oneB h1 h.ap) _ _ _ (fun k hk=>by have:=(OwnR.lt h.ow k hk).1;omega),Owns.set' ho _ _ _ (fun k hk=>by have:=(OwnR.lt ho k hk).1;omega),oneB_apart h.ow h1 h.ap,(h.bl.trans (hb.mono (Nat.le_succ _))).setCell (p:=⟨gX,_,none⟩) (Nat.le_refl _) _⟩
theorem AbM.sortW {w2 w w1:World} {gX:Nat} {a0 a1 a4 va vw vd:Value} {ks:List Nat} {W W' D:List TJA} (h:AbM w2 w gX a0 a1 a4 va vw vd ks W D) (ho:Owns w1 (gX+1) 65 5 rowA vw W') (hg:w.grownBy w1 vw.ownBlock):AbM w2 w1 gX a0 a1 a4 va vw vd ks W' D:=by
 have h1:OneB vw vw w w1:=⟨hg.size,fun b hb hne=>hg.block b hb (fun e=>hne e.symm),fun k hk=>.inl hk⟩
 have hx:=(h1.2.1 gX h.cells.2.2 (AbM.gap h.ow)).trans h.box;exact⟨hx,h.oa.oneB h1 (apartT' h.oa h.ow (by decide)),ho,h.od.oneB h1 h.ap.symm,h.ap,h.bl.trans ((Below.refl _ _).grown hg (Nat.le_of_lt h.cells.2.2) (fun k hk=>by have:=(OwnR.lt h.ow k hk).1;omega))⟩
theorem AbM.sortD {w2 w w1:World} {gX:Nat} {a0 a1 a4 va vw vd:Value} {ks:List Nat} {W D D':List TJA} (h:AbM w2 w gX a0 a1 a4 va vw vd ks W D) (ho:Owns w1 (gX+1) 65 5 rowA vd D') (hg:w.grownBy w1 vd.ownBlock):AbM w2 w1 gX a0 a1 a4 va vw vd ks W D':=by
 have h1:OneB vd vd w w1:=⟨hg.size,fun b hb hne=>hg.block b hb (fun e=>hne e.symm),fun k hk=>.inl hk⟩
 have hx:=(h1.2.1 gX h.cells.2.2 (AbM.gap h.od)).trans h.box;exact⟨hx,h.oa.oneB h1 (apartT' h.oa h.od (by decide)),h.ow.oneB h1 h.ap,ho,h.ap,h.bl.trans ((Below.refl _ _).grown hg (Nat.le_of_lt h.cells.2.2) (fun k hk=>by have:=(OwnR.lt h.od k hk).1;omega))⟩
structure TlG (c:Cfg) (ks:List Nat) (js:Nat→List TJ):Prop where
 len:ks.length=3
 mx:∀i,i<3→ks.getD i 0≤(c.prog i).length
 ris:∀k,k<2→∀i,i+1<(js k).length→kLt ((js k).getD i default) ((js k).getD (i+1) default)=true
 nd:((js 0++js 1++js 2).map kOf).Nodup
 kin:∀k,k<3→∀j∈js k,j.who<3∧j.n<ks.getD j.who 0
 wn:∀j∈js 0,j.rsp=noRsp
 dk:∀k,k<3→0<k→∀j∈js k,rspOk j.rsp=true∧j.rsp.id=c.id j.who j.n
 sum:(js 0++js 1++js 2).length=ks.getD 0 0+ks.getD 1 0+ks.getD 2 0
 short:∀k,k<3→(js k).length≤100
def KK (js:Nat→List TJ) (k:Nat):List (Nat×Nat):=((List.range k).flatMap js).map kOf
theorem KK_succ (js:Nat→List TJ) (k:Nat):KK js (k+1)=KK js k++(js k).map kOf:=by unfold KK;rw[zE1,List.map_append]
theorem KK_three (js:Nat→List TJ):KK js 3=(js 0++js 1++js 2).map kOf:=by simp[KK,List.range_succ]
theorem KK_len {c:Cfg} {ks:List Nat} {js:Nat→List TJ} (h:TlG c ks js):(KK js 3).length=ks.getD 0 0+ks.getD 1 0+ks.getD 2 0:=by rw[KK_three,List.length_map,h.sum]
theorem KK_new {c:Cfg} {ks:List Nat} {js:Nat→List TJ} (h:TlG c ks js) {k m:Nat} (hk:k<3) {j:TJ} (hj:(js k)[m]? = some j):kOf j ∉ KK js k++((js k).map kOf).take m:=by
 have hnd:=h.nd;rw[←KK_three]at hnd;have e:∃rest,KK js 3=KK js (k+1)++rest:=by
  rcases(show k=0∨k=1∨k=2 by omega)with rfl|rfl|rfl
  ·exact⟨(js 1).map kOf++(js 2).map kOf,by rw[KK_succ,KK_succ,List.append_assoc]⟩
  ·exact⟨(js 2).map kOf,by rw[KK_succ]⟩
  ·exact⟨[],by simp⟩
 obtain⟨rest,e⟩:=e;rw[e,KK_succ]at hnd;have h2:=(List.nodup_append.1 hnd).1;have hm:((js k).map kOf)[m]? = some (kOf j):=by rw[List.getElem?_map,hj];rfl
 obtain⟨hlt,he⟩:=List.getElem?_eq_some_iff.1 hm;have e2:(js k).map kOf=((js k).map kOf).take m++kOf j::((js k).map kOf).drop (m+1):=by
  rw[←he,List.getElem_cons_drop,List.take_append_drop]
 rw[e2,←List.append_assoc,List.nodup_append]at h2;intro hc;exact h2.2.2 _ hc _ (by simp) rfl
def sumN (ks:List Nat) (k:Nat):Nat:=((List.range k).map fun i=>ks.getD i 0).sum
theorem sumN_succ (ks:List Nat) (k:Nat):sumN ks (k+1)=sumN ks k+ks.getD k 0:=by unfold sumN;rw[List.range_succ];simp
theorem sumN_three (ks:List Nat):sumN ks 3=ks.getD 0 0+ks.getD 1 0+ks.getD 2 0:=by simp[sumN,List.range_succ,Nat.add_assoc]
theorem KK_le {js : Nat → List TJ} (h : ∀ k, k < 3 → (js k).length ≤ 100) : ∀ k, k ≤ 3 → (KK js k).length ≤ 100 * k
 |0,_=>by simp[KK]
 |k+1,hk=>by
  rw[KK_succ,List.length_append,List.length_map];have:=KK_le h k (by omega);have:=h k (by omega);omega
theorem Touch.ofGrown {r:Nat} {w w':World} (h:w.grownBy w' (some r)):Touch r w w':=by
 obtain⟨a,b,c,d,e⟩:=h;exact⟨a,b,c,d,fun k h1 h2=>e k h1 (by simpa using h2)⟩
set_option maxRecDepth 8000 in
theorem tlmOk_any {c : Cfg} (hbus : Bus c) {w : World} {B : Nat} {u : Value} (hc : BusV w B u c) {y0 y1 y2 : Value} {Y : Nat → Value} {ws hs : List Int} {ks : List Nat} {js : Nat → List TJ} (h0 : Ints w B y0 ws) (h1 : Ints w B y1 hs) (h2 : Nats w B y2 ks) (h3 : ∀ k, k < 3 → JobsV w B (Y k) (js k)) (hB : B ≤ w.heap.size) (hok : atmOk ws hs = true) (hg : TlG c ks js) :
    Calls Tryz.prog 54 #[u,.agg #[y0,y1,y2,Y 0,Y 1,Y 2]] w fun e w' => e=.returned (.bool true)∧Below w.heap.size w w':=by
  obtain⟨mv,lb,lo,lc,pb,po,pc,QQ,K,rfl,⟨ma,mn,mk,rfl⟩,hms,hlb,hpb,hlat,hprog,hreq⟩:=hc.opened hbus;have HO:=hid (show BusO w B c ma mn mk lb lo lc pb po pc QQ K from⟨hms,hlb,hpb,hlat,hprog,hreq⟩);have H0:=hid h0;have H1:=hid h1;have HG:=hid hg;obtain⟨ya,yb,rfl⟩:∃a c,y0=.slice a ws.length c:=by obtain⟨a,c,e,_⟩:=h0.1;exact⟨a,c,by simpa using e⟩
  obtain⟨za,zb,rfl⟩:∃a c,y1=.slice a hs.length c:=by obtain⟨a,c,e,_⟩:=h1.1;exact⟨a,c,by simpa using e⟩
  obtain⟨aa,ac,e2,_,_,_,_,hac⟩:=h2;rw[List.length_map,hg.len]at e2 hac;subst e2;obtain⟨ab,ao,rfl,habB,hacell⟩:=hac (by omega);have hak:∀i,i<3→w.cell? ⟨ab,ao+i,none⟩=some (.int .i64 ((ks.getD i 0:Nat):Int)):=fun i hi=>by
    have:=hacell i hi 0 (by omega);simp only[Nat.mul_one,Nat.add_zero]at this;rw[this];simp[List.getD,show i<ks.length by rw[hg.len];exact hi,rowN]
  have hj:∃(AA:Nat→List TJA),∀k,k<3→(AA k).map (·.1)=js k∧Arr w B 5 (Y k) ((AA k).map rowA)∧∀x∈AA k,Ints w B (toA x).2 x.1.rsp.data:=by
    have:∀k,∃A:List TJA,k<3→A.map (·.1)=js k∧Arr w B 5 (Y k) (A.map rowA)∧∀x∈A,Ints w B (toA x).2 x.1.rsp.data:=fun k=>by
      by_cases hk:k<3
      · obtain ⟨D, d1, d2, d3⟩ := h3 k hk
        obtain⟨A,rfl⟩:=exA D fun x hx=>by obtain⟨ao,cap,e,_⟩:=(d3 x hx).1;exact⟨_,_,_,e⟩
        rw[List.map_map]at d1 d2;exact⟨A,fun _=>⟨d2,d1,fun x hx=>d3 (toA x) (List.mem_map.2 ⟨x,hx,rfl⟩)⟩⟩
      · exact⟨[],fun h=>absurd h hk⟩
    exact⟨fun k=>(this k).choose,fun k hk=>(this k).choose_spec hk⟩
  obtain⟨AA,hAA⟩:=hj;have hY:∃(ya':Nat→Option Addr) (yn' yc':Nat→Nat),∀k,k<3→Y k=.slice (ya' k) (yn' k) (yc' k)∧yn' k=(AA k).length:=by
    have:∀k,∃(a:Option Addr) (n c:Nat),k<3→Y k=.slice a n c∧n=(AA k).length:=fun k=>by
      by_cases hk:k<3
      · obtain ⟨_, ⟨a, c, e, _⟩, _⟩ := hAA k hk
        exact⟨a,_,c,fun _=>⟨e,by simp⟩⟩
      · exact⟨none,0,0,fun h=>absurd h hk⟩
    exact⟨fun k=>(this k).choose,fun k=>(this k).choose_spec.choose,fun k=>(this k).choose_spec.choose_spec.choose,fun k hk=>(this k).choose_spec.choose_spec.choose_spec hk⟩
  obtain⟨ja,jn,jc,hYY⟩:=hY;have HAA:=hid hAA;have HYY:=hid hYY;have HAK:=hid hak;rw[(hYY 0 (by omega)).1,(hYY 1 (by omega)).1,(hYY 2 (by omega)).1];have hris:∀k,k<2→∀W:World,Below w.heap.size w W→Calls Tryz.prog 111 #[.slice (ja k) (jn k) (jc k)] W fun e w' => e=.returned (.bool true)∧Below W.heap.size W w':=fun k hk W hW=>by
    have hA:=hAA k (by omega)
    have := rising_any (AA k) (.slice (ja k) (jn k) (jc k)) B W (by rw [← (hYY k (by omega)).1]; exact hA.2.1.below (hW.mono hB)) (Nat.le_trans hB hW.size) (by
      have h5 := hg.short k (by omega); rw [← hA.1, List.length_map] at h5; omega) (fun i hi => by
      have h5:=hg.ris k hk i (by rw[←hA.1,List.length_map];exact hi);rw[←hA.1]at h5;have g:∀t,t<(AA k).length→((AA k).map (·.1)).getD t default=((AA k).getD t default).1:=fun t ht=>by simp[List.getD,ht]
      rw[g i (by omega),g (i+1) hi]at h5;exact h5)
    exact this
  have HR0:=hid (hris 0 (by omega));have HR1:=hid (hris 1 (by omega))
  have HAT := hid (fun (W : World) (hW : Below w.heap.size w W) => (show Calls Tryz.prog 51 #[.agg #[.slice ya ws.length yb, .slice za hs.length zb]] W fun e w' => e = .returned (.bool true) ∧ Below W.heap.size W w' from by
    have:=zI2 (.agg #[.slice ya ws.length yb,.slice za hs.length zb]) ws hs B W ⟨_,_,rfl,h0.below (hW.mono hB),h1.below (hW.mono hB)⟩ (Nat.le_trans hB hW.size);rw[hok]at this;exact this))
  obtain⟨w0,hw0⟩:∃W,W=(w.alloc (.cells #[.slice ma mn mk,.slice (some ⟨lb,lo,none⟩) 4 lc,.slice (some ⟨pb,po,none⟩) 3 pc] 27)).alloc (.cells #[.slice ya ws.length yb,.slice za hs.length zb,.slice (some ⟨ab,ao,none⟩) 3 ac,.slice (ja 0) (jn 0) (jc 0),.slice (ja 1) (jn 1) (jc 1),.slice (ja 2) (jn 2) (jc 2)] 77):=⟨_,rfl⟩
  have hb0:Below w.heap.size w w0:=by rw[hw0];exact((Below.refl _ _).alloc (Nat.le_refl _) _).alloc (by simp) _
  have B1:=hid (show BusB w0 w.heap.size ma mn mk lb lo lc pb po pc by unfold BusB;rw[hw0,((Below.refl _ _).alloc (Nat.le_refl _) _).block _ (by simp)];exact zA8 _ _ rfl);obtain⟨gT,hgT⟩:∃g,g=w.heap.size+1:=⟨_,rfl⟩
  have HT := hid (show Bx w0 gT [.slice ya ws.length yb, .slice za hs.length zb, .slice (some ⟨ab, ao, none⟩) 3 ac, .slice (ja 0) (jn 0) (jc 0), .slice (ja 1) (jn 1) (jc 1), .slice (ja 2) (jn 2) (jc 2)] by
    rw[hw0,hgT];have:=Bx.new (w.alloc (.cells #[.slice ma mn mk,.slice (some ⟨lb,lo,none⟩) 4 lc,.slice (some ⟨pb,po,none⟩) 3 pc] 27)) #[.slice ya ws.length yb,.slice za hs.length zb,.slice (some ⟨ab,ao,none⟩) 3 ac,.slice (ja 0) (jn 0) (jc 0),.slice (ja 1) (jn 1) (jc 1),.slice (ja 2) (jn 2) (jc 2)] 77 (by simp);simpa using this)
  have HB0:=hid hb0;obtain⟨t0,t1,t2,t3,t4,t5⟩:=HT.out.six.1;clear hc hms hlb hlat hprog hreq h0 h1 hacell hak hAA hYY hris hg h3 hac hb0
  go_enter Tryz.func54,Tryz.ntmps54
  go_upto_region 1 with fail
  rw[←hw0,←hgT];have HGT:=hid hgT;clear hw0 hgT
  go_upto_region 3 with (first
    |(go_at_call 51;go_loud ((with_reducible refine(HAT.out _ HB0.out).mono ?_));rintro e w1 ⟨rfl,hb1⟩;have HQ1:=hid hb1;have HB1:=hid (HB0.out.trans (hb1.mono HB0.out.size));have HT1:=hid (HT.out.below hb1 HT.out.lt);clear hb1 t0 t1 t2 t3 t4 t5;obtain⟨t0,t1,t2,t3,t4,t5⟩:=HT1.out.six.1)
    |(go_at_call 111;with_reducible refine(HR0.out _ HB1.out).mono ?_;rintro e w2 ⟨rfl,hb2⟩;have HQ2:=hid (HQ1.out.trans (hb2.mono HQ1.out.size));have HB2:=hid (HB1.out.trans (hb2.mono HB1.out.size));have HT2:=hid (HT1.out.below hb2 HT1.out.lt);clear hb2 t0 t1 t2 t3 t4 t5;obtain⟨t0,t1,t2,t3,t4,t5⟩:=HT2.out.six.1)
    |(go_at_call 111;with_reducible refine(HR1.out _ HB2.out).mono ?_;rintro e w3 ⟨rfl,hb3⟩;have HQ3:=hid (HQ2.out.trans (hb3.mono HQ2.out.size));have HB3:=hid (HB2.out.trans (hb3.mono HB2.out.size));have HT3:=hid (HT2.out.below hb3 HT2.out.lt);clear hb3 t0 t1 t2 t3 t4 t5;obtain⟨t0,t1,t2,t3,t4,t5⟩:=HT3.out.six.1))
  have HBU:=hid (B1.out.below HQ3.out (zA3 B1.out));obtain⟨u0,u1,u2,uz⟩:=HBU.out.cells;have hpz:pb<w3.heap.size:=Nat.lt_of_lt_of_le (Nat.lt_of_lt_of_le HO.out.hpb hB) HB3.out.size;have hpw:∀i,i<3→w3.cell? ⟨pb,po+i,none⟩=some (.slice (QQ i) (c.prog i).length (K i)):=fun i hi=>by
    rw[HB3.out.cell (p:=⟨pb,_,none⟩) (Nat.lt_of_lt_of_le HO.out.hpb hB)];exact HO.out.prog i hi
  have haw:∀i,i<3→w3.cell? ⟨ab,ao+i,none⟩=some (.int .i64 ((ks.getD i 0:Nat):Int)):=fun i hi=>by
    rw[HB3.out.cell (p:=⟨ab,_,none⟩) (Nat.lt_of_lt_of_le habB hB)];exact HAK.out i hi
  have HPW:=hid hpw;have HAW:=hid haw;have hmm:=@run_makeMap Tryz.prog;clear hpw haw t0 t1 t3 t4 t5
  go_wp2_with fail
  clear t2
  go_loop [5,38] (fun s i=>∃k:Nat,i=.int .i64 k∧k≤3∧s=.int .i64 (sumN ks k:Nat)∧sumN ks k≤12 * k) (fun _ i=>3 - (intOf i).toNat)
  case atStart=>exact⟨0,by go_num,Nat.zero_le _,rfl,by simp[sumN]⟩
  case round=>
    obtain⟨k,rfl,hk,rfl,hsm⟩:=hrel;by_cases hlt:k<3
    · have hki : (k : Int) < 3 := by omega
      have a0:=HAW.out k hlt;have p0:=HPW.out k hlt;obtain⟨sm,hsm2⟩:∃x,x=sumN ks k:=⟨_,rfl⟩
      obtain⟨av,hav⟩:∃x,x=ks.getD k 0:=⟨_,rfl⟩
      obtain⟨pn,hpn⟩:∃x,x=(c.prog k).length:=⟨_,rfl⟩
      rw[←hav]at a0;rw[←hpn]at p0;have hmx:av≤pn:=by rw[hav,hpn];exact HG.out.mx k hlt
      have h12:pn≤12:=by rw[hpn];exact hbus.twelve hlt
      have i1:=hid (zH2 (av:Int) 0 (pn:Int));rw[show inB (av:Int) 0 (pn:Int)=true by simp[inB];omega]at i1;rw[←hsm2]at hsm ⊢;have ew:IntKind.i64.wrap ((sm:Int)+(av:Int))=((sm+av:Nat):Int):=by rw[IntKind.wrap_i64];omega
      have HSM:=hid (show sumN ks (k+1)=sm+av by rw[sumN_succ,hsm2,hav]);have H36:=hid (show sm+av≤12 * (k+1) by omega);clear hsm2 hav hpn hmx h12 hsm
      go_wp2_with (go_at_call 63;refine(i1.out _).mono ?_;rintro e w9 ⟨rfl,hw9⟩;subst hw9)
      go_round
      case rel=>exact⟨k+1,by go_num,by omega,by rw[HSM.out];push_cast;rfl,by rw[HSM.out];exact H36.out⟩
      case measure=>simp[intOf];omega
    · obtain rfl : k = 3 := by omega
      rw[show(((3:Nat)):Int)=(3:Int) from rfl];obtain⟨t0,t1,t2,t3,t4,t5⟩:=HT3.out.six.1;have HSUM:=hid (show sumN ks 3=(KK js 3).length by rw[KK_len HG.out,sumN_three]);obtain⟨sm,hsm2⟩:∃x,x=sumN ks 3:=⟨_,rfl⟩
      rw[←hsm2]at HSUM ⊢;clear hsm2 hsm t0 t1 t2 u0 u1 u2
      go_upto_region 12 with fail
      obtain⟨wm,hwm⟩:∃W,W=w3.alloc (.map #[] 0):=⟨_,rfl⟩
      obtain⟨mb,hmb⟩:∃g,g=w3.heap.size:=⟨_,rfl⟩
      have hbm:Below w3.heap.size w3 wm:=by rw[hwm];exact(Below.refl _ _).alloc (Nat.le_refl _) _
      have HS0:=hid (show SetM wm mb (KK js 0) by rw[hwm,hmb];exact SetM.new w3);rw[←hwm,←hmb];have HTm:=hid (HT3.out.below hbm HT3.out.lt);clear t3 t4 t5;obtain⟨t0,t1,t2,t3,t4,t5⟩:=HTm.out.six.1;have HBM:=hid hbm;have HMB:=hid hmb;clear hwm hmb hbm t0 t1 t2
      go_wp2_with fail
      clear t3 t4 t5;obtain⟨w4,hw4⟩:∃W,W=wm.alloc (.cells #[.slice (ja 0) (jn 0) (jc 0),.slice (ja 1) (jn 1) (jc 1),.slice (ja 2) (jn 2) (jc 2)] 37):=⟨_,rfl⟩
      obtain⟨gl,hgl⟩:∃g,g=wm.heap.size:=⟨_,rfl⟩
      have hb4:Below wm.heap.size wm w4:=by rw[hw4];exact(Below.refl _ _).alloc (Nat.le_refl _) _
      have hlt4:w4.heap[gl]? = some (.cells #[.slice (ja 0) (jn 0) (jc 0),.slice (ja 1) (jn 1) (jc 1),.slice (ja 2) (jn 2) (jc 2)] 37 (0,0)):=by rw[hw4];exact zA8 _ _ hgl
      rw[←hw4,←hgl];have hmb:=HMB.out;have hmz:=HS0.out.lt;have HS4:=hid (HS0.out.below hb4)
      have HLC := hid (show ∀ k, k < 3 → w4.cell? ⟨gl, k, none⟩ = some (.slice (ja k) (jn k) (jc k)) from fun k hk => by
        rcases(show k=0∨k=1∨k=2 by omega)with rfl|rfl|rfl <;> simp[World.cell?,hlt4])
      have hglm:gl≠mb:=by omega
      have HB4:=hid (HBM.out.trans (hb4.mono HBM.out.size));have HB40:=hid (HB3.out.trans (HB4.out.mono HB3.out.size));have hTg:gT<mb:=by have:=HT3.out.lt;omega
      have hwg:w.heap.size<mb:=by omega
      have hBm:B≤mb:=by have:=HB3.out.size;omega
      have HT4:=hid (HT3.out.below HB4.out HT3.out.lt);have HBU4:=hid (HBU.out.below HB4.out uz);clear hw4 hgl hb4 hlt4 hmb hmz
      go_loopw [65] (fun i wr=>∃k:Nat,i=.int .i64 k∧k≤3∧SetM wr mb (KK js k)∧Touch mb w4 wr) (fun i _=>3 - (intOf i).toNat)
      case atStart=>exact⟨0,by go_num,Nat.zero_le _,HS4.out,Touch.refl _ _⟩
      case round=>
        clear HS4;obtain⟨k,rfl,hk,hset,htc⟩:=hrel;have HSET:=hid hset;have HTC:=hid htc;by_cases hlt:k<3
        · have hki : (k : Int) < 3 := by omega
          have hgz:gl<w4.heap.size:=World.block_lt_of_cell? w4 _ (HLC.out k hlt);have lk:=(htc.cell (p:=⟨gl,k,none⟩) hglm hgz).trans (HLC.out k hlt);obtain⟨hA1,hA2,hA3⟩:=HAA.out k hlt;obtain⟨hY1,hY2⟩:=HYY.out k hlt;rw[hY1]at hA2;have HA1:=hid hA1;have HA2:=hid hA2;have HA3:=hid hA3;have HY2:=hid hY2;have hn100:jn k≤100:=by rw[hY2];have:=HG.out.short k hlt;rw[←hA1,List.length_map]at this;exact this
          clear hset htc hA1 hA2 hA3 hY1 hY2
          go_wp2_with fail
          clear lk
          go_loopw [72] (fun i wr=>∃m:Nat,i=.int .i64 m∧m≤jn k∧SetM wr mb (KK js k++((js k).map kOf).take m)∧Touch mb w4 wr) (fun i _=>jn k - (intOf i).toNat)
          case atStart=>exact⟨0,by go_num,Nat.zero_le _,by simpa using HSET.out,HTC.out⟩
          case round=>
            clear HSET HTC;obtain⟨m,rfl,hm,hset,htc⟩:=hrel;have HSET:=hid hset;have HTC:=hid htc;by_cases hlt2:m<jn k
            · have hmi : (m : Int) < (jn k : Int) := by omega
              have hml:m<(AA k).length:=by rw[←HY2.out];exact hlt2
              obtain⟨jb,jo,hja,hjB,hjc⟩:∃b off,ja k=some ⟨b,off,none⟩∧b<B∧∀j,j<5→w.cell? ⟨b,off+m * 5+j,none⟩=(rowA ((AA k).getD m default))[j]?:=by
                obtain⟨ao,cp,e,_,_,_,_,h3⟩:=HA2.out;simp only[Value.slice.injEq,List.length_map]at e h3;obtain⟨b,off,ha,hb,hcc⟩:=h3 (by omega);exact⟨b,off,e.1.trans ha,hb,fun j hj=>by rw[hcc m hml j hj];simp[List.getD,hml]⟩
              have kept:∀b o,b<mb→b<w4.heap.size→wr.cell? ⟨b,o,none⟩=w4.cell? ⟨b,o,none⟩:=fun b o h1 h2=>htc.cell (p:=⟨b,o,none⟩) (by show b≠mb;omega) h2
              have hz43:w3.heap.size≤w4.heap.size:=HB4.out.size;have hBz:B≤w3.heap.size:=Nat.le_trans hB HB3.out.size;obtain⟨x,hx⟩:∃x,x=(AA k).getD m default:=⟨_,rfl⟩
              have hxm:x∈AA k:=by rw[hx];exact zB5 hml
              have hjs:(js k)[m]? = some x.1:=by rw[←HA1.out,List.getElem?_map,hx];simp[List.getD,hml]
              have x5:∀j,j<5→wr.cell? ⟨jb,jo+m * 5+j,none⟩=(rowA x)[j]?:=fun j hj=>by
                rw[kept jb _ (by omega) (by omega),HB40.out.cell (p:=⟨jb,_,none⟩) (by show jb<w.heap.size;omega),hx];exact hjc j hj
              have hdat:=HA3.out x hxm;have hnew:=KK_new HG.out hlt hjs;have hjm:=List.mem_of_getElem? hjs;have hkin:=HG.out.kin k hlt _ hjm;have hdk:=HG.out.dk k hlt;have hwn:=HG.out.wn;obtain⟨⟨xw,xn,⟨xi,xc,xd⟩⟩,xa,xl,xk⟩:=x;simp only[toA]at hdat
              have x0:=x5 0 (by omega);have x1:=x5 1 (by omega);have x2:=x5 2 (by omega);have x3:=x5 3 (by omega);have x4:=x5 4 (by omega);simp only[rowA,toA,tjRow,List.getElem?_cons_zero,List.getElem?_cons_succ,Nat.add_zero]at x0 x1 x2 x3 x4;simp only[kOf]at hnew hkin;obtain⟨hxw,hxn⟩:=hkin;have hp12:=hbus.twelve hxw;have hmx:=HG.out.mx xw hxw;obtain⟨av,hav⟩:∃y,y=ks.getD xw 0:=⟨_,rfl⟩
              rw[←hav]at hxn hmx;have hx12:xn<12:=by omega
              have haw:wr.cell? ⟨ab,ao+xw,none⟩=some (.int .i64 (av:Nat)):=by
                rw[kept ab _ (by omega) (by omega),HB4.out.cell (p:=⟨ab,_,none⟩) (by show ab<w3.heap.size;omega),hav];exact HAW.out xw hxw
              have ew:IntKind.i64.wrap ((av:Int) - 1)=((av:Int) - 1):=by rw[IntKind.wrap_i64];omega
              have i1:=hid (zE2 (xw:Int));rw[show inB (xw:Int) 0 2=true by simp[inB];omega]at i1;have i2:=hid (zH2 (xn:Int) 0 ((av:Int) - 1));rw[show inB (xn:Int) 0 ((av:Int) - 1)=true by simp[inB];omega]at i2;have hxwi:(xw:Int)<3:=by omega
              have ht2:wr.cell? ⟨gT,2,none⟩=some (.slice (some ⟨ab,ao,none⟩) 3 ac):=by rw[kept gT _ hTg (by have:=HT4.out.lt;omega)];exact HT4.out.six.1.2.2.1
              obtain⟨u04,u14,u24,uz4⟩:=HBU4.out.cells;have hb0:=(kept w.heap.size 0 hwg uz4).trans u04;have hb1:=(kept w.heap.size 1 hwg uz4).trans u14;have hb2:=(kept w.heap.size 2 hwg uz4).trans u24;have hu04:=hid u04;have hu14:=hid u14;have hu24:=hid u24;have HNEW:=hid hnew;have HXW:=hid hxw;have HX12:=hid hx12;have HXP:=hid (show xn<(c.prog xw).length by omega);have HKS:=hid (show((js k).map kOf).take (m+1)=((js k).map kOf).take m++[(xw,xn)] from take_snocK (by rw[List.getElem?_map,hjs];rfl));have HJM:=hid hjm;have HDAT:=hid hdat;have HDK:=hid hdk;have HWN:=hid hwn;clear hjc kept hx hxm hjs x5 hdat hnew hjm hdk hwn hav hxn hp12 hmx hset htc u04 u14 u24
              go_upto_region 18 with fail
              obtain⟨wj,hwj⟩:∃W,W=wr.alloc (.cells #[.int .i64 xw,.int .i64 xn,.int .i64 xi,.int .i64 xc,.slice xa xl xk] 65):=⟨_,rfl⟩
              obtain⟨gj,hgj⟩:∃g,g=wr.heap.size:=⟨_,rfl⟩
              rw[←hwj,←hgj];have hbj:Below wr.heap.size wr wj:=by rw[hwj];exact(Below.refl _ _).alloc (Nat.le_refl _) _
              have HBJ:=hid hbj
              have HJ := hid (show Bx wj gj [.int .i64 xw, .int .i64 xn, .int .i64 xi, .int .i64 xc, .slice xa xl xk] by
                rw[hwj,hgj];exact Bx.new wr #[.int .i64 xw,.int .i64 xn,.int .i64 xi,.int .i64 xc,.slice xa xl xk] 65 (by simp))
              have HZJ:=hid (show wr.heap.size≤gj by omega);have hmr:mb<wr.heap.size:=HSET.out.lt;have HSJ:=hid (HSET.out.below hbj);have c0:=bcell HJ.out.five.1.1;have c1:=bcell HJ.out.five.1.2.1;have c2:=bcell ((hbj.cell (p:=⟨gT,2,none⟩) (World.block_lt_of_cell? wr _ ht2)).trans ht2);have c3:=bcell ((hbj.cell (p:=⟨ab,ao+xw,none⟩) (World.block_lt_of_cell? wr _ haw)).trans haw);have hlook:∀x:BwT wj,(Instr.lookup 159 (.map (some mb)) (.agg #[.int .i64 (xw:Nat),.int .i64 (xn:Nat)]) false).run Tryz.prog x.val=.ok (.bool false) x.val:=fun x=>(HSJ.out.below x.property).look HXW.out HX12.out HNEW.out
              clear x0 x1 x2 x3 x4 hwj hgj hbj hmr;refine zH6 (by kernel_rfl) (by kernel_rfl) ?_
              repeat (
                (with_reducible refine wpQuiet_step (fun K hK=>?_))
                go_simp
                first
                  |((with_reducible refine hK _ ?_);clear hK K)
                  |((with_reducible refine zA7 (by simp[undef]) (hK _ ?_));clear hK K)
                  | (apply Exists.intro
                     (with_reducible refine⟨fun _=>?_,hK _ ?_⟩)
                     (first
                         |(go_at_call 56;with_reducible exact callsS (i1.out _))
                         |(go_at_call 63;with_reducible exact callsS (i2.out _)))
                     clear hK K))
              refine wpQuiet_nil ?_;rintro w6 ⟨x6,hx6⟩;have hb6:Below wj.heap.size wj w6:=hx6▸x6.property;have HJ6:=hid (HJ.out.below hb6 HJ.out.lt);have HSJ6:=HSJ.out.below hb6;have hbr:Below wr.heap.size wr w6:=HBJ.out.trans (hb6.mono HBJ.out.size);have HBR:=hid hbr;clear c0 c1 c2 c3 hlook ht2 haw hb0 hb1 hb2 hx6 hb6 hbr;clear x6;obtain⟨D,hown,hsz,hDD⟩:=HSJ6;have HDD:=hid hDD;have HSZ:=hid hsz;have hkm:(KK js k++((js k).map kOf).take m).length<maxLen:=by
                have h1:=KK_le HG.out.short k (by omega);have h2:(((js k).map kOf).take m).length≤m:=by rw[List.length_take];omega
                rw[List.length_append];unfold maxLen;omega
              have hkey:keyOf Tryz.prog KEY (.agg #[.int .i64 (xw:Nat),.int .i64 (xn:Nat)])=some (kl xw xn):=keyOf_kv HXW.out HX12.out;obtain⟨g0,g1,g2,g3,g4⟩:=HJ6.out.five.1;clear hDD hsz HSJ g2 g3 g4
              go_upto_region 21 with(at_mapUpdate;refine wpList_mapUpdate_in _ rfl _ _ _ 159 rfl KEY 4 law_key mapKB_under _ mb _ D rfl hown hkm _ _ (kl xw xn) rfl rfl hkey (.lit (.bool true)) [] (plainElem_bool Tryz.underlying4 true) ?_;intro w9 hown9 hturn9)
              have ht9:Touch mb w6 w9:=Touch.ofGrown hturn9.grown;have HS9:=hid (SetM.put hown HSZ.out HDD.out HXW.out HX12.out HNEW.out hown9);have hmr:mb<wr.heap.size:=HSET.out.lt;have hgm:gj≠mb:=by have:=HZJ.out;omega
              have HTR:=hid (HTC.out.trans ((Touch.of_below HBR.out (Nat.le_refl _)).trans ht9));have hB9:Below B w w9:=(HB40.out.mono hB).trans (HTR.out.below hBm (by omega));have hBz9:B≤w9.heap.size:=by have:=HTR.out.size;omega
              have HJ9:=hid (HJ6.out.kept (ht9.block gj HJ6.out.lt hgm));have HO9:=hid (HO.out.below hB9);have HD9:=hid (HDAT.out.below hB9);have hbz9:=(HTR.out.cell (p:=⟨w.heap.size,0,none⟩) (by show w.heap.size≠mb;omega) uz4).trans hu04.out;have hbz9':=(HTR.out.cell (p:=⟨w.heap.size,1,none⟩) (by show w.heap.size≠mb;omega) uz4).trans hu14.out;have hbz9'':=(HTR.out.cell (p:=⟨w.heap.size,2,none⟩) (by show w.heap.size≠mb;omega) uz4).trans hu24.out;clear g0 g1 hown hkey hkm hown9 hturn9 ht9 hmr hgm hB9 HDD HSZ HBR;clear D;obtain⟨g0,g1,g2,g3,g4⟩:=HJ9.out.five.1;have c0:=bcell g0;have c1:=bcell g1;have c2:=bcell g2;have c3:=bcell g3;have c4:=bcell g4;have c5:=bcell hbz9;have c6:=bcell hbz9';have c7:=bcell hbz9'';clear g0 g1 g2 g3 g4 hbz9 hbz9' hbz9'';by_cases hk0:k=0
              · have hjm0 := HJM.out
                rw[hk0]at hjm0;have hx0:=HWN.out _ hjm0;clear hjm0;have hk0e:((k:Int)==0)=true:=by simp[hk0]
                have hk0n:¬0<k:=by omega
                clear hk0;simp only[noRsp,Rs.mk.injEq]at hx0;obtain⟨rfl,rfl,rfl⟩:=hx0;obtain rfl:xl=0:=by obtain⟨ao', cp', e,_⟩:=HD9.out.1;simp only[Value.slice.injEq]at e;simpa using e.2.1
                have HNN:=hid (fun W=>none_any xa xk W);refine zH6 (by kernel_rfl) (by kernel_rfl) ?_
                repeat (
                  (with_reducible refine wpQuiet_step (fun K hK=>?_))
                  go_simp
                  first
                    |((with_reducible refine hK _ ?_);clear hK K)
                    |((with_reducible refine zA7 (by simp[undef]) (hK _ ?_));clear hK K)
                    | (apply Exists.intro
                       (with_reducible refine⟨fun _=>?_,hK _ ?_⟩)
                       ((go_at_call 112;with_reducible exact callsB (HNN.out _)))
                       clear hK K))
                refine wpQuiet_nil ?_;rintro w10 ⟨x10,hx10⟩;have hb10:Below w9.heap.size w9 w10:=hx10▸x10.property;clear c0 c1 c2 c3 c4 c5 c6 c7 hx10;clear x10
                go_wp2_with fail
                go_roundw
                case rel=>refine⟨_,_,_,⟨m+1,?_,by omega,by rw[HKS.out,←List.append_assoc];exact HS9.out.below hb10,HTR.out.bel hb10 HTR.out.size⟩,rfl,rfl,rfl⟩;first|rfl|go_num
                case measure=>simp[intOf];omega
              · have hk0i : ((k : Int) == 0) = false := by simp; omega
                have hk0p:0<k:=by omega
                obtain⟨hr1,hr2⟩:=HDK.out (by omega) _ HJM.out;have HRO:=hid (fun(x:BwT w9)=>rspOk_yes xa xl xk ⟨xi,xc,xd⟩ B x.val (HD9.out.below (x.property.mono hBz9)) (Nat.le_trans hBz9 x.property.size) hr1)
                have HID := hid (fun (x : BwT w9) => (show Calls Tryz.prog 107 #[.agg #[.slice ma mn mk, .slice (some ⟨lb, lo, none⟩) 4 lc, .slice (some ⟨pb, po, none⟩) 3 pc], .int .i64 xw, .int .i64 xn] x.val fun e w' => e = .returned (.int .i64 xi) ∧ Below x.val.heap.size x.val w' from by
                  have:=id_any hbus (HO9.out.below (x.property.mono hBz9)) (Nat.le_trans hBz9 x.property.size) HXW.out HXP.out;rw[←hr2]at this;exact this))
                clear hr1 hr2;refine zH6 (by kernel_rfl) (by kernel_rfl) ?_
                repeat (
                  (with_reducible refine wpQuiet_step (fun K hK=>?_))
                  go_simp
                  first
                    |((with_reducible refine hK _ ?_);clear hK K)
                    |((with_reducible refine zA7 (by simp[undef]) (hK _ ?_));clear hK K)
                    | (apply Exists.intro
                       (with_reducible refine⟨fun _=>?_,hK _ ?_⟩)
                       (first
                           |(go_at_call 110;with_reducible exact callsB (HRO.out _))
                           |(go_at_call 107;with_reducible exact callsB (HID.out _)))
                       clear hK K))
                refine wpQuiet_nil ?_;rintro w10 ⟨x10,hx10⟩;have hb10:Below w9.heap.size w9 w10:=hx10▸x10.property;clear c0 c1 c2 c3 c4 c5 c6 c7 hx10;clear x10
                go_wp2_with fail
                go_roundw
                case rel=>refine⟨_,_,_,⟨m+1,?_,by omega,by rw[HKS.out,←List.append_assoc];exact HS9.out.below hb10,HTR.out.bel hb10 HTR.out.size⟩,rfl,rfl,rfl⟩;first|rfl|go_num
                case measure=>simp[intOf];omega
            · obtain rfl : m = jn k := by omega
              have hki2:decide ((jn k:Int)<(jn k:Int))=false:=by simp
              go_wp2_with fail
              go_roundw
              case rel=>
                exact ⟨k + 1, by go_num, by omega, by
                have e:((js k).map kOf).take (jn k)=(js k).map kOf:=List.take_of_length_le (by rw[List.length_map,←HA1.out,List.length_map,HY2.out];omega);have:=HSET.out;rw[e]at this;rw[KK_succ];exact this,HTC.out⟩
              case measure=>simp[intOf];omega
        · obtain rfl : k = 3 := by omega
          rw[show(((3:Nat)):Int)=(3:Int) from rfl];obtain⟨D,hown,hsz,hDD⟩:=HSET.out;have hsz2:Maps.size D=sm:=by rw[hsz,HSUM.out]
          have HSZ2:=hid hsz2;clear hsz hDD hsz2
          go_wp2_with (at_len;refine wpList_len_own _ rfl _ 159 rfl KEY 4 mapKB_under _ mb _ D rfl hown ?_;rw[HSZ2.out])
          go_ret
          exact⟨rfl,HB40.out.trans (HTC.out.below (by omega) (by have:=HB4.out.size;have:=HB3.out.size;omega))⟩
theorem strict_of {l:List TJ} (h:l.Pairwise kLe) (hn:(l.map kOf).Nodup):∀i,i+1<l.length→kLt (l.getD i default) (l.getD (i+1) default)=true:=by
 intro i hi;rw[List.pairwise_iff_getElem]at h;have h1:=h i (i+1) (by omega) hi (by omega);unfold List.Nodup at hn;rw[List.pairwise_map,List.pairwise_iff_getElem]at hn;have h2:=hn i (i+1) (by omega) hi (by omega);have e1:l.getD i default=l[i]:=by simp[List.getD,show i<l.length by omega]
 have e2:l.getD (i+1) default=l[i+1]:=by simp[List.getD,hi]
 rw[e1,e2,kLt_iff];rcases h1 with h1|⟨h1,h3⟩
 ·exact .inl h1
 ·refine .inr ⟨h1,Nat.lt_of_le_of_ne h3 fun e=>h2 ?_⟩;simp only[kOf,h1,e]
theorem nexts_at (st:Cy) {i:Nat} (hi:i<3):(nexts st 3).getD i 0=(st.ports i).next:=by
 rcases(show i=0∨i=1∨i=2 by omega)with rfl|rfl|rfl <;> rfl
def three (a b c:List TJ) (k:Nat):List TJ:=if k=0 then a else if k=1 then b else c
theorem kAll_perm {st:Cy} {wj dj:List TJ} (hw:wj.Perm (waits st)) (hd:dj.Perm (dones st)):((wj++dj++st.told).map kOf).Perm (kAll st):=by
 rw[List.map_append,List.map_append];unfold kAll;exact((waits_keys st▸hw.map kOf).append (dones_keys st▸hd.map kOf)).append (List.Perm.refl _)
theorem tlG_of {c:Cfg} (hb:Bus c) {st:Cy} (hg:Good c st) {wj dj:List TJ} (hw:wj.Perm (waits st)) (hw2:wj.Pairwise kLe) (hd:dj.Perm (dones st)) (hd2:dj.Pairwise kLe):TlG c (nexts st 3) (three wj dj st.told):=by
 have hp:=kAll_perm hw hd;have hnd:((wj++dj++st.told).map kOf).Nodup:=hp.nodup_iff.2 (hg.nodup hb);have hlen:(wj++dj++st.told).length=(st.ports 0).next+(st.ports 1).next+(st.ports 2).next:=by
  rw[←hg.many hb,←hp.length_eq,List.length_map]
 have hmem : ∀ k, k < 3 → ∀ j ∈ three wj dj st.told k, kOf j ∈ kAll st := fun k hk j hj => hp.subset (List.mem_map.2 ⟨j, by
  rcases(show k=0∨k=1∨k=2 by omega)with rfl|rfl|rfl
  ·exact List.mem_append_left _ (List.mem_append_left _ hj)
  ·exact List.mem_append_left _ (List.mem_append_right _ hj)
  ·exact List.mem_append_right _ hj,rfl⟩)
 have hnx:∀i,i<3→(st.ports i).next≤12:=fun i hi=>Nat.le_trans (hg.p i hi).nx (hb.twelve hi)
 have n0:=hnx 0 (by omega);have n1:=hnx 1 (by omega);have n2:=hnx 2 (by omega);have hall:wj.length+dj.length+st.told.length=(st.ports 0).next+(st.ports 1).next+(st.ports 2).next:=by
  rw[←hlen,List.length_append,List.length_append]
 rw[List.map_append,List.map_append,List.nodup_append,List.nodup_append]at hnd;refine⟨rfl,fun i hi=>?_,fun k hk=>?_,?_,fun k hk j hj=>?_,fun j hj=>waits_none st j (hw.subset hj),fun k hk hk0 j hj=>?_,?_,fun k hk=>?_⟩
 ·rw[nexts_at st hi];exact(hg.p i hi).nx
 ·rcases(show k=0∨k=1 by omega)with rfl|rfl
  ·exact strict_of hw2 hnd.1.1
  ·exact strict_of hd2 hnd.1.2.1
 ·exact hp.nodup_iff.2 (hg.nodup hb)
 ·obtain⟨h1,h2⟩:=hg.kin hb (hmem k hk j hj);exact⟨h1,by rw[nexts_at st (i:=j.who) h1];exact h2⟩
 ·rcases(show k=1∨k=2 by omega)with rfl|rfl
  ·obtain⟨s,hs,hj2⟩:=dones_mem (hd.subset hj);exact(hg.s s hs).dr j hj2
  ·exact(hg.t j hj).2
 ·exact hlen
 ·rcases(show k=0∨k=1∨k=2 by omega)with rfl|rfl|rfl
  ·show wj.length≤100;omega
  ·show dj.length≤100;omega
  ·show st.told.length≤100;omega
theorem tlmAbs_any {c : Cfg} (hbus : Bus c) {w : World} {B : Nat} {u : Value} (hc : BusV w B u c) {st : Cy} (hg : Good c st) {y0 y1 y2 y3 y4 y5 : Value} {wj dj : List TJ} (hw : wj.Perm (waits st)) (hw2 : wj.Pairwise kLe) (hd : dj.Perm (dones st)) (hd2 : dj.Pairwise kLe)
  (h0:Ints w B y0 st.ws) (h1:Ints w B y1 st.hs) (h2:Nats w B y2 (nexts st 3)) (h3:JobsV w B y3 wj) (h4:JobsV w B y4 dj) (h5:JobsV w B y5 st.told) (hB:B≤w.heap.size) :
  Calls Tryz.prog 54 #[u,.agg #[y0,y1,y2,y3,y4,y5]] w fun e w' => e=.returned (.bool true)∧Below w.heap.size w w' :=
 tlmOk_any hbus hc (Y := fun k => if k = 0 then y3 else if k = 1 then y4 else y5) h0 h1 h2 (fun k hk => by
  rcases(show k=0∨k=1∨k=2 by omega)with rfl|rfl|rfl
  ·exact h3
  ·exact h4
  ·exact h5) hB hg.atm (tlG_of hbus hg hw hw2 hd hd2)
theorem outs4 (l:List Jb) (h:∀j∈l,j.left<4):(l.filter (fun j=>j.left==0)).length+(l.filter (fun j=>j.left==1)).length+(l.filter (fun j=>j.left==2)).length+(l.filter (fun j=>j.left==3)).length=l.length:=by
 have:=(filter4 l h).length_eq;simp only[List.length_append]at this;exact this
theorem held_len (v:Sv):(zA6 v).length=v.pipe.length+v.done.length:=by
 unfold zA6;rw[List.length_append,List.length_map,List.length_map];omega
theorem Good.sums {c : Cfg} (hb : Bus c) {st : Cy} (hg : Good c st) : (st.ports 0).out.length + (st.ports 1).out.length + (st.ports 2).out.length =
  ((st.slaves 0).pipe.length+(st.slaves 0).done.length)+((st.slaves 1).pipe.length+(st.slaves 1).done.length)+((st.slaves 2).pipe.length+(st.slaves 2).done.length)+((st.slaves 3).pipe.length+(st.slaves 3).done.length):=by
 have hl:∀s,s<4→(st.slaves s).pipe.length+(st.slaves s).done.length=((st.ports 0).out.filter (fun j=>j.left==s)).length+((st.ports 1).out.filter (fun j=>j.left==s)).length+((st.ports 2).out.filter (fun j=>j.left==s)).length:=fun s hs=>by
  rw[←held_len,len_of_ns _ (hg.s s hs).w3,hg.link s 0 hs (by omega),hg.link s 1 hs (by omega),hg.link s 2 hs (by omega)];simp only[List.length_map]
 have ho:∀w,w<3→∀j∈(st.ports w).out,j.left<4:=fun w hw j hj=>by
  rw[((hg.p w hw).o j hj).2.1];exact slv_lt4 hb.ms (c.req w j.n)
 rw[hl 0 (by omega),hl 1 (by omega),hl 2 (by omega),hl 3 (by omega),←outs4 _ (ho 0 (by omega)),←outs4 _ (ho 1 (by omega)),←outs4 _ (ho 2 (by omega))];omega
theorem BusV.int {w:World} {B:Nat} {v:Value} {c:Cfg} (h:BusV w B v c) (hb:Bus c):BusI w B v c.ms (c.lat.map fun(n:Nat)=>(n:Int)) c.progs:=by
 obtain⟨ma,la,pa,mc,lc,pc,Q,e,h1,h2,h3,h4⟩:=h;refine⟨_,_,_,e,h1,⟨?_,fun x hx=>?_⟩,?_⟩
 ·rw[List.map_map];exact h2
 ·obtain⟨n,hn,rfl⟩:=List.mem_map.1 hx;have:=hb.lat3 n hn
  constructor <;> omega
 ·refine⟨(List.range c.progs.length).map Q,?_,by simp,fun k hk d=>?_⟩
  ·rw[List.map_map];have:(List.range c.progs.length).map ((fun u:Value=>u.cells.toList) ∘ Q)=(List.range c.progs.length).map fun i=>[Q i]:=List.map_congr_left fun i hi=>by
    obtain⟨ao,cap,e,_⟩:=(h4 i (List.mem_range.1 hi)).opened;simp only[Function.comp,e]
    rfl
   rw[this];exact h3
  ·have h:=h4 k hk;have e1:((List.range c.progs.length).map Q).getD k undef=Q k:=by simp[List.getD,hk]
   have e2:c.progs.getD k d=c.prog k:=by unfold Cfg.prog;simp[List.getD,hk]
   rw[e1,e2];exact h
theorem busOk_yes {c:Cfg} (hb:Bus c):busOk c.ms (c.lat.map fun(n:Nat)=>(n:Int)) c.progs=true:=by
 unfold busOk;simp only[Bool.and_eq_true,decide_eq_true_eq,List.all_eq_true,List.length_map];refine⟨⟨⟨⟨hb.ms,hb.lat⟩,fun x hx=>?_⟩,hb.progs⟩,fun p hp=>?_⟩
 ·obtain⟨n,hn,rfl⟩:=List.mem_map.1 hx;have:=hb.lat3 n hn;simp[inB];omega
 ·simp only[progOk,Bool.and_eq_true,decide_eq_true_eq,List.all_eq_true];exact⟨hb.most p hp,hb.reqs p hp⟩
theorem busOk_good {c:Cfg} (hb:Bus c) {w:World} {B:Nat} {v:Value} (h:BusV w B v c) (hB:B≤w.heap.size):Calls Tryz.prog 50 #[v] w fun e w' => e=.returned (.bool true)∧Below w.heap.size w w':=by
 have:=zI1 v _ _ _ B w (h.int hb) hB;rw[busOk_yes hb]at this;exact this
theorem wpOp_skip {P:Program} {ops:Array Oper} {Q:Exit→Act→World→Prop} {i:Nat} {o:Oper} {K:Act→World→Prop} {a:Act} {w:World} (ho:ops[i]? = some o) (hw:Region.wanted o (yielded ops a.tmps)=false) (h:K (a.put o.dst undef) w):wpOp P ops Q i K a w:=by
 unfold wpOp;simp only[ho];rw[if_neg (by simp[hw])];exact h
def myA (jv:Value) (g1 g2 g3 g4 G:Nat) (u6 u7 u8 u9 u10 u11 u12 u13 u14 u15 u16 u17 u18 u19:Value):Act:={ tmps:=#[jv,.pointer (some ⟨g1,0,none⟩),.pointer (some ⟨g2,0,none⟩),.pointer (some ⟨g3,0,none⟩),.pointer (some ⟨g4,0,none⟩),.pointer (some ⟨G,0,none⟩),u6,u7,u8,u9,u10,u11,u12,u13,u14,u15,u16,u17,u18,u19],defers:=[] }
def myI (jv:Value) (g1 g2 g3 g4 G:Nat) (ma:Option Addr) (mn mk lb lo lc pb po pc who n:Nat) (id y:Int) (wq:World) (listed:Array Bool) (a:Act) (w':World):Prop :=
 ∃ u6 u7 u8 u9 u10 u11 u12 u13 u14 u15 u16 u17 u18 u19 : Value, a = myA jv g1 g2 g3 g4 G u6 u7 u8 u9 u10 u11 u12 u13 u14 u15 u16 u17 u18 u19 ∧
   (listed.getD 0 false=true→u7=.agg #[.slice ma mn mk,.slice (some ⟨lb,lo,none⟩) 4 lc,.slice (some ⟨pb,po,none⟩) 3 pc]) ∧
   (listed.getD 1 false=true→u8=.int .i64 who) ∧
   (listed.getD 2 false=true→u9=.pointer (some ⟨G,1,none⟩)) ∧
   (listed.getD 3 false=true→u10=.int .i64 n) ∧
   (listed.getD 4 false=true→u11=.int .i64 y) ∧
   (listed.getD 5 false=true→u12=.int .i64 id) ∧
   (listed.getD 6 false=true→u13=.bool false) ∧
   (listed.getD 7 false=true→u14=.bool false) ∧
   (listed.getD 12 false=true→u19=.bool false) ∧
   (listed.getD 13 false=true→u6=.bool false) ∧
   Below wq.heap.size wq w'
set_option maxRecDepth 100000 in
theorem mayTestF_any {c : Cfg} (hbus : Bus c) {w w0 : World} {B : Nat} {ma : Option Addr} {mn mk lb lo lc pb po pc : Nat} {Q : Nat → Option Addr} {K : Nat → Nat} (HO : BusO w0 B c ma mn mk lb lo lc pb po pc Q K) (HB0 : Below w.heap.size w w0) (hBw : B ≤ w0.heap.size) {who s : Nat} {id y : Int} {j : Jb} {g1 g2 g3 g4 : Nat}
  (hj:w0.heap[w.heap.size]? = some (.cells #[.int .i64 j.who,.int .i64 j.n,.int .i64 j.left] 101 (0,0)))
  (x0:w0.cell? ⟨g1,0,none⟩=some (.slice ma mn mk)) (x1:w0.cell? ⟨g1,1,none⟩=some (.slice (some ⟨lb,lo,none⟩) 4 lc)) (x2:w0.cell? ⟨g1,2,none⟩=some (.slice (some ⟨pb,po,none⟩) 3 pc)) (x3:g1<w0.heap.size)
  (y0:w0.cell? ⟨g2,0,none⟩=some (.int .i64 who)) (y1:g2<w0.heap.size) (z0:w0.cell? ⟨g3,0,none⟩=some (.int .i64 id)) (z1:g3<w0.heap.size)
  (hwi:who<3) (hni:j.n<(c.prog who).length) (hy:y=c.id who j.n) (he1:(y==id)=false) (HM:Hid (mayB c who s id j=false))
  (hw0:w0=w.alloc (.cells #[.int .i64 j.who,.int .i64 j.n,.int .i64 j.left] 101)) :
  Calls Tryz.prog 171 #[.agg #[.int .i64 j.who,.int .i64 j.n,.int .i64 j.left],.pointer (some ⟨g1,0,none⟩),.pointer (some ⟨g2,0,none⟩),.pointer (some ⟨g3,0,none⟩),.pointer (some ⟨g4,0,none⟩)] w fun e w' => e=.returned (.bool (mayB c who s id j))∧Below w.heap.size w w':=by
 have HY:=hid hy;have HE:=hid he1;have hG:w.heap.size<w0.heap.size:=zA3 hj;have j1:w0.cell? ⟨w.heap.size,1,none⟩=some (.int .i64 j.n):=by simp[World.cell?,hj]
 clear hy he1 hj
 go_enter Tryz.func171,Tryz.ntmps171
 go_upto_region 1 with fail
 rw[←hw0];clear hw0;generalize hg:w.heap.size=G at hG j1;have hgs:G≤w.heap.size:=Nat.le_of_eq hg.symm;have HGS:=hid hg;clear hg;refine zL1 (myI (.agg #[.int .i64 j.who,.int .i64 j.n,.int .i64 j.left]) g1 g2 g3 g4 G ma mn mk lb lo lc pb po pc who j.n id y w0) (by kernel_rfl) (by kernel_rfl) ?_ ?_ ?_
 ·exact⟨_,_,_,_,_,_,_,_,_,_,_,_,_,_,rfl,nf,nf,nf,nf,nf,nf,nf,nf,nf,nf,(Below.refl _ _).drew⟩
 ·intro listed a w' i o hI hsz ho hl he hcl;obtain⟨u6,u7,u8,u9,u10,u11,u12,u13,u14,u15,u16,u17,u18,u19,rfl,F0,F1,F2,F3,F4,F5,F6,F7,F12,F13,hx⟩:=hI;have hi:i<14:=(Array.getElem?_eq_some_iff.1 ho).1;have e:i=0∨i=1∨i=2∨i=3∨i=4∨i=5∨i=6∨i=7∨i=8∨i=9∨i=10∨i=11∨i=12∨i=13:=by omega
  clear hi;rcases e with rfl|rfl|rfl|rfl|rfl|rfl|rfl|rfl|rfl|rfl|rfl|rfl|rfl|rfl
  all_goals (have ho2:=ho;obtain rfl:=Option.some.inj ho2.symm;clear ho2)
  ·as_aux_lemma=>
    have q0:=(hx.cell (p:=⟨g1,0,none⟩) x3).trans x0;have q1:=(hx.cell (p:=⟨g1,1,none⟩) x3).trans x1;have q2:=(hx.cell (p:=⟨g1,2,none⟩) x3).trans x2;refine zB4 ho rfl (fun K hK=>?_);unfold myA;go_simp;refine hK _ _ ⟨_,_,_,_,_,_,_,_,_,_,_,_,_,_,rfl,?_,?_,?_,?_,?_,?_,?_,?_,?_,?_,hx⟩ <;> first|exact cy ‹_› rfl|exact fun _=>rfl
  ·as_aux_lemma=>
    have q0:=(hx.cell (p:=⟨g2,0,none⟩) y1).trans y0;refine zB4 ho rfl (fun K hK=>?_);unfold myA;go_simp;refine hK _ _ ⟨_,_,_,_,_,_,_,_,_,_,_,_,_,_,rfl,?_,?_,?_,?_,?_,?_,?_,?_,?_,?_,hx⟩ <;> first|exact cy ‹_› rfl|exact fun _=>rfl
  ·as_aux_lemma=>
    refine zB4 ho rfl (fun K hK=>?_);unfold myA;go_simp;refine hK _ _ ⟨_,_,_,_,_,_,_,_,_,_,_,_,_,_,rfl,?_,?_,?_,?_,?_,?_,?_,?_,?_,?_,hx⟩ <;> first|exact cy ‹_› rfl|exact fun _=>rfl
  ·as_aux_lemma=>
    have l2:=he ⟨2,.data⟩ (by simp) rfl;have e:=F2 l2;subst e;have q0:=(hx.cell (p:=⟨G,1,none⟩) hG).trans j1;refine zB4 ho rfl (fun K hK=>?_);unfold myA;go_simp;refine hK _ _ ⟨_,_,_,_,_,_,_,_,_,_,_,_,_,_,rfl,?_,?_,?_,?_,?_,?_,?_,?_,?_,?_,hx⟩ <;> first|exact cy ‹_› rfl|exact fun _=>rfl
  ·as_aux_lemma=>
    have l0:=he ⟨0,.data⟩ (by simp) rfl;have l1:=he ⟨1,.data⟩ (by simp) rfl;have l3:=he ⟨3,.data⟩ (by simp) rfl;have e:=F0 l0;subst e;have e:=F1 l1;subst e;have e:=F3 l3;subst e;refine zB4 ho rfl (fun K hK=>?_);unfold myA;go_simp
    (with_reducible refine(id_any hbus (B:=B) (HO.below (hx.mono hBw)) (Nat.le_trans hBw hx.size) hwi hni).mono ?_)
    rw[←HY.out];rintro e w'' ⟨rfl,hb1⟩
    go_wp2_with fail
    refine⟨_,_,_,_,_,_,_,_,_,_,_,_,_,_,rfl,?_,?_,?_,?_,?_,?_,?_,?_,?_,?_,hx.trans (hb1.mono hx.size)⟩ <;> first|exact cy ‹_› rfl|exact fun _=>rfl
  ·as_aux_lemma=>
    have q0:=(hx.cell (p:=⟨g3,0,none⟩) z1).trans z0;refine zB4 ho rfl (fun K hK=>?_);unfold myA;go_simp;refine hK _ _ ⟨_,_,_,_,_,_,_,_,_,_,_,_,_,_,rfl,?_,?_,?_,?_,?_,?_,?_,?_,?_,?_,hx⟩ <;> first|exact cy ‹_› rfl|exact fun _=>rfl
  ·as_aux_lemma=>
    have l4:=he ⟨4,.data⟩ (by simp) rfl;have l5:=he ⟨5,.data⟩ (by simp) rfl;have e:=F4 l4;subst e;have e:=F5 l5;subst e;have e1:=HE.out;refine zB4 ho rfl (fun K hK=>?_);unfold myA;go_simp;refine hK _ _ ⟨_,_,_,_,_,_,_,_,_,_,_,_,_,_,rfl,?_,?_,?_,?_,?_,?_,fun _=>(by first|rfl|rw[e1]),?_,?_,?_,hx⟩ <;> first|exact cy ‹_› rfl|exact fun _=>rfl
  ·as_aux_lemma=>
    have l6:=he ⟨6,.data⟩ (by simp) rfl;have e:=F6 l6;subst e;refine zB4 ho rfl (fun K hK=>?_);unfold myA;go_simp;refine hK _ _ ⟨_,_,_,_,_,_,_,_,_,_,_,_,_,_,rfl,?_,?_,?_,?_,?_,?_,?_,?_,?_,?_,hx⟩ <;> first|exact cy ‹_› rfl|exact fun _=>rfl
  ·as_aux_lemma=>
    have l7:=he ⟨7,.guard⟩ (by simp) rfl;have e:=F7 l7;subst e;refine wpOp_skip ho rfl ?_;refine⟨_,_,_,_,_,_,_,_,_,_,_,_,_,_,rfl,?_,?_,?_,?_,?_,?_,?_,?_,?_,?_,hx⟩ <;> first|exact cy ‹_› rfl|exact fun _=>rfl
  ·as_aux_lemma=>
    have l7:=he ⟨7,.guard⟩ (by simp) rfl;have e:=F7 l7;subst e;refine wpOp_skip ho rfl ?_;refine⟨_,_,_,_,_,_,_,_,_,_,_,_,_,_,rfl,?_,?_,?_,?_,?_,?_,?_,?_,?_,?_,hx⟩ <;> first|exact cy ‹_› rfl|exact fun _=>rfl
  ·as_aux_lemma=>
    have l7:=he ⟨7,.guard⟩ (by simp) rfl;have e:=F7 l7;subst e;refine wpOp_skip ho rfl ?_;refine⟨_,_,_,_,_,_,_,_,_,_,_,_,_,_,rfl,?_,?_,?_,?_,?_,?_,?_,?_,?_,?_,hx⟩ <;> first|exact cy ‹_› rfl|exact fun _=>rfl
  ·as_aux_lemma=>
    have l7:=he ⟨7,.guard⟩ (by simp) rfl;have e:=F7 l7;subst e;refine wpOp_skip ho rfl ?_;refine⟨_,_,_,_,_,_,_,_,_,_,_,_,_,_,rfl,?_,?_,?_,?_,?_,?_,?_,?_,?_,?_,hx⟩ <;> first|exact cy ‹_› rfl|exact fun _=>rfl
  ·as_aux_lemma=>
    have l7:=he ⟨7,.data⟩ (by simp) rfl;have e:=F7 l7;subst e;refine zB4 ho rfl (fun K hK=>?_);unfold myA;go_simp;refine hK _ _ ⟨_,_,_,_,_,_,_,_,_,_,_,_,_,_,rfl,?_,?_,?_,?_,?_,?_,?_,?_,?_,?_,hx⟩ <;> first|exact cy ‹_› rfl|exact fun _=>rfl
  ·as_aux_lemma=>
    have l12:=he ⟨12,.data⟩ (by simp) rfl;have e:=F12 l12;subst e;refine zB4 ho rfl (fun K hK=>?_);unfold myA;go_simp;refine hK _ _ ⟨_,_,_,_,_,_,_,_,_,_,_,_,_,_,rfl,?_,?_,?_,?_,?_,?_,?_,?_,?_,?_,hx⟩ <;> first|exact cy ‹_› rfl|exact fun _=>rfl
 ·intro listed a w' hI hd;obtain⟨u6,u7,u8,u9,u10,u11,u12,u13,u14,u15,u16,u17,u18,u19,rfl,F0,F1,F2,F3,F4,F5,F6,F7,F12,F13,hx⟩:=hI;have e6:=F13 (hd 13 (by show 13<14;omega));clear F0 F1 F2 F3 F4 F5 F6 F7 F12 F13 hd;subst e6;unfold myA;have HX:=hid hx;clear hx
  go_wp2_with fail
  go_ret
  exact⟨by rw[HM.out];rfl,HB0.trans (HX.out.mono HB0.size)⟩
end Go.Proofs.YtgkdoehkmbhfiaaGreat
