/- Draws: what is asked: the end of l20Req (shortened for n of 9000 and more by hand out of what gen_req2.py printed). -/
import Derived.Test.YtgkdoehkmbhfiaaGreatRDp1
import Derived.Test.YtgkdoehkmbhfiaaGreatRQ11
import Derived.Test.YtgkdoehkmbhfiaaGreatRY1
import Derived.Test.YtgkdoehkmbhfiaaGreatRDo4
import Derived.Test.YtgkdoehkmbhfiaaGreatRMr
import Derived.Test.YtgkdoehkmbhfiaaGreatRDl
import Derived.Test.YtgkdoehkmbhfiaaGreatRMc
import Derived.Test.YtgkdoehkmbhfiaaGreatRMq
import Derived.Test.YtgkdoehkmbhfiaaGreatRLib
import Derived.Test.YtgkdoehkmbhfiaaGreatRLt
import Derived.Test.YtgkdoehkmbhfiaaGreatRTg
import Derived.Test.YtgkdoehkmbhfiaaGreatRQr
import Derived.Test.YtgkdoehkmbhfiaaGreatRD1
import Derived.Deep.RegionWith
import Derived.Deep.Cut
import Derived.Deep.CutRange
set_option linter.unusedVariables false
set_option linter.unusedSimpArgs false
set_option maxHeartbeats 16000000
namespace Go.Proofs.YtgkdoehkmbhfiaaGreat
open Go.RowKit
theorem RepI.ins {w0 W:World} {g N:Nat} {ra ta sa:Option Addr} {inp:Inp} (h:RepI w0 g N [.slice ra 3 3,.slice ta 4 4,.slice sa 3 3] N W) (hN:N≤1000) (hg:g<W.heap.size) (hi:InV W W.heap.size (.agg #[.slice ra 3 3,.slice ta 4 4,.slice sa 3 3]) inp):Ins W W.heap.size (.slice (some ⟨g,0,none⟩) N N) (List.replicate N inp):=by
 refine⟨List.replicate N (.agg #[.slice ra 3 3,.slice ta 4 4,.slice sa 3 3]),?_,by simp,fun k hk d=>?_⟩
 ·have:=h.arr hN hg;rw[List.map_replicate];exact this
 ·rw[List.length_replicate]at hk;have e1:(List.replicate N (Value.agg #[.slice ra 3 3,.slice ta 4 4,.slice sa 3 3])).getD k undef=.agg #[.slice ra 3 3,.slice ta 4 4,.slice sa 3 3]:=by simp[List.getD,hk]
  have e2:(List.replicate N inp).getD k d=inp:=by simp[List.getD,hk]
  rw[e1,e2];exact hi
def flC (w w0 : World) (g3 n : Nat) (st2 : Cy) (us : List Value) (W : World) : Prop := match us with
 |[]=>Below w0.heap.size w0 W
 |[v0]=>Below w0.heap.size w0 W∧∃ra ta sa,v0=.agg #[.slice ra 3 3,.slice ta 4 4,.slice sa 3 3]∧InV W W.heap.size (.agg #[.slice ra 3 3,.slice ta 4 4,.slice sa 3 3]) inAll
 |[_,v1]=>Below w0.heap.size w0 W∧∃b ra ta sa,v1=.slice (some ⟨b,0,none⟩) 1 1∧b<W.heap.size∧W.cell? ⟨b,0,none⟩=some (.slice ra 3 3)∧W.cell? ⟨b,1,none⟩=some (.slice ta 4 4)∧W.cell? ⟨b,2,none⟩=some (.slice sa 3 3)∧InV W W.heap.size (.agg #[.slice ra 3 3,.slice ta 4 4,.slice sa 3 3]) inAll
 |[_,_,v2]=>Below w0.heap.size w0 W∧∃g,v2=.slice (some ⟨g,0,none⟩) n n∧Ins W W.heap.size (.slice (some ⟨g,0,none⟩) n n) (List.replicate n inAll)
 |[_,_,_,v3]=>Below w0.heap.size w0 W∧∃y0 y1 y2 y3 y4 m0 m1 m2 m3 m4 j0 j1 j2 j3 j4 V N C D,v3=.agg #[.slice y0 m0 j0,.slice y1 m1 j1,.slice y2 m2 j2,.slice y3 m3 j3,.slice y4 m4 j4]∧(V 0=.slice y0 m0 j0∧V 1=.slice y1 m1 j1∧V 2=.slice y2 m2 j2∧V 3=.slice y3 m3 j3∧V 4=.slice y4 m4 j4)∧CyR W w0.heap.size st2 V N C D
 |_=>∃y0 y1 y2 y3 y4 m0 m1 m2 m3 m4 j0 j1 j2 j3 j4 V N C D,(V 0=.slice y0 m0 j0∧V 1=.slice y1 m1 j1∧V 2=.slice y2 m2 j2∧V 3=.slice y3 m3 j3∧V 4=.slice y4 m4 j4)∧CyR W w0.heap.size st2 V N C D∧Bx W g3 [.slice y0 m0 j0,.slice y1 m1 j1,.slice y2 m2 j2,.slice y3 m3 j3,.slice y4 m4 j4]∧Below w.heap.size w W
theorem flC_below {w w0 W:World} {g3 n:Nat} {st2:Cy} {us:List Value} (h:flC w w0 g3 n st2 us W) (hl:us.length≤4):Below w0.heap.size w0 W:=by
 match us,h,hl with
 |[],h,_=>exact h
 |[_],h,_=>exact h.1
 |[_,_],h,_=>exact h.1
 |[_,_,_],h,_=>exact h.1
 |[_,_,_,_],h,_=>exact h.1
 |_::_::_::_::_::_,_,hl=>exact absurd hl (by simp)
set_option maxRecDepth 8000 in
theorem cycFlow_any {c : Cfg} (hbus : Bus c) {w : World} {B : Nat} {u : Value} (hc : BusV w B u c) {a0 a1 a2 a3 a4 : Value} {st : Cy} {P : List PS} {Q : List SS} (h : CyV w B a0 a1 a2 a3 a4 st P Q) (hB : B ≤ w.heap.size) (hg : Good c st) {n : Nat} (hn : n ≤ 300) :
    Calls Tryz.prog 19 #[u,.agg #[a0,a1,a2,a3,a4],.int .i64 n] w (CopP (flow c n st) w):=by
  obtain⟨mv,lb,lo,lc,pb,po,pc,QQ,K,rfl,⟨ma,mn,mk,rfl⟩,_,_,_,_,_,_⟩:=hc.opened hbus;obtain⟨z0,z1,z2,z3,z4,n0,n1,n2,n3,n4,k0,k1,k2,k3,k4,rfl,rfl,rfl,rfl,rfl⟩:=h.sl;have HRN:=hid (fun(W:World) (hW:Below w.heap.size w W) (v:Value) (hi:Ins W W.heap.size v (List.replicate n inAll))=>cycRun_any hbus ((hc.below (hW.mono hB)).mono (Nat.le_trans hB hW.size)) ((h.below (hW.mono hB)).mono (Nat.le_trans hB hW.size)) hi (Nat.le_refl _) hg (by rw[List.length_replicate];exact hn));obtain⟨w0,hw0⟩:∃W,W=((w.alloc (.cells #[.slice ma mn mk,.slice (some ⟨lb,lo,none⟩) 4 lc,.slice (some ⟨pb,po,none⟩) 3 pc] 27)).alloc (.cells #[.slice z0 n0 k0,.slice z1 n1 k1,.slice z2 n2 k2,.slice z3 n3 k3,.slice z4 n4 k4] 39)).alloc (.cells #[.slice none 0 0,.slice none 0 0,.slice none 0 0,.slice none 0 0,.slice none 0 0] 39):=⟨_,rfl⟩
  have hb0:Below w.heap.size w w0:=by rw[hw0];exact(((Below.refl _ _).alloc (Nat.le_refl _) _).alloc (by simp) _).alloc (by simp <;> omega) _
  obtain⟨g1,hg1⟩:∃g,g=w.heap.size+1:=⟨_,rfl⟩
  obtain⟨g3,hg3⟩:∃g,g=w.heap.size+1+1:=⟨_,rfl⟩
  have X0 := hid (show Bx w0 w.heap.size [.slice ma mn mk, .slice (some ⟨lb, lo, none⟩) 4 lc, .slice (some ⟨pb, po, none⟩) 3 pc] by
    rw[hw0];exact((Bx.new w #[.slice ma mn mk,.slice (some ⟨lb,lo,none⟩) 4 lc,.slice (some ⟨pb,po,none⟩) 3 pc] 27 (by simp)).below ((Below.refl _ _).alloc (Nat.le_refl _) _) (by simp)).below ((Below.refl _ _).alloc (Nat.le_refl _) _) (by simp <;> omega))
  have X1 := hid (show Bx w0 g1 [.slice z0 n0 k0, .slice z1 n1 k1, .slice z2 n2 k2, .slice z3 n3 k3, .slice z4 n4 k4] by
    rw[hw0,hg1];have:=(Bx.new (w.alloc (.cells #[.slice ma mn mk,.slice (some ⟨lb,lo,none⟩) 4 lc,.slice (some ⟨pb,po,none⟩) 3 pc] 27)) #[.slice z0 n0 k0,.slice z1 n1 k1,.slice z2 n2 k2,.slice z3 n3 k3,.slice z4 n4 k4] 39 (by simp)).below ((Below.refl _ _).alloc (Nat.le_refl _) (.cells #[.slice none 0 0,.slice none 0 0,.slice none 0 0,.slice none 0 0,.slice none 0 0] 39)) (by simp);simpa using this)
  have X3 := hid (show Bx w0 g3 [vnil, vnil, vnil, vnil, vnil] by
    rw[hw0,hg3];have:=Bx.new ((w.alloc (.cells #[.slice ma mn mk,.slice (some ⟨lb,lo,none⟩) 4 lc,.slice (some ⟨pb,po,none⟩) 3 pc] 27)).alloc (.cells #[.slice z0 n0 k0,.slice z1 n1 k1,.slice z2 n2 k2,.slice z3 n3 k3,.slice z4 n4 k4] 39)) #[vnil,vnil,vnil,vnil,vnil] 39 (by simp);simpa using this)
  have HB0:=hid hb0;have h300:decide ((300:Int)<(n:Int))=false:=by simp;omega
  have hmax:(if 0<n then(n:Int) else 0)=(n:Int):=by split <;> omega
  obtain⟨b0,b1,b2⟩:=X0.out.three.1;obtain⟨t0,t1,t2,t3,t4⟩:=X1.out.five.1;clear hc h hb0
  go_enter Tryz.func19,Tryz.ntmps19
  go_upto_region 1 with fail
  rw[←hw0,←hg3,←hg1];have HG1:=hid hg1;have HG3:=hid hg3;clear hw0 hg1 hg3
  go_upto_region 3 with fail
  obtain⟨st2,hst2⟩:∃s,s=flow c n st:=⟨_,rfl⟩
  have HST:=hid hst2;obtain⟨CC,hCC⟩:∃CC:List Value→World→Prop,CC=flC w w0 g3 n st2:=⟨_,rfl⟩
  have hC0:CC [] w0.drew:=by rw[hCC];exact(Below.refl _ _).drew
  have hTC:∀us W,CC us W→us.length≤4→Below w0.heap.size w0 W:=by rw[hCC];exact fun us W h hl=>flC_below h hl
  have HCC:=hid hCC;have hne:Nonempty (Ph CC):=⟨⟨([],w0.drew),hC0⟩⟩
  have hne4:Nonempty (Ph (lims CC (some 4))):=⟨⟨([],w0.drew),hC0,by simp⟩⟩
  have pc:∀{p:Addr} {v:Value},w0.cell? p=some v→∀x:Ph (lims CC (some 4)),x.1.2.cell? p=some v:=fun hc x=>((hTC _ _ x.2.1 x.2.2).cell (World.block_lt_of_cell? w0 _ hc)).trans hc
  replace t0:=pc t0;replace t1:=pc t1;replace t2:=pc t2;replace t3:=pc t3;replace t4:=pc t4;replace b0:=pc b0;replace b1:=pc b1;replace b2:=pc b2;clear hCC pc hst2 hTC;refine zA8 CC [(2,false),(3,false),(6,false),(7,false),(8,false)] [(0,4),(1,4)] (by kernel_rfl) (by kernel_rfl) hC0 ?_
  iterate 2
    refine wq1_b ⟨rfl,rfl⟩ (fun KA hKA=>?_);go_simp;refine hKA _ ?_;clear hKA KA
  iterate 2 refine wq1_v rfl ?_
  repeat (
    (with_reducible refine wq1_q ⟨rfl,rfl⟩ (fun K hK=>?_))
    go_simp
    first
      |((with_reducible refine hK _ ?_);clear hK K)
      |((with_reducible refine zA6 (by simp[undef]) (hK _ ?_));clear hK K)
      | (apply Exists.intro
         (with_reducible refine⟨fun _=>?_,hK _ ?_⟩)
         (fail)
         clear hK K))
  iterate 3 refine wq1_v rfl ?_
  refine zE0 ?_;clear t0 t1 t2 t3 t4 b0 b1 b2 hne hne4;refine wq2_v _ rfl rfl ?_ ?_
  · intro W hW KA hKA
    rw[HCC.out]at hW hKA;go_simp
    (with_reducible refine(implInAll_any W).mono ?_)
    rintro e w1 ⟨ra,ta,sa,rfl,hi,hb⟩;go_simp;exact hKA _ _ _ ⟨Below.trans (show Below w0.heap.size w0 W from hW) (hb.mono (Below.size (show Below w0.heap.size w0 W from hW))),ra,ta,sa,rfl,hi⟩ rfl
  intro v0 KA hKA;go_simp;refine hKA _ ?_;clear hKA KA;refine wq2_v _ rfl rfl ?_ ?_
  · intro W hW KA hKA
    rw[HCC.out]at hW hKA;obtain⟨hb,ra,ta,sa,rfl,hi⟩:=hW;go_simp;exact hKA _ _ _ ⟨hb.alloc hb.size _,W.heap.size,ra,ta,sa,rfl,by simp,by simp[go_sem],by simp[go_sem],by simp[go_sem],(hi.below ((Below.refl _ _).alloc (Nat.le_refl _) _)).mono (by simp)⟩ rfl
  intro v1 KA hKA;go_simp;refine hKA _ ?_;clear hKA KA;refine wq2_v _ rfl rfl ?_ ?_
  · intro W hW KA hKA
    rw[HCC.out]at hW hKA;obtain⟨hb,b,ra,ta,sa,rfl,hbl,d0,d1,d2,hi⟩:=hW;go_simp
    (with_reducible refine(repeatIn_any n hn b _ _ _ _ _ _ _ _ _ W hbl d0 d1 d2).mono ?_)
    rintro e w1 ⟨g,rfl,hr,hge,hgl⟩;go_simp;exact hKA _ _ _ ⟨hb.trans (hr.bel.mono hb.size),g,rfl,hr.ins (by omega) hgl ((hi.below hr.bel).mono hr.bel.size)⟩ rfl
  intro v2 KA hKA;go_simp;refine hKA _ ?_;clear hKA KA;refine wq2_v _ rfl rfl ?_ ?_
  · intro W hW KA hKA
    rw[HCC.out]at hW hKA;obtain⟨hb,g,rfl,hi⟩:=hW;go_simp
    (with_reducible refine(HRN.out W (HB0.out.trans (hb.mono HB0.out.size)) _ hi).mono ?_)
    rintro e w1 hcop;obtain⟨V,N,C,D,y0,y1,y2,y3,y4,m0,m1,m2,m3,m4,j0,j1,j2,j3,j4,hE,rfl,hr,hb1⟩:=hcop.sl;go_simp;exact hKA _ _ _ ⟨hb.trans (hb1.mono hb.size),y0,y1,y2,y3,y4,m0,m1,m2,m3,m4,j0,j1,j2,j3,j4,V,N,C,D,rfl,hE,by rw[HST.out];exact hr.rebase hb.size⟩ rfl
  intro v3 KA hKA;go_simp;refine hKA _ ?_;clear hKA KA;refine wq2_v _ rfl rfl ?_ ?_
  · intro W hW KA hKA
    rw[HCC.out]at hW hKA;obtain⟨hb,y0,y1,y2,y3,y4,m0,m1,m2,m3,m4,j0,j1,j2,j3,j4,V,N,C,D,rfl,hE,hr⟩:=hW;have X:=X3.out.below hb X3.out.lt;obtain⟨⟨q0,q1,q2,q3,q4⟩,f0,f1,f2,f3,f4⟩:=X.five;have h3:=X3.out.lt;have h5:w.heap.size≤g3:=by have:=HG3.out;omega
    go_simp
    exact hKA undef _ _ ⟨y0, y1, y2, y3, y4, m0, m1, m2, m3, m4, j0, j1, j2, j3, j4, V, N, C, D, hE, hr.kept (fun b h1 h2 => (touchC g3 _ _ _ _ _ _).block b h2 (by omega)) (touchC g3 _ _ _ _ _ _).size, X.put5 _ _ _ _ _,
      ((((((HB0.out.trans (hb.mono HB0.out.size)).setCell (p:=⟨g3,_,none⟩) h5 _).setCell (p:=⟨g3,_,none⟩) h5 _).setCell (p:=⟨g3,_,none⟩) h5 _).setCell (p:=⟨g3,_,none⟩) h5 _).setCell (p:=⟨g3,_,none⟩) h5 _)⟩ rfl
  intro v4 KA hKA;go_simp;refine hKA _ ?_;clear hKA KA;refine zD9 ?_;intro wd hwd;rw[HCC.out]at hwd;obtain⟨y0,y1,y2,y3,y4,m0,m1,m2,m3,m4,j0,j1,j2,j3,j4,V,N,C,D,hE,hr,hx,hbd⟩:=hwd;have HR:=hid hr;have HE:=hid hE;have HBD:=hid hbd;obtain⟨q0,q1,q2,q3,q4⟩:=hx.five.1;clear hr hE hbd hx hC0
  go_wp2_with fail
  refine bodyPost_ret (zB0 Tryz.results19 _ _ ⟨g3,0,none⟩ (.agg #[.slice y0 m0 j0,.slice y1 m1 j1,.slice y2 m2 j2,.slice y3 m3 j3,.slice y4 m4 j4]) rfl (zM4 _ _ _ _ _ _ _ q0 q1 q2 q3 q4)) rfl ?_;rw[←HST.out];exact⟨V,N,C,D,by rw[HE.out.1,HE.out.2.1,HE.out.2.2.1,HE.out.2.2.2.1,HE.out.2.2.2.2],HR.out.rebase HB0.out.size,HBD.out⟩
theorem JobsV.cells {w : World} {B : Nat} {v : Value} {js : List TJ} (h : JobsV w B v js) :
  ∃ ao cap, v = .slice ao js.length cap ∧ js.length ≤ cap ∧ cap ≤ 9223372036854775807 ∧ js.length ≤ 140737488351232 ∧
   (js.length≠0→∃b off,ao=some ⟨b,off,none⟩∧b<B∧∀t,t<js.length→∃da dn dc,w.cell? ⟨b,off+t * 5,none⟩=some (.int .i64 ((js.getD t default).who:Nat))∧w.cell? ⟨b,off+t * 5+1,none⟩=some (.int .i64 ((js.getD t default).n:Nat))∧w.cell? ⟨b,off+t * 5+2,none⟩=some (.int .i64 (js.getD t default).rsp.id)∧w.cell? ⟨b,off+t * 5+3,none⟩=some (.int .i64 (js.getD t default).rsp.code)∧w.cell? ⟨b,off+t * 5+4,none⟩=some (.slice da dn dc)∧Ints w B (.slice da dn dc) (js.getD t default).rsp.data):=by
 obtain⟨D,⟨ao,cap,hv,h1,h2,h0,h9,h3⟩,rfl,hd⟩:=h;simp only[List.length_map]at hv h1 h0 h3 ⊢;refine⟨ao,cap,hv,h1,h2,h0,fun hn=>?_⟩;obtain⟨b,off,ha,hlt,hc⟩:=h3 hn;refine⟨b,off,ha,hlt,fun t ht=>?_⟩;have e:(D.map tjRow).getD t []=tjRow (D[t]):=by simp[List.getD,ht]
 have e2:(D.map (·.1)).getD t default=(D[t]).1:=by simp[List.getD,ht]
 have c0:=hc t ht 0 (by omega);have c1:=hc t ht 1 (by omega);have c2:=hc t ht 2 (by omega);have c3:=hc t ht 3 (by omega);have c4:=hc t ht 4 (by omega);have hi:=hd _ (List.getElem_mem ht);obtain⟨da,dc,he,_⟩:=hi.opened;rw[e]at c0 c1 c2 c3 c4;rw[e2];rw[he]at hi;exact⟨da,_,dc,by simpa[tjRow]using c0,by simpa[tjRow]using c1,by simpa[tjRow]using c2,by simpa[tjRow]using c3,by simpa[tjRow,he]using c4,hi⟩
theorem Nats.ints {w:World} {B:Nat} {v:Value} {xs:List Nat} (h:Nats w B v xs) (hx:∀x∈xs,x<1000):Ints w B v (xs.map fun(x:Nat)=>(x:Int)) :=
 ⟨by rw[List.map_map];exact h,fun x hx2=>by obtain⟨y,hy,rfl⟩:=List.mem_map.1 hx2;have:=hx y hy;unfold I64;omega⟩
theorem CyV.rows {w : World} {B : Nat} {a0 a1 a2 a3 a4 : Value} {st : Cy} {P : List PS} {Q : List SS} (hv : CyV w B a0 a1 a2 a3 a4 st P Q) : ∃ (d0 d1 d4 : Option Addr) (c0 c1 c4 pg po pc tg tp tc : Nat), a0 = .slice d0 st.ws.length c0 ∧ a1 = .slice d1 st.hs.length c1 ∧ a2 = .slice (some ⟨pg, po, none⟩) 3 pc ∧ a3 = .slice (some ⟨tg, tp, none⟩) 4 tc ∧ a4 = .slice d4 st.told.length c4 ∧ pg < B ∧ tg < B ∧
  (∀k,k<3→∃qa qc oa oc,w.cell? ⟨pg,po+k * 4,none⟩=some (.int .i64 ((st.ports k).next:Nat))∧w.cell? ⟨pg,po+k * 4+1,none⟩=some (.slice qa (st.ports k).queue.length qc)∧w.cell? ⟨pg,po+k * 4+2,none⟩=some (.slice oa (st.ports k).out.length oc)∧w.cell? ⟨pg,po+k * 4+3,none⟩=some (.int .i64 ((st.ports k).last:Nat))∧Nats w B (.slice qa (st.ports k).queue.length qc) (st.ports k).queue∧Jbs w B (.slice oa (st.ports k).out.length oc) (st.ports k).out) ∧
  (∀k,k<4→∃qa qc oa oc,w.cell? ⟨tg,tp+k * 3,none⟩=some (.slice qa (st.slaves k).pipe.length qc)∧w.cell? ⟨tg,tp+k * 3+1,none⟩=some (.slice oa (st.slaves k).done.length oc)∧w.cell? ⟨tg,tp+k * 3+2,none⟩=some (.int .i64 ((st.slaves k).last:Nat))∧Jbs w B (.slice qa (st.slaves k).pipe.length qc) (st.slaves k).pipe∧JobsV w B (.slice oa (st.slaves k).done.length oc) (st.slaves k).done):=by
 obtain⟨d0,c0,e0,_⟩:=hv.ws.opened;obtain⟨d1,c1,e1,_⟩:=hv.hs.opened;obtain⟨pg,po,pc,e2,_,_,hpg,hpc⟩:=hv.ps.at (by rw[hv.lp];omega)
 obtain⟨tg,tp,tc,e3,_,_,htg,htc⟩:=hv.ss.at (by rw[hv.lq];omega)
 obtain⟨d4,c4,e4,_⟩:=hv.told.cells;rw[hv.lp]at e2 hpc;rw[hv.lq]at e3 htc;refine⟨d0,d1,d4,c0,c1,c4,pg,po,pc,tg,tp,tc,e0,e1,e2,e3,e4,hpg,htg,fun k hk=>?_,fun k hk=>?_⟩
 ·have h1:=hv.pn k hk;have h2:=hv.q k hk;have h3:=hv.o k hk;have h4:=hpc k default hk;obtain⟨x,hx⟩:∃x,x=P.getD k default:=⟨_,rfl⟩
  rw[←hx]at h1 h2 h3 h4;obtain⟨nx,⟨qa,qn,qc⟩,⟨oa,on,oc⟩,la⟩:=x;simp only[sl]at h1 h2 h3;obtain rfl:=h2.len;obtain rfl:=h3.len;have g0:=h4 0 (by omega);have g1:=h4 1 (by omega);have g2:=h4 2 (by omega);have g3:=h4 3 (by omega);rw[←h1.1,←h1.2];exact⟨qa,qc,oa,oc,by simp only[rowPS,List.getElem?_cons_zero,List.getElem?_cons_succ]at g0;exact g0,by simp only[rowPS,List.getElem?_cons_zero,List.getElem?_cons_succ]at g1;exact g1,by simp only[rowPS,List.getElem?_cons_zero,List.getElem?_cons_succ]at g2;exact g2,by simp only[rowPS,List.getElem?_cons_zero,List.getElem?_cons_succ]at g3;exact g3,h2,h3⟩
 ·have h1:=hv.sn k hk;have h2:=hv.p k hk;have h3:=hv.d k hk;have h4:=htc k default hk;obtain⟨x,hx⟩:∃x,x=Q.getD k default:=⟨_,rfl⟩
  rw[←hx]at h1 h2 h3 h4;obtain⟨⟨qa,qn,qc⟩,⟨oa,on,oc⟩,la⟩:=x;simp only[sl]at h1 h2 h3;obtain rfl:=h2.len;obtain rfl:=h3.len;have g0:=h4 0 (by omega);have g1:=h4 1 (by omega);have g2:=h4 2 (by omega);rw[←h1];exact⟨qa,qc,oa,oc,by simp only[rowSS,List.getElem?_cons_zero,List.getElem?_cons_succ]at g0;exact g0,by simp only[rowSS,List.getElem?_cons_zero,List.getElem?_cons_succ]at g1;exact g1,by simp only[rowSS,List.getElem?_cons_zero,List.getElem?_cons_succ]at g2;exact g2,h2,h3⟩
theorem JobsV.take {w:World} {B:Nat} {a:Option Addr} {n k m:Nat} {js:List TJ} (h:JobsV w B (.slice a n k) js) (hm:m≤n):JobsV w B (.slice a m k) (js.take m):=by
 obtain⟨D,⟨ao,cap,hv,h1,h2,h0,h9,h3⟩,rfl,hd⟩:=h;simp only[List.length_map,Value.slice.injEq]at hv h1 h0 h3;obtain⟨rfl,rfl,rfl⟩:=hv;have hl:(D.take m).length=m:=by rw[List.length_take];omega
 refine⟨D.take m,⟨a,k,by rw[List.length_map,hl],by rw[List.length_map,hl];omega,h2,by rw[List.length_map,hl];omega,h9,fun hn=>?_⟩,by rw[List.map_take],fun x hx=>hd x (List.mem_of_mem_take hx)⟩;rw[List.length_map,hl]at hn;obtain⟨b,off,ha,hlt,hc⟩:=h3 (by omega);refine⟨b,off,ha,hlt,fun t ht j hj=>?_⟩;rw[List.length_map,hl]at ht;rw[hc t (by omega) j hj];simp[List.getD,List.getElem?_take,ht]
theorem InV.bits {w:World} {B:Nat} {ra ta sa:Option Addr} {rc tc sc:Nat} {inp:Inp} (h:InV w B (.agg #[.slice ra 3 rc,.slice ta 4 tc,.slice sa 3 sc]) inp):∃rb ro sb so,ra=some ⟨rb,ro,none⟩∧sa=some ⟨sb,so,none⟩∧rb<B∧sb<B∧(∀j,j<3→w.cell? ⟨rb,ro+j,none⟩=some (.bool (inp.ready.getD j false)))∧(∀j,j<3→w.cell? ⟨sb,so+j,none⟩=some (.bool (inp.send.getD j false))):=by
 obtain⟨⟨ra', rc', ta', tc', sa', sc', e,k1,_,k3⟩,l1,_,l3⟩:=h;simp only[Value.agg.injEq,Array.mk.injEq,List.cons.injEq,Value.slice.injEq,and_true]at e;obtain⟨⟨rfl,_,rfl⟩,_,⟨rfl,_,rfl⟩⟩:=e;obtain⟨a1,c1,e1,_,_,_,_,h1⟩:=k1.opened;obtain⟨a3,c3,e3,_,_,_,_,h3⟩:=k3.opened;simp only[Value.slice.injEq,true_and]at e1 e3;obtain⟨rb,ro,rfl,q1,q2⟩:=h1 (by omega);obtain⟨sb,so,rfl,q3,q4⟩:=h3 (by omega);exact⟨rb,ro,sb,so,e1.1,e3.1,q1,q3,fun j hj=>q2 j (by omega),fun j hj=>q4 j (by omega)⟩
theorem bT {w W W1:World} (h:Below w.heap.size w W) (h2:Below W.heap.size W W1):Below w.heap.size w W1:=h.trans (h2.mono h.size)
def Flowed (wo:World) (st:Cy) (s:Value) (w9:World):Prop:=∃gx,s=.pointer (some ⟨gx,0,none⟩)∧CyBox w9 gx st∧wo.heap.size≤gx∧Below wo.heap.size wo w9
theorem flowed_a {wo wa : World} {base : Nat} {st : Cy} {V : Nat → Value} {N : Nat → Nat} {C : Nat → List Value} {D : Nat → List TJV} {y0 y1 y2 y3 y4 : Option Addr} {m0 m1 m2 m3 m4 j0 j1 j2 j3 j4 : Nat} (hE : V 0 = .slice y0 m0 j0 ∧ V 1 = .slice y1 m1 j1 ∧ V 2 = .slice y2 m2 j2 ∧ V 3 = .slice y3 m3 j3 ∧ V 4 = .slice y4 m4 j4)
  (hr:CyR wa base st V N C D) (hb:Below wo.heap.size wo wa):Flowed wo st (.pointer (some ⟨wa.heap.size,0,none⟩)) (wa.alloc (.cells #[.slice y0 m0 j0,.slice y1 m1 j1,.slice y2 m2 j2,.slice y3 m3 j3,.slice y4 m4 j4] 39)):=by
 refine⟨_,rfl,CyBox.new hr ((Below.refl _ _).alloc (Nat.le_refl _) _) (Nat.le_refl _) ?_,hb.size,hb.alloc hb.size _⟩;obtain⟨e0,e1,e2,e3,e4⟩:=hE;rw[e0,e1,e2,e3,e4];exact Bx.new wa #[.slice y0 m0 j0,.slice y1 m1 j1,.slice y2 m2 j2,.slice y3 m3 j3,.slice y4 m4 j4] 39 (by simp)
theorem flowed_b {wo wa : World} {base gx : Nat} {st : Cy} {V : Nat → Value} {N : Nat → Nat} {C : Nat → List Value} {D : Nat → List TJV} {y0 y1 y2 y3 y4 : Option Addr} {m0 m1 m2 m3 m4 j0 j1 j2 j3 j4 : Nat} {v0 v1 v2 v3 v4 : Value} (hE : V 0 = .slice y0 m0 j0 ∧ V 1 = .slice y1 m1 j1 ∧ V 2 = .slice y2 m2 j2 ∧ V 3 = .slice y3 m3 j3 ∧ V 4 = .slice y4 m4 j4)
  (hr:CyR wa base st V N C D) (hb:Below wo.heap.size wo wa) (hx:Bx wa gx [v0,v1,v2,v3,v4]) (hg:gx<base) (ho:wo.heap.size≤gx):Flowed wo st (.pointer (some ⟨gx,0,none⟩)) (((((wa.setCell ⟨gx,0,none⟩ (.slice y0 m0 j0)).setCell ⟨gx,1,none⟩ (.slice y1 m1 j1)).setCell ⟨gx,2,none⟩ (.slice y2 m2 j2)).setCell ⟨gx,3,none⟩ (.slice y3 m3 j3)).setCell ⟨gx,4,none⟩ (.slice y4 m4 j4)):=by
 refine⟨gx,rfl,CyBox.set hr put5_other (by simp) hg ?_,ho,((((hb.setCell (p:=⟨gx,_,none⟩) ho _).setCell (p:=⟨gx,_,none⟩) ho _).setCell (p:=⟨gx,_,none⟩) ho _).setCell (p:=⟨gx,_,none⟩) ho _).setCell (p:=⟨gx,_,none⟩) ho _⟩;obtain⟨e0,e1,e2,e3,e4⟩:=hE;rw[e0,e1,e2,e3,e4];exact hx.put5 _ _ _ _ _
theorem nilBox (wo:World):Bx (wo.alloc (.cells #[.slice none 0 0,.slice none 0 0,.slice none 0 0,.slice none 0 0,.slice none 0 0] 39)) wo.heap.size [vnil,vnil,vnil,vnil,vnil]:=Bx.new wo #[vnil,vnil,vnil,vnil,vnil] 39 (by simp)
theorem nilBoxD (wo:World):Bx (wo.alloc (.cells #[.slice none 0 0,.slice none 0 0,.slice none 0 0,.slice none 0 0,.slice none 0 0] 39)).drew wo.heap.size [vnil,vnil,vnil,vnil,vnil]:=(nilBox wo).below (Below.refl (wo.heap.size+1) _).drew (Nat.lt_succ_self _)
def CyX (st:Cy) (W:World) (v:Value):Prop:=∃b0 b1 b2 b3 b4 n0 n1 n2 n3 n4 k0 k1 k2 k3 k4 P Q,v=.agg #[.slice b0 n0 k0,.slice b1 n1 k1,.slice b2 n2 k2,.slice b3 n3 k3,.slice b4 n4 k4]∧CyV W W.heap.size (.slice b0 n0 k0) (.slice b1 n1 k1) (.slice b2 n2 k2) (.slice b3 n3 k3) (.slice b4 n4 k4) st P Q
theorem CyX.below {st:Cy} {W W':World} {v:Value} (h:CyX st W v) (hb:Below W.heap.size W W'):CyX st W' v:=by
 obtain⟨b0,b1,b2,b3,b4,n0,n1,n2,n3,n4,k0,k1,k2,k3,k4,P,Q,e,h⟩:=h;exact⟨b0,b1,b2,b3,b4,n0,n1,n2,n3,n4,k0,k1,k2,k3,k4,P,Q,e,(h.below hb).mono hb.size⟩
theorem cycNewX {c:Cfg} (hbus:Bus c) (w:World):Calls Tryz.prog 10 #[] w fun e w' => ∃v,e=.returned v∧CyX cy0 w' v∧Below w.heap.size w w':=(cycNew_any w).mono fun e w' h=>by
 obtain⟨z0,z1,z2,z3,z4,n0,n1,n2,n3,n4,k0,k1,k2,k3,k4,P,Q,rfl,hv,hb⟩:=h.view hbus (zG0 c);exact⟨_,rfl,⟨_,_,_,_,_,_,_,_,_,_,_,_,_,_,_,_,_,rfl,hv⟩,hb⟩
theorem cycFlowX {c:Cfg} (hbus:Bus c) {w w1:World} {u:Value} (hc:BusV w1 w1.heap.size u c) (hb:Below w1.heap.size w1 w) {v:Value} (h:CyX cy0 w v) {n:Nat} (hn:n≤300):Calls Tryz.prog 19 #[u,v,.int .i64 n] w (CopP (flow c n cy0) w):=by
 obtain⟨b0,b1,b2,b3,b4,n0,n1,n2,n3,n4,k0,k1,k2,k3,k4,P,Q,rfl,h⟩:=h;exact cycFlow_any hbus ((hc.below hb).mono hb.size) h (Nat.le_refl _) (zG0 c) hn
theorem reqSlave_nat {c : Cfg} (hbus : Bus c) {who n : Nat} (hw : who < 3) (hn : n < (c.prog who).length) {args : Array Value} {w : World} (h : Calls Tryz.prog 13 args w fun e w' => e = .returned (.int .i64 (if (mapOk c.ms && reqOk ((c.prog who).getD n default)) = true then zK8 c.ms ((c.prog who).getD n default) else -1)) ∧ Below w.heap.size w w') :
  Calls Tryz.prog 13 args w fun e w' => e=.returned (.int .i64 (c.slv who n:Nat))∧Below w.heap.size w w':=by
 refine h.mono ?_;rintro e w' ⟨rfl,hb⟩;have hok:(mapOk c.ms&&reqOk ((c.prog who).getD n default))=true:=by rw[Bool.and_eq_true];exact⟨hbus.ms,hbus.req hw hn⟩
 rw[if_pos hok];exact⟨congrArg (fun x=>Ending.returned (.int .i64 x)) (slv_nat hbus.ms),hb⟩
structure AloneF (c:Cfg) (who lo0:Nat) (ma:Option Addr) (mk lb lo lc pb:Nat) (us:List Value) (L:Nat→Nat) (W:World):Prop where
 m:Maps W W.heap.size (.slice ma c.ms.length mk) c.ms
 mo:∀k,(Value.slice ma c.ms.length mk).ownBlock=some k→k≠pb∧lo0≤k
 l:Ints W W.heap.size (.slice (some ⟨lb,lo,none⟩) 4 lc) (c.lat.map fun(n:Nat)=>(n:Int))
 lp:lb≠pb
 lo_:lo0≤lb
 p:PsO W lo0 pb 3 us (zC7 c.progs who 3) L
theorem AloneF.below {c:Cfg} {who lo0:Nat} {ma:Option Addr} {mk lb lo lc pb:Nat} {us:List Value} {L:Nat→Nat} {W W':World} (h:AloneF c who lo0 ma mk lb lo lc pb us L W) (hb:Below W.heap.size W W'):AloneF c who lo0 ma mk lb lo lc pb us L W' :=
 ⟨(h.m.below hb).mono hb.size,h.mo,⟨(h.l.1.below hb).mono hb.size,h.l.2⟩,h.lp,h.lo_,h.p.below hb⟩
theorem AloneP.fact {c:Cfg} {who:Nat} {w:World} {e:Ending} {w':World} (h:AloneP c who w e w'):∃ma mk lb lo lc pb us L,e=.returned (.agg #[.slice ma c.ms.length mk,.slice (some ⟨lb,lo,none⟩) 4 lc,.slice (some ⟨pb,0,none⟩) 3 3])∧AloneF c who w.heap.size ma mk lb lo lc pb us L w' ∧ Below w.heap.size w w':=by
 obtain⟨ma,mk,lb,lo,lc,pb,us,L,e,h1,h2,h3,h4,h5,h6,h7⟩:=h;exact⟨ma,mk,lb,lo,lc,pb,us,L,e,⟨h1,h2,h3,h4,h5,h6⟩,h7⟩
theorem slvC_lt4 {c:Cfg} (hb:Bus c) (w n:Nat):c.slv w n<4:=slv_lt4 hb.ms _
def vX (x:InX):Value:=.agg #[.slice (some ⟨x.2.1,0,none⟩) 3 3,.slice (some ⟨x.2.2.1,0,none⟩) 4 4,.slice (some ⟨x.2.2.2,0,none⟩) 3 3]
theorem ins_rows {w:World} {lo:Nat} {v:Value} {xs:List InX} {ins:List Inp} (ho:Owns w lo 45 3 rowX v xs) (hl:xs.length=ins.length) (hm:xs.length≤1000000) (hx:∀k,k<xs.length→InV w w.heap.size (vX (xs.getD k default)) (ins.getD k default)):Ins w w.heap.size v ins:=by
 refine⟨xs.map vX,?_,by simp[hl],fun k hk d=>?_⟩
 ·rw[List.map_map];exact ho.arr rowX_len (by omega)
 ·have e:=hx k (by omega);have e1:(xs.map vX).getD k undef=vX (xs.getD k default):=by simp[List.getD,show k<xs.length by omega]
  have e2:ins.getD k d=ins.getD k default:=by simp[List.getD,hk]
  rw[e1,e2];exact e
theorem ins_same {w:World} {lo k:Nat} {v:Value} {x:InX} {inp:Inp} (ho:Owns w lo 45 3 rowX v (List.replicate k x)) (hm:k≤1000000) (hx:InV w w.heap.size (vX x) inp):Ins w w.heap.size v (List.replicate k inp) :=
 ins_rows ho (by simp) (by simpa using hm) fun i hi=>by
  rw[List.length_replicate]at hi;have e1:(List.replicate k x).getD i default=x:=by simp[List.getD,hi]
  have e2:(List.replicate k inp).getD i default=inp:=by simp[List.getD,hi]
  rw[e1,e2];exact hx
theorem rep_snoc {α:Type} (k:Nat) (x:α):List.replicate k x++[x]=List.replicate (k+1) x:=by rw[List.replicate_succ']
theorem InG.keep {w w':World} {lo g1 g2 g3:Nat} {v:Value} (h:InG w lo g1 g2 g3) (hn:v.ownBlock≠some g1∧v.ownBlock≠some g2∧v.ownBlock≠some g3) (hk:∀b,b<w.heap.size→v.ownBlock≠some b→w'.heap[b]? = w.heap[b]?) (hz:w.heap.size≤w'.heap.size):InG w' lo g1 g2 g3:=by
 refine⟨⟨h.b1.1,Nat.lt_of_lt_of_le h.b1.2 hz⟩,⟨h.b2.1,Nat.lt_of_lt_of_le h.b2.2 hz⟩,⟨h.b3.1,Nat.lt_of_lt_of_le h.b3.2 hz⟩,fun i hi=>?_,fun i hi=>?_,fun i hi=>?_⟩
 ·rw[←h.c1 i hi];simp only[World.cell?,hk g1 h.b1.2 hn.1]
 ·rw[←h.c2 i hi];simp only[World.cell?,hk g2 h.b2.2 hn.2.1]
 ·rw[←h.c3 i hi];simp only[World.cell?,hk g3 h.b3.2 hn.2.2]
theorem InG.below {w w':World} {lo g1 g2 g3:Nat} (h:InG w lo g1 g2 g3) (hb:Below w.heap.size w w'):InG w' lo g1 g2 g3 :=
 h.keep (v:=vnil) ⟨by simp[Value.ownBlock],by simp[Value.ownBlock],by simp[Value.ownBlock]⟩ (fun b hl _=>hb.block b hl) hb.size
theorem InG.stall {w:World} {lo g1 g2 g3 a:Nat} (h:InG w lo g1 g2 g3) (ha:a<4):InV (w.setCell ⟨g2,a,none⟩ (.bool true)) w.heap.size (vX (zB9 a,g1,g2,g3)) (zB9 a):=by
 have n1:g1≠g2:=fun e=>by have h1:=h.c1 0 (by omega);have h2:=h.c2 0 (by omega);rw[e,h2]at h1;simp at h1
 have n3:g3≠g2:=fun e=>by have h1:=h.c3 0 (by omega);have h2:=h.c2 0 (by omega);rw[e,h2]at h1;simp at h1
 obtain⟨w', hw⟩:∃W,W=w.setCell ⟨g2,a,none⟩ (.bool true):=⟨_,rfl⟩
 have hz:w'.heap.size=w.heap.size:=by rw[hw];simp
 have k1:∀(g i:Nat),g≠g2→w'.cell? ⟨g,i,none⟩=w.cell? ⟨g,i,none⟩:=fun g i hg=>by
  have:=Below.heap_setCell w ⟨g2,a,none⟩ (.bool true) g hg;rw[←hw]at this;simp only[World.cell?,this]
 have k2:∀i,i<4→w'.cell? ⟨g2,i,none⟩=some (.bool (decide (i=a))):=fun i hi=>by
  by_cases e:i=a
  ·subst e;rw[hw,World.cell?_setCell_same' _ _ _ (by rw[h.c2 i hi];rfl)];simp
  ·rw[hw,World.cell?_setCell_other _ _ _ _ (by intro e2;injection e2;omega),h.c2 i hi];simp[e]
 rw[←hw,←hz];refine⟨⟨some ⟨g1,0,none⟩,3,some ⟨g2,0,none⟩,4,some ⟨g3,0,none⟩,3,by simp[vX,zB9],?_,?_,?_⟩,rfl,by simp[zB9],rfl⟩
 ·exact bools_of (n:=3) (v:=true) (by rw[hz];exact h.b1.2) (by omega) fun i hi=>by rw[k1 _ _ n1];exact h.c1 i hi
 ·have hl:(zB9 a).stall.length=4:=by simp[zB9]
  rw[hl];refine⟨some ⟨g2,0,none⟩,4,by simp[hl],by simp[hl],by omega,by simp only[List.length_map,hl];omega,(fun h=>nomatch h),fun hn=>⟨g2,0,rfl,by rw[hz];exact h.b2.2,fun t ht j hj=>?_⟩⟩;have hj0:j=0:=by omega
  subst hj0;rw[List.length_map,hl]at ht;rw[Nat.zero_add,Nat.mul_one,Nat.add_zero,k2 t ht];have:=stall_at (a:=a) ht;have e3:((zB9 a).stall.map rowB).getD t []=rowB ((zB9 a).stall.getD t false):=by simp[List.getD,show t<(zB9 a).stall.length by rw[hl];exact ht]
  rw[e3,this];rfl
 ·exact bools_of (n:=3) (v:=true) (by rw[hz];exact h.b3.2) (by omega) fun i hi=>by rw[k1 _ _ n3];exact h.c3 i hi
theorem cycRunX {c:Cfg} (hbus:Bus c) {w w1:World} {u iv:Value} (hc:BusV w1 w1.heap.size u c) {ins:List Inp} (hi:Ins w1 w1.heap.size iv ins) (hb:Below w1.heap.size w1 w) {v:Value} (h:CyX cy0 w v) (hn:ins.length≤300):Calls Tryz.prog 23 #[u,v,iv] w (CopP (runC c ins cy0) w):=by
 obtain⟨b0,b1,b2,b3,b4,n0,n1,n2,n3,n4,k0,k1,k2,k3,k4,P,Q,rfl,h⟩:=h;exact cycRun_any hbus ((hc.below hb).mono hb.size) h ((hi.below hb).mono hb.size) (Nat.le_refl _) (zG0 c) hn
theorem aloneC_lone {c:Cfg} (hb:Bus c) {who:Nat} (hw:who<3):Lone (aloneC c who) who:=⟨hw,fun w hw2 hne=>by rw[zJ4 hb who hw2,if_neg hne];rfl⟩
theorem cells_ne {w:World} {g g' T T':Nat} {cs cs':Array Value} (h:w.heap[g]? = some (.cells cs T (0,0))) (h':w.heap[g']? = some (.cells cs' T' (0,0))) (hT:T≠T'):g≠g':=by
 intro e;subst e;rw[h]at h';simp only[Option.some.injEq,Obj.cells.injEq]at h';exact hT h'.2.1
set_option maxRecDepth 20000 in
theorem zH1 {ops : Array Oper} {rest : List Oper} {a : Act} {w : World} {Q : Exit → Act → World → Prop} (d : Option Nat) (ty : Nat) (pos : String) (aft : Array Edge) (t : Nat)
  {x0 x1 x2 x3 x4 x5 x6:Value} (hx:a.tmps.getD t undef=.agg #[x0,x1,x2,x3,x4,x5,x6]) (h1:(#[x0,x1,x2,x3,x4,x5,x6]:Array Value).all (·.oneCell')=true)
  (h:wpList Tryz.prog ops Q rest (a.put d (.slice (some ⟨w.heap.size,0,none⟩) 1 1)) (w.alloc (.cells #[x0,x1,x2,x3,x4,x5,x6] 52))) :
  wpList Tryz.prog ops Q ({ dst:=d,op:=.buildSlice 53 1 #[(0,.tmp t)],type:=ty,pos:=pos,after:=aft,guard:=none }::rest) a w:=by
 refine wpList_plain rfl fun K hK=>?_
 have h2:=hK _ _ h;obtain⟨tmps,defers⟩:=a;simp only[Array.getD_eq_getD_getElem?]at hx;go_simp;exact h2
theorem one7r (rq:Rq) (da la:Option Addr) (dn dc ln lc:Nat):∀u∈rowQ (rq,.slice da dn dc,.slice la ln lc),u.oneCell' = true:=by
 intro u hu;simp only[rowQ,List.mem_cons,List.not_mem_nil,or_false]at hu;rcases hu with rfl|rfl|rfl|rfl|rfl|rfl|rfl <;> rfl
theorem PsO.snoc {w w' : World} {lo pb n : Nat} {us : List Value} {pss : List (List Rq)} {L : Nat → Nat} {u : Value} {x : List Rq} (h : PsO w lo pb n us pss L) (hk : pss.length < n) (hb : Below w.heap.size w w') (hp : PgO w' w.heap.size w'.heap.size u x) :
  PsO (w'.setCell ⟨pb,pss.length,none⟩ u) lo pb n (us.set pss.length u) (pss++[x]) (fun j=>if j≤pss.length then L j else w'.heap.size):=by
 have h':=h.below hb;have hpb:=h.pb;have hs:(w'.setCell ⟨pb,pss.length,none⟩ u).heap.size=w'.heap.size:=by simp[World.setCell]
 have ho:=h'.outer.putRow zE4 pss.length 0 vnil u u (by rw[h.len];omega) (by omega) rfl;simp only[Nat.zero_add,Nat.mul_one,Nat.add_zero]at ho;have hset:∀i,i≠pb→(w'.setCell ⟨pb,pss.length,none⟩ u).heap[i]? = w'.heap[i]?:=fun i hi=>Below.heap_setCell _ _ _ _ hi
 have htop:=h.top;have hl0:=h.le0 pss.length (Nat.le_refl _);have hpl:=h.pbl;have hz:=hb.size;refine⟨ho,by rw[List.length_set];exact h.len,by simp;omega,fun j hj=>?_,fun j h1 h2=>?_,fun j hj=>?_,?_,?_⟩
 ·by_cases e:j=pss.length
  ·subst e;rw[zF2 (by rw[h.len];exact hk),zC5];simp only[Nat.le_refl,if_true,show ¬pss.length+1≤pss.length by omega,if_false];exact(hp.kept fun i h1 _ _=>hset i (by omega)).rebase htop
  ·have hj2:j<pss.length:=by simp at hj;omega
   rw[zD0 e,zB6 hj2];simp only[show j≤pss.length by omega,if_true,show j+1≤pss.length by omega];exact(h'.pg j hj2).kept fun i h1 _ _=>hset i (by have:=h.le0 j (by omega);omega)
 ·have hj2:pss.length+1≤j:=by simp at h1;omega
  rw[zD0 (by omega)];exact h.nil j (by omega) h2
 ·by_cases e:j=pss.length
  ·subst e;simp only[Nat.le_refl,if_true,show ¬pss.length+1≤pss.length by omega,if_false];omega
  ·have hj2:j<pss.length:=by simp at hj;omega
   simp only[show j≤pss.length by omega,if_true,show j+1≤pss.length by omega];exact h.mono j hj2
 ·simp only[Nat.zero_le,if_true];exact hpl
 ·rw[hs];have:(pss++[x]).length=pss.length+1:=by simp
  rw[this];simp only[show ¬pss.length+1≤pss.length by omega,if_false];exact Nat.le_refl _
theorem PsO.le2 {w:World} {lo pb n:Nat} {us:List Value} {pss:List (List Rq)} {L:Nat→Nat} (h:PsO w lo pb n us pss L):∀d i,i+d≤pss.length→L i≤L (i+d):=by
 intro d
 induction d with
 |zero=>intro i _;exact Nat.le_refl _
 |succ d ih=>intro i hi;exact Nat.le_trans (ih i (by omega)) (h.mono (i+d) (by omega))
theorem PsO.leij {w:World} {lo pb n i j:Nat} {us:List Value} {pss:List (List Rq)} {L:Nat→Nat} (h:PsO w lo pb n us pss L) (h1:i≤j) (h2:j≤pss.length):L i≤L j:=by
 have:=h.le2 (j - i) i (by omega)
 rwa [show i+(j - i)=j by omega]at this
theorem PsO.keptB {w w':World} {lo pb n:Nat} {us:List Value} {pss:List (List Rq)} {L:Nat→Nat} (h:PsO w lo pb n us pss L) (hk:∀k,k=pb∨(L 0≤k∧k<L pss.length)→k<w.heap.size→w'.heap[k]? = w.heap[k]?) (hs:w.heap.size≤w'.heap.size):PsO w' lo pb n us pss L :=
  { h with outer := OwnR.kept h.outer fun k hk2 => hk k (.inl (by simp only [Value.ownBlock, Option.some.injEq] at hk2; exact hk2.symm)) (OwnR.lt h.outer k hk2).2
           pg:=fun j hj=>(h.pg j hj).kept fun k h1 h2 h3=>hk k (.inr ⟨Nat.le_trans (h.le0 j (by omega)) h1,Nat.lt_of_lt_of_le h2 (h.leij (by omega) (Nat.le_refl _))⟩) h3
           top:=Nat.le_trans h.top hs }
structure BFit (ms:List MR) (lat:List Int) (pss:List (List Rq)):Prop where
 m:ms.length≤1048576
 m6:∀r∈ms,MR64 r
 l:lat.length≤1048576
 l6:∀x∈lat,I64 x
 p:pss.length≤1048576
 q:∀p∈pss,p.length≤1048576∧∀q∈p,RqFit q
theorem BFit.nil:BFit [] [] []:=⟨by simp,by simp,by simp,by simp,by simp,by simp⟩
structure RdO (w:World) (lo:Nat) (v:Value) (qs:List Rq) (vs:List (Value×Value)):Prop where
 len:vs.length=qs.length
 rows:Owns w lo 52 7 rowQ v (zipQ qs vs)
 d:∀j,j<qs.length→Owns w lo 3 1 rowI (vs.getD j default).1 (qs.getD j default).data
 l:∀j,j<qs.length→Owns w lo 3 1 rowI (vs.getD j default).2 (qs.getD j default).lanes
theorem RdO.kept {w w':World} {lo:Nat} {v:Value} {qs:List Rq} {vs:List (Value×Value)} (h:RdO w lo v qs vs) (hk:∀k,lo≤k→k<w.heap.size→w'.heap[k]? = w.heap[k]?):RdO w' lo v qs vs :=
  { h with rows := OwnR.kept h.rows fun k hk2 => hk k (OwnR.lt h.rows k hk2).1 (OwnR.lt h.rows k hk2).2
           d:=fun j hj=>OwnR.kept (h.d j hj) fun k hk2=>hk k (OwnR.lt (h.d j hj) k hk2).1 (OwnR.lt (h.d j hj) k hk2).2
           l:=fun j hj=>OwnR.kept (h.l j hj) fun k hk2=>hk k (OwnR.lt (h.l j hj) k hk2).1 (OwnR.lt (h.l j hj) k hk2).2 }
theorem RdO.below {w w':World} {lo:Nat} {v:Value} {qs:List Rq} {vs:List (Value×Value)} (h:RdO w lo v qs vs) (hb:Below w.heap.size w w'):RdO w' lo v qs vs:=h.kept fun k _ hk=>hb.block k hk
theorem RdO.rebase {w:World} {lo lo':Nat} {v:Value} {qs:List Rq} {vs:List (Value×Value)} (h:RdO w lo v qs vs) (hl:lo' ≤ lo):RdO w lo' v qs vs :=
 { h with rows:=OwnR.rebase h.rows hl,d:=fun j hj=>OwnR.rebase (h.d j hj) hl,l:=fun j hj=>OwnR.rebase (h.l j hj) hl }
theorem RdO.keptT {w w':World} {lo:Nat} {v:Value} {qs:List Rq} {vs:List (Value×Value)} (h:RdO w lo v qs vs) (hk:∀(k:Nat) (cs:Array Value) (T:TypeId),w.heap[k]? = some (Obj.cells cs T (0,0))→(T=52∨T=3)→w'.heap[k]? = w.heap[k]?):RdO w' lo v qs vs:=by
 have key:∀{α:Type} {f:α→List Value} {e sz:Nat} {u:Value} {xs:List α},Owns w lo e sz f u xs→(e=52∨e=3)→Owns w' lo e sz f u xs:=by
  intro α f e sz u xs ho he;refine OwnR.kept ho fun k hk2=>?_
  obtain⟨_,h2⟩:=ho;rcases h2 with⟨rfl,_⟩|⟨g,off,cap,cur,rfl,_,hh,_⟩
  ·simp[Value.ownBlock]at hk2
  ·simp only[Value.ownBlock,Option.some.injEq]at hk2;subst hk2;exact hk _ _ _ hh he
 exact { h with rows:=key h.rows (.inl rfl),d:=fun j hj=>key (h.d j hj) (.inr rfl),l:=fun j hj=>key (h.l j hj) (.inr rfl) }
theorem RdO.reqs {w:World} {lo:Nat} {v:Value} {qs:List Rq} {vs:List (Value×Value)} (h:RdO w lo v qs vs) (hn:qs.length≤1048576) (hq:∀q∈qs,RqFit q):Reqs w w.heap.size v qs:=by
 have hr:=h.rows;have hl1:(zipQ qs vs).length=qs.length:=zC4 h.len;have key:=reqs_of (B:=w.heap.size) (P:=(·<w.heap.size)) (hr.arrD (P:=(·<w.heap.size)) (fun k hk=>(OwnR.lt hr k hk).2) zC9 (by omega)) (fun y hy=>?_) (fun b hb=>hb)
 ·have e:(zipQ qs vs).map (·.1)=qs:=by
   unfold zipQ;rw[List.map_zipWith];apply List.ext_getElem
   ·simp[h.len]
   ·intro i h1 h2;simp
  rw[e]at key;exact key
 ·obtain⟨k,hk,rfl⟩:=List.mem_iff_getElem.1 hy;have hk':k<qs.length:=by omega
  have e:(zipQ qs vs)[k]=(qs.getD k default,vs.getD k default):=by
   rw[←zipQ_get h.len hk' zQ];simp[List.getD,hk]
  rw[e];obtain⟨⟨b1,b2⟩,i1,i2,i3⟩:=hq _ (zB8 (d:=default) hk');exact⟨(h.d k hk').intsD (fun b hb=>(OwnR.lt (h.d k hk') b hb).2) (by omega) i1,(h.l k hk').intsD (fun b hb=>(OwnR.lt (h.l k hk') b hb).2) (by omega) i2,i3⟩
theorem RdO.snoc {w w':World} {lo:Nat} {v v' d l:Value} {qs:List Rq} {vs:List (Value×Value)} {r:Rq} (h:RdO w lo v qs vs) (hr:Owns w' lo 52 7 rowQ v' (zipQ qs vs++[(r,d,l)])) (hk:∀(k:Nat) (cs:Array Value) (T:TypeId),w.heap[k]? = some (Obj.cells cs T (0,0))→T=3→w'.heap[k]? = w.heap[k]?) (hd:Owns w' lo 3 1 rowI d r.data) (hl:Owns w' lo 3 1 rowI l r.lanes):RdO w' lo v' (qs++[r]) (vs++[(d,l)]):=by
 have key:∀{u:Value} {xs:List Int},Owns w lo 3 1 rowI u xs→Owns w' lo 3 1 rowI u xs:=by
  intro u xs ho;refine OwnR.kept ho fun k hk2=>?_
  obtain⟨_,h2⟩:=ho;rcases h2 with⟨rfl,_⟩|⟨g,off,cap,cur,rfl,_,hh,_⟩
  ·simp[Value.ownBlock]at hk2
  ·simp only[Value.ownBlock,Option.some.injEq]at hk2;subst hk2;exact hk _ _ _ hh rfl
 refine⟨by simp[h.len],?_,fun j hj=>?_,fun j hj=>?_⟩
 ·have e:zipQ (qs++[r]) (vs++[(d,l)])=zipQ qs vs++[(r,d,l)]:=by
   unfold zipQ;rw[List.zipWith_append h.len.symm];rfl
  rw[e];exact hr
 ·by_cases e:j<qs.length
  ·rw[zB6 e,zB6 (by rw[h.len];exact e)];exact key (h.d j e)
  ·obtain rfl:j=qs.length:=by simp at hj;omega
   rw[zC5,←h.len,zC5];exact hd
 ·by_cases e:j<qs.length
  ·rw[zB6 e,zB6 (by rw[h.len];exact e)];exact key (h.l j e)
  ·obtain rfl:j=qs.length:=by simp at hj;omega
   rw[zC5,←h.len,zC5];exact hl
theorem l20Map9_any (r B : Nat) (bs : List Nat) (p : Nat) (n : Int) (w : World) (h0 : RdAt w r B bs p) (hp : p ≤ 1000000000) (h1 : 1 ≤ n) (hn : n ≤ 1099511627776) (h9 : 9000 ≤ n) :
  Calls Tryz.prog 81 #[.pointer (some ⟨r,0,none⟩),.int .i64 n] w (MapP r B bs p n w):=by
 have hrw:=h0.lt
 go_enter Tryz.func81,Tryz.ntmps81
 go_upto_block 0 with (first
  |(go_at_call 82;(with_reducible refine(zD4 r B bs p 3 _ h0 (by omega) (by omega) (by omega)).mono ?_);rintro e wA ⟨x0,rfl,a0,a1,hA,htA⟩)
  |(go_at_call 82;(with_reducible refine(zD4 r B bs (p+1) 4 _ (hA.alloc _) (by omega) (by omega) (by omega)).mono ?_);rintro e wB ⟨x,rfl,b0,b1,h,htB⟩))
 have HO:=hid (show Owns wB w.heap.size 144 4 rowM (.slice (some ⟨wA.heap.size,0,none⟩) 3 3) (m0 (x0==0)) from(Owns.litOf (w:=wA) (base:=w.heap.size) (e:=144) (sz:=4) (f:=rowM) (m0 (x0==0)) _ htA.size rowM_len (by rfl) (by simp[m0,maxLen])).touch htB hrw);have HT:=hid ((htA.alloc _).trans htB);clear a0 a1 hA htA htB h0
 go_cut [5] from 16 to 34 (fun v wc=>MapC r B bs p w v wc)
 case first=>
  have hlt:=h.lt;rcases(show x=0∨x=1∨x=2∨x=3 by omega)with rfl|rfl|rfl|rfl
  ·go_wp2_with (first
    |(go_at_call 82;(with_reducible refine(zD4 r B bs (p+1+1) 3 _ h (by omega) (by omega) (by omega)).mono ?_);rintro e wC ⟨s,rfl,c0,c1,hC,htC⟩)
    |(go_at_call 82;(with_reducible refine(zD4 r B bs (p+1+1+1) 2 _ hC (by omega) (by omega) (by omega)).mono ?_);rintro e wD ⟨t,rfl,d0,d1,hD,htD⟩))
   have HT2:=hid ((HT.out.trans htC).trans htD);go_meet
   case rel=>exact⟨m1 s (t==0),_,Owns.litOf (m1 s (t==0)) _ HT2.out.size rowM_len (by rfl) (by simp[m1,maxLen]),m1_bd _ _ c0 c1,by simp[m1],by simp[m1],(m1_ok _ _ c0 c1).1,by omega,hD.alloc _,HT2.out.alloc _⟩
  ·go_wp2_with (first
    |(go_at_call 82;(with_reducible refine(zD4 r B bs (p+1+1) 3 _ h (by omega) (by omega) (by omega)).mono ?_);rintro e wC ⟨s,rfl,c0,c1,hC,htC⟩;obtain⟨k,rfl⟩:=Int.eq_ofNat_of_zero_le c0;have hk3:k≤2:=(by omega);have hkc:(0:Int)≤1+(k:Int):=(by omega);have hkd:1+(k:Int)≤3:=(by omega);have hkn:(1+(k:Int)).toNat=1+k:=(by omega)))
   have HT2:=hid (HT.out.trans htC);have HO2:=hid ((HO.out.touch htC hrw).take rowM_len (1+k) (by simp[m0];omega));go_meet
   case rel=>exact⟨(m0 (x0==0)).take (1+k),_,by simpa[hkn]using HO2.out,fun x hx=>m0_bd _ x (List.mem_of_mem_take hx),by simp[m0];try omega,by simp[m0];try omega,(m0_ok _ _).1,by omega,hC,HT2.out⟩
  ·go_wp2_with fail
   go_meet
   case rel=>exact⟨m0 (x0==0),_,HO.out,m0_bd _,by simp[m0],by simp[m0],by have:=(m0_ok (x0==0) 3).1;simpa[m0]using this,by omega,h,HT.out⟩
  ·go_wp2_with fail
   go_meet
   case rel=>exact⟨m0 (x0==0),_,HO.out,m0_bd _,by simp[m0],by simp[m0],by have:=(m0_ok (x0==0) 3).1;simpa[m0]using this,by omega,h,HT.out⟩
 case rest=>
  clear h HO HT b0 b1;obtain⟨ms,q,hown,hbd,hl1,hl4,hok,hq,hR,hT⟩:=hcut;obtain⟨g,off,c,rfl,hc1,hc2,hg1,hg2⟩:=hown.someR (by omega);have HO:=hid hown;have HBD:=hid hbd;have HOK:=hid hok;have HT:=hid hT;clear hown hbd hok hT
  go_wp2_with (go_at_call 122;refine(odd_any r B bs q n wc hR (by omega) h1 hn).mono ?_;rintro e w3 ⟨b,q2,rfl,hb9,hq2,h3,ht3⟩;have HO3:=hid (HO.out.touch ht3 hrw);have HT3:=hid (HT.out.trans ht3);have hs3:=ht3.size;obtain rfl:=hb9 h9;clear ht3)
  go_ret
  exact⟨_,ms,q2,rfl,HO3.out,fun x hx=>(HBD.out x hx).r64,by omega,fun _=>HOK.out,by omega,h3,HT3.out⟩
end Go.Proofs.YtgkdoehkmbhfiaaGreat
namespace Go.Proofs.YtgkdoehkmbhfiaaGreat
open Go.RowKit
attribute [local go_sem ↓] Go.wp_at_zero Go.wp_at_succ
def headReg : Code → Option Nat
 | .region id _ _=>some id
 | .seq a _=>headReg a
 |_=>none
def zJ5 (n : Nat) : Code → Option Code
 | .seq a b => if headReg a = some n then some (.seq a b) else match zJ5 n a with
  |some c=>some c
  |none=>zJ5 n b
 | .loop c=>zJ5 n c
 | .block _ c=>zJ5 n c
 | .scope c=>zJ5 n c
 | .cond _ a b => match zJ5 n a with
  |some c=>some c
  |none=>zJ5 n b
 |_=>none
noncomputable def reqTail:Code:=(Tryz.f83.body.bind (zJ5 13)).getD .skip
set_option maxRecDepth 20000 in
def reqZ (r:Nat) (n:Int) (s g:Nat) (u6 u7 u8 u9 u10 u11 u12 u13 u14 u15 u16 u17 u18 u19 u20 u21 u22 u23 u24 u25 u26 u27 u28 u29 u30 u31 u32 u33 u34 u35 u36 u37 u38 u39 u40 u41 u42 u43 u44 u45 u46 u47 u48 u49 u50 u51 u52 u53 u54 u55 u56 u57 u58 u59 u60 u61 u62 u63 u64 u65 u66 u67 u68 u69 u70 u71 u72 u73 u74 u75 u76 u77 u78 u79 u80 u81 u82 u83 u84 u85 u86 u87 u88 u89 u90 u91 u92 u93 u94 u95 u96 u97 u98 u99 u100 u101 u102 u103 u104 u105 u106 u107 u108 u109 u110 u111 u112 u113 u114 u115 u116 u117 u118 u119 u120 u121 u122 u123 u124 u125 u126 u127 u128 u129 u130 u131 u132 u133 u134 u135 u136 u137 u138 u139 u140 u141 u142 u143 u144 u145 u146 u147 u148 u149 u150 u151 u152:Value):Act:={ tmps:=#[.pointer (some ⟨r,0,none⟩),.int .i64 n,undef,undef,.pointer (some ⟨s,0,none⟩),.pointer (some ⟨g,0,none⟩),u6,u7,u8,u9,u10,u11,u12,u13,u14,u15,u16,u17,u18,u19,u20,u21,u22,u23,u24,u25,u26,u27,u28,u29,u30,u31,u32,u33,u34,u35,u36,u37,u38,u39,u40,u41,u42,u43,u44,u45,u46,u47,u48,u49,u50,u51,u52,u53,u54,u55,u56,u57,u58,u59,u60,u61,u62,u63,u64,u65,u66,u67,u68,u69,u70,u71,u72,u73,u74,u75,u76,u77,u78,u79,u80,u81,u82,u83,u84,u85,u86,u87,u88,u89,u90,u91,u92,u93,u94,u95,u96,u97,u98,u99,u100,u101,u102,u103,u104,u105,u106,u107,u108,u109,u110,u111,u112,u113,u114,u115,u116,u117,u118,u119,u120,u121,u122,u123,u124,u125,u126,u127,u128,u129,u130,u131,u132,u133,u134,u135,u136,u137,u138,u139,u140,u141,u142,u143,u144,u145,u146,u147,u148,u149,u150,u151,u152],defers:=[] }
set_option maxRecDepth 100000 in
theorem req_tail9 (r B : Nat) (bs : List Nat) (p : Nat) (n : Int) (w : World) (hp : p ≤ 700000000) (h1n : 1 ≤ n) (hn : n ≤ 1099511627776) (h9 : 9000 ≤ n) (hrw : r < w.heap.size) (w0 : World) (s : Nat) (HS0 : Hid (qz w0 s)) (HT0 : Hid (Touch r w w0)) (hz0 : w0.heap.size = s + 1) (hrs : r < s) (HSW : Hid (w.heap.size = s))
  (g:Nat) (id kind addr many:Int) (wp:Bool) (hg:w0.heap.size≤g) (a0:0≤id) (a1:id<2) (b0:1≤kind) (b1:kind≤4) (hgr:g≠r) (hrg:r<g) (hsg:s<g) (hrw':r<w0.heap.size) (d1:many=1∨many=2∨many=4) (c0:0≤addr) (c1:addr≤63)
  (dv lv:Value) (ds ls:List Int) (q:Nat) (wc:World) (hok:reqOk ⟨id,kind,addr,many,wp,ds,ls⟩=true) (hdl:ds.length≤4) (hll:ls.length≤4) (hod:Owns wc (g+1) 3 1 rowI dv ds) (hol:Owns wc (g+1) 3 1 rowI lv ls) (hap:Apart dv lv) (hq:q≤p+60) (hQ:RQ r B bs w0 g id kind addr many wp dv lv q wc)
  (u6 u7 u8 u9 u10 u11 u12 u13 u14 u15 u16 u17 u18 u19 u20 u21 u22 u23 u24 u25 u26 u27 u28 u29 u30 u31 u32 u33 u34 u35 u36 u37 u38 u39 u40 u41 u42 u43 u44 u45 u46 u47 u48 u49 u50 u51 u52 u53 u54 u55 u56 u57 u58 u59 u60 u61 u62 u63 u64 u65 u66 u67 u68 u69 u70 u71 u72 u73 u74 u75 u76 u77 u78 u79 u80 u81 u82 u83 u84 u85 u86 u87 u88 u89 u90 u91 u92 u93 u94 u95 u96 u97 u98 u99 u100 u101 u102 u103 u104 u105 u106 u107 u108 u109 u110 u111 u112 u113 u114 u115 u116 u117 u118 u119 u120 u121 u122 u123 u124 u125 u126 u127 u128 u129 u130 u131 u132 u133 u134 u135 u136 u137 u138 u139 u140 u141 u142 u143 u144 u145 u146 u147 u148 u149 u150 u151 u152:Value):reqTail.wp Tryz.prog (bodyPost Tryz.prog Tryz.f83 (ReqP r B bs p n w)) (reqZ r n s g u6 u7 u8 u9 u10 u11 u12 u13 u14 u15 u16 u17 u18 u19 u20 u21 u22 u23 u24 u25 u26 u27 u28 u29 u30 u31 u32 u33 u34 u35 u36 u37 u38 u39 u40 u41 u42 u43 u44 u45 u46 u47 u48 u49 u50 u51 u52 u53 u54 u55 u56 u57 u58 u59 u60 u61 u62 u63 u64 u65 u66 u67 u68 u69 u70 u71 u72 u73 u74 u75 u76 u77 u78 u79 u80 u81 u82 u83 u84 u85 u86 u87 u88 u89 u90 u91 u92 u93 u94 u95 u96 u97 u98 u99 u100 u101 u102 u103 u104 u105 u106 u107 u108 u109 u110 u111 u112 u113 u114 u115 u116 u117 u118 u119 u120 u121 u122 u123 u124 u125 u126 u127 u128 u129 u130 u131 u132 u133 u134 u135 u136 u137 u138 u139 u140 u141 u142 u143 u144 u145 u146 u147 u148 u149 u150 u151 u152) wc:=by
 conv=>arg 2;whnf
 unfold reqZ;have hdc:=hod.shape;obtain⟨da,dc,rfl,_,_⟩:=hdc;have hlc:=hol.shape;obtain⟨la,lc,rfl,_,_⟩:=hlc;have HRO:=hid hok;have HOD:=hid hod;have HOL:=hid hol;have HAP:=hid hap;have I64D:=hid (req64 hok).1;have I64L:=hid (req64 hok).2;clear hok hod hol hap;have hsg':g≠s:=by omega
 have hsg2:s≠g:=by omega
 have hgs:w.heap.size≤g:=by have:=HSW.out;omega
 have hss:w.heap.size≤s:=by have:=HSW.out;omega
 have hm4:many≤4:=by omega
 have hm1:1≤many:=by omega
 have hR:=hQ.2.1;have hgl:=hQ.1.lt;obtain⟨k0,k1,k2,k3,k4,k5,k6⟩:=hQ.1.cells;obtain⟨m0,m1,m2,m3,m4,m5,m6⟩:=hQ.1.unfrozen;have HQ:=hid hQ;clear hQ
 go_wp2_with (go_at_call 122;(with_reducible refine(odd_any r B bs q n wc hR (by omega) h1n hn).mono ?_);rintro e w1 ⟨b,q1,rfl,hb9,hq1,h1,ht1⟩;have HQ1:=hid (HQ.out.touch hgr h1 ht1);have HOD1:=hid (HOD.out.touch ht1 (by omega));have HOL1:=hid (HOL.out.touch ht1 (by omega));obtain⟨k0,k1,k2,k3,k4,k5,k6⟩:=HQ1.out.1.cells;obtain⟨m0,m1,m2,m3,m4,m5,m6⟩:=HQ1.out.1.unfrozen;have gl1:=HQ1.out.1.lt;have hz1:=HS0.out.touch HQ1.out.2.2 (show s≠r by omega);obtain⟨n0,n1,n2,n3,n4,n5,n6⟩:=hz1.cells;obtain⟨o0,o1,o2,o3,o4,o5,o6⟩:=hz1.unfrozen;have hzl1:=hz1.lt;clear hz1;obtain rfl:=hb9 h9;clear ht1)
 refine bodyPost_ret (zB0 Tryz.results83 _ _ ⟨s,0,none⟩ (.agg #[.int .i64 id,.int .i64 kind,.int .i64 addr,.int .i64 many,.bool wp,.slice da ds.length dc,.slice la ls.length lc]) rfl (loadVar_req _ _ _ _ _ _ _ _ _ (by simp[go_sem, *]) (by simp[go_sem, *]) (by simp[go_sem, *]) (by simp[go_sem, *]) (by simp[go_sem, *]) (by simp[go_sem, *]) (by simp[go_sem, *]))) rfl ⟨_,_,⟨id,kind,addr,many,wp,ds,ls⟩,q1,rfl,?od,?ol,?i,?ld,?ll,fun _=>HRO.out,by omega,?r,?t⟩
 case od=>
  have X:=HOD1.out.rebase (show w.heap.size≤g+1 by omega);have L:=(fun j hj=>(OwnR.lt HOD1.out j hj).1:∀j,_→g+1≤j)
  repeat(first|with_reducible exact X|with_reducible refine Owns.drewd ?_|with_reducible refine Owns.allocd ?_ _|with_reducible refine Owns.set' ?_ _ _ _ (fun j hj=>by have:=L j hj;omega))
 case ol=>
  have X:=HOL1.out.rebase (show w.heap.size≤g+1 by omega);have L:=(fun j hj=>(OwnR.lt HOL1.out j hj).1:∀j,_→g+1≤j)
  repeat(first|with_reducible exact X|with_reducible refine Owns.drewd ?_|with_reducible refine Owns.allocd ?_ _|with_reducible refine Owns.set' ?_ _ _ _ (fun j hj=>by have:=L j hj;omega))
 case i=>exact⟨by simp only[I64];omega,by simp only[I64];omega,by simp only[I64];omega,by simp only[I64];omega,I64D.out,I64L.out⟩
 case ld=>simp;omega
 case ll=>simp;omega
 case r=>
  have X:=HQ1.out.2.1
  repeat(first|with_reducible exact X|with_reducible refine RdAt.drewd ?_|with_reducible refine RdAt.alloc ?_ _|with_reducible refine RdAt.setNew ?_ hrs (by omega) _ _)
 case t=>
  have X:=HT0.out.trans HQ1.out.2.2
  repeat(first|with_reducible exact X|with_reducible refine Touch.drewd ?_|with_reducible refine Touch.alloc ?_ _|with_reducible refine Touch.setNew ?_ (by omega) _)
end Go.Proofs.YtgkdoehkmbhfiaaGreat
