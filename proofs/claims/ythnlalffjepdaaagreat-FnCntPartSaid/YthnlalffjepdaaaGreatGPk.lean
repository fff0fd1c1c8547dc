/- slaveOk of a store that stands as it may (printed by wip/gen_sk.py). -/
import Derived.Test.YthnlalffjepdaaaGreatGTl
import Derived.Test.YthnlalffjepdaaaGreatGSo
import Derived.Test.YthnlalffjepdaaaGreatGMy
import Derived.Test.YthnlalffjepdaaaGreatGSd2
import Derived.Test.YthnlalffjepdaaaGreatGSf
import Derived.Test.YthnlalffjepdaaaGreatGFl
import Derived.Maps.OwnSet
set_option linter.unusedVariables false
set_option linter.unusedSimpArgs false
set_option maxHeartbeats 16000000
namespace Go.Proofs.YthnlalffjepdaaaGreat
open Go.RowKit
theorem zJ2:Tryz.prog.underlying 166=some (.map 3 3):=by kernel_rfl
theorem law_int:Maps.Keyed Tryz.prog 3:=Maps.int_keyed Tryz.underlying3
theorem zero_int (w:World):(zeroValue 3).run Tryz.prog w=.ok (.int .i64 0) w:=by kernel_rfl
def MapAt (c : Cfg) (who : Nat) (out : List Jb) (w : World) (b k : Nat) : Prop := ∃ D : DataW Unit, w.ownsMap Tryz.prog 3 (plainElem Tryz.prog 3) b k D ∧
 ∀a v:Int,Maps.has D (.int .i64 a)=true→D.atKey (.int .i64 a) (.lit (.int .i64 0))=.lit (.int .i64 v)→∃j,j<k∧c.id who (out.getD j default).n=a∧(((out.getD j default).left:Nat):Int)=v
theorem MapAt.below {c:Cfg} {who:Nat} {out:List Jb} {w w':World} {b k:Nat} (h:MapAt c who out w b k) (hb:Below w.heap.size w w'):MapAt c who out w' b k:=by
 obtain⟨D,h1,h2⟩:=h;have hlt:=h1.lt;obtain⟨es,clock,e1,e2⟩:=h1;exact⟨D,⟨es,clock,(hb.block b hlt).trans e1,e2⟩,h2⟩
theorem wf64 {a:Int} (h:-9223372036854775808≤a∧a≤9223372036854775807):(Lit.int .i64 a).wf=true:=WalkArith.wf_i64 (by omega)
theorem MapAt.put {c : Cfg} {who : Nat} {out : List Jb} {w' : World} {b k : Nat} {D : DataW Unit} {y : Int} {l : Nat} (hold : ∀ a v : Int, Maps.has D (.int .i64 a) = true → D.atKey (.int .i64 a) (.lit (.int .i64 0)) = .lit (.int .i64 v) → ∃ j, j < k ∧ c.id who (out.getD j default).n = a ∧ (((out.getD j default).left : Nat) : Int) = v)
  (hm:Maps.IsMap D) (hk:WideAt.IsKeyLit (.int .i64 y)) (h:w'.ownsMap Tryz.prog 3 (plainElem Tryz.prog 3) b (k+1) (D.put (.int .i64 y) (.lit (.int .i64 (l:Nat))))) (hy:c.id who (out.getD k default).n=y) (hl:(out.getD k default).left=l):MapAt c who out w' b (k+1):=by
 refine⟨_,h,fun a v h1 h2=>?_⟩;by_cases e:a=y
 ·subst e;rw[Maps.atKey_put_same hm hk]at h2;simp only[DataW.lit.injEq,Lit.int.injEq,true_and]at h2;exact⟨k,by omega,hy,by rw[hl];exact h2⟩
 ·have hne:(Lit.int .i64 a)≠(.int .i64 y):=fun h=>e (by simpa using h)
  rw[Maps.has_put_other hne]at h1;rw[Maps.atKey_put_other hne]at h2;obtain⟨j,hj,h3⟩:=hold a v h1 h2;exact⟨j,by omega,h3⟩
theorem range'_getD {a n t:Nat} (h:t<n):(List.range' a n).getD t 0=a+t:=by simp[List.getD,h]
set_option maxRecDepth 4000 in
theorem portOk_any {c : Cfg} (hbus : Bus c) {w : World} {B : Nat} {u : Value} (hc : BusV w B u c) (hB : B ≤ w.heap.size) {who : Nat} (hw : who < 3) {p : Pt} (hp : PGood c who p) {qa oa : Option Addr} {qc oc : Nat} (hq : Nats w B (.slice qa p.queue.length qc) p.queue) (ho : Jbs w B (.slice oa p.out.length oc) p.out) :
  Calls Tryz.prog 80 #[u,.int .i64 who,.agg #[.int .i64 p.next,.slice qa p.queue.length qc,.slice oa p.out.length oc,.int .i64 p.last]] w fun e w' => e=.returned (.bool true)∧Below w.heap.size w w':=by
 obtain⟨mv,lb,lo,lc,pb,po,pc,Q,K,rfl,⟨ma,mn,mk,rfl⟩,hms,hlb,hpb,hlat,hprog,hreq⟩:=hc.opened hbus;have HO:=hid (show BusO w B c ma mn mk lb lo lc pb po pc Q K from⟨hms,hlb,hpb,hlat,hprog,hreq⟩);have HP:=hid hp;have HQ:=hid hq;have HJ:=hid ho;obtain⟨ql,hql⟩:∃x,x=p.queue.length:=⟨_,rfl⟩
 obtain⟨ol,hol⟩:∃x,x=p.out.length:=⟨_,rfl⟩
 obtain⟨nx,hnx⟩:∃x:Int,x=(p.next:Int):=⟨_,rfl⟩
 obtain⟨ls,hls⟩:∃x:Int,x=(p.last:Int):=⟨_,rfl⟩
 obtain⟨f,hf⟩:∃f,f=p.next - p.queue.length:=⟨_,rfl⟩
 obtain⟨pn,hpn⟩:∃x,x=(c.prog who).length:=⟨_,rfl⟩
 have pcell:=hprog who hw;rw[←hpn]at pcell;have q1:=hp.qn;have q2:=hp.q2;have q3:=hp.nx;have q4:=hp.o4;have q5:=hp.l;have q6:=hbus.twelve hw;rw[←hql,←hol,←hnx,←hls];rw[←hql]at q1 q2 HQ hf;rw[←hol]at q4 HJ;rw[←hpn]at q3 q6;have ew:IntKind.i64.wrap (nx - (ql:Int))=(f:Int):=by rw[IntKind.wrap_i64];omega
 have i1:=hid (zF6 nx 0 (pn:Int));rw[show inB nx 0 (pn:Int)=true by simp[inB];omega]at i1;have i2:=hid (zF6 ls 0 3);rw[show inB ls 0 3=true by simp[inB];omega]at i2;obtain⟨m2,hm2⟩:∃m2:Int,m2=if nx<2 then nx else 2:=⟨_,rfl⟩
 have hmin:∀ty W,(Builtin.min_ #[3,3] ty #[.int .i64 2,.int .i64 nx]).run Tryz.prog W=.ok (.int .i64 m2) W:=fun ty W=>by rw[hm2];simp[Builtin.min_,Builtin.min2]
 have g1:decide (m2<(ql:Int))=false:=by rw[decide_eq_false_iff_not,hm2];split <;> omega
 have g2:decide ((4:Int)<(ol:Int))=false:=by rw[decide_eq_false_iff_not];omega
 have g2':decide (4<ol)=false:=by rw[decide_eq_false_iff_not];omega
 have hwi:(who:Int)<3:=by omega
 obtain⟨w0,hw0⟩:∃W,W=(w.alloc (.cells #[.slice ma mn mk,.slice (some ⟨lb,lo,none⟩) 4 lc,.slice (some ⟨pb,po,none⟩) 3 pc] 27)).alloc (.cells #[.int .i64 nx,.slice qa ql qc,.slice oa ol oc,.int .i64 ls] 52):=⟨_,rfl⟩
 have hb0:Below w.heap.size w w0:=by rw[hw0];exact((Below.refl _ _).alloc (Nat.le_refl _) _).alloc (by simp) _
 have B1:=hid (show BusB w0 w.heap.size ma mn mk lb lo lc pb po pc by unfold BusB;rw[hw0,((Below.refl _ _).alloc (Nat.le_refl _) _).block _ (by simp)];exact zA8 _ _ rfl);have hpt:w0.heap[w.heap.size+1]? = some (.cells #[.int .i64 nx,.slice qa ql qc,.slice oa ol oc,.int .i64 ls] 52 (0,0)):=by rw[hw0];exact zA8 _ _ (by simp)
 obtain⟨c0,c1,c2,c3⟩:w0.cell? ⟨w.heap.size+1,0,none⟩=some (.int .i64 nx)∧w0.cell? ⟨w.heap.size+1,1,none⟩=some (.slice qa ql qc)∧w0.cell? ⟨w.heap.size+1,2,none⟩=some (.slice oa ol oc)∧w0.cell? ⟨w.heap.size+1,3,none⟩=some (.int .i64 ls):=by refine⟨?_,?_,?_,?_⟩ <;> simp[World.cell?,hpt]
 have hz0:=zA2 hpt;obtain⟨b0,b1,b2,zb⟩:=B1.out.cells;have HB0:=hid hb0;have pc0:=(hb0.cell (p:=⟨pb,po+who,none⟩) (Nat.lt_of_lt_of_le hpb hB)).trans pcell;have HF:=hid hf;have HQL:=hid hql;have HOL:=hid hol;have HPN:=hid hpn;have HNX:=hid hnx;have hmm:=@run_makeMap Tryz.prog;have HPT:=hid hpt;have hpbz:pb<w.heap.size:=Nat.lt_of_lt_of_le hpb hB;clear hc hms hlb hlat hprog hreq hp hq ho hql hol hnx hls hf hpn pcell q1 q5 hm2 hpt hb0
 go_enter Tryz.func80,Tryz.ntmps80
 go_upto_region 1 with fail
 rw[←hw0];clear hw0
 go_quiet ((go_at_call 60;with_reducible (first|exact Same.quiet (i1.out _)|exact Same.quiet (i2.out _)|exact Same.quiet2 (i1.out _)|exact Same.quiet2 (i2.out _))))
 obtain⟨w1,hw1⟩:∃W,W=w0.drewN nq:=⟨_,rfl⟩
 rw[←hw1];have hb1:Below w0.heap.size w0 w1:=by rw[hw1];exact Below.draws (Below.refl _ _) _
 have HB1:=hid (HB0.out.trans (hb1.mono HB0.out.size));have d0:=(hb1.cell (p:=⟨w.heap.size+1,0,none⟩) hz0).trans c0;have d1:=(hb1.cell (p:=⟨w.heap.size+1,1,none⟩) hz0).trans c1;have d2:=(hb1.cell (p:=⟨w.heap.size+1,2,none⟩) hz0).trans c2;have B2:=hid (B1.out.below hb1 zb);clear hw1 hb1 c0 c1 c2 c3 b0 b1 b2 pc0
 go_wp2_with fail
 go_loop [57] (fun i=>∃k:Nat,i=.int .i64 k∧k≤ql) (fun i=>ql - (intOf i).toNat)
 case atStart=>exact⟨0,by go_num,Nat.zero_le _⟩
 case round=>
  obtain⟨k,rfl,hk⟩:=hrel;by_cases hlt:k<ql
  ·have hki:(k:Int)<(ql:Int):=by omega
   obtain⟨b,off,rfl,hbB,hcell⟩:∃b off,qa=some ⟨b,off,none⟩∧b<B∧∀t,t<ql→w1.cell? ⟨b,off+t,none⟩=some (.int .i64 ((f:Int)+(t:Int))):=by
    obtain⟨ao,cp,e,_,_,_,_,h3⟩:=HQ.out;simp only[Value.slice.injEq,List.length_map]at e h3;obtain⟨b,off,ha,hb,hcc⟩:=h3 (by rw[←HQL.out];omega);refine⟨b,off,e.1.trans ha,hb,fun t ht=>?_⟩;have:=hcc t (by rw[←HQL.out];exact ht) 0 (by omega);rw[HB1.out.cell (p:=⟨b,_,none⟩) (Nat.lt_of_lt_of_le hb hB)];simp only[Nat.mul_one,Nat.add_zero]at this;rw[this];have hqq:=HP.out.q;rw[←HQL.out,←HF.out]at hqq;have hg:p.queue.getD t 0=f+t:=by rw[hqq];exact range'_getD ht
    have ht2:t<p.queue.length:=by rw[←HQL.out];exact ht
    simp only[List.getD,List.getElem?_map,List.getElem?_eq_getElem ht2,Option.map_some,Option.getD_some,rowN,List.getElem?_cons_zero];simp only[List.getD,List.getElem?_eq_getElem ht2,Option.getD_some]at hg;rw[hg];simp
   have qk:=hcell k hlt;have ewk:IntKind.i64.wrap ((f:Int)+(k:Int))=(f:Int)+(k:Int):=by rw[IntKind.wrap_i64];have:=HF.out;have:=HNX.out;omega
   clear hcell
   go_wp2_with fail
   go_round
   case rel=>exact⟨k+1,by go_num,by omega⟩
   case measure=>simp[intOf];omega
  ·have hki:decide ((k:Int)<(ql:Int))=false:=by rw[decide_eq_false_iff_not];omega
   go_upto_region 12 with fail
   obtain⟨w2,hw2⟩:∃W,W=w1.alloc (.map #[] 0):=⟨_,rfl⟩
   have hb2:Below w1.heap.size w1 w2:=by rw[hw2];exact(Below.refl _ _).alloc (Nat.le_refl _) _
   have HM0:=hid (show MapAt c who p.out w2 w1.heap.size 0 from⟨.map [],by rw[hw2];exact World.ownsMap_made _ _ _ _,fun a v h=>by simp[Maps.has]at h⟩);rw[←hw2];have hz1:w.heap.size+1<w1.heap.size:=World.block_lt_of_cell? w1 _ d0;have e2:=(hb2.cell (p:=⟨w.heap.size+1,2,none⟩) hz1).trans d2;have HB2:=hid (HB1.out.trans (hb2.mono HB1.out.size));have zb1:w.heap.size<w1.heap.size:=by omega
   have B3:=hid (B2.out.below hb2 zb1);clear hw2 hb2 d0 d1 d2
   go_wp2_with fail
   go_loopw [10,72] (fun l i wr=>∃(k:Nat) (m:Int),i=.int .i64 k∧k≤ol∧l=.int .i64 m ∧ -1≤m∧m≤100∧(∀j,k≤j→j<p.out.length→m<((p.out.getD j default).n:Int))∧MapAt c who p.out wr w1.heap.size k∧Below w.heap.size w wr∧BusB wr w.heap.size ma mn mk lb lo lc pb po pc∧w1.heap.size≤wr.heap.size) (fun _ i _=>ol - (intOf i).toNat)
   case atStart=>exact⟨0,-1,by go_num,Nat.zero_le _,rfl,by omega,by omega,fun j _ _=>by omega,HM0.out,HB2.out,B3.out,by have:=(HM0.out).choose_spec.1.lt;omega⟩
   case round=>
    clear HM0 HB2 B3 e2;obtain⟨k,m,rfl,hk,rfl,hm1,hm2,hmj,hmap,hbl,hbus2,hsz⟩:=hrel;have HMJ:=hid hmj;have HMAP:=hid hmap;have HBL:=hid hbl;have HBUS:=hid hbus2;clear hmj hmap hbl hbus2;by_cases hlo:k<ol
    ·have hki:(k:Int)<(ol:Int):=by omega
     have hko:k<p.out.length:=by rw[←HOL.out];exact hlo
     obtain⟨x,hx⟩:∃x,x=p.out.getD k default:=⟨_,rfl⟩
     have hxm:x∈p.out:=by rw[hx];exact zC6 hko
     obtain⟨jb,jo,rfl,hjB,hjc⟩:∃b off,oa=some ⟨b,off,none⟩∧b<B∧∀t,t<ol→w.cell? ⟨b,off+t * 3,none⟩=some (.int .i64 ((p.out.getD t default).who:Nat))∧w.cell? ⟨b,off+t * 3+1,none⟩=some (.int .i64 ((p.out.getD t default).n:Nat))∧w.cell? ⟨b,off+t * 3+2,none⟩=some (.int .i64 ((p.out.getD t default).left:Nat)):=by
      obtain⟨ao,cp,e,_,_,_,_,h3⟩:=HJ.out.opened;simp only[Value.slice.injEq]at e;obtain⟨b,off,ha,hb,hcc⟩:=h3 (by rw[←HOL.out];omega);exact⟨b,off,e.1.trans ha,hb,fun t ht=>hcc t (by rw[←HOL.out];exact ht)⟩
     obtain⟨k0,k1,k2⟩:=hjc k hlo;rw[←HBL.out.cell (p:=⟨jb,_,none⟩) (Nat.lt_of_lt_of_le hjB hB),←hx]at k0 k1 k2;have hxo:=HP.out.o x hxm;obtain⟨xn,hxn⟩:∃y,y=x.n:=⟨_,rfl⟩
     obtain⟨sv,hsv⟩:∃y,y=x.left:=⟨_,rfl⟩
     have hxw:x.who=who:=hxo.1;have hxl:sv=c.slv who xn:=by rw[hsv,hxn];exact hxo.2.1
     have hxf:xn<f:=by rw[hxn,HF.out,HQL.out];exact hxo.2.2
     have hxm2:m<(xn:Int):=by rw[hxn,hx];exact HMJ.out k (Nat.le_refl _) hko
     rw[hxw]at k0;rw[←hxn]at k1;rw[←hsv]at k2;have hfn:f≤p.next:=by have:=HF.out;omega
     have hxp:xn<(c.prog who).length:=by have:=HP.out.nx;omega
     have hxp2:(xn:Int)<(pn:Int):=by have:=HPN.out;omega
     have hf12:f≤12:=by have:=HP.out.nx;have:=HPN.out;omega
     obtain⟨rb,ro,da,dc,la,lc', hrq,hrb,hrv,r0,r1,r2,r3,r4,r5,r6⟩:=(HO.out.below (HBL.out.mono hB)).at hw hxp;have pq:=(HO.out.below (HBL.out.mono hB)).prog who hw;rw[hrq]at pq;obtain⟨iy,hiy⟩:∃y,y=(c.req who xn).id:=⟨_,rfl⟩
     obtain⟨ik,hik⟩:∃y,y=(c.req who xn).kind:=⟨_,rfl⟩
     obtain⟨ia,hia⟩:∃y,y=(c.req who xn).addr:=⟨_,rfl⟩
     obtain⟨im,him⟩:∃y,y=(c.req who xn).many:=⟨_,rfl⟩
     obtain⟨ip,hip⟩:∃y,y=(c.req who xn).wrap:=⟨_,rfl⟩
     obtain⟨dn,hdn⟩:∃y,y=(c.req who xn).data.length:=⟨_,rfl⟩
     obtain⟨ln,hln⟩:∃y,y=(c.req who xn).lanes.length:=⟨_,rfl⟩
     rw[←hiy]at r0;rw[←hik]at r1;rw[←hia]at r2;rw[←him]at r3;rw[←hip]at r4;rw[←hdn]at r5;rw[←hln]at r6;rw[←HPN.out]at pq;have HSV:=hid (show slaveAt c.ms (zA5 c.ms (burst ia im ip))=(sv:Int) by rw[hxl,hia,him,hip];exact slv_nat (r:=c.req who xn) hbus.ms);have HID:=hid (show c.id who xn=iy by rw[hiy];rfl);have hwf:-9223372036854775808≤iy∧iy≤9223372036854775807:=by
      have:=hbus.req hw hxp;simp only[reqOk,Bool.and_eq_true]at this;have h1:inB (c.req who xn).id 0 1=true:=by simp_all
      rw[hiy];simp only[inB,Bool.and_eq_true,decide_eq_true_eq]at h1;omega
     have HWF:=hid hwf;obtain⟨l1,hl1⟩:∃y:Int,y=m+1:=⟨_,rfl⟩
     obtain⟨f1,hf1⟩:∃y:Int,y=(f:Int) - 1:=⟨_,rfl⟩
     have ew1:IntKind.i64.wrap (m+1)=l1:=by rw[IntKind.wrap_i64];omega
     have ew2:IntKind.i64.wrap ((f:Int) - 1)=f1:=by rw[IntKind.wrap_i64];omega
     have i3:=hid (zF6 (xn:Int) l1 f1);rw[show inB (xn:Int) l1 f1=true by simp[inB];omega]at i3;have hjz:jb<wr.heap.size:=Nat.lt_of_lt_of_le hjB (Nat.le_trans hB HBL.out.size);obtain⟨b0,b1,b2,zbw⟩:=HBUS.out.cells;have hrz:rb<wr.heap.size:=Nat.lt_of_lt_of_le hrb (Nat.le_trans hB HBL.out.size);have hpz:pb<wr.heap.size:=Nat.lt_of_lt_of_le hpbz HBL.out.size;have HX:=hid hx;have HXN:=hid hxn;have HSX:=hid hsv;have HXL:=hid hxl;have HXP:=hid hxp;have HXF:=hid hxf;have HXM:=hid hxm;have HXM2:=hid hxm2;have HBM:=hid ((HO.out.below (HBL.out.mono hB)).ms);have HOB:=hid (HO.out.below (HBL.out.mono hB));clear hx hxm hjc hxo hxn hsv hxw hxl hxf hxm2 hxp hrv hrq hiy hik hia him hip hdn hln hwf hl1 hf1 hfn hf12
     go_upto_region 15 with fail
     clear k0 k1 k2;obtain⟨wj,hwj⟩:∃W,W=wr.alloc (.cells #[.int .i64 (who:Nat),.int .i64 (xn:Nat),.int .i64 (sv:Nat)] 75):=⟨_,rfl⟩
     rw[←hwj];obtain⟨gj,hgj⟩:∃g,g=wr.heap.size:=⟨_,rfl⟩
     have hbj:Below wr.heap.size wr wj:=by rw[hwj];exact(Below.refl _ _).alloc (Nat.le_refl _) _
     have hjt:wj.heap[gj]? = some (.cells #[.int .i64 (who:Nat),.int .i64 (xn:Nat),.int .i64 (sv:Nat)] 75 (0,0)):=by rw[hwj];exact zA8 _ _ hgj
     rw[←hgj];have zj:=zA2 hjt;obtain⟨j0,j1,j2⟩:wj.cell? ⟨gj,0,none⟩=some (.int .i64 (who:Nat))∧wj.cell? ⟨gj,1,none⟩=some (.int .i64 (xn:Nat))∧wj.cell? ⟨gj,2,none⟩=some (.int .i64 (sv:Nat)):=by refine⟨?_,?_,?_⟩ <;> simp[World.cell?,hjt]
     rw[←hbj.cell (p:=⟨w.heap.size,_,none⟩) zbw]at b0 b1 b2;rw[←hbj.cell (p:=⟨pb,_,none⟩) hpz]at pq;rw[←hbj.cell (p:=⟨rb,_,none⟩) hrz]at r0 r1 r2 r3 r4 r5 r6;have zb:=Nat.lt_of_lt_of_le zbw hbj.size;have zp:=Nat.lt_of_lt_of_le hpz hbj.size;have zr:=Nat.lt_of_lt_of_le hrz hbj.size;have HBJ:=hid hbj;have HGJ:=hid hgj;have HJT:=hid hjt;have hBj:B≤wj.heap.size:=Nat.le_trans hB (Nat.le_trans HBL.out.size hbj.size);have HBJB:=hid (hbj.mono (Nat.le_trans hB HBL.out.size));clear hwj hbj hgj hjt zbw hpz hrz
     go_region_held3 (fun w' => w'.cell? ⟨gj, 0, none⟩ = some (.int .i64 (who : Nat)) ∧ w'.cell? ⟨gj, 1, none⟩ = some (.int .i64 (xn : Nat)) ∧ w'.cell? ⟨gj, 2, none⟩ = some (.int .i64 (sv : Nat)) ∧ w'.cell? ⟨w.heap.size, 0, none⟩ = some (.slice ma mn mk) ∧ w'.cell? ⟨w.heap.size, 1, none⟩ = some (.slice (some ⟨lb, lo, none⟩) 4 lc) ∧ w'.cell? ⟨w.heap.size, 2, none⟩ = some (.slice (some ⟨pb, po, none⟩) 3 pc) ∧ w'.cell? ⟨pb, po + who, none⟩ = some (.slice (some ⟨rb, ro, none⟩) pn (K who)) ∧ w'.cell? ⟨rb, ro + xn * 7, none⟩ = some (.int .i64 iy) ∧ w'.cell? ⟨rb, ro + xn * 7 + 1, none⟩ = some (.int .i64 ik) ∧ w'.cell? ⟨rb, ro + xn * 7 + 2, none⟩ = some (.int .i64 ia) ∧ w'.cell? ⟨rb, ro + xn * 7 + 3, none⟩ = some (.int .i64 im) ∧ w'.cell? ⟨rb, ro + xn * 7 + 4, none⟩ = some (.bool ip) ∧ w'.cell? ⟨rb, ro + xn * 7 + 5, none⟩ = some (.slice da dn dc) ∧ w'.cell? ⟨rb, ro + xn * 7 + 6, none⟩ = some (.slice la ln lc'))
      (first|exact s6|go_keep)
      (first
       |(go_at_call 60;(with_reducible refine(i3.out _).mono ?_);rintro e w9 ⟨rfl,rfl⟩)
       |(go_at_call 78;(with_reducible refine(slave_val _ c.ms iy ik ia im ip (.slice da dn dc) (.slice la ln lc') ⟨_,_,_,rfl⟩ ⟨_,_,_,rfl⟩ B _ ((HBM.out.below HBJB.out).below (Below.refl _ _).drew) (le_drew' hBj)).mono ?_);rw[HSV.out];rintro e w5 ⟨rfl,hb5⟩;have hb5':=(show Below wj.heap.size wj wj.drew from(Below.refl _ _).drew).trans hb5;have HB5:=hid hb5';have s6:w5.cell? ⟨gj,0,none⟩=some (.int .i64 (who:Nat))∧w5.cell? ⟨gj,1,none⟩=some (.int .i64 (xn:Nat))∧w5.cell? ⟨gj,2,none⟩=some (.int .i64 (sv:Nat))∧w5.cell? ⟨w.heap.size,0,none⟩=some (.slice ma mn mk)∧w5.cell? ⟨w.heap.size,1,none⟩=some (.slice (some ⟨lb,lo,none⟩) 4 lc)∧w5.cell? ⟨w.heap.size,2,none⟩=some (.slice (some ⟨pb,po,none⟩) 3 pc)∧w5.cell? ⟨pb,po+who,none⟩=some (.slice (some ⟨rb,ro,none⟩) pn (K who))∧w5.cell? ⟨rb,ro+xn * 7,none⟩=some (.int .i64 iy)∧w5.cell? ⟨rb,ro+xn * 7+1,none⟩=some (.int .i64 ik)∧w5.cell? ⟨rb,ro+xn * 7+2,none⟩=some (.int .i64 ia)∧w5.cell? ⟨rb,ro+xn * 7+3,none⟩=some (.int .i64 im)∧w5.cell? ⟨rb,ro+xn * 7+4,none⟩=some (.bool ip)∧w5.cell? ⟨rb,ro+xn * 7+5,none⟩=some (.slice da dn dc)∧w5.cell? ⟨rb,ro+xn * 7+6,none⟩=some (.slice la ln lc'):=⟨(hb5'.cell (p:=⟨gj,0,none⟩) zj).trans j0,(hb5'.cell (p:=⟨gj,1,none⟩) zj).trans j1,(hb5'.cell (p:=⟨gj,2,none⟩) zj).trans j2,(hb5'.cell (p:=⟨w.heap.size,0,none⟩) zb).trans b0,(hb5'.cell (p:=⟨w.heap.size,1,none⟩) zb).trans b1,(hb5'.cell (p:=⟨w.heap.size,2,none⟩) zb).trans b2,(hb5'.cell (p:=⟨pb,po+who,none⟩) zp).trans pq,(hb5'.cell (p:=⟨rb,ro+xn * 7,none⟩) zr).trans r0,(hb5'.cell (p:=⟨rb,ro+xn * 7+1,none⟩) zr).trans r1,(hb5'.cell (p:=⟨rb,ro+xn * 7+2,none⟩) zr).trans r2,(hb5'.cell (p:=⟨rb,ro+xn * 7+3,none⟩) zr).trans r3,(hb5'.cell (p:=⟨rb,ro+xn * 7+4,none⟩) zr).trans r4,(hb5'.cell (p:=⟨rb,ro+xn * 7+5,none⟩) zr).trans r5,(hb5'.cell (p:=⟨rb,ro+xn * 7+6,none⟩) zr).trans r6⟩;clear hb5 hb5'))
     have k1:=(HB5.out.cell (p:=⟨gj,1,none⟩) zj).trans j1;have k2:=(HB5.out.cell (p:=⟨gj,2,none⟩) zj).trans j2;have a0:=(HB5.out.cell (p:=⟨w.heap.size,0,none⟩) zb).trans b0;have a1:=(HB5.out.cell (p:=⟨w.heap.size,1,none⟩) zb).trans b1;have a2:=(HB5.out.cell (p:=⟨w.heap.size,2,none⟩) zb).trans b2;have HB6:=hid (HBJ.out.trans (HB5.out.mono HBJ.out.size));have hz5:=HB5.out.size;have zj5:gj<w5.heap.size:=Nat.lt_of_lt_of_le zj hz5;clear s6 j0 j1 j2 b0 b1 b2 pq r0 r1 r2 r3 r4 r5 r6
     go_upto_region 19 with (first
      |(go_at_call 130;(with_reducible refine(id_any hbus (B:=B) (HOB.out.below (HB6.out.mono (Nat.le_trans hB HBL.out.size))) (Nat.le_trans hBj hz5) hw HXP.out).mono ?_);rw[HID.out];rintro e w7 ⟨rfl,hb7⟩;have m2:=(hb7.cell (p:=⟨gj,2,none⟩) zj5).trans k2;have HB7:=hid (HB6.out.trans (hb7.mono HB6.out.size));clear hb7 k1 k2 a0 a1 a2))
     obtain⟨w8,hw8⟩:∃W,W=w7:=⟨_,rfl⟩
     subst hw8;obtain⟨D,hown,hold⟩:=HMAP.out.below HB7.out;have HOLD:=hid hold;have HIM:=hid (hown.isMap);have hkey:keyOf Tryz.prog 3 (.int .i64 iy)=some (.int .i64 iy):=Maps.keyOf_int_mk Tryz.underlying3 (wf64 HWF.out);have HKL:=hid (show WideAt.IsKeyLit (.int .i64 iy) from law_int.key hkey);have hsame:∀j,j<k→c.id who (p.out.getD j default).n=iy→((p.out.getD j default).left:Int)=sv:=fun j hj he=>by
      have hjm:p.out.getD j default∈p.out:=zC6 (by have:=HOL.out;omega);have:=HP.out.oi _ hjm x HXM.out (by rw[he,←HXN.out,HID.out]);rw[this,←HSX.out]
     have HSAME:=hid hsame;have HLT:=hid (hown.lt);have hkm:k<maxLen:=by unfold maxLen;omega
     have hsvf:=wf64 (a:=(sv:Int)) (by have:=HXL.out;have:c.slv who xn<4:=slv_lt4 hbus.ms (c.req who xn);omega);clear hold hsame;rcases hh:Maps.has D (.int .i64 iy)with _|_
     ·go_wp2_with (first
       |(at_lookup;refine wpList_lookup_own_ok_int _ rfl _ _ 166 rfl 3 3 .i64 law_int zJ2 Tryz.underlying3 (zero_int _) w1.heap.size k D rfl hown _ _ rfl hkey ?_;intro c0 hat hwc;rw[hh])
       |(at_mapUpdate;refine wpList_mapUpdate_in _ rfl _ _ _ 166 rfl 3 3 law_int zJ2 _ w1.heap.size k D rfl hown hkm _ _ (.int .i64 iy) rfl rfl hkey (.lit (.int .i64 sv)) [] (plainElem_int Tryz.underlying3 hsvf) ?_;intro w9 hown9 hturn9))
      have hg9:=hturn9.grown;have hz9:=hg9.size;have HBA:=hid (HBL.out.trans (HB7.out.mono HBL.out.size))
      go_roundw
      case rel=>
       refine⟨k+1,xn,by go_num,by omega,rfl,by omega,by have:=HXF.out;have:=HF.out;have:=HP.out.nx;have:=HPN.out;omega,fun j hj1 hj2=>?_,MapAt.put HOLD.out HIM.out HKL.out hown9 (by rw[←HX.out,←HXN.out];exact HID.out) (by rw[←HX.out];exact HSX.out.symm),HBA.out.grown hg9 HBA.out.size (fun j hj=>by cases hj;omega),?_,by have:=HB7.out.size;omega⟩
       ·have hos:=HP.out.os;rw[List.pairwise_iff_getElem]at hos;have hk2:k<p.out.length:=by rw[←HOL.out];exact hlo
        have:=hos k j hk2 hj2 (by omega);have e1:x=p.out[k]:=by rw[HX.out];simp[List.getD,hk2]
        rw[HXN.out,e1];simp only[List.getD,List.getElem?_eq_getElem hj2,Option.getD_some];omega
       ·unfold BusB;have h1:w.heap.size<wr.heap.size:=zA2 HBUS.out;rw[hg9.block w.heap.size (by have:=HB7.out.size;omega) (by simp;omega),HB7.out.block w.heap.size h1];exact HBUS.out
      case measure=>simp[intOf];omega
     ·go_wp2_with (first
       |(at_lookup;refine wpList_lookup_own_ok_int _ rfl _ _ 166 rfl 3 3 .i64 law_int zJ2 Tryz.underlying3 (zero_int _) w1.heap.size k D rfl hown _ _ rfl hkey ?_;intro c0 hat hwc;rw[hh];obtain⟨jj,hjj,hj1,hj2⟩:=HOLD.out iy c0 hh hat;have e3:c0=(sv:Int):=hj2.symm.trans (HSAME.out jj hjj hj1);subst e3)
       |(at_mapUpdate;refine wpList_mapUpdate_in _ rfl _ _ _ 166 rfl 3 3 law_int zJ2 _ w1.heap.size k D rfl hown hkm _ _ (.int .i64 iy) rfl rfl hkey (.lit (.int .i64 sv)) [] (plainElem_int Tryz.underlying3 hsvf) ?_;intro w9 hown9 hturn9))
      have hg9:=hturn9.grown;have hz9:=hg9.size;have HBA:=hid (HBL.out.trans (HB7.out.mono HBL.out.size))
      go_roundw
      case rel=>
       refine⟨k+1,xn,by go_num,by omega,rfl,by omega,by have:=HXF.out;have:=HF.out;have:=HP.out.nx;have:=HPN.out;omega,fun j hj1 hj2=>?_,MapAt.put HOLD.out HIM.out HKL.out hown9 (by rw[←HX.out,←HXN.out];exact HID.out) (by rw[←HX.out];exact HSX.out.symm),HBA.out.grown hg9 HBA.out.size (fun j hj=>by cases hj;omega),?_,by have:=HB7.out.size;omega⟩
       ·have hos:=HP.out.os;rw[List.pairwise_iff_getElem]at hos;have hk2:k<p.out.length:=by rw[←HOL.out];exact hlo
        have:=hos k j hk2 hj2 (by omega);have e1:x=p.out[k]:=by rw[HX.out];simp[List.getD,hk2]
        rw[HXN.out,e1];simp only[List.getD,List.getElem?_eq_getElem hj2,Option.getD_some];omega
       ·unfold BusB;have h1:w.heap.size<wr.heap.size:=zA2 HBUS.out;rw[hg9.block w.heap.size (by have:=HB7.out.size;omega) (by simp;omega),HB7.out.block w.heap.size h1];exact HBUS.out
      case measure=>simp[intOf];omega
    ·have hki:decide ((k:Int)<(ol:Int))=false:=by rw[decide_eq_false_iff_not];omega
     go_wp2_with fail
     go_ret
     exact⟨rfl,HBL.out⟩
set_option maxRecDepth 4000 in
theorem slaveOk_any {c : Cfg} (hbus : Bus c) {w : World} {B : Nat} {u : Value} (hc : BusV w B u c) {a0 a1 a2 a3 a4 : Value} {st : Cy} {P : List PS} {Q : List SS} (h : CyV w B a0 a1 a2 a3 a4 st P Q) (hB : B ≤ w.heap.size) (hg : Good c st) {s : Nat} (hs : s < 4) :
    Calls Tryz.prog 81 #[u,.agg #[a0,a1,a2,a3,a4],.int .i64 s] w fun e w' => e=.returned (.bool true)∧Below w.heap.size w w':=by
  obtain⟨mv,lb,lo,lc,pb,po,pc,QQ,K,rfl,⟨ma,mn,mk,rfl⟩,hms,hlb,hpb,hlat,hprog,hreq⟩:=hc.opened hbus;have HO:=hid (show BusO w B c ma mn mk lb lo lc pb po pc QQ K from⟨hms,hlb,hpb,hlat,hprog,hreq⟩);obtain⟨pg,pgo,pgc,rfl,pc1,pc2,pgB,hpc⟩:=h.ps.at (by rw[h.lp];omega)
  obtain⟨tg,tp,tc,rfl,tc1,tc2,tgB,htc⟩:=h.ss.at (by rw[h.lq];omega)
  obtain⟨ya,yn,yb,rfl⟩:∃a n c,a0=.slice a n c:=by obtain⟨a,c,e,_⟩:=h.ws.1;exact⟨a,_,c,e⟩
  obtain⟨za,zn,zb,rfl⟩:∃a n c,a1=.slice a n c:=by obtain⟨a,c,e,_⟩:=h.hs.1;exact⟨a,_,c,e⟩
  obtain⟨ua,un,ub,rfl⟩:∃a n c,a4=.slice a n c:=by obtain⟨D,⟨a,c,e,_⟩,_⟩:=h.told;exact⟨a,_,c,e⟩
  rw[h.lp]at h pc1 hpc ⊢;rw[h.lq]at h tc1 htc ⊢;have HC:=hid h;have HG:=hid hg;have HPC:=hid hpc;have vrow:=htc s default hs;obtain⟨x,hx⟩:∃x,x=Q.getD s default:=⟨_,rfl⟩
  rw[←hx]at vrow;have HX:=hid hx;obtain⟨⟨qa,qn,qc⟩,⟨da,dn,dc⟩,la⟩:=x;have v0:=vrow 0 (by omega);have v1:=vrow 1 (by omega);have v2:=vrow 2 (by omega);simp only[rowSS,sl,List.getElem?_cons_zero,List.getElem?_cons_succ,Nat.add_zero]at v0 v1 v2;have hpv:Jbs w B (.slice qa qn qc) (st.slaves s).pipe:=by have:=h.p s hs;rw[←hx]at this;exact this
  obtain⟨DJ,dj1,dj2,dj3⟩:=h.d s hs;rw[←hx]at dj1;obtain⟨ao,cp,e,hcp1,hcp2,_,_,hjc⟩:=hpv.opened;simp only[Value.slice.injEq]at e;obtain⟨rfl,rfl,rfl⟩:=e;obtain⟨bo,ep,e,hdp1,hdp2,_,_,hdc⟩:=dj1;simp only[sl,Value.slice.injEq,List.length_map]at e hdp1 hdc;obtain⟨rfl,rfl,rfl⟩:=e;have hdl:DJ.length=(st.slaves s).done.length:=by rw[←dj2,List.length_map]
  obtain⟨pl,hpl⟩:∃x,x=(st.slaves s).pipe.length:=⟨_,rfl⟩
  obtain⟨dl,hdl2⟩:∃x,x=DJ.length:=⟨_,rfl⟩
  have hsg:=hg.s s hs;have p2:=hsg.p2;have d2:=hsg.d2;rw[←hpl]at p2 v0 hcp1 hjc;rw[←hdl,←hdl2]at d2;rw[←hdl2]at v1 hdp1 hdc;have hls:(la:Int)≤2:=by have:=h.sn s hs;rw[←hx]at this;simp only at this;have:=hsg.l;omega
  have HDC:=hid hdc;have HJC:=hid hjc;have DJ3:=hid dj3;have DJ2:=hid dj2;have HPL:=hid hpl;have HDL:=hid hdl2;have HDL0:=hid hdl;have gd1:decide ((2:Int)<(pl:Int))=false:=by rw[decide_eq_false_iff_not];omega
  have gd1':decide (2<pl)=false:=by rw[decide_eq_false_iff_not];omega
  have gd2:decide ((2:Int)<(dl:Int))=false:=by rw[decide_eq_false_iff_not];omega
  have gd2':decide (2<dl)=false:=by rw[decide_eq_false_iff_not];omega
  have i1:=hid (isMaster_any (la:Int));rw[show inB (la:Int) 0 2=true by simp[inB];omega]at i1;have hsi:(s:Int)<4:=by omega
  have HLAT:=hid (hlat s hs);obtain⟨lt,hlt0⟩:∃x,x=c.lt s:=⟨_,rfl⟩
  have HLT:=hid hlt0;rw[←hlt0]at HLAT;obtain⟨w0,hw0⟩:∃W,W=((w.alloc (.cells #[.slice ma mn mk,.slice (some ⟨lb,lo,none⟩) 4 lc,.slice (some ⟨pb,po,none⟩) 3 pc] 27)).alloc (.cells #[.slice ya yn yb,.slice za zn zb,.slice (some ⟨pg,pgo,none⟩) 3 pgc,.slice (some ⟨tg,tp,none⟩) 4 tc,.slice ua un ub] 46)).alloc (.cells #[.int .i64 (s:Nat)] 3):=⟨_,rfl⟩
  have hb0:Below w.heap.size w w0:=by rw[hw0];exact(((Below.refl _ _).alloc (Nat.le_refl _) _).alloc (by simp) _).alloc (by simp;omega) _
  have hz0:w0.heap.size=w.heap.size+3:=by rw[hw0];simp
  have B1 := hid (show BusB w0 w.heap.size ma mn mk lb lo lc pb po pc by
    unfold BusB;rw[hw0,((Below.refl _ _).alloc (Nat.le_refl _) _).block _ (by simp;omega),((Below.refl _ _).alloc (Nat.le_refl _) _).block _ (by simp)];exact zA8 _ _ rfl)
  have B2 := hid (show w0.heap[w.heap.size + 1]? = some (.cells #[.slice ya yn yb, .slice za zn zb, .slice (some ⟨pg, pgo, none⟩) 3 pgc, .slice (some ⟨tg, tp, none⟩) 4 tc, .slice ua un ub] 46 (0, 0)) by
    rw[hw0,((Below.refl _ _).alloc (Nat.le_refl _) _).block _ (by simp)];exact zA8 _ _ (by simp))
  have B3:=hid (show IntB w0 (w.heap.size+2) s by unfold IntB;rw[hw0];exact zA8 _ _ (by simp));obtain⟨y0,y1,y2,y3,y4⟩:w0.cell? ⟨w.heap.size+1,0,none⟩=some (.slice ya yn yb)∧w0.cell? ⟨w.heap.size+1,1,none⟩=some (.slice za zn zb)∧w0.cell? ⟨w.heap.size+1,2,none⟩=some (.slice (some ⟨pg,pgo,none⟩) 3 pgc)∧w0.cell? ⟨w.heap.size+1,3,none⟩=some (.slice (some ⟨tg,tp,none⟩) 4 tc)∧w0.cell? ⟨w.heap.size+1,4,none⟩=some (.slice ua un ub):=by
    have:=B2.out;refine⟨?_,?_,?_,?_,?_⟩ <;> simp[World.cell?,this]
  obtain⟨n0,_⟩:=B3.out.cells;have htz:tg<w.heap.size:=Nat.lt_of_lt_of_le tgB hB;rw[←hb0.cell (p:=⟨tg,_,none⟩) htz]at v0 v1 v2;have hK2:=zB7 (K:=131) Tryz.func131 (by kernel_rfl) (by kernel_rfl);have HB0:=hid hb0;have HZ0:=hid hz0;obtain⟨g3,hg3⟩:∃g,g=w.heap.size+1+1:=⟨_,rfl⟩
  obtain⟨g2,hg2⟩:∃g,g=w.heap.size+1:=⟨_,rfl⟩
  rw[show w.heap.size+2=w.heap.size+1+1 from rfl,←hg3]at n0 B3;rw[←hg2]at y0 y1 y2 y3 y4 B2;clear hc hms hlb hlat hprog hreq h hg hpc htc vrow hx hpv hjc dj3 dj2 hdc hdl hsg hpl hdl2 hlt0 hz0 hb0
  go_enter Tryz.func81,Tryz.ntmps81
  go_upto_region 1 with fail
  rw[←hw0];clear hw0;rw[←hg3,←hg2];have HG3:=hid hg3;have HG2:=hid hg2;clear hg3 hg2
  go_upto_region 4 with (first
    |(go_at_call 83;refine(i1.out _).mono ?_;rintro e w9 ⟨rfl,rfl⟩))
  clear v0 v1 v2 y0 y1 y2 y3 y4 n0
  go_upto_region 6 with fail
  obtain⟨w5,hw5⟩:∃W,W=(w0.alloc (.cells #[.slice qa pl qc,.slice da dl dc,.int .i64 (la:Nat)] 50)).alloc (.cells #[.int .i64 (-1),.int .i64 (-1),.int .i64 (-1)] 169):=⟨_,rfl⟩
  rw[←hw5];obtain⟨g5,hg5⟩:∃g,g=w0.heap.size+1:=⟨_,rfl⟩
  obtain⟨g4,hg4⟩:∃g,g=w0.heap.size:=⟨_,rfl⟩
  rw[←hg5,←hg4];have hz0:=HZ0.out;have hg2:=HG2.out;have hg3:=HG3.out;have hb5:Below w0.heap.size w0 w5:=by rw[hw5];exact((Below.refl _ _).alloc (Nat.le_refl _) _).alloc (by simp) _
  have HB5:=hid (HB0.out.trans (hb5.mono HB0.out.size));have hv5:w5.heap[g4]? = some (.cells #[.slice qa pl qc,.slice da dl dc,.int .i64 (la:Nat)] 50 (0,0)):=by
    rw[hw5,((Below.refl _ _).alloc (Nat.le_refl _) _).block _ (by rw[hg4];simp)];exact zA8 _ _ hg4
  have HT5:=hid (show TriB w5 g5 (lastK []) by unfold TriB;rw[hw5];exact zA8 _ _ (by rw[hg5];simp));obtain⟨q0,q1⟩:w5.cell? ⟨g4,0,none⟩=some (.slice qa pl qc)∧w5.cell? ⟨g4,1,none⟩=some (.slice da dl dc):=by refine⟨?_,?_⟩ <;> simp[World.cell?,hv5]
  have B15:=hid (B1.out.below hb5 (by omega));have B25:=hid ((hb5.block g2 (by omega)).trans B2.out);have B35:=hid (B3.out.below hb5 (by omega));have n5:g5=w.heap.size+4:=by omega
  have n4:g4=w.heap.size+3:=by omega
  have N5:=hid n5;have N4:=hid n4;have Q0:=hid q0;have hz5:w5.heap.size=g5+1:=by rw[hw5,hg5];simp
  have HZ5:=hid hz5;clear hw5 hg5 hg4 hz0 hg2 hg3 hb5 hv5 n5 n4 hz5 q0
  go_wp2_with fail
  go_loopw [40] (fun i wr=>∃k:Nat,i=.int .i64 k∧k≤dl∧TriB wr g5 (lastK ((zA7 (st.slaves s)).take k))∧Below g5 w5 wr) (fun i _=>dl - (intOf i).toNat)
  case atStart=>exact⟨0,by go_num,Nat.zero_le _,HT5.out,Below.refl _ _⟩
  case round=>
    clear q1 HT5;obtain⟨k,rfl,hk,htri,hbl⟩:=hrel;have HTRI:=hid htri;have HBL:=hid hbl;have n5:=N5.out;have n4:=N4.out;have hg2:=HG2.out;have hg3:=HG3.out;have hz5:g5<wr.heap.size:=zA2 htri;have hBg:B≤g5:=by omega
    by_cases hlt:k<dl
    · have hki : (k : Int) < (dl : Int) := by omega
      obtain⟨db,doff,rfl,hdB,hdcell⟩:=HDC.out (by omega);obtain⟨x,hx⟩:∃x,x=DJ.getD k default:=⟨_,rfl⟩
      have hkl:k<DJ.length:=by rw[←HDL.out];exact hlt
      have hxm:x∈DJ:=by rw[hx];exact zC6 hkl
      have hxe:DJ[k]? = some x:=by rw[hx];simp[List.getD,hkl]
      have cellx:∀j,j<5→wr.cell? ⟨db,doff+k * 5+j,none⟩=(tjRow x)[j]?:=fun j hj=>by
        rw[hbl.cell (p:=⟨db,_,none⟩) (by show db<g5;omega),HB5.out.cell (p:=⟨db,_,none⟩) (by show db<w.heap.size;omega),hdcell k hlt j hj,hx];simp[List.getD,hkl]
      have hdata:=DJ3.out x hxm;obtain⟨xa,xk,hxv,_⟩:=hdata.opened;obtain⟨⟨xw,xn,⟨xi,xc,xd⟩⟩,xv⟩:=x;simp only at hdata hxv;subst hxv;have x0:=cellx 0 (by omega);have x1:=cellx 1 (by omega);have x2:=cellx 2 (by omega);have x3:=cellx 3 (by omega);have x4:=cellx 4 (by omega);simp only[tjRow,List.getElem?_cons_zero,List.getElem?_cons_succ,Nat.add_zero]at x0 x1 x2 x3 x4;have hkey:(zA7 (st.slaves s))[k]? = some (xw,xn):=by
        unfold zA7;rw[List.getElem?_append_left (by rw[List.length_map,←HDL0.out];exact hkl),List.getElem?_map,←DJ2.out,List.getElem?_map,hxe];rfl
      obtain⟨hxw,hxlast,hxin,hxp⟩:=lastK_lt HG.out hs hkey;have hxmd:(⟨xw,xn,⟨xi,xc,xd⟩⟩:TJ)∈(st.slaves s).done:=by rw[←DJ2.out];exact List.mem_map.2 ⟨_,hxm,rfl⟩
      obtain⟨hxok,hxid⟩:=(HG.out.s s hs).dr _ hxmd;have HXOK:=hid hxok;have HXID:=hid (show c.id xw xn=xi from hxid.symm);have HTK:=hid (take_snocK hkey);have HDATA:=hid hdata;have HXL:=hid hxlast;have HXI:=hid hxin;have HXP:=hid hxp;have HXW:=hid hxw;obtain⟨xl,hxl⟩:∃l,l=xd.length:=⟨_,rfl⟩
      rw[←hxl]at x4;have HXDL:=hid hxl;clear hdcell hx hkl hxm hxe cellx hdata hkey hxlast hxin hxmd hxok hxid hxp hxl htri hbl;obtain⟨wo,hwo⟩:∃W,W=wr:=⟨_,rfl⟩
      subst hwo;clear n5 n4 hg2 hg3
      go_upto_region 9 with fail
      clear x0 x1 x2 x3 x4;have n5:=N5.out;have n4:=N4.out;have hg2:=HG2.out;have hg3:=HG3.out;obtain⟨wj,hwj⟩:∃W,W=wo.alloc (.cells #[.int .i64 (xw:Nat),.int .i64 (xn:Nat),.int .i64 xi,.int .i64 xc,.slice xa xl xk] 85):=⟨_,rfl⟩
      rw[←hwj];obtain⟨gj,hgj⟩:∃g,g=wo.heap.size:=⟨_,rfl⟩
      have hbj:Below wo.heap.size wo wj:=by rw[hwj];exact(Below.refl _ _).alloc (Nat.le_refl _) _
      have hjt:wj.heap[gj]? = some (.cells #[.int .i64 (xw:Nat),.int .i64 (xn:Nat),.int .i64 xi,.int .i64 xc,.slice xa xl xk] 85 (0,0)):=by rw[hwj];exact zA8 _ _ hgj
      rw[←hgj];have zj:=zA2 hjt;obtain⟨j0,j1,j2,j3,j4⟩:wj.cell? ⟨gj,0,none⟩=some (.int .i64 (xw:Nat))∧wj.cell? ⟨gj,1,none⟩=some (.int .i64 (xn:Nat))∧wj.cell? ⟨gj,2,none⟩=some (.int .i64 xi)∧wj.cell? ⟨gj,3,none⟩=some (.int .i64 xc)∧wj.cell? ⟨gj,4,none⟩=some (.slice xa xl xk):=by refine⟨?_,?_,?_,?_,?_⟩ <;> simp[World.cell?,hjt]
      have hgj5:gj≠g5:=by omega
      have nb5:w.heap.size≠g5:=by omega
      have n35:g3≠g5:=by omega
      have nl5:lb≠g5:=by have:=HO.out.hlb;omega
      have HBW:=hid (HBL.out.trans (hbj.mono (by omega)));obtain⟨b0,b1,b2,z1⟩:=(B15.out.below HBW.out (by omega)).cells;have hSt:=(HBW.out.block g2 (by omega)).trans B25.out;have hSn:=(B35.out.below HBW.out (by omega))
      have HTJ:=hid (HTRI.out.below hbj hz5);have HBB:=hid (HB5.out.trans (HBW.out.mono (by omega)));have hBj:B≤wj.heap.size:=by have:=hbj.size;omega
      have HF := hid (fits_any (w := wj.drew) (B := B) (g2 := g2) (g3 := g3) (pg := pg) (po := pgo) (pc := pgc) (s := s) (P := P) (st := st) (who := xw) (n := xn) HTJ.out
        (by show wj.cell? _=_;simp[World.cell?,hSt]) (by show wj.cell? _=_;exact hSn.cells.1) hBg (by omega) (by omega) pgB
        (fun t ht j hj=>by show wj.cell? _=_;rw[HBB.out.cell (p:=⟨pg,_,none⟩) (by show pg<w.heap.size;omega)];exact HPC.out t default ht j hj)
        (fun i hi=>((HC.out.o i hi).below (HBB.out.mono hB)).below (Below.refl _ _).drew) HXW.out HXL.out (HG.out.p xw HXW.out).os (HG.out.p xw HXW.out).o4 HXI.out)
      have HOJ:=hid (HO.out.below (HBB.out.mono hB));have HDJ:=hid (HDATA.out.below (HBB.out.mono hB));have HRO:=hid (fun(W:World) (hW:Below B wj W)=>rspOk_yes xa xl xk ⟨xi,xc,xd⟩ B W (by have:=(HDJ.out).below hW;rw[←HXDL.out]at this;exact this) (Nat.le_trans hBj hW.size) HXOK.out);have HBJ:=hid hbj;have HGJ:=hid hgj;have HSZ:=hid hz5;clear hwj hbj hgj hjt hSt hSn hz5 n5 n4 hg2 hg3
      go_region_held3 (fun w' => w'.cell? ⟨gj, 0, none⟩ = some (.int .i64 (xw : Nat)) ∧ w'.cell? ⟨gj, 1, none⟩ = some (.int .i64 (xn : Nat)) ∧ w'.cell? ⟨gj, 2, none⟩ = some (.int .i64 xi) ∧ w'.cell? ⟨gj, 3, none⟩ = some (.int .i64 xc) ∧ w'.cell? ⟨gj, 4, none⟩ = some (.slice xa xl xk) ∧ w'.cell? ⟨w.heap.size, 0, none⟩ = some (.slice ma mn mk) ∧ w'.cell? ⟨w.heap.size, 1, none⟩ = some (.slice (some ⟨lb, lo, none⟩) 4 lc) ∧ w'.cell? ⟨w.heap.size, 2, none⟩ = some (.slice (some ⟨pb, po, none⟩) 3 pc))
        (first|exact s8|exact s7|exact s6|go_keep)
        (first
          |(go_at_call 131;go_loud ((with_reducible refine(HF.out).mono ?_));rintro e w6 ⟨rfl,htr6,ht6⟩;have ht6':Touch g5 wj w6:=(show Touch g5 wj wj.drew from(Touch.refl _ _).drewd).trans ht6;have s6:w6.cell? ⟨gj,0,none⟩=some (.int .i64 (xw:Nat))∧w6.cell? ⟨gj,1,none⟩=some (.int .i64 (xn:Nat))∧w6.cell? ⟨gj,2,none⟩=some (.int .i64 xi)∧w6.cell? ⟨gj,3,none⟩=some (.int .i64 xc)∧w6.cell? ⟨gj,4,none⟩=some (.slice xa xl xk)∧w6.cell? ⟨w.heap.size,0,none⟩=some (.slice ma mn mk)∧w6.cell? ⟨w.heap.size,1,none⟩=some (.slice (some ⟨lb,lo,none⟩) 4 lc)∧w6.cell? ⟨w.heap.size,2,none⟩=some (.slice (some ⟨pb,po,none⟩) 3 pc):=⟨(ht6'.cell (p:=⟨gj,0,none⟩) hgj5 zj).trans j0,(ht6'.cell (p:=⟨gj,1,none⟩) hgj5 zj).trans j1,(ht6'.cell (p:=⟨gj,2,none⟩) hgj5 zj).trans j2,(ht6'.cell (p:=⟨gj,3,none⟩) hgj5 zj).trans j3,(ht6'.cell (p:=⟨gj,4,none⟩) hgj5 zj).trans j4,(ht6'.cell (p:=⟨w.heap.size,0,none⟩) nb5 z1).trans b0,(ht6'.cell (p:=⟨w.heap.size,1,none⟩) nb5 z1).trans b1,(ht6'.cell (p:=⟨w.heap.size,2,none⟩) nb5 z1).trans b2⟩;have zj6:=Nat.lt_of_lt_of_le zj ht6'.size;have z16:=Nat.lt_of_lt_of_le z1 ht6'.size;have HT6:=hid ht6';have HTR6:=hid htr6;have HG56:=hid (zA2 htr6);have HBT:=hid (ht6'.below hBg hBj);clear ht6 ht6' htr6)
          |(go_at_call 133;go_loud (with_reducible refine(HRO.out _ HBT.out).mono ?_);rintro e w7 ⟨rfl,hb7⟩;have s7:w7.cell? ⟨gj,0,none⟩=some (.int .i64 (xw:Nat))∧w7.cell? ⟨gj,1,none⟩=some (.int .i64 (xn:Nat))∧w7.cell? ⟨gj,2,none⟩=some (.int .i64 xi)∧w7.cell? ⟨gj,3,none⟩=some (.int .i64 xc)∧w7.cell? ⟨gj,4,none⟩=some (.slice xa xl xk)∧w7.cell? ⟨w.heap.size,0,none⟩=some (.slice ma mn mk)∧w7.cell? ⟨w.heap.size,1,none⟩=some (.slice (some ⟨lb,lo,none⟩) 4 lc)∧w7.cell? ⟨w.heap.size,2,none⟩=some (.slice (some ⟨pb,po,none⟩) 3 pc):=⟨(hb7.cell (p:=⟨gj,0,none⟩) zj6).trans s6.1,(hb7.cell (p:=⟨gj,1,none⟩) zj6).trans s6.2.1,(hb7.cell (p:=⟨gj,2,none⟩) zj6).trans s6.2.2.1,(hb7.cell (p:=⟨gj,3,none⟩) zj6).trans s6.2.2.2.1,(hb7.cell (p:=⟨gj,4,none⟩) zj6).trans s6.2.2.2.2.1,(hb7.cell (p:=⟨w.heap.size,0,none⟩) z16).trans s6.2.2.2.2.2.1,(hb7.cell (p:=⟨w.heap.size,1,none⟩) z16).trans s6.2.2.2.2.2.2.1,(hb7.cell (p:=⟨w.heap.size,2,none⟩) z16).trans s6.2.2.2.2.2.2.2⟩;have zj7:=Nat.lt_of_lt_of_le zj6 hb7.size;have z17:=Nat.lt_of_lt_of_le z16 hb7.size;have HB7:=hid hb7;clear hb7)
          |(go_at_call 130;go_loud (with_reducible refine(id_any hbus (B:=B) ((HOJ.out.below HBT.out).below (HB7.out.mono (Nat.le_trans hBj HT6.out.size))) (Nat.le_trans hBj (Nat.le_trans HT6.out.size HB7.out.size)) HXW.out HXP.out).mono ?_);rw[HXID.out];rintro e w8 ⟨rfl,hb8⟩;have s8:w8.cell? ⟨gj,0,none⟩=some (.int .i64 (xw:Nat))∧w8.cell? ⟨gj,1,none⟩=some (.int .i64 (xn:Nat))∧w8.cell? ⟨gj,2,none⟩=some (.int .i64 xi)∧w8.cell? ⟨gj,3,none⟩=some (.int .i64 xc)∧w8.cell? ⟨gj,4,none⟩=some (.slice xa xl xk)∧w8.cell? ⟨w.heap.size,0,none⟩=some (.slice ma mn mk)∧w8.cell? ⟨w.heap.size,1,none⟩=some (.slice (some ⟨lb,lo,none⟩) 4 lc)∧w8.cell? ⟨w.heap.size,2,none⟩=some (.slice (some ⟨pb,po,none⟩) 3 pc):=⟨(hb8.cell (p:=⟨gj,0,none⟩) zj7).trans s7.1,(hb8.cell (p:=⟨gj,1,none⟩) zj7).trans s7.2.1,(hb8.cell (p:=⟨gj,2,none⟩) zj7).trans s7.2.2.1,(hb8.cell (p:=⟨gj,3,none⟩) zj7).trans s7.2.2.2.1,(hb8.cell (p:=⟨gj,4,none⟩) zj7).trans s7.2.2.2.2.1,(hb8.cell (p:=⟨w.heap.size,0,none⟩) z17).trans s7.2.2.2.2.2.1,(hb8.cell (p:=⟨w.heap.size,1,none⟩) z17).trans s7.2.2.2.2.2.2.1,(hb8.cell (p:=⟨w.heap.size,2,none⟩) z17).trans s7.2.2.2.2.2.2.2⟩;have HB8:=hid hb8;clear hb8))
      clear s6 s7 s8
      go_wp2_with fail
      go_roundw
      case rel=>
        have n5:=N5.out;have n4:=N4.out;have hg2:=HG2.out;have hg3:=HG3.out;have hs:=HSZ.out;have h1:=HT6.out.size;have h2:=HG56.out;have h3:=HB7.out.size;have h4:=HBJ.out.size;refine⟨k+1,by go_num,by omega,?_,?_⟩
        · rw [HTK.out, lastK_snoc]
          exact(HTR6.out.below HB7.out h2).below HB8.out (by omega)
        · exact((HBW.out.trans (HT6.out.below (Nat.le_refl _) (by omega))).trans (HB7.out.mono (by omega))).trans (HB8.out.mono (by omega))
      case measure=>simp[intOf];omega
    · obtain rfl : k = dl := by omega
      have q0:=(hbl.cell (p:=⟨g4,0,none⟩) (by show g4<g5;omega)).trans Q0.out;clear n5 n4 hg2 hg3 hbl htri hz5
      go_wp2_with fail
      clear q0
      go_loopw [73] (fun i wr=>∃m:Nat,i=.int .i64 m∧m≤pl∧TriB wr g5 (lastK ((zA7 (st.slaves s)).take (k+m)))∧Below g5 w5 wr) (fun i _=>pl - (intOf i).toNat)
      case atStart=>exact⟨0,by go_num,Nat.zero_le _,HTRI.out,HBL.out⟩
      case round=>
        clear HTRI HBL;obtain⟨m,rfl,hm,htri,hbl⟩:=hrel;have HTRI:=hid htri;have HBL:=hid hbl;have n5:=N5.out;have n4:=N4.out;have hg2:=HG2.out;have hg3:=HG3.out;have hz5:g5<wr.heap.size:=zA2 htri;have hBg:B≤g5:=by omega
        by_cases hlt:m<pl
        · have hki : (m : Int) < (pl : Int) := by omega
          obtain⟨db,doff,rfl,hdB,hdcell⟩:=HJC.out (by omega);obtain⟨x,hx⟩:∃x,x=(st.slaves s).pipe.getD m default:=⟨_,rfl⟩
          have hml:m<(st.slaves s).pipe.length:=by rw[←HPL.out];exact hlt
          have hxm:x∈(st.slaves s).pipe:=by rw[hx];exact zC6 hml
          have hxe:(st.slaves s).pipe[m]? = some x:=by rw[hx];simp[List.getD,hml]
          obtain⟨x0,x1,x2⟩:=hdcell m hlt;rw[←HB5.out.cell (p:=⟨db,_,none⟩) (by show db<w.heap.size;omega),←hbl.cell (p:=⟨db,_,none⟩) (by show db<g5;omega),←hx]at x0 x1 x2;obtain⟨xw,xn,xf⟩:=x;simp only at x0 x1 x2;have hkey:(zA7 (st.slaves s))[k+m]? = some (xw,xn):=by
            unfold zA7;rw[List.getElem?_append_right (by rw[List.length_map,←HDL0.out,←HDL.out];omega),List.length_map,←HDL0.out,←HDL.out,show k+m - k=m by omega,List.getElem?_map,hxe];rfl
          obtain⟨hxw,hxlast,hxin,hxp⟩:=lastK_lt HG.out hs hkey;have hleft:(m=0→xf≤lt)∧(0<m→xf=lt):=by
            have hpl:=(HG.out.s s hs).pl;rw[←HLT.out]at hpl;rcases hp:(st.slaves s).pipe with _|⟨y,ys⟩
            · rw[hp]at hml;simp at hml
            · obtain ⟨h1, h2⟩ := hpl y ys hp
              rw[hp]at hxe;refine⟨fun e=>?_,fun e=>?_⟩
              · subst e;simp at hxe;rw[hxe]at h1;exact h1
              · obtain ⟨m', rfl⟩ : ∃ m', m = m' + 1 := ⟨m - 1, by omega⟩
                rw[List.getElem?_cons_succ]at hxe;exact h2 _ (List.mem_of_getElem? hxe)
          have HTK:=hid (take_snocK hkey);have HXL:=hid hxlast;have HXI:=hid hxin;have HXP:=hid hxp;have HXW:=hid hxw;have HLEFT:=hid hleft;clear hdcell hx hml hxm hxe hkey hxlast hxin hxp hxw hleft htri hbl n5 n4 hg2 hg3;obtain⟨wo,hwo⟩:∃W,W=wr:=⟨_,rfl⟩
          subst hwo
          go_upto_region 15 with fail
          clear x0 x1 x2;have n5:=N5.out;have n4:=N4.out;have hg2:=HG2.out;have hg3:=HG3.out;obtain⟨wj,hwj⟩:∃W,W=wo.alloc (.cells #[.int .i64 (xw:Nat),.int .i64 (xn:Nat),.int .i64 (xf:Nat)] 75):=⟨_,rfl⟩
          rw[←hwj];obtain⟨gj,hgj⟩:∃g,g=wo.heap.size:=⟨_,rfl⟩
          have hbj:Below wo.heap.size wo wj:=by rw[hwj];exact(Below.refl _ _).alloc (Nat.le_refl _) _
          have hjt:wj.heap[gj]? = some (.cells #[.int .i64 (xw:Nat),.int .i64 (xn:Nat),.int .i64 (xf:Nat)] 75 (0,0)):=by rw[hwj];exact zA8 _ _ hgj
          rw[←hgj];have zj:=zA2 hjt;obtain⟨j0,j1,j2⟩:wj.cell? ⟨gj,0,none⟩=some (.int .i64 (xw:Nat))∧wj.cell? ⟨gj,1,none⟩=some (.int .i64 (xn:Nat))∧wj.cell? ⟨gj,2,none⟩=some (.int .i64 (xf:Nat)):=by refine⟨?_,?_,?_⟩ <;> simp[World.cell?,hjt]
          have hgj5:gj≠g5:=by omega
          have nb5:w.heap.size≠g5:=by omega
          have n35:g3≠g5:=by omega
          have nl5:lb≠g5:=by have:=HO.out.hlb;omega
          have HBW:=hid (HBL.out.trans (hbj.mono (by omega)));obtain⟨b0,b1,b2,z1⟩:=(B15.out.below HBW.out (by omega)).cells;have hSt:=(HBW.out.block g2 (by omega)).trans B25.out;have hSn:=(B35.out.below HBW.out (by omega))
          obtain⟨t0,z3⟩:=hSn.cells;have HTJ:=hid (HTRI.out.below hbj hz5);have HBB:=hid (HB5.out.trans (HBW.out.mono (by omega)));have hBj:B≤wj.heap.size:=by have:=hbj.size;omega
          have lc0:wj.cell? ⟨lb,lo+s,none⟩=some (.int .i64 (lt:Nat)):=by rw[HBB.out.cell (p:=⟨lb,_,none⟩) (by have:=HO.out.hlb;show lb<w.heap.size;omega)];exact HLAT.out
          have zl:lb<wj.heap.size:=World.block_lt_of_cell? wj _ lc0
          have HF := hid (show ∀ W, TriB W g5 (lastK ((zA7 (st.slaves s)).take (k + m))) → Touch g5 wj W → Calls Tryz.prog 131 #[.int .i64 (xw : Nat), .int .i64 (xn : Nat), .pointer (some ⟨g5, 0, none⟩), .pointer (some ⟨g2, 0, none⟩), .pointer (some ⟨g3, 0, none⟩)] W (FitP g5 (lastK ((zA7 (st.slaves s)).take (k + m))) xw xn W) from fun W hW hTW => by
            have hBW:Below g5 wj W:=hTW.below (Nat.le_refl _) (by have:=hbj.size;omega)
            exact fits_any (w := W) (B := B) (g2 := g2) (g3 := g3) (pg := pg) (po := pgo) (pc := pgc) (s := s) (P := P) (st := st) (who := xw) (n := xn) hW
              (by rw[hBW.cell (p:=⟨g2,2,none⟩) (by show g2<g5;omega)];simp[World.cell?,hSt]) ((hBW.cell (p:=⟨g3,0,none⟩) (by show g3<g5;omega)).trans t0) hBg (by omega) (by omega) pgB
              (fun t ht j hj=>by rw[hBW.cell (p:=⟨pg,_,none⟩) (by show pg<g5;omega),HBB.out.cell (p:=⟨pg,_,none⟩) (by show pg<w.heap.size;omega)];exact HPC.out t default ht j hj)
              (fun i hi=>((HC.out.o i hi).below (HBB.out.mono hB)).below (hBW.mono hBg)) HXW.out HXL.out (HG.out.p xw HXW.out).os (HG.out.p xw HXW.out).o4 HXI.out)
          have HBJ:=hid hbj;have HGJ:=hid hgj;have HSZ:=hid hz5;have HREL:Hid (∀(wd:World),TriB wd g5 (upd (lastK ((zA7 (st.slaves s)).take (k+m))) xw (xn:Nat))→Touch g5 wj wd→TriB wd g5 (lastK ((zA7 (st.slaves s)).take (k+(m+1))))∧Below g5 w5 wd):=by
            refine hid fun wd h1 h2=>⟨?_,?_⟩
            · rw[←Nat.add_assoc,HTK.out,lastK_snoc];exact h1
            · exact HBW.out.trans (h2.below (Nat.le_refl _) (by have:=hbj.size;omega))
          clear hwj hbj hgj hjt hSt hSn hz5 n5 n4 hg2 hg3;rcases Nat.eq_zero_or_pos m with hm0|hm0
          · have hlf := HLEFT.out.1 hm0
            subst hm0
            have HIN := hid (show ∀ w, Calls Tryz.prog 60 #[.int .i64 (xf : Nat), .int .i64 0, .int .i64 (lt : Nat)] w fun e w' => e = .returned (.bool true) ∧ w = w' from by
              have i5:=zF6 (xf:Int) 0 (lt:Int);rw[show inB (xf:Int) 0 (lt:Int)=true by simp[inB];omega]at i5;exact i5)
            clear hlf;rw[show((0:Nat):Int)=0 from rfl];obtain⟨CC,hCC⟩:∃CC:List Value→World→Prop,CC=fun us W=>TriB W g5 (if us.length=0 then lastK ((zA7 (st.slaves s)).take (k+0)) else upd (lastK ((zA7 (st.slaves s)).take (k+0))) xw (xn:Nat))∧Touch g5 wj W:=⟨_,rfl⟩
            have hdr:Touch g5 wj wj.drew:=(Touch.refl _ _).drewd;have hC0:CC [] wj.drew:=by rw[hCC];exact⟨HTJ.out,hdr⟩
            have hTC:∀us W,CC us W→Touch g5 wj W:=by rw[hCC];exact fun us W h=>h.2
            have HC0:=hid (show ∀W,CC [] W→TriB W g5 (lastK ((zA7 (st.slaves s)).take (k+0))) by rw[hCC];exact fun W h=>h.1);have HC1:=hid (show ∀v W,TriB W g5 (upd (lastK ((zA7 (st.slaves s)).take (k+0))) xw (xn:Nat))→Touch g5 wj W→CC ([]++[v]) W by rw[hCC];exact fun v W h h2=>⟨h,h2⟩);have HC2:=hid (show ∀v W,CC ([]++[v]) W→TriB W g5 (upd (lastK ((zA7 (st.slaves s)).take (k+0))) xw (xn:Nat)) by rw[hCC];exact fun v W h=>h.1);have HTC:=hid hTC;clear hCC;have hne:Nonempty (Ph CC):=⟨⟨([],wj.drew),hC0⟩⟩
            have pc:∀{b o:Nat} {v:Value},b≠g5→wj.cell? ⟨b,o,none⟩=some v→∀x:Ph CC,x.1.2.cell? ⟨b,o,none⟩=some v:=fun hb hc x=>((hTC _ _ x.2).cell (p:=⟨_,_,none⟩) hb (World.block_lt_of_cell? wj _ hc)).trans hc
            have c0:=pc hgj5 j0;have c1:=pc hgj5 j1;have c2:=pc hgj5 j2;have c3:=pc nb5 b1;have c4:=pc n35 t0;have c5:=pc nl5 lc0;clear pc hTC hdr;refine zB8 CC [(5,true)] [] (by kernel_rfl) (by kernel_rfl) hC0 ?_
            repeat (
              (with_reducible refine wq1_q ⟨rfl,rfl⟩ (fun K hK=>?_))
              go_simp
              first
                |((with_reducible refine hK _ ?_);clear hK K)
                |((with_reducible refine zB1 (by simp[undef]) (hK _ ?_));clear hK K)
                | (apply Exists.intro
                   (with_reducible refine⟨fun _=>?_,hK _ ?_⟩)
                   (go_at_call 60;with_reducible exact callsF (HIN.out _))
                   clear hK K))
            refine wq1_x rfl (.bool true) (fun K hK=>?_);go_simp;refine hK _ ?_;clear hK K
            repeat (
              (with_reducible refine wq1_q ⟨rfl,rfl⟩ (fun K hK=>?_))
              go_simp
              first
                |((with_reducible refine hK _ ?_);clear hK K)
                |((with_reducible refine zB1 (by simp[undef]) (hK _ ?_));clear hK K)
                | (apply Exists.intro
                   (with_reducible refine⟨fun _=>?_,hK _ ?_⟩)
                   (go_at_call 60;with_reducible exact callsF (HIN.out _))
                   clear hK K))
            refine zH2 ?_;refine wq2_x _ rfl rfl ?_ ?_
            · intro W hW K hK
              go_simp
              (with_reducible refine(HF.out W (HC0.out W hW) (HTC.out _ _ hW)).mono ?_)
              rintro e w'' ⟨rfl,h1,h2⟩;go_simp;exact hK (.bool true) _ _ (HC1.out _ _ h1 ((HTC.out _ _ hW).trans h2)) rfl rfl
            intro v;refine zH9 ?_;intro wd hwd;have hd1:=HC2.out _ _ hwd;have hd2:=HTC.out _ _ hwd;clear c0 c1 c2 c3 c4 c5 hwd hC0 HC0 HC1 HC2 HTC hne;have HR:=hid (HREL.out _ hd1 hd2);clear hd1 hd2 HREL j0 j1 j2 b0 b1 b2 t0 lc0
            go_wp2_with fail
            go_roundw
            case rel=>refine⟨0+1,?_,by omega,HR.out.1,HR.out.2⟩;first|rfl|go_num
            case measure=>simp[intOf];omega
          · obtain rfl := HLEFT.out.2 hm0
            have hm1:((m:Int)==0)=false:=by simp;omega
            obtain⟨CC,hCC⟩:∃CC:List Value→World→Prop,CC=fun us W=>TriB W g5 (if us.length=0 then lastK ((zA7 (st.slaves s)).take (k+m)) else upd (lastK ((zA7 (st.slaves s)).take (k+m))) xw (xn:Nat))∧Touch g5 wj W:=⟨_,rfl⟩
            have hdr:Touch g5 wj wj.drew:=(Touch.refl _ _).drewd;have hC0:CC [] wj.drew:=by rw[hCC];exact⟨HTJ.out,hdr⟩
            have hTC:∀us W,CC us W→Touch g5 wj W:=by rw[hCC];exact fun us W h=>h.2
            have HC0:=hid (show ∀W,CC [] W→TriB W g5 (lastK ((zA7 (st.slaves s)).take (k+m))) by rw[hCC];exact fun W h=>h.1);have HC1:=hid (show ∀v W,TriB W g5 (upd (lastK ((zA7 (st.slaves s)).take (k+m))) xw (xn:Nat))→Touch g5 wj W→CC ([]++[v]) W by rw[hCC];exact fun v W h h2=>⟨h,h2⟩);have HC2:=hid (show ∀v W,CC ([]++[v]) W→TriB W g5 (upd (lastK ((zA7 (st.slaves s)).take (k+m))) xw (xn:Nat)) by rw[hCC];exact fun v W h=>h.1);have HTC:=hid hTC;clear hCC;have hne:Nonempty (Ph CC):=⟨⟨([],wj.drew),hC0⟩⟩
            have pc:∀{b o:Nat} {v:Value},b≠g5→wj.cell? ⟨b,o,none⟩=some v→∀x:Ph CC,x.1.2.cell? ⟨b,o,none⟩=some v:=fun hb hc x=>((hTC _ _ x.2).cell (p:=⟨_,_,none⟩) hb (World.block_lt_of_cell? wj _ hc)).trans hc
            have c0:=pc hgj5 j0;have c1:=pc hgj5 j1;have c2:=pc hgj5 j2;have c3:=pc nb5 b1;have c4:=pc n35 t0;have c5:=pc nl5 lc0;clear pc hTC hdr;refine zB8 CC [(5,true)] [] (by kernel_rfl) (by kernel_rfl) hC0 ?_
            repeat (
              (with_reducible refine wq1_q ⟨rfl,rfl⟩ (fun K hK=>?_))
              go_simp
              first
                |((with_reducible refine hK _ ?_);clear hK K)
                |((with_reducible refine zB1 (by simp[undef]) (hK _ ?_));clear hK K)
                | (apply Exists.intro
                   (with_reducible refine⟨fun _=>?_,hK _ ?_⟩)
                   (fail)
                   clear hK K))
            refine wq1_x rfl (.bool true) (fun K hK=>?_);go_simp;refine hK _ ?_;clear hK K
            repeat (
              (with_reducible refine wq1_q ⟨rfl,rfl⟩ (fun K hK=>?_))
              go_simp
              first
                |((with_reducible refine hK _ ?_);clear hK K)
                |((with_reducible refine zB1 (by simp[undef]) (hK _ ?_));clear hK K)
                | (apply Exists.intro
                   (with_reducible refine⟨fun _=>?_,hK _ ?_⟩)
                   (fail)
                   clear hK K))
            refine zH2 ?_;refine wq2_x _ rfl rfl ?_ ?_
            · intro W hW K hK
              go_simp
              (with_reducible refine(HF.out W (HC0.out W hW) (HTC.out _ _ hW)).mono ?_)
              rintro e w'' ⟨rfl,h1,h2⟩;go_simp;exact hK (.bool true) _ _ (HC1.out _ _ h1 ((HTC.out _ _ hW).trans h2)) rfl rfl
            intro v;refine zH9 ?_;intro wd hwd;have hd1:=HC2.out _ _ hwd;have hd2:=HTC.out _ _ hwd;clear c0 c1 c2 c3 c4 c5 hwd hC0 HC0 HC1 HC2 HTC hne;have HR:=hid (HREL.out _ hd1 hd2);clear hd1 hd2 HREL j0 j1 j2 b0 b1 b2 t0 lc0
            go_wp2_with fail
            go_roundw
            case rel=>refine⟨m+1,?_,by omega,HR.out.1,HR.out.2⟩;first|go_num|rfl
            case measure=>simp[intOf];omega
        · have hki : decide ((m : Int) < (pl : Int)) = false := by rw [decide_eq_false_iff_not]; omega
          go_wp2_with fail
          go_ret
          exact⟨rfl,HB5.out.trans (HBL.out.mono (by omega))⟩
end Go.Proofs.YthnlalffjepdaaaGreat
