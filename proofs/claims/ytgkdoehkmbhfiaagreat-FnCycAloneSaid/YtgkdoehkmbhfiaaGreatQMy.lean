/- portOk of one who asks that stands as it may (printed by wip/gen_pk.py). -/
import Derived.Test.YtgkdoehkmbhfiaaGreatQMt
import Derived.Test.YtgkdoehkmbhfiaaGreatQDl
import Derived.Test.YtgkdoehkmbhfiaaGreatQRp0
import Derived.Maps.OwnSet
set_option linter.unusedVariables false
set_option linter.unusedSimpArgs false
set_option maxHeartbeats 16000000
namespace Go.Proofs.YtgkdoehkmbhfiaaGreat
open Go.RowKit
theorem queue_head {w : World} {base : Nat} {qa : Option Addr} {m qc n : Nat} {rest : List Nat} (h : Owns w base 3 1 rowN (.slice qa m qc) (n :: rest)) (hn : (n :: rest).length ≤ 140737488351232) :
  ∃b off,qa=some ⟨b,off,none⟩∧b<w.heap.size∧w.cell? ⟨b,off,none⟩=some (.int .i64 (n:Nat)):=by
 obtain⟨ao,cap,hv,_,_,_,_,h3⟩:=h.arr (fun _=>rfl) hn;obtain⟨b,off,ha,hlt,hc⟩:=h3 (by simp);simp only[Value.slice.injEq]at hv;refine⟨b,off,hv.1.trans ha,hlt,?_⟩;have:=hc 0 (by simp) 0 (by omega);simpa[rowN]using this
theorem slv_nat {ms:List MR} {r:Rq} (hm:mapOk ms=true):zH7 ms r=((zH7 ms r).toNat:Nat):=by
 have h:0≤zH7 ms r:=by
  unfold zH7
  split
  ·omega
  ·rename_i h;have hlt:=zI5 ms (zA4 r);have hk:(zA5 ms (zA4 r)).toNat<ms.length:=by omega
   simp only[mapOk,Bool.and_eq_true,List.all_eq_true]at hm;have h2:=hm.2 _ (List.mem_range.2 hk);simp only[zL4,Bool.and_eq_true,inB,decide_eq_true_eq]at h2;omega
 omega
set_option maxRecDepth 4000 in
theorem may_any {c : Cfg} (hbus : Bus c) {w : World} {base S Hb : Nat} {L : Nat → Value} {st : Cy} {ev : List Ev} {V : Nat → Value} {N : Nat → Nat} {C : Nat → List Value} {D : Nat → List TJV} (hm : CyM w base S Hb L st ev V N C D) (hg : Good c st) {B : Nat} {ma : Option Addr} {mn mk lb lo lc pb po' pc' : Nat} {Q : Nat → Option Addr} {K : Nat → Nat} (hc : BusO w B c ma mn mk lb lo lc pb po' pc' Q K) (hB : B ≤ base) {who s : Nat} (hw : who < 3) (hs : s < 4) :
  Calls Tryz.prog 145 #[.pointer (some ⟨S,0,none⟩),.agg #[.slice ma mn mk,.slice (some ⟨lb,lo,none⟩) 4 lc,.slice (some ⟨pb,po', none⟩) 3 pc'],.int .i64 who,.int .i64 s] w fun e w' => e=.returned (.bool (may c st who s))∧Below w.heap.size w w':=by
 have hbw:base≤w.heap.size:=Nat.le_trans hm.s0 (Nat.le_of_lt (zA3 hm.bs));have hS:=zA3 hm.bs;obtain⟨w0,hw0⟩:∃W,W=((w.alloc (.cells #[.slice ma mn mk,.slice (some ⟨lb,lo,none⟩) 4 lc,.slice (some ⟨pb,po', none⟩) 3 pc'] 27)).alloc (.cells #[.int .i64 who] 3)).alloc (.cells #[.int .i64 s] 3):=⟨_,rfl⟩
 have hb0:Below w.heap.size w w0:=by rw[hw0];exact(((Below.refl _ _).alloc (Nat.le_refl _) _).alloc (by simp) _).alloc (by simp;omega) _
 have hz0:w0.heap.size=w.heap.size+3:=by rw[hw0];simp
 have B1 := hid (show BusB w0 w.heap.size ma mn mk lb lo lc pb po' pc' by
  unfold BusB;rw[hw0,((Below.refl _ _).alloc (Nat.le_refl _) _).block _ (by simp;omega),((Below.refl _ _).alloc (Nat.le_refl _) _).block _ (by simp)];exact zA8 _ _ rfl)
 have B2 := hid (show IntB w0 (w.heap.size + 1) who by
  unfold IntB;rw[hw0,((Below.refl _ _).alloc (Nat.le_refl _) _).block _ (by simp)];exact zA8 _ _ (by simp))
 have B4:=hid (show IntB w0 (w.heap.size+2) s by unfold IntB;rw[hw0];exact zA8 _ _ (by simp));have hm0:=hm.below hb0;have HM0:=hid hm0;have HO:=hid (hc.below (hb0.mono (Nat.le_trans hB hbw)));obtain⟨pg,po,pc,hV2,hpc,hpc2,hpb,hpz⟩:=hm0.ports;obtain⟨p0,p1,p2,p3,pf⟩:=hm0.port hV2 hw;obtain⟨q0,q1,q2,q3,q4,qf⟩:=hm0.box;rw[hV2]at q2;obtain⟨qa,qc,hqs,_,_⟩:=(hm0.oQueue hw).shape;obtain⟨oa,oc,hos,_,_⟩:=(hm0.oOut hw).shape;rw[hqs]at p1;rw[hos]at p2;obtain⟨ql,hql⟩:∃x,x=(st.ports who).queue.length:=⟨_,rfl⟩
 obtain⟨ol,hol⟩:∃x,x=(st.ports who).out.length:=⟨_,rfl⟩
 obtain⟨nx,hnx⟩:∃x,x=(st.ports who).next:=⟨_,rfl⟩
 obtain⟨ls,hls⟩:∃x,x=(st.ports who).last:=⟨_,rfl⟩
 rw[←hnx]at p0;rw[←hql]at p1;rw[←hol]at p2;rw[←hls]at p3;have hQo:=hm0.oQueue hw;rw[hqs]at hQo;have HQS:=hid hqs;have HOS:=hid hos;have HOO:=hid (hm0.oOut hw);rw[hos]at HOO;obtain⟨x0,x1,x2,x3⟩:=B1.out.cells;obtain⟨y0,y1⟩:=B2.out.cells;obtain⟨u0,u1⟩:=B4.out.cells;have hwi:(who:Int)<3:=by omega
 have HB0:=hid hb0;have HBW:=hid hbw;have HBB:=hid hB;have HG:=hid (hg.p who hw);have hS0:S<w0.heap.size:=by omega
 have HZ:=hid hz0;obtain⟨w1,hw1⟩:∃W,W=(w0.alloc (.cells #[.int .i64 nx,.slice qa ql qc,.slice oa ol oc,.int .i64 ls] 48)).drew:=⟨_,rfl⟩
 have hb1:Below w0.heap.size w0 w1:=by rw[hw1];exact((Below.refl _ _).alloc (Nat.le_refl _) _).drew
 have hpt:w1.heap[w0.heap.size]? = some (.cells #[.int .i64 nx,.slice qa ql qc,.slice oa ol oc,.int .i64 ls] 48 (0,0)):=by rw[hw1];exact zA8 _ _ rfl
 have hz1:=zA3 hpt;obtain⟨c1,c2⟩:w1.cell? ⟨w0.heap.size,1,none⟩=some (.slice qa ql qc)∧w1.cell? ⟨w0.heap.size,2,none⟩=some (.slice oa ol oc):=by refine⟨?_,?_⟩ <;> simp[World.cell?,hpt]
 have v0:=(hb1.cell (p:=⟨w.heap.size,0,none⟩) x3).trans x0;have v1:=(hb1.cell (p:=⟨w.heap.size,1,none⟩) x3).trans x1;have v2:=(hb1.cell (p:=⟨w.heap.size,2,none⟩) x3).trans x2;have v3:=(hb1.cell (p:=⟨w.heap.size+1,0,none⟩) y1).trans y0;have v4:=(hb1.cell (p:=⟨w.heap.size+2,0,none⟩) u1).trans u0;have hO4:=(hg.p who hw).o4;have hNX:=(hg.p who hw).nx;have hQQ:=(hg.p who hw).q;have HOUT:=hid (hg.p who hw).o;have HB1:=hid hb1;have HQO:=hid hQo;have HQL:=hid hql;have HOL:=hid hol;have HPT:=hid hpt;have HNX:=hid hnx;have HNXX:=hid hNX;have HQQ:=hid hQQ;have hwn:=hw;have HG:=hid (hg.p who hw);have hql2:ql≤2:=by rw[hql];exact(hg.p who hw).q2
 have hb1':=hb1;have hBz:B≤w0.heap.size:=Nat.le_trans hB (Nat.le_trans hbw hb0.size);clear hNX hQQ;clear hm0 hb0 hqs hos q0 q1 q3 q4 qf hz0 hpc hpc2 hpb hV2 hbw hpt hQo hnx hls hql hol hm hg hc;by_cases hq0:ql=0
 ·have e1:((ql:Int)==0)=true:=by simpa using hq0
  have HM:=hid (show may c st who s=false by unfold may;rw[show(st.ports who).queue=[] from List.eq_nil_of_length_eq_zero (by rw[←HQL.out];exact hq0)]);clear hq0
  go_enter Tryz.func145,Tryz.ntmps145
  go_upto_region 1 with fail
  rw[←hw0];clear hw0
  go_region
  rw[←hw1];clear hw1
  go_upto_region 2 with fail
  go_quiet (fail)
  go_wp2_with fail
  go_ret
  exact⟨by rw[HM.out];rfl,HB0.out.trans ((HB1.out.trans (Below.draws (Below.refl _ _) _)).mono HB0.out.size)⟩
 obtain⟨n,rest,hcons⟩:∃n rest,(st.ports who).queue=n::rest:=by
  rcases hqq:(st.ports who).queue with _|⟨n,rest⟩
  ·exfalso;apply hq0;rw[HQL.out,hqq];rfl
  ·exact⟨n,rest,rfl⟩
 have HCONS:=hid hcons;clear hcons;have e1:((ql:Int)==0)=false:=by simpa using hq0
 by_cases ho4:4≤ol
 ·have e2:(4:Int)≤(ol:Int):=by omega
  have HM := hid (show may c st who s = false by
   unfold may;rw[HCONS.out];have:decide ((st.ports who).out.length<4)=false:=by rw[←HOL.out];simpa using ho4
   simp only[this,Bool.false_and])
  clear hq0
  go_enter Tryz.func145,Tryz.ntmps145
  go_upto_region 1 with fail
  rw[←hw0];clear hw0
  go_region
  rw[←hw1];clear hw1
  go_upto_region 2 with fail
  go_quiet (fail)
  go_wp2_with fail
  go_ret
  exact⟨by rw[HM.out];rfl,HB0.out.trans ((HB1.out.trans (Below.draws (Below.refl _ _) _)).mono HB0.out.size)⟩
 have hnq:n<(c.prog who).length:=by
  have h1:=HQQ.out;rw[HCONS.out]at h1;obtain⟨h2,_,_⟩:=range'_cons h1;have h3:=HNXX.out;have h4:=(HG.out).qn;rw[HCONS.out]at h4;simp only[List.length_cons]at h2 h4;omega
 obtain⟨qb,qo,hqa,hqb,hqn⟩:=queue_head (n:=n) (rest:=rest) (by rw[←HCONS.out];exact HQO.out) (by rw[←HCONS.out,←HQL.out];have:=hql2;omega);obtain⟨rb,ro,da,dc,la,lc', hrq,hrb,hrv,r0,r1,r2,r3,r4,r5,r6⟩:=(HO.out.below (hb1'.mono hBz)).at hwn hnq;have hpq:=(HO.out.below (hb1'.mono hBz)).prog who hwn;rw[hrq]at hpq;obtain⟨iy,hiy⟩:∃y,y=(c.req who n).id:=⟨_,rfl⟩
 obtain⟨ik,hik⟩:∃y,y=(c.req who n).kind:=⟨_,rfl⟩
 obtain⟨ia,hia⟩:∃y,y=(c.req who n).addr:=⟨_,rfl⟩
 obtain⟨im,him⟩:∃y,y=(c.req who n).many:=⟨_,rfl⟩
 obtain⟨ip,hip⟩:∃y,y=(c.req who n).wrap:=⟨_,rfl⟩
 obtain⟨dn,hdn⟩:∃y,y=(c.req who n).data.length:=⟨_,rfl⟩
 obtain⟨ln,hln⟩:∃y,y=(c.req who n).lanes.length:=⟨_,rfl⟩
 obtain⟨pn,hpn⟩:∃y,y=(c.prog who).length:=⟨_,rfl⟩
 rw[←hiy]at r0;rw[←hik]at r1;rw[←hia]at r2;rw[←him]at r3;rw[←hip]at r4;rw[←hdn]at r5;rw[←hln]at r6;rw[←hpn]at hpq;obtain⟨sv,hsv⟩:∃y,y=c.slv who n:=⟨_,rfl⟩
 have HSV := hid (show slaveAt c.ms (zA5 c.ms (burst ia im ip)) = (sv : Int) by
  rw[hsv,hia,him,hip];exact slv_nat (r:=c.req who n) hbus.ms)
 have v5:=(hb1.cell (p:=⟨qb,qo,none⟩) (show qb<w0.heap.size from hqb)).trans hqn;subst hqa;have hni:(n:Int)<(pn:Int):=by rw[hpn];omega
 have hqi:(0:Int)<(ql:Int):=by omega
 have hqp:0<ql:=by omega
 have hqd:decide (0<ql)=true:=by simpa using hqp
 have ho4i:(ol:Int)<4:=by omega
 have e2:decide ((4:Int)≤(ol:Int))=false:=by simp;omega
 have e3:decide (4≤ol)=false:=by simpa using ho4
 have hrbz:rb<w1.heap.size:=Nat.lt_of_lt_of_le hrb (Nat.le_trans hBz hb1.size);have hpbz:pb<w1.heap.size:=Nat.lt_of_lt_of_le HO.out.hpb (Nat.le_trans hBz hb1.size);have hqbz:qb<w1.heap.size:=Nat.lt_of_lt_of_le hqb hb1.size;have hg1z:w.heap.size<w1.heap.size:=Nat.lt_of_lt_of_le x3 hb1.size;have hg2z:w.heap.size+1<w1.heap.size:=Nat.lt_of_lt_of_le y1 hb1.size;have hg4z:w.heap.size+2<w1.heap.size:=Nat.lt_of_lt_of_le u1 hb1.size;have HHI:=hid hiy;have HPN:=hid hpn;have HSVV:=hid hsv;have HBM:=hid ((HO.out.below (hb1'.mono hBz)).ms);have HBZ:=hid hBz;clear hiy hik hia him hip hdn hln hpn hsv hb1' hrv hrq;by_cases hys:sv=s
 ·have e5:((sv:Int) != (s:Int))=false:=by subst hys;simp
  obtain⟨iz,hiz⟩:∃y,y=c.id who n:=⟨_,rfl⟩
  have HIZ:=hid hiz;obtain⟨av,hav⟩:∃b,b=(st.ports who).out.any (mayB c who s iz):=⟨_,rfl⟩
  have HAV:=hid hav;clear hav
  have HM := hid (show may c st who s = !av by
   unfold may;rw[HCONS.out];have k1:decide ((st.ports who).out.length<4)=true:=by rw[←HOL.out];simp;omega
   have k2:(c.slv who n==s)=true:=by rw[←HSVV.out];simpa using hys
   simp only[k1,k2,Bool.true_and];rw[HAV.out,HIZ.out];rfl)
  clear hiz
  go_enter Tryz.func145,Tryz.ntmps145
  go_upto_region 1 with fail
  rw[←hw0];clear hw0
  go_region
  rw[←hw1];clear hw1
  go_upto_region 2 with fail
  go_region_held3 (fun w' => w'.cell? ⟨w.heap.size, 0, none⟩ = some (.slice ma mn mk) ∧ w'.cell? ⟨w.heap.size, 2, none⟩ = some ((.slice (some ⟨pb, po', none⟩) 3 pc')) ∧ w'.cell? ⟨w.heap.size + 1, 0, none⟩ = some ((.int .i64 who)) ∧ w'.cell? ⟨w.heap.size + 2, 0, none⟩ = some ((.int .i64 s)) ∧ w'.cell? ⟨w0.heap.size, 1, none⟩ = some ((.slice (some ⟨qb, qo, none⟩) ql qc)) ∧ w'.cell? ⟨w0.heap.size, 2, none⟩ = some ((.slice oa ol oc)) ∧ w'.cell? ⟨pb, po' + who, none⟩ = some ((.slice (some ⟨rb, ro, none⟩) pn (K who))) ∧ w'.cell? ⟨qb, qo, none⟩ = some ((.int .i64 n)) ∧ w'.cell? ⟨rb, ro + n * 7, none⟩ = some ((.int .i64 iy)) ∧ w'.cell? ⟨rb, ro + n * 7 + 1, none⟩ = some ((.int .i64 ik)) ∧ w'.cell? ⟨rb, ro + n * 7 + 2, none⟩ = some ((.int .i64 ia)) ∧ w'.cell? ⟨rb, ro + n * 7 + 3, none⟩ = some ((.int .i64 im)) ∧ w'.cell? ⟨rb, ro + n * 7 + 4, none⟩ = some ((.bool ip)) ∧ w'.cell? ⟨rb, ro + n * 7 + 5, none⟩ = some ((.slice da dn dc)) ∧ w'.cell? ⟨rb, ro + n * 7 + 6, none⟩ = some ((.slice la ln lc')) ∧ w'.cell? ⟨w.heap.size, 1, none⟩ = some (.slice (some ⟨lb, lo, none⟩) 4 lc))
   (first|exact s6|go_keep)
   (first
    |(go_at_call 49;(with_reducible refine(slave_val _ c.ms iy ik ia im ip (.slice da dn dc) (.slice la ln lc') ⟨_,_,_,rfl⟩ ⟨_,_,_,rfl⟩ B _ (HBM.out.below (Below.refl _ _).drew) (le_drew' (Nat.le_trans HBZ.out HB1.out.size))).mono ?_);rw[HSV.out];rintro e w5 ⟨rfl,hb5⟩;have hb5':=(show Below w1.heap.size w1 w1.drew from(Below.refl _ _).drew).trans hb5;have HB5:=hid hb5';have s6:w5.cell? ⟨w.heap.size,0,none⟩=some (.slice ma mn mk)∧w5.cell? ⟨w.heap.size,2,none⟩=some ((.slice (some ⟨pb,po', none⟩) 3 pc'))∧w5.cell? ⟨w.heap.size+1,0,none⟩=some ((.int .i64 who))∧w5.cell? ⟨w.heap.size+2,0,none⟩=some ((.int .i64 s))∧w5.cell? ⟨w0.heap.size,1,none⟩=some ((.slice (some ⟨qb,qo,none⟩) ql qc))∧w5.cell? ⟨w0.heap.size,2,none⟩=some ((.slice oa ol oc))∧w5.cell? ⟨pb,po' + who,none⟩=some ((.slice (some ⟨rb,ro,none⟩) pn (K who)))∧w5.cell? ⟨qb,qo,none⟩=some ((.int .i64 n))∧w5.cell? ⟨rb,ro+n * 7,none⟩=some ((.int .i64 iy))∧w5.cell? ⟨rb,ro+n * 7+1,none⟩=some ((.int .i64 ik))∧w5.cell? ⟨rb,ro+n * 7+2,none⟩=some ((.int .i64 ia))∧w5.cell? ⟨rb,ro+n * 7+3,none⟩=some ((.int .i64 im))∧w5.cell? ⟨rb,ro+n * 7+4,none⟩=some ((.bool ip))∧w5.cell? ⟨rb,ro+n * 7+5,none⟩=some ((.slice da dn dc))∧w5.cell? ⟨rb,ro+n * 7+6,none⟩=some ((.slice la ln lc'))∧w5.cell? ⟨w.heap.size,1,none⟩=some (.slice (some ⟨lb,lo,none⟩) 4 lc):=⟨(hb5'.cell (p:=⟨w.heap.size,0,none⟩) hg1z).trans v0,(hb5'.cell (p:=⟨w.heap.size,2,none⟩) hg1z).trans v2,(hb5'.cell (p:=⟨w.heap.size+1,0,none⟩) hg2z).trans v3,(hb5'.cell (p:=⟨w.heap.size+2,0,none⟩) hg4z).trans v4,(hb5'.cell (p:=⟨w0.heap.size,1,none⟩) hz1).trans c1,(hb5'.cell (p:=⟨w0.heap.size,2,none⟩) hz1).trans c2,(hb5'.cell (p:=⟨pb,po' + who,none⟩) hpbz).trans hpq,(hb5'.cell (p:=⟨qb,qo,none⟩) hqbz).trans v5,(hb5'.cell (p:=⟨rb,ro+n * 7,none⟩) hrbz).trans r0,(hb5'.cell (p:=⟨rb,ro+n * 7+1,none⟩) hrbz).trans r1,(hb5'.cell (p:=⟨rb,ro+n * 7+2,none⟩) hrbz).trans r2,(hb5'.cell (p:=⟨rb,ro+n * 7+3,none⟩) hrbz).trans r3,(hb5'.cell (p:=⟨rb,ro+n * 7+4,none⟩) hrbz).trans r4,(hb5'.cell (p:=⟨rb,ro+n * 7+5,none⟩) hrbz).trans r5,(hb5'.cell (p:=⟨rb,ro+n * 7+6,none⟩) hrbz).trans r6,(hb5'.cell (p:=⟨w.heap.size,1,none⟩) hg1z).trans v1⟩;clear hb5 hb5'))
  have t0:=(HB5.out.cell (p:=⟨w.heap.size,0,none⟩) hg1z).trans v0;have t1:=(HB5.out.cell (p:=⟨w.heap.size,1,none⟩) hg1z).trans v1;have t2:=(HB5.out.cell (p:=⟨w.heap.size,2,none⟩) hg1z).trans v2;have t3:=(HB5.out.cell (p:=⟨w.heap.size+1,0,none⟩) hg2z).trans v3;have t4:=(HB5.out.cell (p:=⟨w0.heap.size,1,none⟩) hz1).trans c1;have t5:=(HB5.out.cell (p:=⟨qb,qo,none⟩) hqbz).trans v5;have z1':=Nat.lt_of_lt_of_le hg1z HB5.out.size;have z2':=Nat.lt_of_lt_of_le hg2z HB5.out.size;have z3':=Nat.lt_of_lt_of_le hz1 HB5.out.size;have z4':=Nat.lt_of_lt_of_le hqbz HB5.out.size;have hBw5:B≤w5.heap.size:=Nat.le_trans HBZ.out (Nat.le_trans HB1.out.size HB5.out.size);have hnn:n<(c.prog who).length:=by rw[←HPN.out];omega
  have HBA:=hid (HB1.out.trans (HB5.out.mono HB1.out.size));clear s6
  go_upto_region 4 with fail
  go_cut [10] from 46 to 52 (fun p wd=>∃g,p=.pointer (some ⟨g,0,none⟩)∧w5.heap.size≤g∧IntB wd g iz∧Below w5.heap.size w5 wd)
  case first=>
   rename_i J K' hJ hK;exact mf_region _ _ _ _ _ _ _ _ _ _ _ _ _ _ _ _ _ _ _ _ _ _ _ _ _ _ _ _ _ _ _ _ _ _ _ _ _ _ _ _ _ _ _ _ _ _ _ _ _ _ _ _ _ _ _ _ _ _ _ _ _ _ _ _ _ _ _ _ _ _ _ _ _ _ _ hbus (HO.out.below (HBA.out.mono HBZ.out)) hBw5 hwn hnn HIZ t0 t1 t2 z1' t3 z2' t4 z3' t5 z4' hqi hqp (fun u10 u46 u47 u48 u49 u50 u51 u52 wd h=>hK _ _ (Met.intro (hJ _ _ ⟨u10,u46,u47,u48,u49,u50,u51,u52,h,rfl⟩)))
  case rest=>
   obtain⟨w6,hw6⟩:∃W,W=wc:=⟨_,rfl⟩
   subst hw6;obtain⟨gi,rfl,hgi,hI6,hb6⟩:=hcut;have HI6:=hid hI6;have HB6:=hid (HBA.out.trans (hb6.mono HBA.out.size));have t6:=(hb6.cell (p:=⟨w0.heap.size,2,none⟩) z3').trans ((HB5.out.cell (p:=⟨w0.heap.size,2,none⟩) hz1).trans c2);have HJB:=hid (show Jbs w0 w0.heap.size (.slice oa ol oc) (st.ports who).out by rw[HOL.out];exact jbs_of HOO.out (by omega));clear hI6 hb6
   go_wp2_with (first
    |(go_at_call 170;refine(hasJb_any 171 _ (zB3 Tryz.func171 (by kernel_rfl) (by kernel_rfl)) (mayB c who s iz) _ (st.ports who).out w0.heap.size _ (HJB.out.below HB6.out) HB6.out.size ?_).mono ?_;(· intro j w8 hj hb8;have hb08:=HB6.out.trans (hb8.mono HB6.out.size);exact mayTest_any hbus (HO.out.below (hb08.mono HBZ.out)) (Nat.le_trans HBZ.out hb08.size) hwn (by have h1:=(HOUT.out j hj).2.2;have h2:=HNXX.out;omega) (B1.out.below hb08 x3) (B2.out.below hb08 y1) (HI6.out.below hb8 (zA3 HI6.out)) (B4.out.below hb08 u1));unfold HasJP;rw[←HAV.out];rintro e w7 ⟨rfl,hb7⟩;have HB7:=hid hb7;clear hb7))
   go_ret
   exact⟨by rw[HM.out];rfl,HB0.out.trans ((HB6.out.trans (HB7.out.mono HB6.out.size)).mono HB0.out.size)⟩
 ·have e5:((sv:Int) != (s:Int))=true:=by simp only[bne_iff_ne];omega
  have HM := hid (show may c st who s = false by
   unfold may;rw[HCONS.out];have:(c.slv who n==s)=false:=by rw[←HSVV.out];simpa using hys
   simp only[this,Bool.and_false,Bool.false_and])
  clear hys
  go_enter Tryz.func145,Tryz.ntmps145
  go_upto_region 1 with fail
  rw[←hw0];clear hw0
  go_region
  rw[←hw1];clear hw1
  go_upto_region 2 with fail
  go_region_held3 (fun w' => w'.cell? ⟨w.heap.size, 0, none⟩ = some (.slice ma mn mk) ∧ w'.cell? ⟨w.heap.size, 2, none⟩ = some ((.slice (some ⟨pb, po', none⟩) 3 pc')) ∧ w'.cell? ⟨w.heap.size + 1, 0, none⟩ = some ((.int .i64 who)) ∧ w'.cell? ⟨w.heap.size + 2, 0, none⟩ = some ((.int .i64 s)) ∧ w'.cell? ⟨w0.heap.size, 1, none⟩ = some ((.slice (some ⟨qb, qo, none⟩) ql qc)) ∧ w'.cell? ⟨w0.heap.size, 2, none⟩ = some ((.slice oa ol oc)) ∧ w'.cell? ⟨pb, po' + who, none⟩ = some ((.slice (some ⟨rb, ro, none⟩) pn (K who))) ∧ w'.cell? ⟨qb, qo, none⟩ = some ((.int .i64 n)) ∧ w'.cell? ⟨rb, ro + n * 7, none⟩ = some ((.int .i64 iy)) ∧ w'.cell? ⟨rb, ro + n * 7 + 1, none⟩ = some ((.int .i64 ik)) ∧ w'.cell? ⟨rb, ro + n * 7 + 2, none⟩ = some ((.int .i64 ia)) ∧ w'.cell? ⟨rb, ro + n * 7 + 3, none⟩ = some ((.int .i64 im)) ∧ w'.cell? ⟨rb, ro + n * 7 + 4, none⟩ = some ((.bool ip)) ∧ w'.cell? ⟨rb, ro + n * 7 + 5, none⟩ = some ((.slice da dn dc)) ∧ w'.cell? ⟨rb, ro + n * 7 + 6, none⟩ = some ((.slice la ln lc')) ∧ w'.cell? ⟨w.heap.size, 1, none⟩ = some (.slice (some ⟨lb, lo, none⟩) 4 lc))
   (first|exact s6|go_keep)
   (first
    |(go_at_call 49;(with_reducible refine(slave_val _ c.ms iy ik ia im ip (.slice da dn dc) (.slice la ln lc') ⟨_,_,_,rfl⟩ ⟨_,_,_,rfl⟩ B _ (HBM.out.below (Below.refl _ _).drew) (le_drew' (Nat.le_trans HBZ.out HB1.out.size))).mono ?_);rw[HSV.out];rintro e w5 ⟨rfl,hb5⟩;have hb5':=(show Below w1.heap.size w1 w1.drew from(Below.refl _ _).drew).trans hb5;have HB5:=hid hb5';have s6:w5.cell? ⟨w.heap.size,0,none⟩=some (.slice ma mn mk)∧w5.cell? ⟨w.heap.size,2,none⟩=some ((.slice (some ⟨pb,po', none⟩) 3 pc'))∧w5.cell? ⟨w.heap.size+1,0,none⟩=some ((.int .i64 who))∧w5.cell? ⟨w.heap.size+2,0,none⟩=some ((.int .i64 s))∧w5.cell? ⟨w0.heap.size,1,none⟩=some ((.slice (some ⟨qb,qo,none⟩) ql qc))∧w5.cell? ⟨w0.heap.size,2,none⟩=some ((.slice oa ol oc))∧w5.cell? ⟨pb,po' + who,none⟩=some ((.slice (some ⟨rb,ro,none⟩) pn (K who)))∧w5.cell? ⟨qb,qo,none⟩=some ((.int .i64 n))∧w5.cell? ⟨rb,ro+n * 7,none⟩=some ((.int .i64 iy))∧w5.cell? ⟨rb,ro+n * 7+1,none⟩=some ((.int .i64 ik))∧w5.cell? ⟨rb,ro+n * 7+2,none⟩=some ((.int .i64 ia))∧w5.cell? ⟨rb,ro+n * 7+3,none⟩=some ((.int .i64 im))∧w5.cell? ⟨rb,ro+n * 7+4,none⟩=some ((.bool ip))∧w5.cell? ⟨rb,ro+n * 7+5,none⟩=some ((.slice da dn dc))∧w5.cell? ⟨rb,ro+n * 7+6,none⟩=some ((.slice la ln lc'))∧w5.cell? ⟨w.heap.size,1,none⟩=some (.slice (some ⟨lb,lo,none⟩) 4 lc):=⟨(hb5'.cell (p:=⟨w.heap.size,0,none⟩) hg1z).trans v0,(hb5'.cell (p:=⟨w.heap.size,2,none⟩) hg1z).trans v2,(hb5'.cell (p:=⟨w.heap.size+1,0,none⟩) hg2z).trans v3,(hb5'.cell (p:=⟨w.heap.size+2,0,none⟩) hg4z).trans v4,(hb5'.cell (p:=⟨w0.heap.size,1,none⟩) hz1).trans c1,(hb5'.cell (p:=⟨w0.heap.size,2,none⟩) hz1).trans c2,(hb5'.cell (p:=⟨pb,po' + who,none⟩) hpbz).trans hpq,(hb5'.cell (p:=⟨qb,qo,none⟩) hqbz).trans v5,(hb5'.cell (p:=⟨rb,ro+n * 7,none⟩) hrbz).trans r0,(hb5'.cell (p:=⟨rb,ro+n * 7+1,none⟩) hrbz).trans r1,(hb5'.cell (p:=⟨rb,ro+n * 7+2,none⟩) hrbz).trans r2,(hb5'.cell (p:=⟨rb,ro+n * 7+3,none⟩) hrbz).trans r3,(hb5'.cell (p:=⟨rb,ro+n * 7+4,none⟩) hrbz).trans r4,(hb5'.cell (p:=⟨rb,ro+n * 7+5,none⟩) hrbz).trans r5,(hb5'.cell (p:=⟨rb,ro+n * 7+6,none⟩) hrbz).trans r6,(hb5'.cell (p:=⟨w.heap.size,1,none⟩) hg1z).trans v1⟩;clear hb5 hb5'))
  go_wp2_with fail
  go_ret
  exact⟨by rw[HM.out];rfl,HB0.out.trans ((HB1.out.trans (HB5.out.mono HB1.out.size)).mono HB0.out.size)⟩
theorem zK4:Tryz.prog.underlying 151=some (.map 3 3):=by kernel_rfl
theorem law_int:Maps.Keyed Tryz.prog 3:=Maps.int_keyed Tryz.underlying3
theorem zero_int (w:World):(zeroValue 3).run Tryz.prog w=.ok (.int .i64 0) w:=by kernel_rfl
def MapAt (c : Cfg) (who : Nat) (out : List Jb) (w : World) (b k : Nat) : Prop := ∃ D : DataW Unit, w.ownsMap Tryz.prog 3 (plainElem Tryz.prog 3) b k D ∧
 ∀a v:Int,Maps.has D (.int .i64 a)=true→D.atKey (.int .i64 a) (.lit (.int .i64 0))=.lit (.int .i64 v)→∃j,j<k∧c.id who (out.getD j default).n=a∧(((out.getD j default).left:Nat):Int)=v
theorem MapAt.below {c:Cfg} {who:Nat} {out:List Jb} {w w':World} {b k:Nat} (h:MapAt c who out w b k) (hb:Below w.heap.size w w'):MapAt c who out w' b k:=by
 obtain⟨D,h1,h2⟩:=h;have hlt:=h1.lt;obtain⟨es,clock,e1,e2⟩:=h1;exact⟨D,⟨es,clock,(hb.block b hlt).trans e1,e2⟩,h2⟩
theorem wf64 {a:Int} (h:-9223372036854775808≤a∧a≤9223372036854775807):(Lit.int .i64 a).wf=true:=WalkArith.wf_i64 (by omega)
theorem MapAt.put {c : Cfg} {who : Nat} {out : List Jb} {w' : World} {b k : Nat} {D : DataW Unit} {y : Int} {l : Nat} (hold : ∀ a v : Int, Maps.has D (.int .i64 a) = true → D.atKey (.int .i64 a) (.lit (.int .i64 0)) = .lit (.int .i64 v) → ∃ j, j < k ∧ c.id who (out.getD j default).n = a ∧ (((out.getD j default).left : Nat) : Int) = v)
  (hm:Maps.IsMap D) (hk:WideAt.IsKeyLit (.int .i64 y)) (h:w'.ownsMap Tryz.prog 3 (plainElem Tryz.prog 3) b (k+1) (D.put (.int .i64 y) (.lit (.int .i64 (l:Nat))))) (hy:c.id who (out.getD k default).n=y) (hl:(out.getD k default).left=l):MapAt c who out w' b (k+1):=by
 refine⟨_,h,fun a v h1 h2=>?_⟩;by_cases e:a=y
 ·subst e;rw[Maps.atKey_put_same hm hk]at h2;simp only[DataW.lit.injEq,Lit.int.injEq,true_and]at h2;exact⟨k,by omega,hy,by rw[hl];exact h2⟩
 ·have hne:(Lit.int .i64 a)≠(.int .i64 y):=fun h=>e (by simpa using h)
  rw[Maps.has_put_other hne]at h1;rw[Maps.atKey_put_other hne]at h2;obtain⟨j,hj,h3⟩:=hold a v h1 h2;exact⟨j,by omega,h3⟩
theorem range'_getD {a n t:Nat} (h:t<n):(List.range' a n).getD t 0=a+t:=by simp[List.getD,h]
set_option maxRecDepth 4000 in
theorem portOk_any {c : Cfg} (hbus : Bus c) {w : World} {B : Nat} {u : Value} (hc : BusV w B u c) (hB : B ≤ w.heap.size) {who : Nat} (hw : who < 3) {p : Pt} (hp : PGood c who p) {qa oa : Option Addr} {qc oc : Nat} (hq : Nats w B (.slice qa p.queue.length qc) p.queue) (ho : Jbs w B (.slice oa p.out.length oc) p.out) :
  Calls Tryz.prog 52 #[u,.int .i64 who,.agg #[.int .i64 p.next,.slice qa p.queue.length qc,.slice oa p.out.length oc,.int .i64 p.last]] w fun e w' => e=.returned (.bool true)∧Below w.heap.size w w':=by
 obtain⟨mv,lb,lo,lc,pb,po,pc,Q,K,rfl,⟨ma,mn,mk,rfl⟩,hms,hlb,hpb,hlat,hprog,hreq⟩:=hc.opened hbus;have HO:=hid (show BusO w B c ma mn mk lb lo lc pb po pc Q K from⟨hms,hlb,hpb,hlat,hprog,hreq⟩);have HP:=hid hp;have HQ:=hid hq;have HJ:=hid ho;obtain⟨ql,hql⟩:∃x,x=p.queue.length:=⟨_,rfl⟩
 obtain⟨ol,hol⟩:∃x,x=p.out.length:=⟨_,rfl⟩
 obtain⟨nx,hnx⟩:∃x:Int,x=(p.next:Int):=⟨_,rfl⟩
 obtain⟨ls,hls⟩:∃x:Int,x=(p.last:Int):=⟨_,rfl⟩
 obtain⟨f,hf⟩:∃f,f=p.next - p.queue.length:=⟨_,rfl⟩
 obtain⟨pn,hpn⟩:∃x,x=(c.prog who).length:=⟨_,rfl⟩
 have pcell:=hprog who hw;rw[←hpn]at pcell;have q1:=hp.qn;have q2:=hp.q2;have q3:=hp.nx;have q4:=hp.o4;have q5:=hp.l;have q6:=hbus.twelve hw;rw[←hql,←hol,←hnx,←hls];rw[←hql]at q1 q2 HQ hf;rw[←hol]at q4 HJ;rw[←hpn]at q3 q6;have ew:IntKind.i64.wrap (nx - (ql:Int))=(f:Int):=by rw[IntKind.wrap_i64];omega
 have i1:=hid (zH2 nx 0 (pn:Int));rw[show inB nx 0 (pn:Int)=true by simp[inB];omega]at i1;have i2:=hid (zH2 ls 0 3);rw[show inB ls 0 3=true by simp[inB];omega]at i2;obtain⟨m2,hm2⟩:∃m2:Int,m2=if nx<2 then nx else 2:=⟨_,rfl⟩
 have hmin:∀ty W,(Builtin.min_ #[3,3] ty #[.int .i64 2,.int .i64 nx]).run Tryz.prog W=.ok (.int .i64 m2) W:=fun ty W=>by rw[hm2];simp[Builtin.min_,Builtin.min2]
 have g1:decide (m2<(ql:Int))=false:=by rw[decide_eq_false_iff_not,hm2];split <;> omega
 have g2:decide ((4:Int)<(ol:Int))=false:=by rw[decide_eq_false_iff_not];omega
 have g2':decide (4<ol)=false:=by rw[decide_eq_false_iff_not];omega
 have hwi:(who:Int)<3:=by omega
 obtain⟨w0,hw0⟩:∃W,W=(w.alloc (.cells #[.slice ma mn mk,.slice (some ⟨lb,lo,none⟩) 4 lc,.slice (some ⟨pb,po,none⟩) 3 pc] 27)).alloc (.cells #[.int .i64 nx,.slice qa ql qc,.slice oa ol oc,.int .i64 ls] 48):=⟨_,rfl⟩
 have hb0:Below w.heap.size w w0:=by rw[hw0];exact((Below.refl _ _).alloc (Nat.le_refl _) _).alloc (by simp) _
 have B1:=hid (show BusB w0 w.heap.size ma mn mk lb lo lc pb po pc by unfold BusB;rw[hw0,((Below.refl _ _).alloc (Nat.le_refl _) _).block _ (by simp)];exact zA8 _ _ rfl);have hpt:w0.heap[w.heap.size+1]? = some (.cells #[.int .i64 nx,.slice qa ql qc,.slice oa ol oc,.int .i64 ls] 48 (0,0)):=by rw[hw0];exact zA8 _ _ (by simp)
 obtain⟨c0,c1,c2,c3⟩:w0.cell? ⟨w.heap.size+1,0,none⟩=some (.int .i64 nx)∧w0.cell? ⟨w.heap.size+1,1,none⟩=some (.slice qa ql qc)∧w0.cell? ⟨w.heap.size+1,2,none⟩=some (.slice oa ol oc)∧w0.cell? ⟨w.heap.size+1,3,none⟩=some (.int .i64 ls):=by refine⟨?_,?_,?_,?_⟩ <;> simp[World.cell?,hpt]
 have hz0:=zA3 hpt;obtain⟨b0,b1,b2,zb⟩:=B1.out.cells;have HB0:=hid hb0;have pc0:=(hb0.cell (p:=⟨pb,po+who,none⟩) (Nat.lt_of_lt_of_le hpb hB)).trans pcell;have HF:=hid hf;have HQL:=hid hql;have HOL:=hid hol;have HPN:=hid hpn;have HNX:=hid hnx;have hmm:=@run_makeMap Tryz.prog;have HPT:=hid hpt;have hpbz:pb<w.heap.size:=Nat.lt_of_lt_of_le hpb hB;clear hc hms hlb hlat hprog hreq hp hq ho hql hol hnx hls hf hpn pcell q1 q5 hm2 hpt hb0
 go_enter Tryz.func52,Tryz.ntmps52
 go_upto_region 1 with fail
 rw[←hw0];clear hw0
 go_quiet ((go_at_call 63;with_reducible (first|exact Same.quiet (i1.out _)|exact Same.quiet (i2.out _)|exact Same.quiet2 (i1.out _)|exact Same.quiet2 (i2.out _))))
 obtain⟨w1,hw1⟩:∃W,W=w0.drewN nq:=⟨_,rfl⟩
 rw[←hw1];have hb1:Below w0.heap.size w0 w1:=by rw[hw1];exact Below.draws (Below.refl _ _) _
 have HB1:=hid (HB0.out.trans (hb1.mono HB0.out.size));have d0:=(hb1.cell (p:=⟨w.heap.size+1,0,none⟩) hz0).trans c0;have d1:=(hb1.cell (p:=⟨w.heap.size+1,1,none⟩) hz0).trans c1;have d2:=(hb1.cell (p:=⟨w.heap.size+1,2,none⟩) hz0).trans c2;have B2:=hid (B1.out.below hb1 zb);clear hw1 hb1 c0 c1 c2 c3 b0 b1 b2 pc0
 go_wp2_with fail
 go_loop [57] (fun i=>∃k:Nat,i=.int .i64 k∧k≤ql) (fun i=>ql - (intOf i).toNat)
 case atStart=>exact⟨0,by go_num,Nat.zero_le _⟩
 case round=>
  obtain⟨k,rfl,hk⟩:=hrel;by_cases hlt:k<ql
  ·have hki:(k:Int)<(ql:Int):=by omega
   obtain⟨b,off,rfl,hbB,hcell⟩:∃b off,qa=some ⟨b,off,none⟩∧b<B∧∀t,t<ql→w1.cell? ⟨b,off+t,none⟩=some (.int .i64 ((f:Int)+(t:Int))):=by
    obtain⟨ao,cp,e,_,_,_,_,h3⟩:=HQ.out;simp only[Value.slice.injEq,List.length_map]at e h3;obtain⟨b,off,ha,hb,hcc⟩:=h3 (by rw[←HQL.out];omega);refine⟨b,off,e.1.trans ha,hb,fun t ht=>?_⟩;have:=hcc t (by rw[←HQL.out];exact ht) 0 (by omega);rw[HB1.out.cell (p:=⟨b,_,none⟩) (Nat.lt_of_lt_of_le hb hB)];simp only[Nat.mul_one,Nat.add_zero]at this;rw[this];have hqq:=HP.out.q;rw[←HQL.out,←HF.out]at hqq;have hg:p.queue.getD t 0=f+t:=by rw[hqq];exact range'_getD ht
    have ht2:t<p.queue.length:=by rw[←HQL.out];exact ht
    simp only[List.getD,List.getElem?_map,List.getElem?_eq_getElem ht2,Option.map_some,Option.getD_some,rowN,List.getElem?_cons_zero];simp only[List.getD,List.getElem?_eq_getElem ht2,Option.getD_some]at hg;rw[hg];simp
   have qk:=hcell k hlt;have ewk:IntKind.i64.wrap ((f:Int)+(k:Int))=(f:Int)+(k:Int):=by rw[IntKind.wrap_i64];have:=HF.out;have:=HNX.out;omega
   clear hcell
   go_wp2_with fail
   go_round
   case rel=>exact⟨k+1,by go_num,by omega⟩
   case measure=>simp[intOf];omega
  ·have hki:decide ((k:Int)<(ql:Int))=false:=by rw[decide_eq_false_iff_not];omega
   go_upto_region 12 with fail
   obtain⟨w2,hw2⟩:∃W,W=w1.alloc (.map #[] 0):=⟨_,rfl⟩
   have hb2:Below w1.heap.size w1 w2:=by rw[hw2];exact(Below.refl _ _).alloc (Nat.le_refl _) _
   have HM0:=hid (show MapAt c who p.out w2 w1.heap.size 0 from⟨.map [],by rw[hw2];exact World.ownsMap_made _ _ _ _,fun a v h=>by simp[Maps.has]at h⟩);rw[←hw2];have hz1:w.heap.size+1<w1.heap.size:=World.block_lt_of_cell? w1 _ d0;have e2:=(hb2.cell (p:=⟨w.heap.size+1,2,none⟩) hz1).trans d2;have HB2:=hid (HB1.out.trans (hb2.mono HB1.out.size));have zb1:w.heap.size<w1.heap.size:=by omega
   have B3:=hid (B2.out.below hb2 zb1);clear hw2 hb2 d0 d1 d2
   go_wp2_with fail
   go_loopw [10,72] (fun l i wr=>∃(k:Nat) (m:Int),i=.int .i64 k∧k≤ol∧l=.int .i64 m ∧ -1≤m∧m≤100∧(∀j,k≤j→j<p.out.length→m<((p.out.getD j default).n:Int))∧MapAt c who p.out wr w1.heap.size k∧Below w.heap.size w wr∧BusB wr w.heap.size ma mn mk lb lo lc pb po pc∧w1.heap.size≤wr.heap.size) (fun _ i _=>ol - (intOf i).toNat)
   case atStart=>exact⟨0,-1,by go_num,Nat.zero_le _,rfl,by omega,by omega,fun j _ _=>by omega,HM0.out,HB2.out,B3.out,by have:=(HM0.out).choose_spec.1.lt;omega⟩
   case round=>
    clear HM0 HB2 B3 e2;obtain⟨k,m,rfl,hk,rfl,hm1,hm2,hmj,hmap,hbl,hbus2,hsz⟩:=hrel;have HMJ:=hid hmj;have HMAP:=hid hmap;have HBL:=hid hbl;have HBUS:=hid hbus2;clear hmj hmap hbl hbus2;by_cases hlo:k<ol
    ·have hki:(k:Int)<(ol:Int):=by omega
     have hko:k<p.out.length:=by rw[←HOL.out];exact hlo
     obtain⟨x,hx⟩:∃x,x=p.out.getD k default:=⟨_,rfl⟩
     have hxm:x∈p.out:=by rw[hx];exact zB5 hko
     obtain⟨jb,jo,rfl,hjB,hjc⟩:∃b off,oa=some ⟨b,off,none⟩∧b<B∧∀t,t<ol→w.cell? ⟨b,off+t * 3,none⟩=some (.int .i64 ((p.out.getD t default).who:Nat))∧w.cell? ⟨b,off+t * 3+1,none⟩=some (.int .i64 ((p.out.getD t default).n:Nat))∧w.cell? ⟨b,off+t * 3+2,none⟩=some (.int .i64 ((p.out.getD t default).left:Nat)):=by
      obtain⟨ao,cp,e,_,_,_,_,h3⟩:=HJ.out.opened;simp only[Value.slice.injEq]at e;obtain⟨b,off,ha,hb,hcc⟩:=h3 (by rw[←HOL.out];omega);exact⟨b,off,e.1.trans ha,hb,fun t ht=>hcc t (by rw[←HOL.out];exact ht)⟩
     obtain⟨k0,k1,k2⟩:=hjc k hlo;rw[←HBL.out.cell (p:=⟨jb,_,none⟩) (Nat.lt_of_lt_of_le hjB hB),←hx]at k0 k1 k2;have hxo:=HP.out.o x hxm;obtain⟨xn,hxn⟩:∃y,y=x.n:=⟨_,rfl⟩
     obtain⟨sv,hsv⟩:∃y,y=x.left:=⟨_,rfl⟩
     have hxw:x.who=who:=hxo.1;have hxl:sv=c.slv who xn:=by rw[hsv,hxn];exact hxo.2.1
     have hxf:xn<f:=by rw[hxn,HF.out,HQL.out];exact hxo.2.2
     have hxm2:m<(xn:Int):=by rw[hxn,hx];exact HMJ.out k (Nat.le_refl _) hko
     rw[hxw]at k0;rw[←hxn]at k1;rw[←hsv]at k2;have hfn:f≤p.next:=by have:=HF.out;omega
     have hxp:xn<(c.prog who).length:=by have:=HP.out.nx;omega
     have hxp2:(xn:Int)<(pn:Int):=by have:=HPN.out;omega
     have hf12:f≤12:=by have:=HP.out.nx;have:=HPN.out;omega
     obtain⟨rb,ro,da,dc,la,lc', hrq,hrb,hrv,r0,r1,r2,r3,r4,r5,r6⟩:=(HO.out.below (HBL.out.mono hB)).at hw hxp;have pq:=(HO.out.below (HBL.out.mono hB)).prog who hw;rw[hrq]at pq;obtain⟨iy,hiy⟩:∃y,y=(c.req who xn).id:=⟨_,rfl⟩
     obtain⟨ik,hik⟩:∃y,y=(c.req who xn).kind:=⟨_,rfl⟩
     obtain⟨ia,hia⟩:∃y,y=(c.req who xn).addr:=⟨_,rfl⟩
     obtain⟨im,him⟩:∃y,y=(c.req who xn).many:=⟨_,rfl⟩
     obtain⟨ip,hip⟩:∃y,y=(c.req who xn).wrap:=⟨_,rfl⟩
     obtain⟨dn,hdn⟩:∃y,y=(c.req who xn).data.length:=⟨_,rfl⟩
     obtain⟨ln,hln⟩:∃y,y=(c.req who xn).lanes.length:=⟨_,rfl⟩
     rw[←hiy]at r0;rw[←hik]at r1;rw[←hia]at r2;rw[←him]at r3;rw[←hip]at r4;rw[←hdn]at r5;rw[←hln]at r6;rw[←HPN.out]at pq;have HSV:=hid (show slaveAt c.ms (zA5 c.ms (burst ia im ip))=(sv:Int) by rw[hxl,hia,him,hip];exact slv_nat (r:=c.req who xn) hbus.ms);have HID:=hid (show c.id who xn=iy by rw[hiy];rfl);have hwf:-9223372036854775808≤iy∧iy≤9223372036854775807:=by
      have:=hbus.req hw hxp;simp only[reqOk,Bool.and_eq_true]at this;have h1:inB (c.req who xn).id 0 1=true:=by simp_all
      rw[hiy];simp only[inB,Bool.and_eq_true,decide_eq_true_eq]at h1;omega
     have HWF:=hid hwf;obtain⟨l1,hl1⟩:∃y:Int,y=m+1:=⟨_,rfl⟩
     obtain⟨f1,hf1⟩:∃y:Int,y=(f:Int) - 1:=⟨_,rfl⟩
     have ew1:IntKind.i64.wrap (m+1)=l1:=by rw[IntKind.wrap_i64];omega
     have ew2:IntKind.i64.wrap ((f:Int) - 1)=f1:=by rw[IntKind.wrap_i64];omega
     have i3:=hid (zH2 (xn:Int) l1 f1);rw[show inB (xn:Int) l1 f1=true by simp[inB];omega]at i3;have hjz:jb<wr.heap.size:=Nat.lt_of_lt_of_le hjB (Nat.le_trans hB HBL.out.size);obtain⟨b0,b1,b2,zbw⟩:=HBUS.out.cells;have hrz:rb<wr.heap.size:=Nat.lt_of_lt_of_le hrb (Nat.le_trans hB HBL.out.size);have hpz:pb<wr.heap.size:=Nat.lt_of_lt_of_le hpbz HBL.out.size;have HX:=hid hx;have HXN:=hid hxn;have HSX:=hid hsv;have HXL:=hid hxl;have HXP:=hid hxp;have HXF:=hid hxf;have HXM:=hid hxm;have HXM2:=hid hxm2;have HBM:=hid ((HO.out.below (HBL.out.mono hB)).ms);have HOB:=hid (HO.out.below (HBL.out.mono hB));clear hx hxm hjc hxo hxn hsv hxw hxl hxf hxm2 hxp hrv hrq hiy hik hia him hip hdn hln hwf hl1 hf1 hfn hf12
     go_upto_region 15 with fail
     clear k0 k1 k2;obtain⟨wj,hwj⟩:∃W,W=wr.alloc (.cells #[.int .i64 (who:Nat),.int .i64 (xn:Nat),.int .i64 (sv:Nat)] 101):=⟨_,rfl⟩
     rw[←hwj];obtain⟨gj,hgj⟩:∃g,g=wr.heap.size:=⟨_,rfl⟩
     have hbj:Below wr.heap.size wr wj:=by rw[hwj];exact(Below.refl _ _).alloc (Nat.le_refl _) _
     have hjt:wj.heap[gj]? = some (.cells #[.int .i64 (who:Nat),.int .i64 (xn:Nat),.int .i64 (sv:Nat)] 101 (0,0)):=by rw[hwj];exact zA8 _ _ hgj
     rw[←hgj];have zj:=zA3 hjt;obtain⟨j0,j1,j2⟩:wj.cell? ⟨gj,0,none⟩=some (.int .i64 (who:Nat))∧wj.cell? ⟨gj,1,none⟩=some (.int .i64 (xn:Nat))∧wj.cell? ⟨gj,2,none⟩=some (.int .i64 (sv:Nat)):=by refine⟨?_,?_,?_⟩ <;> simp[World.cell?,hjt]
     rw[←hbj.cell (p:=⟨w.heap.size,_,none⟩) zbw]at b0 b1 b2;rw[←hbj.cell (p:=⟨pb,_,none⟩) hpz]at pq;rw[←hbj.cell (p:=⟨rb,_,none⟩) hrz]at r0 r1 r2 r3 r4 r5 r6;have zb:=Nat.lt_of_lt_of_le zbw hbj.size;have zp:=Nat.lt_of_lt_of_le hpz hbj.size;have zr:=Nat.lt_of_lt_of_le hrz hbj.size;have HBJ:=hid hbj;have HGJ:=hid hgj;have HJT:=hid hjt;have hBj:B≤wj.heap.size:=Nat.le_trans hB (Nat.le_trans HBL.out.size hbj.size);have HBJB:=hid (hbj.mono (Nat.le_trans hB HBL.out.size));clear hwj hbj hgj hjt zbw hpz hrz
     go_region_held3 (fun w' => w'.cell? ⟨gj, 0, none⟩ = some (.int .i64 (who : Nat)) ∧ w'.cell? ⟨gj, 1, none⟩ = some (.int .i64 (xn : Nat)) ∧ w'.cell? ⟨gj, 2, none⟩ = some (.int .i64 (sv : Nat)) ∧ w'.cell? ⟨w.heap.size, 0, none⟩ = some (.slice ma mn mk) ∧ w'.cell? ⟨w.heap.size, 1, none⟩ = some (.slice (some ⟨lb, lo, none⟩) 4 lc) ∧ w'.cell? ⟨w.heap.size, 2, none⟩ = some (.slice (some ⟨pb, po, none⟩) 3 pc) ∧ w'.cell? ⟨pb, po + who, none⟩ = some (.slice (some ⟨rb, ro, none⟩) pn (K who)) ∧ w'.cell? ⟨rb, ro + xn * 7, none⟩ = some (.int .i64 iy) ∧ w'.cell? ⟨rb, ro + xn * 7 + 1, none⟩ = some (.int .i64 ik) ∧ w'.cell? ⟨rb, ro + xn * 7 + 2, none⟩ = some (.int .i64 ia) ∧ w'.cell? ⟨rb, ro + xn * 7 + 3, none⟩ = some (.int .i64 im) ∧ w'.cell? ⟨rb, ro + xn * 7 + 4, none⟩ = some (.bool ip) ∧ w'.cell? ⟨rb, ro + xn * 7 + 5, none⟩ = some (.slice da dn dc) ∧ w'.cell? ⟨rb, ro + xn * 7 + 6, none⟩ = some (.slice la ln lc'))
      (first|exact s6|go_keep)
      (first
       |(go_at_call 63;(with_reducible refine(i3.out _).mono ?_);rintro e w9 ⟨rfl,rfl⟩)
       |(go_at_call 49;(with_reducible refine(slave_val _ c.ms iy ik ia im ip (.slice da dn dc) (.slice la ln lc') ⟨_,_,_,rfl⟩ ⟨_,_,_,rfl⟩ B _ ((HBM.out.below HBJB.out).below (Below.refl _ _).drew) (le_drew' hBj)).mono ?_);rw[HSV.out];rintro e w5 ⟨rfl,hb5⟩;have hb5':=(show Below wj.heap.size wj wj.drew from(Below.refl _ _).drew).trans hb5;have HB5:=hid hb5';have s6:w5.cell? ⟨gj,0,none⟩=some (.int .i64 (who:Nat))∧w5.cell? ⟨gj,1,none⟩=some (.int .i64 (xn:Nat))∧w5.cell? ⟨gj,2,none⟩=some (.int .i64 (sv:Nat))∧w5.cell? ⟨w.heap.size,0,none⟩=some (.slice ma mn mk)∧w5.cell? ⟨w.heap.size,1,none⟩=some (.slice (some ⟨lb,lo,none⟩) 4 lc)∧w5.cell? ⟨w.heap.size,2,none⟩=some (.slice (some ⟨pb,po,none⟩) 3 pc)∧w5.cell? ⟨pb,po+who,none⟩=some (.slice (some ⟨rb,ro,none⟩) pn (K who))∧w5.cell? ⟨rb,ro+xn * 7,none⟩=some (.int .i64 iy)∧w5.cell? ⟨rb,ro+xn * 7+1,none⟩=some (.int .i64 ik)∧w5.cell? ⟨rb,ro+xn * 7+2,none⟩=some (.int .i64 ia)∧w5.cell? ⟨rb,ro+xn * 7+3,none⟩=some (.int .i64 im)∧w5.cell? ⟨rb,ro+xn * 7+4,none⟩=some (.bool ip)∧w5.cell? ⟨rb,ro+xn * 7+5,none⟩=some (.slice da dn dc)∧w5.cell? ⟨rb,ro+xn * 7+6,none⟩=some (.slice la ln lc'):=⟨(hb5'.cell (p:=⟨gj,0,none⟩) zj).trans j0,(hb5'.cell (p:=⟨gj,1,none⟩) zj).trans j1,(hb5'.cell (p:=⟨gj,2,none⟩) zj).trans j2,(hb5'.cell (p:=⟨w.heap.size,0,none⟩) zb).trans b0,(hb5'.cell (p:=⟨w.heap.size,1,none⟩) zb).trans b1,(hb5'.cell (p:=⟨w.heap.size,2,none⟩) zb).trans b2,(hb5'.cell (p:=⟨pb,po+who,none⟩) zp).trans pq,(hb5'.cell (p:=⟨rb,ro+xn * 7,none⟩) zr).trans r0,(hb5'.cell (p:=⟨rb,ro+xn * 7+1,none⟩) zr).trans r1,(hb5'.cell (p:=⟨rb,ro+xn * 7+2,none⟩) zr).trans r2,(hb5'.cell (p:=⟨rb,ro+xn * 7+3,none⟩) zr).trans r3,(hb5'.cell (p:=⟨rb,ro+xn * 7+4,none⟩) zr).trans r4,(hb5'.cell (p:=⟨rb,ro+xn * 7+5,none⟩) zr).trans r5,(hb5'.cell (p:=⟨rb,ro+xn * 7+6,none⟩) zr).trans r6⟩;clear hb5 hb5'))
     have k1:=(HB5.out.cell (p:=⟨gj,1,none⟩) zj).trans j1;have k2:=(HB5.out.cell (p:=⟨gj,2,none⟩) zj).trans j2;have a0:=(HB5.out.cell (p:=⟨w.heap.size,0,none⟩) zb).trans b0;have a1:=(HB5.out.cell (p:=⟨w.heap.size,1,none⟩) zb).trans b1;have a2:=(HB5.out.cell (p:=⟨w.heap.size,2,none⟩) zb).trans b2;have HB6:=hid (HBJ.out.trans (HB5.out.mono HBJ.out.size));have hz5:=HB5.out.size;have zj5:gj<w5.heap.size:=Nat.lt_of_lt_of_le zj hz5;clear s6 j0 j1 j2 b0 b1 b2 pq r0 r1 r2 r3 r4 r5 r6
     go_upto_region 19 with (first
      |(go_at_call 107;(with_reducible refine(id_any hbus (B:=B) (HOB.out.below (HB6.out.mono (Nat.le_trans hB HBL.out.size))) (Nat.le_trans hBj hz5) hw HXP.out).mono ?_);rw[HID.out];rintro e w7 ⟨rfl,hb7⟩;have m2:=(hb7.cell (p:=⟨gj,2,none⟩) zj5).trans k2;have HB7:=hid (HB6.out.trans (hb7.mono HB6.out.size));clear hb7 k1 k2 a0 a1 a2))
     obtain⟨w8,hw8⟩:∃W,W=w7:=⟨_,rfl⟩
     subst hw8;obtain⟨D,hown,hold⟩:=HMAP.out.below HB7.out;have HOLD:=hid hold;have HIM:=hid (hown.isMap);have hkey:keyOf Tryz.prog 3 (.int .i64 iy)=some (.int .i64 iy):=Maps.keyOf_int_mk Tryz.underlying3 (wf64 HWF.out);have HKL:=hid (show WideAt.IsKeyLit (.int .i64 iy) from law_int.key hkey);have hsame:∀j,j<k→c.id who (p.out.getD j default).n=iy→((p.out.getD j default).left:Int)=sv:=fun j hj he=>by
      have hjm:p.out.getD j default∈p.out:=zB5 (by have:=HOL.out;omega);have:=HP.out.oi _ hjm x HXM.out (by rw[he,←HXN.out,HID.out]);rw[this,←HSX.out]
     have HSAME:=hid hsame;have HLT:=hid (hown.lt);have hkm:k<maxLen:=by unfold maxLen;omega
     have hsvf:=wf64 (a:=(sv:Int)) (by have:=HXL.out;have:c.slv who xn<4:=slv_lt4 hbus.ms (c.req who xn);omega);clear hold hsame;rcases hh:Maps.has D (.int .i64 iy)with _|_
     ·go_wp2_with (first
       |(at_lookup;refine wpList_lookup_own_ok_int _ rfl _ _ 151 rfl 3 3 .i64 law_int zK4 Tryz.underlying3 (zero_int _) w1.heap.size k D rfl hown _ _ rfl hkey ?_;intro c0 hat hwc;rw[hh])
       |(at_mapUpdate;refine wpList_mapUpdate_in _ rfl _ _ _ 151 rfl 3 3 law_int zK4 _ w1.heap.size k D rfl hown hkm _ _ (.int .i64 iy) rfl rfl hkey (.lit (.int .i64 sv)) [] (plainElem_int Tryz.underlying3 hsvf) ?_;intro w9 hown9 hturn9))
      have hg9:=hturn9.grown;have hz9:=hg9.size;have HBA:=hid (HBL.out.trans (HB7.out.mono HBL.out.size))
      go_roundw
      case rel=>
       refine⟨k+1,xn,by go_num,by omega,rfl,by omega,by have:=HXF.out;have:=HF.out;have:=HP.out.nx;have:=HPN.out;omega,fun j hj1 hj2=>?_,MapAt.put HOLD.out HIM.out HKL.out hown9 (by rw[←HX.out,←HXN.out];exact HID.out) (by rw[←HX.out];exact HSX.out.symm),HBA.out.grown hg9 HBA.out.size (fun j hj=>by cases hj;omega),?_,by have:=HB7.out.size;omega⟩
       ·have hos:=HP.out.os;rw[List.pairwise_iff_getElem]at hos;have hk2:k<p.out.length:=by rw[←HOL.out];exact hlo
        have:=hos k j hk2 hj2 (by omega);have e1:x=p.out[k]:=by rw[HX.out];simp[List.getD,hk2]
        rw[HXN.out,e1];simp only[List.getD,List.getElem?_eq_getElem hj2,Option.getD_some];omega
       ·unfold BusB;have h1:w.heap.size<wr.heap.size:=zA3 HBUS.out;rw[hg9.block w.heap.size (by have:=HB7.out.size;omega) (by simp;omega),HB7.out.block w.heap.size h1];exact HBUS.out
      case measure=>simp[intOf];omega
     ·go_wp2_with (first
       |(at_lookup;refine wpList_lookup_own_ok_int _ rfl _ _ 151 rfl 3 3 .i64 law_int zK4 Tryz.underlying3 (zero_int _) w1.heap.size k D rfl hown _ _ rfl hkey ?_;intro c0 hat hwc;rw[hh];obtain⟨jj,hjj,hj1,hj2⟩:=HOLD.out iy c0 hh hat;have e3:c0=(sv:Int):=hj2.symm.trans (HSAME.out jj hjj hj1);subst e3)
       |(at_mapUpdate;refine wpList_mapUpdate_in _ rfl _ _ _ 151 rfl 3 3 law_int zK4 _ w1.heap.size k D rfl hown hkm _ _ (.int .i64 iy) rfl rfl hkey (.lit (.int .i64 sv)) [] (plainElem_int Tryz.underlying3 hsvf) ?_;intro w9 hown9 hturn9))
      have hg9:=hturn9.grown;have hz9:=hg9.size;have HBA:=hid (HBL.out.trans (HB7.out.mono HBL.out.size))
      go_roundw
      case rel=>
       refine⟨k+1,xn,by go_num,by omega,rfl,by omega,by have:=HXF.out;have:=HF.out;have:=HP.out.nx;have:=HPN.out;omega,fun j hj1 hj2=>?_,MapAt.put HOLD.out HIM.out HKL.out hown9 (by rw[←HX.out,←HXN.out];exact HID.out) (by rw[←HX.out];exact HSX.out.symm),HBA.out.grown hg9 HBA.out.size (fun j hj=>by cases hj;omega),?_,by have:=HB7.out.size;omega⟩
       ·have hos:=HP.out.os;rw[List.pairwise_iff_getElem]at hos;have hk2:k<p.out.length:=by rw[←HOL.out];exact hlo
        have:=hos k j hk2 hj2 (by omega);have e1:x=p.out[k]:=by rw[HX.out];simp[List.getD,hk2]
        rw[HXN.out,e1];simp only[List.getD,List.getElem?_eq_getElem hj2,Option.getD_some];omega
       ·unfold BusB;have h1:w.heap.size<wr.heap.size:=zA3 HBUS.out;rw[hg9.block w.heap.size (by have:=HB7.out.size;omega) (by simp;omega),HB7.out.block w.heap.size h1];exact HBUS.out
      case measure=>simp[intOf];omega
    ·have hki:decide ((k:Int)<(ol:Int))=false:=by rw[decide_eq_false_iff_not];omega
     go_wp2_with fail
     go_ret
     exact⟨rfl,HBL.out⟩
end Go.Proofs.YtgkdoehkmbhfiaaGreat
