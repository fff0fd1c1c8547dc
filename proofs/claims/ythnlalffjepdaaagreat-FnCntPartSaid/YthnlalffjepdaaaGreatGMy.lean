/- A cycle: what the stores do: facts on memory. -/
import Derived.Test.YthnlalffjepdaaaGreatGDq0
import Derived.Test.YthnlalffjepdaaaGreatGMs
import Derived.Test.YthnlalffjepdaaaGreatGTl
import Derived.Test.YthnlalffjepdaaaGreatGDo4
set_option linter.unusedVariables false
set_option linter.unusedSimpArgs false
set_option maxHeartbeats 16000000
namespace Go.Proofs.YthnlalffjepdaaaGreat
open Go.RowKit
theorem queue_head {w : World} {base : Nat} {qa : Option Addr} {m qc n : Nat} {rest : List Nat} (h : Owns w base 3 1 rowN (.slice qa m qc) (n :: rest)) (hn : (n :: rest).length ≤ 140737488351232) :
  ∃b off,qa=some ⟨b,off,none⟩∧b<w.heap.size∧w.cell? ⟨b,off,none⟩=some (.int .i64 (n:Nat)):=by
 obtain⟨ao,cap,hv,_,_,_,_,h3⟩:=h.arr (fun _=>rfl) hn;obtain⟨b,off,ha,hlt,hc⟩:=h3 (by simp);simp only[Value.slice.injEq]at hv;refine⟨b,off,hv.1.trans ha,hlt,?_⟩;have:=hc 0 (by simp) 0 (by omega);simpa[rowN]using this
theorem slv_nat {ms:List MR} {r:Rq} (hm:mapOk ms=true):slaveOf ms r=((slaveOf ms r).toNat:Nat):=by
 have h:0≤slaveOf ms r:=by
  unfold slaveOf
  split
  ·omega
  ·rename_i h;have hlt:=zG1 ms (zA6 r);have hk:(zA5 ms (zA6 r)).toNat<ms.length:=by omega
   simp only[mapOk,Bool.and_eq_true,List.all_eq_true]at hm;have h2:=hm.2 _ (List.mem_range.2 hk);simp only[zK2,Bool.and_eq_true,inB,decide_eq_true_eq]at h2;omega
 omega
set_option maxRecDepth 4000 in
theorem may_any {c : Cfg} (hbus : Bus c) {w : World} {base S Hb : Nat} {L : Nat → Value} {st : Cy} {ev : List Ev} {V : Nat → Value} {N : Nat → Nat} {C : Nat → List Value} {D : Nat → List TJV} (hm : CyM w base S Hb L st ev V N C D) (hg : Good c st) {B : Nat} {ma : Option Addr} {mn mk lb lo lc pb po' pc' : Nat} {Q : Nat → Option Addr} {K : Nat → Nat} (hc : BusO w B c ma mn mk lb lo lc pb po' pc' Q K) (hB : B ≤ base) {who s : Nat} (hw : who < 3) (hs : s < 4) :
  Calls Tryz.prog 164 #[.pointer (some ⟨S,0,none⟩),.agg #[.slice ma mn mk,.slice (some ⟨lb,lo,none⟩) 4 lc,.slice (some ⟨pb,po', none⟩) 3 pc'],.int .i64 who,.int .i64 s] w fun e w' => e=.returned (.bool (may c st who s))∧Below w.heap.size w w':=by
 have hbw:base≤w.heap.size:=Nat.le_trans hm.s0 (Nat.le_of_lt (zA2 hm.bs));have hS:=zA2 hm.bs;obtain⟨w0,hw0⟩:∃W,W=((w.alloc (.cells #[.slice ma mn mk,.slice (some ⟨lb,lo,none⟩) 4 lc,.slice (some ⟨pb,po', none⟩) 3 pc'] 27)).alloc (.cells #[.int .i64 who] 3)).alloc (.cells #[.int .i64 s] 3):=⟨_,rfl⟩
 have hb0:Below w.heap.size w w0:=by rw[hw0];exact(((Below.refl _ _).alloc (Nat.le_refl _) _).alloc (by simp) _).alloc (by simp;omega) _
 have hz0:w0.heap.size=w.heap.size+3:=by rw[hw0];simp
 have B1 := hid (show BusB w0 w.heap.size ma mn mk lb lo lc pb po' pc' by
  unfold BusB;rw[hw0,((Below.refl _ _).alloc (Nat.le_refl _) _).block _ (by simp;omega),((Below.refl _ _).alloc (Nat.le_refl _) _).block _ (by simp)];exact zA8 _ _ rfl)
 have B2 := hid (show IntB w0 (w.heap.size + 1) who by
  unfold IntB;rw[hw0,((Below.refl _ _).alloc (Nat.le_refl _) _).block _ (by simp)];exact zA8 _ _ (by simp))
 have B4:=hid (show IntB w0 (w.heap.size+2) s by unfold IntB;rw[hw0];exact zA8 _ _ (by simp));have hm0:=hm.below hb0;have HM0:=hid hm0;have HO:=hid (hc.below (hb0.mono (Nat.le_trans hB hbw)));obtain⟨pg,po,pc,hV2,hpc,hpc2,hpb,hpz⟩:=hm0.ports;obtain⟨p0,p1,p2,p3,pf⟩:=hm0.port hV2 hw;obtain⟨q0,q1,q2,q3,q4,qf⟩:=hm0.box;rw[hV2]at q2;obtain⟨qa,qc,hqs,_,_⟩:=(hm0.oQueue hw).shape;obtain⟨oa,oc,hos,_,_⟩:=(hm0.oOut hw).shape;rw[hqs]at p1;rw[hos]at p2;obtain⟨ql,hql⟩:∃x,x=(st.ports who).queue.length:=⟨_,rfl⟩
 obtain⟨ol,hol⟩:∃x,x=(st.ports who).out.length:=⟨_,rfl⟩
 obtain⟨nx,hnx⟩:∃x,x=(st.ports who).next:=⟨_,rfl⟩
 obtain⟨ls,hls⟩:∃x,x=(st.ports who).last:=⟨_,rfl⟩
 rw[←hnx]at p0;rw[←hql]at p1;rw[←hol]at p2;rw[←hls]at p3;have hQo:=hm0.oQueue hw;rw[hqs]at hQo;have HQS:=hid hqs;have HOS:=hid hos;have HOO:=hid (hm0.oOut hw);rw[hos]at HOO;obtain⟨x0,x1,x2,x3⟩:=B1.out.cells;obtain⟨y0,y1⟩:=B2.out.cells;obtain⟨u0,u1⟩:=B4.out.cells;have hwi:(who:Int)<3:=by omega
 have HB0:=hid hb0;have HBW:=hid hbw;have HBB:=hid hB;have HG:=hid (hg.p who hw);have hS0:S<w0.heap.size:=by omega
 have HZ:=hid hz0;obtain⟨w1,hw1⟩:∃W,W=(w0.alloc (.cells #[.int .i64 nx,.slice qa ql qc,.slice oa ol oc,.int .i64 ls] 52)).drew:=⟨_,rfl⟩
 have hb1:Below w0.heap.size w0 w1:=by rw[hw1];exact((Below.refl _ _).alloc (Nat.le_refl _) _).drew
 have hpt:w1.heap[w0.heap.size]? = some (.cells #[.int .i64 nx,.slice qa ql qc,.slice oa ol oc,.int .i64 ls] 52 (0,0)):=by rw[hw1];exact zA8 _ _ rfl
 have hz1:=zA2 hpt;obtain⟨c1,c2⟩:w1.cell? ⟨w0.heap.size,1,none⟩=some (.slice qa ql qc)∧w1.cell? ⟨w0.heap.size,2,none⟩=some (.slice oa ol oc):=by refine⟨?_,?_⟩ <;> simp[World.cell?,hpt]
 have v0:=(hb1.cell (p:=⟨w.heap.size,0,none⟩) x3).trans x0;have v1:=(hb1.cell (p:=⟨w.heap.size,1,none⟩) x3).trans x1;have v2:=(hb1.cell (p:=⟨w.heap.size,2,none⟩) x3).trans x2;have v3:=(hb1.cell (p:=⟨w.heap.size+1,0,none⟩) y1).trans y0;have v4:=(hb1.cell (p:=⟨w.heap.size+2,0,none⟩) u1).trans u0;have hO4:=(hg.p who hw).o4;have hNX:=(hg.p who hw).nx;have hQQ:=(hg.p who hw).q;have HOUT:=hid (hg.p who hw).o;have HB1:=hid hb1;have HQO:=hid hQo;have HQL:=hid hql;have HOL:=hid hol;have HPT:=hid hpt;have HNX:=hid hnx;have HNXX:=hid hNX;have HQQ:=hid hQQ;have hwn:=hw;have HG:=hid (hg.p who hw);have hql2:ql≤2:=by rw[hql];exact(hg.p who hw).q2
 have hb1':=hb1;have hBz:B≤w0.heap.size:=Nat.le_trans hB (Nat.le_trans hbw hb0.size);clear hNX hQQ;clear hm0 hb0 hqs hos q0 q1 q3 q4 qf hz0 hpc hpc2 hpb hV2 hbw hpt hQo hnx hls hql hol hm hg hc;by_cases hq0:ql=0
 ·have e1:((ql:Int)==0)=true:=by simpa using hq0
  have HM:=hid (show may c st who s=false by unfold may;rw[show(st.ports who).queue=[] from List.eq_nil_of_length_eq_zero (by rw[←HQL.out];exact hq0)]);clear hq0
  go_enter Tryz.func164,Tryz.ntmps164
  go_upto_region 1 with fail
  rw[←hw0];clear hw0
  go_region
  rw[←hw1];clear hw1
  go_upto_region 2 with fail
  go_quiet (fail)
  go_wp2_with fail
  go_ret
  exact⟨by rw[HM.out];rfl,HB0.out.trans ((HB1.out.trans (Below.draws (Below.refl _ _) _)).mono HB0.out.size)⟩
 obtain⟨n,rest,hcons⟩:∃n rest,(st.ports who).queue=n::rest:=by
  rcases hqq:(st.ports who).queue with _|⟨n,rest⟩
  ·exfalso;apply hq0;rw[HQL.out,hqq];rfl
  ·exact⟨n,rest,rfl⟩
 have HCONS:=hid hcons;clear hcons;have e1:((ql:Int)==0)=false:=by simpa using hq0
 by_cases ho4:4≤ol
 ·have e2:(4:Int)≤(ol:Int):=by omega
  have HM := hid (show may c st who s = false by
   unfold may;rw[HCONS.out];have:decide ((st.ports who).out.length<4)=false:=by rw[←HOL.out];simpa using ho4
   simp only[this,Bool.false_and])
  clear hq0
  go_enter Tryz.func164,Tryz.ntmps164
  go_upto_region 1 with fail
  rw[←hw0];clear hw0
  go_region
  rw[←hw1];clear hw1
  go_upto_region 2 with fail
  go_quiet (fail)
  go_wp2_with fail
  go_ret
  exact⟨by rw[HM.out];rfl,HB0.out.trans ((HB1.out.trans (Below.draws (Below.refl _ _) _)).mono HB0.out.size)⟩
 have hnq:n<(c.prog who).length:=by
  have h1:=HQQ.out;rw[HCONS.out]at h1;obtain⟨h2,_,_⟩:=range'_cons h1;have h3:=HNXX.out;have h4:=(HG.out).qn;rw[HCONS.out]at h4;simp only[List.length_cons]at h2 h4;omega
 obtain⟨qb,qo,hqa,hqb,hqn⟩:=queue_head (n:=n) (rest:=rest) (by rw[←HCONS.out];exact HQO.out) (by rw[←HCONS.out,←HQL.out];have:=hql2;omega);obtain⟨rb,ro,da,dc,la,lc', hrq,hrb,hrv,r0,r1,r2,r3,r4,r5,r6⟩:=(HO.out.below (hb1'.mono hBz)).at hwn hnq;have hpq:=(HO.out.below (hb1'.mono hBz)).prog who hwn;rw[hrq]at hpq;obtain⟨iy,hiy⟩:∃y,y=(c.req who n).id:=⟨_,rfl⟩
 obtain⟨ik,hik⟩:∃y,y=(c.req who n).kind:=⟨_,rfl⟩
 obtain⟨ia,hia⟩:∃y,y=(c.req who n).addr:=⟨_,rfl⟩
 obtain⟨im,him⟩:∃y,y=(c.req who n).many:=⟨_,rfl⟩
 obtain⟨ip,hip⟩:∃y,y=(c.req who n).wrap:=⟨_,rfl⟩
 obtain⟨dn,hdn⟩:∃y,y=(c.req who n).data.length:=⟨_,rfl⟩
 obtain⟨ln,hln⟩:∃y,y=(c.req who n).lanes.length:=⟨_,rfl⟩
 obtain⟨pn,hpn⟩:∃y,y=(c.prog who).length:=⟨_,rfl⟩
 rw[←hiy]at r0;rw[←hik]at r1;rw[←hia]at r2;rw[←him]at r3;rw[←hip]at r4;rw[←hdn]at r5;rw[←hln]at r6;rw[←hpn]at hpq;obtain⟨sv,hsv⟩:∃y,y=c.slv who n:=⟨_,rfl⟩
 have HSV := hid (show slaveAt c.ms (zA5 c.ms (burst ia im ip)) = (sv : Int) by
  rw[hsv,hia,him,hip];exact slv_nat (r:=c.req who n) hbus.ms)
 have v5:=(hb1.cell (p:=⟨qb,qo,none⟩) (show qb<w0.heap.size from hqb)).trans hqn;subst hqa;have hni:(n:Int)<(pn:Int):=by rw[hpn];omega
 have hqi:(0:Int)<(ql:Int):=by omega
 have hqp:0<ql:=by omega
 have hqd:decide (0<ql)=true:=by simpa using hqp
 have ho4i:(ol:Int)<4:=by omega
 have e2:decide ((4:Int)≤(ol:Int))=false:=by simp;omega
 have e3:decide (4≤ol)=false:=by simpa using ho4
 have hrbz:rb<w1.heap.size:=Nat.lt_of_lt_of_le hrb (Nat.le_trans hBz hb1.size);have hpbz:pb<w1.heap.size:=Nat.lt_of_lt_of_le HO.out.hpb (Nat.le_trans hBz hb1.size);have hqbz:qb<w1.heap.size:=Nat.lt_of_lt_of_le hqb hb1.size;have hg1z:w.heap.size<w1.heap.size:=Nat.lt_of_lt_of_le x3 hb1.size;have hg2z:w.heap.size+1<w1.heap.size:=Nat.lt_of_lt_of_le y1 hb1.size;have hg4z:w.heap.size+2<w1.heap.size:=Nat.lt_of_lt_of_le u1 hb1.size;have HHI:=hid hiy;have HPN:=hid hpn;have HSVV:=hid hsv;have HBM:=hid ((HO.out.below (hb1'.mono hBz)).ms);have HBZ:=hid hBz;clear hiy hik hia him hip hdn hln hpn hsv hb1' hrv hrq;by_cases hys:sv=s
 ·have e5:((sv:Int) != (s:Int))=false:=by subst hys;simp
  obtain⟨iz,hiz⟩:∃y,y=c.id who n:=⟨_,rfl⟩
  have HIZ:=hid hiz;obtain⟨av,hav⟩:∃b,b=(st.ports who).out.any (mayB c who s iz):=⟨_,rfl⟩
  have HAV:=hid hav;clear hav
  have HM := hid (show may c st who s = !av by
   unfold may;rw[HCONS.out];have k1:decide ((st.ports who).out.length<4)=true:=by rw[←HOL.out];simp;omega
   have k2:(c.slv who n==s)=true:=by rw[←HSVV.out];simpa using hys
   simp only[k1,k2,Bool.true_and];rw[HAV.out,HIZ.out];rfl)
  clear hiz
  go_enter Tryz.func164,Tryz.ntmps164
  go_upto_region 1 with fail
  rw[←hw0];clear hw0
  go_region
  rw[←hw1];clear hw1
  go_upto_region 2 with fail
  go_region_held3 (fun w' => w'.cell? ⟨w.heap.size, 0, none⟩ = some (.slice ma mn mk) ∧ w'.cell? ⟨w.heap.size, 2, none⟩ = some ((.slice (some ⟨pb, po', none⟩) 3 pc')) ∧ w'.cell? ⟨w.heap.size + 1, 0, none⟩ = some ((.int .i64 who)) ∧ w'.cell? ⟨w.heap.size + 2, 0, none⟩ = some ((.int .i64 s)) ∧ w'.cell? ⟨w0.heap.size, 1, none⟩ = some ((.slice (some ⟨qb, qo, none⟩) ql qc)) ∧ w'.cell? ⟨w0.heap.size, 2, none⟩ = some ((.slice oa ol oc)) ∧ w'.cell? ⟨pb, po' + who, none⟩ = some ((.slice (some ⟨rb, ro, none⟩) pn (K who))) ∧ w'.cell? ⟨qb, qo, none⟩ = some ((.int .i64 n)) ∧ w'.cell? ⟨rb, ro + n * 7, none⟩ = some ((.int .i64 iy)) ∧ w'.cell? ⟨rb, ro + n * 7 + 1, none⟩ = some ((.int .i64 ik)) ∧ w'.cell? ⟨rb, ro + n * 7 + 2, none⟩ = some ((.int .i64 ia)) ∧ w'.cell? ⟨rb, ro + n * 7 + 3, none⟩ = some ((.int .i64 im)) ∧ w'.cell? ⟨rb, ro + n * 7 + 4, none⟩ = some ((.bool ip)) ∧ w'.cell? ⟨rb, ro + n * 7 + 5, none⟩ = some ((.slice da dn dc)) ∧ w'.cell? ⟨rb, ro + n * 7 + 6, none⟩ = some ((.slice la ln lc')) ∧ w'.cell? ⟨w.heap.size, 1, none⟩ = some (.slice (some ⟨lb, lo, none⟩) 4 lc))
   (first|exact s6|go_keep)
   (first
    |(go_at_call 78;(with_reducible refine(slave_val _ c.ms iy ik ia im ip (.slice da dn dc) (.slice la ln lc') ⟨_,_,_,rfl⟩ ⟨_,_,_,rfl⟩ B _ (HBM.out.below (Below.refl _ _).drew) (le_drew' (Nat.le_trans HBZ.out HB1.out.size))).mono ?_);rw[HSV.out];rintro e w5 ⟨rfl,hb5⟩;have hb5':=(show Below w1.heap.size w1 w1.drew from(Below.refl _ _).drew).trans hb5;have HB5:=hid hb5';have s6:w5.cell? ⟨w.heap.size,0,none⟩=some (.slice ma mn mk)∧w5.cell? ⟨w.heap.size,2,none⟩=some ((.slice (some ⟨pb,po', none⟩) 3 pc'))∧w5.cell? ⟨w.heap.size+1,0,none⟩=some ((.int .i64 who))∧w5.cell? ⟨w.heap.size+2,0,none⟩=some ((.int .i64 s))∧w5.cell? ⟨w0.heap.size,1,none⟩=some ((.slice (some ⟨qb,qo,none⟩) ql qc))∧w5.cell? ⟨w0.heap.size,2,none⟩=some ((.slice oa ol oc))∧w5.cell? ⟨pb,po' + who,none⟩=some ((.slice (some ⟨rb,ro,none⟩) pn (K who)))∧w5.cell? ⟨qb,qo,none⟩=some ((.int .i64 n))∧w5.cell? ⟨rb,ro+n * 7,none⟩=some ((.int .i64 iy))∧w5.cell? ⟨rb,ro+n * 7+1,none⟩=some ((.int .i64 ik))∧w5.cell? ⟨rb,ro+n * 7+2,none⟩=some ((.int .i64 ia))∧w5.cell? ⟨rb,ro+n * 7+3,none⟩=some ((.int .i64 im))∧w5.cell? ⟨rb,ro+n * 7+4,none⟩=some ((.bool ip))∧w5.cell? ⟨rb,ro+n * 7+5,none⟩=some ((.slice da dn dc))∧w5.cell? ⟨rb,ro+n * 7+6,none⟩=some ((.slice la ln lc'))∧w5.cell? ⟨w.heap.size,1,none⟩=some (.slice (some ⟨lb,lo,none⟩) 4 lc):=⟨(hb5'.cell (p:=⟨w.heap.size,0,none⟩) hg1z).trans v0,(hb5'.cell (p:=⟨w.heap.size,2,none⟩) hg1z).trans v2,(hb5'.cell (p:=⟨w.heap.size+1,0,none⟩) hg2z).trans v3,(hb5'.cell (p:=⟨w.heap.size+2,0,none⟩) hg4z).trans v4,(hb5'.cell (p:=⟨w0.heap.size,1,none⟩) hz1).trans c1,(hb5'.cell (p:=⟨w0.heap.size,2,none⟩) hz1).trans c2,(hb5'.cell (p:=⟨pb,po' + who,none⟩) hpbz).trans hpq,(hb5'.cell (p:=⟨qb,qo,none⟩) hqbz).trans v5,(hb5'.cell (p:=⟨rb,ro+n * 7,none⟩) hrbz).trans r0,(hb5'.cell (p:=⟨rb,ro+n * 7+1,none⟩) hrbz).trans r1,(hb5'.cell (p:=⟨rb,ro+n * 7+2,none⟩) hrbz).trans r2,(hb5'.cell (p:=⟨rb,ro+n * 7+3,none⟩) hrbz).trans r3,(hb5'.cell (p:=⟨rb,ro+n * 7+4,none⟩) hrbz).trans r4,(hb5'.cell (p:=⟨rb,ro+n * 7+5,none⟩) hrbz).trans r5,(hb5'.cell (p:=⟨rb,ro+n * 7+6,none⟩) hrbz).trans r6,(hb5'.cell (p:=⟨w.heap.size,1,none⟩) hg1z).trans v1⟩;clear hb5 hb5'))
  have t0:=(HB5.out.cell (p:=⟨w.heap.size,0,none⟩) hg1z).trans v0;have t1:=(HB5.out.cell (p:=⟨w.heap.size,1,none⟩) hg1z).trans v1;have t2:=(HB5.out.cell (p:=⟨w.heap.size,2,none⟩) hg1z).trans v2;have t3:=(HB5.out.cell (p:=⟨w.heap.size+1,0,none⟩) hg2z).trans v3;have t4:=(HB5.out.cell (p:=⟨w0.heap.size,1,none⟩) hz1).trans c1;have t5:=(HB5.out.cell (p:=⟨qb,qo,none⟩) hqbz).trans v5;have z1':=Nat.lt_of_lt_of_le hg1z HB5.out.size;have z2':=Nat.lt_of_lt_of_le hg2z HB5.out.size;have z3':=Nat.lt_of_lt_of_le hz1 HB5.out.size;have z4':=Nat.lt_of_lt_of_le hqbz HB5.out.size;have hBw5:B≤w5.heap.size:=Nat.le_trans HBZ.out (Nat.le_trans HB1.out.size HB5.out.size);have hnn:n<(c.prog who).length:=by rw[←HPN.out];omega
  have HBA:=hid (HB1.out.trans (HB5.out.mono HB1.out.size));clear s6
  go_upto_region 4 with fail
  go_cut [10] from 46 to 52 (fun p wd=>∃g,p=.pointer (some ⟨g,0,none⟩)∧w5.heap.size≤g∧IntB wd g iz∧Below w5.heap.size w5 wd)
  case first=>
   rename_i J K' hJ hK;exact mf_region _ _ _ _ _ _ _ _ _ _ _ _ _ _ _ _ _ _ _ _ _ _ _ _ _ _ _ _ _ _ _ _ _ _ _ _ _ _ _ _ _ _ _ _ _ _ _ _ _ _ _ _ _ _ _ _ _ _ _ _ _ _ _ _ _ _ _ _ _ _ _ _ _ _ _ hbus (HO.out.below (HBA.out.mono HBZ.out)) hBw5 hwn hnn HIZ t0 t1 t2 z1' t3 z2' t4 z3' t5 z4' hqi hqp (fun u10 u46 u47 u48 u49 u50 u51 u52 wd h=>hK _ _ (Met.intro (hJ _ _ ⟨u10,u46,u47,u48,u49,u50,u51,u52,h,rfl⟩)))
  case rest=>
   obtain⟨w6,hw6⟩:∃W,W=wc:=⟨_,rfl⟩
   subst hw6;obtain⟨gi,rfl,hgi,hI6,hb6⟩:=hcut;have HI6:=hid hI6;have HB6:=hid (HBA.out.trans (hb6.mono HBA.out.size));have t6:=(hb6.cell (p:=⟨w0.heap.size,2,none⟩) z3').trans ((HB5.out.cell (p:=⟨w0.heap.size,2,none⟩) hz1).trans c2);have HJB:=hid (show Jbs w0 w0.heap.size (.slice oa ol oc) (st.ports who).out by rw[HOL.out];exact jbs_of HOO.out (by omega));clear hI6 hb6
   go_wp2_with (first
    |(go_at_call 184;refine(hasJb_any 185 _ (zB7 Tryz.func185 (by kernel_rfl) (by kernel_rfl)) (mayB c who s iz) _ (st.ports who).out w0.heap.size _ (HJB.out.below HB6.out) HB6.out.size ?_).mono ?_;(· intro j w8 hj hb8;have hb08:=HB6.out.trans (hb8.mono HB6.out.size);exact mayTest_any hbus (HO.out.below (hb08.mono HBZ.out)) (Nat.le_trans HBZ.out hb08.size) hwn (by have h1:=(HOUT.out j hj).2.2;have h2:=HNXX.out;omega) (B1.out.below hb08 x3) (B2.out.below hb08 y1) (HI6.out.below hb8 (zA2 HI6.out)) (B4.out.below hb08 u1));unfold HasJP;rw[←HAV.out];rintro e w7 ⟨rfl,hb7⟩;have HB7:=hid hb7;clear hb7))
   go_ret
   exact⟨by rw[HM.out];rfl,HB0.out.trans ((HB6.out.trans (HB7.out.mono HB6.out.size)).mono HB0.out.size)⟩
 ·have e5:((sv:Int) != (s:Int))=true:=by simp only[bne_iff_ne];omega
  have HM := hid (show may c st who s = false by
   unfold may;rw[HCONS.out];have:(c.slv who n==s)=false:=by rw[←HSVV.out];simpa using hys
   simp only[this,Bool.and_false,Bool.false_and])
  clear hys
  go_enter Tryz.func164,Tryz.ntmps164
  go_upto_region 1 with fail
  rw[←hw0];clear hw0
  go_region
  rw[←hw1];clear hw1
  go_upto_region 2 with fail
  go_region_held3 (fun w' => w'.cell? ⟨w.heap.size, 0, none⟩ = some (.slice ma mn mk) ∧ w'.cell? ⟨w.heap.size, 2, none⟩ = some ((.slice (some ⟨pb, po', none⟩) 3 pc')) ∧ w'.cell? ⟨w.heap.size + 1, 0, none⟩ = some ((.int .i64 who)) ∧ w'.cell? ⟨w.heap.size + 2, 0, none⟩ = some ((.int .i64 s)) ∧ w'.cell? ⟨w0.heap.size, 1, none⟩ = some ((.slice (some ⟨qb, qo, none⟩) ql qc)) ∧ w'.cell? ⟨w0.heap.size, 2, none⟩ = some ((.slice oa ol oc)) ∧ w'.cell? ⟨pb, po' + who, none⟩ = some ((.slice (some ⟨rb, ro, none⟩) pn (K who))) ∧ w'.cell? ⟨qb, qo, none⟩ = some ((.int .i64 n)) ∧ w'.cell? ⟨rb, ro + n * 7, none⟩ = some ((.int .i64 iy)) ∧ w'.cell? ⟨rb, ro + n * 7 + 1, none⟩ = some ((.int .i64 ik)) ∧ w'.cell? ⟨rb, ro + n * 7 + 2, none⟩ = some ((.int .i64 ia)) ∧ w'.cell? ⟨rb, ro + n * 7 + 3, none⟩ = some ((.int .i64 im)) ∧ w'.cell? ⟨rb, ro + n * 7 + 4, none⟩ = some ((.bool ip)) ∧ w'.cell? ⟨rb, ro + n * 7 + 5, none⟩ = some ((.slice da dn dc)) ∧ w'.cell? ⟨rb, ro + n * 7 + 6, none⟩ = some ((.slice la ln lc')) ∧ w'.cell? ⟨w.heap.size, 1, none⟩ = some (.slice (some ⟨lb, lo, none⟩) 4 lc))
   (first|exact s6|go_keep)
   (first
    |(go_at_call 78;(with_reducible refine(slave_val _ c.ms iy ik ia im ip (.slice da dn dc) (.slice la ln lc') ⟨_,_,_,rfl⟩ ⟨_,_,_,rfl⟩ B _ (HBM.out.below (Below.refl _ _).drew) (le_drew' (Nat.le_trans HBZ.out HB1.out.size))).mono ?_);rw[HSV.out];rintro e w5 ⟨rfl,hb5⟩;have hb5':=(show Below w1.heap.size w1 w1.drew from(Below.refl _ _).drew).trans hb5;have HB5:=hid hb5';have s6:w5.cell? ⟨w.heap.size,0,none⟩=some (.slice ma mn mk)∧w5.cell? ⟨w.heap.size,2,none⟩=some ((.slice (some ⟨pb,po', none⟩) 3 pc'))∧w5.cell? ⟨w.heap.size+1,0,none⟩=some ((.int .i64 who))∧w5.cell? ⟨w.heap.size+2,0,none⟩=some ((.int .i64 s))∧w5.cell? ⟨w0.heap.size,1,none⟩=some ((.slice (some ⟨qb,qo,none⟩) ql qc))∧w5.cell? ⟨w0.heap.size,2,none⟩=some ((.slice oa ol oc))∧w5.cell? ⟨pb,po' + who,none⟩=some ((.slice (some ⟨rb,ro,none⟩) pn (K who)))∧w5.cell? ⟨qb,qo,none⟩=some ((.int .i64 n))∧w5.cell? ⟨rb,ro+n * 7,none⟩=some ((.int .i64 iy))∧w5.cell? ⟨rb,ro+n * 7+1,none⟩=some ((.int .i64 ik))∧w5.cell? ⟨rb,ro+n * 7+2,none⟩=some ((.int .i64 ia))∧w5.cell? ⟨rb,ro+n * 7+3,none⟩=some ((.int .i64 im))∧w5.cell? ⟨rb,ro+n * 7+4,none⟩=some ((.bool ip))∧w5.cell? ⟨rb,ro+n * 7+5,none⟩=some ((.slice da dn dc))∧w5.cell? ⟨rb,ro+n * 7+6,none⟩=some ((.slice la ln lc'))∧w5.cell? ⟨w.heap.size,1,none⟩=some (.slice (some ⟨lb,lo,none⟩) 4 lc):=⟨(hb5'.cell (p:=⟨w.heap.size,0,none⟩) hg1z).trans v0,(hb5'.cell (p:=⟨w.heap.size,2,none⟩) hg1z).trans v2,(hb5'.cell (p:=⟨w.heap.size+1,0,none⟩) hg2z).trans v3,(hb5'.cell (p:=⟨w.heap.size+2,0,none⟩) hg4z).trans v4,(hb5'.cell (p:=⟨w0.heap.size,1,none⟩) hz1).trans c1,(hb5'.cell (p:=⟨w0.heap.size,2,none⟩) hz1).trans c2,(hb5'.cell (p:=⟨pb,po' + who,none⟩) hpbz).trans hpq,(hb5'.cell (p:=⟨qb,qo,none⟩) hqbz).trans v5,(hb5'.cell (p:=⟨rb,ro+n * 7,none⟩) hrbz).trans r0,(hb5'.cell (p:=⟨rb,ro+n * 7+1,none⟩) hrbz).trans r1,(hb5'.cell (p:=⟨rb,ro+n * 7+2,none⟩) hrbz).trans r2,(hb5'.cell (p:=⟨rb,ro+n * 7+3,none⟩) hrbz).trans r3,(hb5'.cell (p:=⟨rb,ro+n * 7+4,none⟩) hrbz).trans r4,(hb5'.cell (p:=⟨rb,ro+n * 7+5,none⟩) hrbz).trans r5,(hb5'.cell (p:=⟨rb,ro+n * 7+6,none⟩) hrbz).trans r6,(hb5'.cell (p:=⟨w.heap.size,1,none⟩) hg1z).trans v1⟩;clear hb5 hb5'))
  go_wp2_with fail
  go_ret
  exact⟨by rw[HM.out];rfl,HB0.out.trans ((HB1.out.trans (HB5.out.mono HB1.out.size)).mono HB0.out.size)⟩
theorem CyM.popQueue {w : World} {base S Hb : Nat} {L : Nat → Value} {st : Cy} {ev : List Ev} {V : Nat → Value} {N : Nat → Nat} {C : Nat → List Value} {D : Nat → List TJV} (h : CyM w base S Hb L st ev V N C D) {i g off cap dg dof dn dcp : Nat} (hi : i < 3) (hV : V 2 = .slice (some ⟨g, off, none⟩) 3 cap)
  {n:Nat} {rest:List Nat} (hq:(st.ports i).queue=n::rest) (hv:V (5+i)=.slice (some ⟨dg,dof,none⟩) dn dcp) {A:Addr} (hA:(if dcp=1 then(some ⟨dg,dof,none⟩:Option Addr) else some ⟨dg,dof+1,none⟩)=some A) :
  ∃N' C', CyM (w.setCell ⟨g,off+i * 4+1,none⟩ (.slice (some A) rest.length (dcp - 1))) base S Hb L { st with ports:=upd st.ports i { st.ports i with queue:=rest } } ev (upd V (5+i) (.slice (some A) rest.length (dcp - 1))) N' C' D∧Kp S Hb V w (upd V (5+i) (.slice (some A) rest.length (dcp - 1))) (w.setCell ⟨g,off+i * 4+1,none⟩ (.slice (some A) rest.length (dcp - 1))):=by
 have ho:=h.oQueue hi;rw[hq,hv]at ho;obtain⟨h1,h2⟩:=Owns.pop (f:=rowN) (sz:=1) (fun _=>rfl) ho hA;have hk:∀b,b<w.heap.size→(V (5+i)).ownBlock≠some b→w.heap[b]? = w.heap[b]?:=fun _ _ _=>rfl
 have hvv:∀k,(Value.slice (some A) rest.length (dcp - 1)).ownBlock=some k→(V (5+i)).ownBlock=some k∨w.heap.size≤k:=fun k hk=>by
  left;rw[hv];simp only[Value.ownBlock]at hk ⊢;rw[←hk,h2]
 exact h.setQueue hi hV hk (Nat.le_refl _) h1 hvv
theorem CyM.popPipe {w : World} {base S Hb : Nat} {L : Nat → Value} {st : Cy} {ev : List Ev} {V : Nat → Value} {N : Nat → Nat} {C : Nat → List Value} {D : Nat → List TJV} (h : CyM w base S Hb L st ev V N C D) {s g off cap dg dof dn dcp : Nat} (hs : s < 4) (hV : V 3 = .slice (some ⟨g, off, none⟩) 4 cap)
  {j:Jb} {rest:List Jb} (hq:(st.slaves s).pipe=j::rest) (hv:V (11+s)=.slice (some ⟨dg,dof,none⟩) dn dcp) {A:Addr} (hA:(if dcp=1 then(some ⟨dg,dof,none⟩:Option Addr) else some ⟨dg,dof+3,none⟩)=some A) :
  ∃N' C', CyM (w.setCell ⟨g,off+s * 3,none⟩ (.slice (some A) rest.length (dcp - 1))) base S Hb L { st with slaves:=upd st.slaves s { st.slaves s with pipe:=rest } } ev (upd V (11+s) (.slice (some A) rest.length (dcp - 1))) N' C' D∧Kp S Hb V w (upd V (11+s) (.slice (some A) rest.length (dcp - 1))) (w.setCell ⟨g,off+s * 3,none⟩ (.slice (some A) rest.length (dcp - 1))):=by
 have ho:=h.oPipe hs;rw[hq,hv]at ho;obtain⟨h1,h2⟩:=Owns.pop (f:=jbRow) (sz:=3) (fun _=>rfl) ho hA;have hk:∀b,b<w.heap.size→(V (11+s)).ownBlock≠some b→w.heap[b]? = w.heap[b]?:=fun _ _ _=>rfl
 have hvv:∀k,(Value.slice (some A) rest.length (dcp - 1)).ownBlock=some k→(V (11+s)).ownBlock=some k∨w.heap.size≤k:=fun k hk=>by
  left;rw[hv];simp only[Value.ownBlock]at hk ⊢;rw[←hk,h2]
 exact h.setPipe hs hV hk (Nat.le_refl _) h1 hvv
theorem let1_full {c:Cfg} {s:Nat} {y:Lt} (h:¬(y.st.slaves s).pipe.length<2):let1 c s y=y:=by unfold let1;rw[if_neg h]
theorem let1_miss {c:Cfg} {s:Nat} {y:Lt} (h:∀j,1≤j→j≤3→letM c s y j=false):let1 c s y=y:=by unfold let1;rw[firstK_miss h];split <;> rfl
theorem letM_eq {c:Cfg} {s k who:Nat} {y:Lt} (hk:((y.st.slaves s).last+k) % 3=who):letM c s y k=(!y.used who&&may c y.st who s):=by unfold letM;rw[hk]
theorem may_queue {c:Cfg} {st:Cy} {who s:Nat} (h:may c st who s=true):∃n rest,(st.ports who).queue=n::rest:=by
 unfold may at h
 split at h
 ·cases h
 ·exact⟨_,_,by assumption⟩
theorem let1_hit {c : Cfg} {s k who n : Nat} {rest : List Nat} {y : Lt} (hp : (y.st.slaves s).pipe.length < 2) (h1 : 1 ≤ k) (h3 : k ≤ 3) (hb : ∀ i, 1 ≤ i → i < k → letM c s y i = false) (hk : ((y.st.slaves s).last + k) % 3 = who) (hm : (!y.used who && may c y.st who s) = true) (hq : (y.st.ports who).queue = n :: rest) :
  let1 c s y=letDo c s who n rest y:=by
 unfold let1;rw[if_pos hp,firstK_hit h1 h3 (by rw[letM_eq hk];exact hm) hb];simp only[hk,hq]
def letsV (L:Nat→Value) (l:Nat→Nat):Nat→Value:=fun s=>if l s=0 then L s else .int .i64 (l s:Nat)
theorem letsV_put (L:Nat→Value) (l:Nat→Nat) (s:Nat):upd (letsV L l) s (.int .i64 ((1:Nat):Int))=letsV L (upd l s 1):=by
 funext j
 unfold letsV upd
 split <;> simp_all
theorem letsV_zero (L:Nat→Value):letsV L (fun _=>0)=L:=by funext j;simp[letsV]
def UseB (w:World) (g:Nat) (u:Nat→Bool):Prop:=w.heap[g]? = some (.cells #[.bool (u 0),.bool (u 1),.bool (u 2)] 195 (0,0))
theorem UseB.cells {w:World} {g:Nat} {u:Nat→Bool} (h:UseB w g u) {k:Nat} (hk:k<3):w.cell? ⟨g,k,none⟩=some (.bool (u k))∧w.frozen? ⟨g,k,none⟩=false∧g<w.heap.size:=by
 have:=zA2 h;unfold UseB at h;rcases(show k=0∨k=1∨k=2 by omega)with rfl|rfl|rfl <;> exact⟨by simp[World.cell?,h],by simp[World.frozen?,h],this⟩
theorem UseB.put {w:World} {g:Nat} {u:Nat→Bool} (h:UseB w g u) {k:Nat} (hk:k<3) (b:Bool):UseB (w.setCell ⟨g,k,none⟩ (.bool b)) g (upd u k b):=by
 unfold UseB at h ⊢;rcases(show k=0∨k=1∨k=2 by omega)with rfl|rfl|rfl <;> simp[World.setCell,Array.getElem?_modify,h,upd]
theorem IntsD.apart {w:World} {P:Nat→Prop} {v:Value} {xs:List Int} {g:Nat} {u:Nat→Bool} (h:IntsD w P v xs) (hu:UseB w g u):IntsD w (fun b=>P b∧b≠g) v xs:=by
 obtain⟨⟨ao,cap,hv,h1,h2,h0,h9,h3⟩,hx⟩:=h;refine⟨⟨ao,cap,hv,h1,h2,h0,h9,fun hn=>?_⟩,hx⟩;obtain⟨b,off,ha,hP,hc⟩:=h3 hn;refine⟨b,off,ha,⟨hP,?_⟩,hc⟩;rintro rfl;have e:=hc 0 (by omega) 0 (by omega);rcases xs with _|⟨x,xs⟩
 ·simp at hn
 ·unfold UseB at hu;simp[World.cell?,hu,rowI,List.getD]at e;rcases(show off=0∨off=1∨off=2∨3≤off by omega)with rfl|rfl|rfl|h3
  ·simp at e
  ·simp at e
  ·simp at e
  ·obtain⟨m,rfl⟩:∃m,off=m+3:=⟨off - 3,by omega⟩
   simp at e
theorem DatP.apart {L:Nat→Value} {w:World} {P:Nat→Prop} {x:TJV} {g:Nat} {u:Nat→Bool} (h:DatP L w P x) (hu:UseB w g u):DatP L w (fun b=>P b∧b≠g) x:=⟨h.1.apart hu,h.2⟩
theorem CyM.usedPut {w : World} {base S Hb : Nat} {L : Nat → Value} {st : Cy} {ev : List Ev} {V : Nat → Value} {N : Nat → Nat} {C : Nat → List Value} {D : Nat → List TJV} (h : CyM w base S Hb L st ev V N C D) {g : Nat} {u : Nat → Bool} (hu : UseB w g u) (hf : DFree V S Hb w g) (k : Nat) (v : Value) :
  CyM (w.setCell ⟨g,k,none⟩ v) base S Hb L st ev V N C D:=by
 have hset:∀b,b≠g→(w.setCell ⟨g,k,none⟩ v).heap[b]? = w.heap[b]?:=fun b hb=>Below.heap_setCell _ _ _ _ hb
 refine⟨h.raw.kept fun b _ hb=>hset b (fun e=>hb (by rw[e];exact hf.2.1)),h.con,(hset S (Ne.symm hf.2.2.1)).trans h.bs,(hset Hb (Ne.symm hf.2.2.2)).trans h.bh,h.fs,h.fh,h.ne,h.s0,h.h0,fun i hi b hb=>by simpa using h.lx i hi b hb,fun ν hν x hx=>?_⟩;exact(((h.dat ν hν x hx).apart hu).kept fun b hb=>hset b hb.2).weak fun b hb=>⟨by simpa using hb.1.1,hb.1.2⟩
theorem Kp.old {S Hb:Nat} {V V':Nat→Value} {w w':World} (h:Kp S Hb V w V' w') {g:Nat} (hg:w.heap.size≤g) (k:Nat) (v:Value):Kp S Hb V w V' (w'.setCell ⟨g,k,none⟩ v):=fun b hb=>by
 have hb1:=hb.1;exact⟨(Below.heap_setCell _ _ _ _ (show b≠g by omega)).trans (h b hb).1,by simpa using(h b hb).2.1,(h b hb).2.2⟩
def LetP (base S Hb:Nat) (L:Nat→Value) (ev:List Ev) (y:Lt) (V:Nat→Value) (w:World) (e:Ending) (w':World):Prop:=e=.returned (.tuple #[])∧∃V' N' C' D', CyM w' base S Hb (letsV L y.lets) y.st ev V' N' C' D' ∧ Kp S Hb V w V' w' ∧ Below base w w'
set_option maxRecDepth 4000 in
theorem let_any {c : Cfg} (hbus : Bus c) {w : World} {base S Hb : Nat} {L : Nat → Value} {st : Cy} {ev : List Ev} {V0 : Nat → Value} {N0 : Nat → Nat} {C0 : Nat → List Value} {D0 : Nat → List TJV} (hm : CyM w base S Hb L st ev V0 N0 C0 D0) (hg : Good c st) {u : Value} {B : Nat} (hc : BusV w B u c) (hB : B ≤ base) :
  Calls Tryz.prog 116 #[.pointer (some ⟨S,0,none⟩),u,.pointer (some ⟨Hb,0,none⟩)] w (LetP base S Hb L ev (zD2 c st) V0 w):=by
 obtain⟨mv,lb,lo,lc,pb,po', pc', Q,K,rfl,⟨ma,mn,mk,rfl⟩,hms,hlb,hpb', hlat,hprog,hreq⟩:=hc.opened hbus;have HBO:=hid (show BusO w B c ma mn mk lb lo lc pb po' pc' Q K from⟨hms,hlb,hpb', hlat,hprog,hreq⟩);have HM:=hid hm;have HG0:=hid hg;have hS:=zA2 hm.bs;have hbw:base≤w.heap.size:=Nat.le_trans hm.s0 (Nat.le_of_lt (zA2 hm.bs));obtain⟨q0,q1,q2,q3,q4,qf⟩:=hm.box;obtain⟨sg,so,sc,hV3,hsc,hsc2,_,_⟩:=hm.stores;rw[hV3]at q3;obtain⟨w0,hw0⟩:∃W,W=(w.alloc (.cells #[.slice ma mn mk,.slice (some ⟨lb,lo,none⟩) 4 lc,.slice (some ⟨pb,po', none⟩) 3 pc'] 27)).alloc (.cells #[.bool false,.bool false,.bool false] 195):=⟨_,rfl⟩
 have hb0:Below w.heap.size w w0:=by rw[hw0];exact((Below.refl _ _).alloc (Nat.le_refl _) _).alloc (by simp) _
 have hz0:w0.heap.size=w.heap.size+2:=by rw[hw0];simp
 have HC0 := hid (show BusB w0 w.heap.size ma mn mk lb lo lc pb po' pc' by
  unfold BusB;rw[hw0,((Below.refl _ _).alloc (Nat.le_refl _) _).block _ (by simp)];exact zA8 _ _ rfl)
 have HU0:=hid (show UseB w0 (w.heap.size+1) (fun _=>false) by unfold UseB;rw[hw0];exact zA8 _ _ (by simp));have HFR:=hid (HM.out.fresh (w':=w0) (Nat.le_refl w.heap.size) (by omega));have HFR1:=hid (HM.out.fresh (w':=w0) (Nat.le_succ w.heap.size) (by omega));have HKB:=hid (Kp.below (S:=S) (Hb:=Hb) (V:=V0) hb0);have HM0:=hid (HM.out.below hb0);have HB0:=hid (hb0.mono hbw);have HBO0:=hid (HBO.out.below (hb0.mono (Nat.le_trans hB hbw)));clear hm hg hms hlb hpb' hlat hprog hreq hc hV3 qf q0 q1 q2 q4 hsc hsc2 hz0
 go_enter Tryz.func116,Tryz.ntmps116
 go_wp2_with fail
 rw[←hw0];clear hw0 hb0 q3 HM hS
 go_loopw [18] (fun i wr=>∃k:Nat,k≤4∧i=.int .i64 k∧Good c (foldN (let1 c) k ⟨st,fun _=>false,fun _=>0⟩).st∧(∃V N C D,CyM wr base S Hb (letsV L (foldN (let1 c) k ⟨st,fun _=>false,fun _=>0⟩).lets) (foldN (let1 c) k ⟨st,fun _=>false,fun _=>0⟩).st ev V N C D∧Kp S Hb V0 w V wr∧DFree V S Hb wr w.heap.size∧DFree V S Hb wr (w.heap.size+1))∧BusB wr w.heap.size ma mn mk lb lo lc pb po' pc' ∧ UseB wr (w.heap.size+1) (foldN (let1 c) k ⟨st,fun _=>false,fun _=>0⟩).used∧Below base w wr) (fun i _=>4 - (intOf i).toNat)
 case atStart=>exact⟨0,by omega,by go_num,HG0.out,⟨_,_,_,_,by simp only[foldN,letsV_zero];exact HM0.out,HKB.out,HFR.out,HFR1.out⟩,HC0.out,HU0.out,HB0.out⟩
 case round=>
  obtain⟨k,hk,rfl,hg,⟨V,N,C,D,hm,hkp,hf1,hf2⟩,hcb,hub,hbl⟩:=hrel;have HKP:=hid hkp;have HF1:=hid hf1;have HF2:=hid hf2;have HCB:=hid hcb;have HUB:=hid hub;have HBL:=hid hbl;clear hkp hf1 hf2;by_cases hlt:k<4
  ·have hlti:(k:Int)<4:=by omega
   obtain⟨y,hy⟩:∃y,y=foldN (let1 c) k ⟨st,fun _=>false,fun _=>0⟩:=⟨_,rfl⟩
   have HY1:=hid (show foldN (let1 c) (k+1) ⟨st,fun _=>false,fun _=>0⟩=let1 c k y by rw[hy];rfl);rw[←hy]at hg hm;rw[←hy]at HUB;have HM:=hid hm;have HG:=hid hg;have hS:=zA2 hm.bs;obtain⟨q0,q1,q2,q3,q4,qf⟩:=hm.box;obtain⟨sg,so,sc', hV3,hsc,hsc2,hsb,hsz⟩:=hm.stores;have HV3:=hid hV3;rw[hV3]at q3;obtain⟨s0,s1,s2,sf⟩:=hm.store hV3 hlt;obtain⟨pa,pcc,hpv,_,_⟩:=(hm.oPipe hlt).shape;rw[hpv]at s0;have HPV:=hid hpv;have hsl:=(hg.s k hlt).l;clear hm hg hcb hub hbl hV3 hpv hy;by_cases hp:(y.st.slaves k).pipe.length<2
   ·have hpi:((y.st.slaves k).pipe.length:Int)<2:=by omega
    go_wp2_with fail
    obtain⟨wo,hwo⟩:∃W,W=wr:=⟨_,rfl⟩
    subst hwo
    go_loopw [9] (fun i wd=>∃m:Nat,1≤m∧m≤4∧i=.int .i64 m∧Below wo.heap.size wo wd∧∀j,1≤j→j<m→letM c k y j=false) (fun i _=>4 - (intOf i).toNat)
    case atStart=>exact⟨1,by omega,by omega,rfl,Below.refl _ _,fun j h1 h2=>by omega⟩
    case round=>
     obtain⟨m,hm1,hm4,rfl,hbm,hno⟩:=hrel;have HNO:=hid hno;have HBM:=hid hbm;clear hno;have t0:=(hbm.cell (p:=⟨sg,so+k * 3,none⟩) hsz).trans s0;have t2:=(hbm.cell (p:=⟨sg,so+k * 3+2,none⟩) hsz).trans s2;clear hbm;by_cases h3:m≤3
     ·have h3i:(m:Int)≤3:=by omega
      obtain⟨t,ht⟩:∃t,t=((y.st.slaves k).last+m) % 3:=⟨_,rfl⟩
      have ht3:t<3:=by omega
      have hti:(((y.st.slaves k).last:Int)+(m:Int)) % 3=(t:Int):=by omega
      have HT:=hid ht.symm;have HTI:=hid hti;clear ht hti
      go_upto_region 10 with fail
      simp only[HTI.out];obtain⟨ut,hut⟩:∃b,b=y.used t:=⟨_,rfl⟩
      have hubz:=HF2.out.1;have hcbz:=HF1.out.1;have u0:=(HBM.out.cell (p:=⟨w.heap.size+1,t,none⟩) hubz).trans (HUB.out.cells ht3).1;rw[←hut]at u0;obtain⟨b0,b1,b2,_⟩:=(HCB.out.below HBM.out hcbz).cells;have HUT:=hid hut;have hti3:(t:Int)<3:=by omega
      clear hut;rcases ut with _|_
      ·obtain⟨mh,hmh⟩:∃b,b=may c y.st t k:=⟨_,rfl⟩
       have HMH:=hid hmh;clear hmh;have HBD:=hid (show BusO wr B c ma mn mk lb lo lc pb po' pc' Q K from HBO.out.below ((HBL.out.mono hB).trans (HBM.out.mono (Nat.le_trans hB (Nat.le_trans hsb (Nat.le_of_lt hsz))))));have HMD:=hid (HM.out.below HBM.out);rcases mh with _|_
       ·have HQ:=hid (show letM c k y m=false by rw[letM_eq HT.out,←HMH.out];simp)
        go_wp2_with (first
         |(go_at_call 164;(with_reducible refine(may_any hbus HMD.out HG.out HBD.out hB ht3 hlt).mono ?_);rw[←HMH.out];rintro e w5 ⟨rfl,hb5⟩;have HB5:=hid hb5;clear hb5))
        go_roundw
        case rel => exact ⟨m + 1, by omega, by omega, by go_num, HBM.out.trans (HB5.out.mono HBM.out.size), fun i h1 h2 => by
         by_cases e:i=m
         ·subst e;exact HQ.out
         ·exact HNO.out i h1 (by omega)⟩
        case measure=>simp[intOf];omega
       ·obtain⟨n,rest,hqn⟩:=may_queue HMH.out.symm;have HIT:=hid (let1_hit (c:=c) hp hm1 h3 HNO.out HT.out (by rw[←HMH.out,←HUT.out];rfl) hqn)
        go_upto_region 11 with (first
         |(go_at_call 164;(with_reducible refine(may_any hbus HMD.out HG.out HBD.out hB ht3 hlt).mono ?_);rw[←HMH.out];rintro e w5 ⟨rfl,hb5⟩;have HB5:=hid hb5;clear hb5))
        have hm5:=HMD.out.below HB5.out;obtain⟨q0,q1,q2,q3,q4,qf⟩:=hm5.box;obtain⟨pg,po,pc,hV2,hpc,hpc2,hpb,hpz⟩:=hm5.ports;rw[hV2]at q2;obtain⟨p0,p1,p2,p3,pf⟩:=hm5.port hV2 ht3;have hown:=hm5.oQueue ht3;rw[hqn]at hown;obtain⟨dg,dof,dcp,hvs,hdcp,hdcp2,hdgb,hdgz⟩:=OwnR.addr hown (by simp);rw[hvs]at hown p1;simp only[List.length_cons]at hvs hdcp p1;have c0:w5.cell? ⟨dg,dof,none⟩=some (.int .i64 (n:Nat)):=by
         have:=Owns.cellAt hown (fun _=>rfl) 0 0 n (by simp) (by omega);simpa[rowN]using this
        have HM5:=hid hm5;have HQN:=hid hqn;have HV2:=hid hV2;have HVS:=hid hvs;obtain⟨A1,hA1⟩:=pop_addr dg dof 1 dcp;have hyl:1≤rest.length+1:=by omega
        have hq0i:(0:Int)<((rest.length+1:Nat):Int):=by omega
        clear hm5 hqn hV2 hvs hown t0 t2 u0 b0 b1 b2 q0 q1 q3 q4 qf
        go_upto_region 13 with fail
        go_upto_region 14 with fail
        obtain⟨w6,hw6⟩:∃W,W=w5.setCell ⟨pg,po+t * 4+1,none⟩ (.slice (some A1) rest.length (dcp - 1)):=⟨_,rfl⟩
        rw[←hw6];obtain⟨N6,C6,hm6,hk6⟩:=HM5.out.popQueue ht3 HV2.out HQN.out HVS.out hA1;rw[←hw6]at hm6 hk6;obtain⟨v5,hv5⟩:∃v,v=Value.slice (some A1) rest.length (dcp - 1):=⟨_,rfl⟩
        rw[←hv5]at hm6 hk6;have hb6:Below base w5 w6:=by rw[hw6];exact(Below.refl _ _).setCell (p:=⟨pg,_,none⟩) hpb _
        obtain⟨V6,hV6⟩:∃V', V' = upd V (5+t) v5:=⟨_,rfl⟩
        rw[←hV6]at hm6 hk6;have e2:V6 2=.slice (some ⟨pg,po,none⟩) 3 pc:=by rw[hV6,zA0 _ _ (by omega)];exact HV2.out
        have e3:V6 3=.slice (some ⟨sg,so,none⟩) 4 sc':=by rw[hV6,zA0 _ _ (by omega)];exact HV3.out
        have E2:=hid e2;have E3:=hid e3;have ho6:=hm6.oOut ht3;simp only[zA1]at ho6;have HO6:=hid ho6;have ho4:=(HG.out.p t ht3).o4;have HM6:=hid hm6;have HK6:=hid hk6;have HB6:=hid hb6;have hpg6:pg<w6.heap.size:=Nat.lt_of_lt_of_le hpz hb6.size;have hbw6:base≤w6.heap.size:=Nat.le_trans hpb (Nat.le_of_lt hpg6);have hpne:(V6 (8+t)).ownBlock≠some pg:=fun e=>hm6.raw.ap (8+t) 2 (by omega) (by omega) (by omega) pg e (by rw[E2.out];rfl)
        clear p0 p1 p2 p3 pf hw6 hv5 hV6 e2 e3 ho6 hA1 c0;obtain⟨p0,p1,p2,p3,pf⟩:=hm6.port E2.out ht3;clear hm6 hk6 hb6 p0 p1 p3;have f2:=pf 2
        go_upto_region 15 with(at_builtin;go_must (refine zC1 elem_jb jbRow (fun _=>rfl) ⟨t,n,k⟩ (jbRow_one _) w6 rfl _ _ rfl base (V6 (8+t)) (y.st.ports t).out (by rfl) HO6.out _ (by rfl) (by rfl) (by omega) (by omega) hbw6 ?_;intro v' w7 ho hz hk hown hb;obtain⟨va,vc,hv', _,_⟩:=ho.shape;simp only[List.length_append,List.length_cons,List.length_nil,Nat.zero_add]at hv';subst hv';obtain⟨g0,g1⟩:=cell_of (hk pg hpg6 hpne) (po+t * 4+2);rw[p2]at g0;have HO:=hid ho;have HZ:=hid hz;have HK:=hid hk;have HW:=hid hown;have HB:=hid hb;clear ho hz hk hown hb))
        obtain⟨w8,hw8⟩:∃W,W=w7.setCell ⟨pg,po+t * 4+2,none⟩ (.slice va ((y.st.ports t).out.length+1) vc):=⟨_,rfl⟩
        rw[←hw8];obtain⟨N8,C8,hm8,hk8⟩:=HM6.out.setOut ht3 E2.out HK.out HZ.out HO.out (new_own HW.out);rw[←hw8]at hm8 hk8;have hb8:Below base w6 w8:=by rw[hw8];exact HB.out.setCell (p:=⟨pg,_,none⟩) hpb _
        obtain⟨V8,hV8⟩:∃V', V' = upd V6 (8+t) (.slice va ((y.st.ports t).out.length+1) vc):=⟨_,rfl⟩
        rw[←hV8]at hm8 hk8;have e2:V8 2=.slice (some ⟨pg,po,none⟩) 3 pc:=by rw[hV8,zA0 _ _ (by omega)];exact E2.out
        have e3:V8 3=.slice (some ⟨sg,so,none⟩) 4 sc':=by rw[hV8,zA0 _ _ (by omega)];exact E3.out
        have F2:=hid e2;have F3:=hid e3;have HM8:=hid hm8;have HK8:=hid hk8;have HB8:=hid hb8;have hsz6:sg<w8.heap.size:=by
         have h1:=HBM.out.size;have h2:=HB5.out.size;have h3:=HB6.out.size;have h4:=hb8.size;omega
        clear p2 pf f2 g0 g1 hw8 hV8 e2 e3 hm8 hk8 hb8;obtain⟨st8,hst8⟩:∃s:Cy,s={ { y.st with ports:=upd y.st.ports t { y.st.ports t with queue:=rest } } with ports:=upd (upd y.st.ports t { y.st.ports t with queue:=rest }) t { (upd y.st.ports t { y.st.ports t with queue:=rest }) t with out:=(y.st.ports t).out++[⟨t,n,k⟩] } }:=⟨_,rfl⟩
        have HM8b:Hid (CyM w8 base S Hb (letsV L y.lets) st8 ev V8 N8 C8 D):=hid (by rw[hst8];exact HM8.out);have hpl8:(st8.slaves k).pipe=(y.st.slaves k).pipe:=by rw[hst8]
        have HST8:=hid hst8;have hop:=(HM8b.out.below (show Below w8.heap.size w8 w8.drew from(Below.refl _ _).drew)).oPipe hlt;rw[hpl8]at hop;have HOP:=hid hop;have HM8d:=hid (HM8b.out.below (show Below w8.heap.size w8 w8.drew from(Below.refl _ _).drew));obtain⟨s0,s1,s2,sf⟩:=HM8b.out.store F3.out hlt;obtain⟨pa8,pc8,hpv8,_,_⟩:=hop.shape;rw[hpv8]at s0;have HPV8:=hid hpv8;have hsne:some sg≠(V8 (11+k)).ownBlock:=fun e=>HM8b.out.raw.ap (11+k) 3 (by omega) (by omega) (by omega) sg e.symm (by rw[F3.out];rfl)
        rw[hpv8]at hsne HOP;have hB58:=(HB5.out.mono HBM.out.size)
        have hbw8:base≤w8.heap.size:=Nat.le_trans hsb (Nat.le_of_lt hsz6);have hb38:Below base w w8:=(((HBL.out.trans (HBM.out.mono (Nat.le_trans hsb (Nat.le_of_lt hsz)))).trans (HB5.out.mono (by have:=HBM.out.size;omega))).trans HB6.out).trans HB8.out;have hf8:=(HK8.out _ (HK6.out _ ((Kp.below (S:=S) (Hb:=Hb) (V:=V) HB5.out) _ ((Kp.below (S:=S) (Hb:=Hb) (V:=V) HBM.out) _ HF1.out).2).2).2)
        have KPA:Kp S Hb V wo V8 w8:=((Kp.below (S:=S) (Hb:=Hb) (V:=V) HBM.out).trans (Kp.below (S:=S) (Hb:=Hb) (V:=V) HB5.out)).trans (HK6.out.trans HK8.out);have HC8:=hid (show BusB w8 w.heap.size ma mn mk lb lo lc pb po' pc' from(KPA _ HF1.out).1.trans HCB.out);have HBO8:=hid (HBO.out.below (hb38.mono hB));obtain⟨b0,b1,b2,hcbz8⟩:=HC8.out.cells;have lt0:=HBO8.out.lat k hlt;have HKPA:=hid KPA;have hbw8d:base≤w8.drew.heap.size:=hbw8;have hsz8d:sg<w8.drew.heap.size:=hsz6;have s0d:w8.drew.cell? ⟨sg,so+k * 3,none⟩=some (.slice pa8 (y.st.slaves k).pipe.length pc8):=s0;have sfd:∀o,w8.drew.frozen? ⟨sg,o,none⟩=false:=sf;clear KPA s1 s2 hst8 hop hpv8 hpl8 hf8
        go_cut [] from 90 to 106 (fun wd=>∃v' N' C', CyM wd base S Hb (letsV L y.lets) { st8 with slaves:=upd st8.slaves k { st8.slaves k with pipe:=(y.st.slaves k).pipe++[⟨t,n,c.lt k⟩] } } ev (upd V8 (11+k) v') N' C' D∧Kp S Hb V8 w8.drew (upd V8 (11+k) v') wd∧Below base w8.drew wd)
        case first=>
         go_region_law (first
          |(refine step_push3 elem_jb jbRow (fun _=>rfl) w8.drew rfl (.tmp 94) (.tmp 103) rfl base (.slice pa8 (y.st.slaves k).pipe.length pc8) (y.st.slaves k).pipe ⟨t,n,c.lt k⟩ (jbRow_one _) (by rfl) HOP.out _ (by rfl) _ _ (by rfl) (by first|rfl|(simp;done)) (by omega) (by omega) hbw8d ?_;intro v' w9 ho hb2 hk2 hv2;obtain⟨va,vc,hv', _,_⟩:=ho.shape;simp only[List.length_append,List.length_cons,List.length_nil,Nat.zero_add]at hv';subst hv';obtain⟨g0,g1⟩:=cell_of (hk2 sg hsz8d hsne) (so+k * 3);rw[s0d]at g0;rw[sfd]at g1;have HO:=hid ho;have HK:=hid hk2;have HW:=hid hv2;have HB2:=hid hb2;clear ho hb2 hk2 hv2))
         all_goals
          go_wp2_with fail
          obtain⟨N', C', hc1,hc2⟩:=HM8d.out.setPipe hlt F3.out (fun b hb hne=>HK.out b hb (by rw[←HPV8.out];exact Ne.symm hne)) HB2.out.size HO.out (fun q hq=>by rw[HPV8.out];exact HW.out q hq);go_meet
          case rel=>exact⟨_,N', C', hc1,hc2,HB2.out.setCell (p:=⟨sg,_,none⟩) hsb _⟩
        case rest=>
         obtain⟨w9,hw9⟩:∃W,W=wc:=⟨_,rfl⟩
         subst hw9;obtain⟨v9,N9,C9,hm9,hk9,hb9⟩:=hcut;obtain⟨V9,hV9⟩:∃V', V' = upd V8 (11+k) v9:=⟨_,rfl⟩
         rw[←hV9]at hm9 hk9;have e3:V9 3=.slice (some ⟨sg,so,none⟩) 4 sc':=by rw[hV9,zA0 _ _ (by omega)];exact F3.out
         clear s0 sf b0 b1 b2 lt0 hV9 s0d sfd;obtain⟨s0,s1,s2,sf⟩:=hm9.store e3 hlt;have sf2:=sf (so+k * 3+2);have HM9:=hid hm9;have HK9:=hid hk9;have HB9:=hid hb9;have E3:=hid e3;clear hm9 hk9 hb9 e3 s0 s1 sf
         go_upto_region 17 with fail
         obtain⟨N10,C10,hm10,hk10⟩:=HM9.out.setSlast hlt E3.out t;obtain⟨w10,hw10⟩:∃W,W=w9.setCell ⟨sg,so+k * 3+2,none⟩ (.int .i64 (t:Nat)):=⟨_,rfl⟩
         rw[←hw10]at hm10 hk10;rw[←hw10];have HB10:=hid (show Below base w9 w10 by rw[hw10];exact(Below.refl _ _).setCell (p:=⟨sg,_,none⟩) hsb _);have HKD:=hid (HKPA.out.trans (((Kp.below (S:=S) (Hb:=Hb) (V:=V8) (show Below w8.heap.size w8 w8.drew from(Below.refl _ _).drew)).trans HK9.out).trans hk10));have HU10:=hid (show UseB w10 (w.heap.size+1) y.used from(HKD.out _ HF2.out).1.trans HUB.out);have HD1:=hid (HKD.out _ HF1.out).2;have HD2:=hid (HKD.out _ HF2.out).2;have HC10:=hid (show BusB w10 w.heap.size ma mn mk lb lo lc pb po' pc' from(HKD.out _ HF1.out).1.trans HCB.out);have HM10:=hid hm10;clear hw10 hm10 hk10 s2 sf2;have u0:=(HU10.out.cells ht3).1;have u1:=(HU10.out.cells ht3).2
         go_upto_region 18 with fail
         obtain⟨w11,hw11⟩:∃W,W=w10.setCell ⟨w.heap.size+1,t,none⟩ (.bool true):=⟨_,rfl⟩
         rw[←hw11];have hm11:=HM10.out.usedPut HU10.out HD2.out t (.bool true);rw[←hw11]at hm11;have HU11:=hid (show UseB w11 (w.heap.size+1) (upd y.used t true) by rw[hw11];exact HU10.out.put ht3 true);have HK11:=hid (show Kp S Hb V0 w V9 w11 by rw[hw11];exact(HKP.out.trans HKD.out).old (Nat.le_succ _) _ _);have HC11:=hid (show BusB w11 w.heap.size ma mn mk lb lo lc pb po' pc' by rw[hw11];exact(Below.heap_setCell _ _ _ _ (show w.heap.size≠w.heap.size+1 by omega)).trans HC10.out);have HB11:=hid (show Below base w10 w11 by rw[hw11];exact(Below.refl _ _).setCell (p:=⟨w.heap.size+1,_,none⟩) (by show base≤w.heap.size+1;omega) _);have HS11:=hid (show w11.heap.size=w10.heap.size by rw[hw11];simp);have HM11:=hid hm11;obtain⟨h0,h1,h2,h3', h4,hf⟩:=hm11.hbox;have hl0:w11.cell? ⟨Hb,1+k,none⟩=some (letsV L y.lets k):=by
          rcases(show k=0∨k=1∨k=2∨k=3 by omega)with rfl|rfl|rfl|rfl <;> assumption
         have hf0:=hf (1+k);clear hw11 hm11 h0 h1 h2 h3' h4 hf u0 u1
         go_wp2_with fail
         have HFIN:=hid ((HM11.out.letPut hlt (.int .i64 1)).congr (st':=(letDo c k t n rest y).st) (ev':=ev) (by rw[HST8.out];simp only[letDo,upd_upd,zA1]) rfl);have HLV:=hid (show upd (letsV L y.lets) k (.int .i64 1)=letsV L (letDo c k t n rest y).lets from letsV_put ..);rw[HLV.out]at HFIN
         go_roundw
         case rel=>
          refine⟨k+1,by omega,by go_num,by rw[HY1.out,HIT.out];exact HG.out.lets hlt ht3 HQN.out hp HMH.out.symm,⟨V9,_,_,_,by rw[HY1.out,HIT.out];exact HFIN.out,HK11.out.trans (Kp.cell (.inr (.inl rfl)) _ _),⟨by simpa[HS11.out]using HD1.out.1,HD1.out.2⟩,⟨by simpa[HS11.out]using HD2.out.1,HD2.out.2⟩⟩,(Below.heap_setCell _ _ _ _ (Ne.symm (Ne.symm HD1.out.2.2.2))).trans HC11.out,by rw[HY1.out,HIT.out];exact(Below.heap_setCell _ _ _ _ HD2.out.2.2.2).trans HU11.out,?_⟩;exact(((hb38.trans ((Below.refl base w8).drew.trans HB9.out)).trans HB10.out).trans HB11.out).setCell (p:=⟨Hb,_,none⟩) HM11.out.h0 _
         case measure=>simp[intOf];omega
      ·have HQ:=hid (show letM c k y m=false by rw[letM_eq HT.out,←HUT.out];rfl)
       go_wp2_with fail
       go_roundw
       case rel => exact ⟨m + 1, by omega, by omega, by go_num, HBM.out, fun i h1 h2 => by
        by_cases e:i=m
        ·subst e;exact HQ.out
        ·exact HNO.out i h1 (by omega)⟩
       case measure=>simp[intOf];omega
     ·obtain rfl:m=4:=by omega
      have HMISS:=hid (let1_miss (c:=c) (s:=k) (y:=y) (fun j h1 h2=>HNO.out j h1 (by omega)));have HM1:=hid (HM.out.below HBM.out);have HK1:=hid (HKP.out.trans (Kp.below (S:=S) (Hb:=Hb) (V:=V) HBM.out));have hz:=HBM.out.size;have HF3:=hid ((Kp.below (S:=S) (Hb:=Hb) (V:=V) HBM.out _ HF1.out).2);have HF4:=hid ((Kp.below (S:=S) (Hb:=Hb) (V:=V) HBM.out _ HF2.out).2)
      go_wp2_with fail
      go_roundw
      case rel=>exact⟨k+1,by omega,by go_num,by rw[HY1.out,HMISS.out];exact HG.out,⟨V,N,C,D,by rw[HY1.out,HMISS.out];exact HM1.out,HK1.out,HF3.out,HF4.out⟩,HCB.out.below HBM.out HF1.out.1,by rw[HY1.out,HMISS.out];exact(HBM.out.block _ HF2.out.1).trans HUB.out,HBL.out.trans (HBM.out.mono (Nat.le_trans hsb (Nat.le_of_lt hsz)))⟩
      case measure=>simp[intOf];omega
   ·have hpd:decide (((y.st.slaves k).pipe.length:Int)<2)=false:=by simp;omega
    have HFULL:=hid (let1_full (c:=c) (s:=k) (y:=y) hp);clear hp
    go_wp2_with fail
    go_loopw [9] (fun i wd=>i=.int .i64 1∧wd=wr) (fun _ _=>0)
    case atStart=>exact⟨rfl,rfl⟩
    case round=>
     obtain⟨rfl,rfl⟩:=hrel
     go_wp2_with fail
     go_roundw
     case rel=>exact⟨k+1,by omega,by go_num,by rw[HY1.out,HFULL.out];exact HG.out,⟨V,N,C,D,by rw[HY1.out,HFULL.out];exact HM.out,HKP.out,HF1.out,HF2.out⟩,HCB.out,by rw[HY1.out,HFULL.out];exact HUB.out,HBL.out⟩
     case measure=>simp[intOf];omega
  ·obtain rfl:k=4:=by omega
   go_wp2_with fail
   exact bodyPost_end (v:=.tuple #[]) (by simp[results,Tryz.results116,go_sem]) rfl ⟨rfl,V,N,C,D,hm,HKP.out,HBL.out⟩
theorem wp_pushH {α : Type} {o : Oper} {a : Act} {K : Act → World → Prop} {Q : Exit → Act → World → Prop} {T e sz by_ : Nat} (E : Elem T e sz by_) (f : α → List Value) (hf : ∀ x, (f x).length = sz) (y : α) (h1 : ∀ u ∈ f y, u.oneCell' = true)
  (w:World) (s x:Operand) (ho:o.op=.call { callee:=.builtin .append,args:=#[s,x],argTypes:=#[T,T] })
  (base:Nat) (v:Value) (xs:List α) (hs:a.eval s=v) (hown:Owns w base e sz f v xs) (g c:Nat) (hx:a.eval x=.slice (some ⟨g,0,none⟩) 1 c) (hnews:∀j u,(f y)[j]? = some u→w.cell? ⟨g,j,none⟩=some u)
  (hlen:(xs.length+1) * by_≤140737488355328) (hlen2:xs.length+1≤9223372036854775807) (hbase:base≤w.heap.size)
  (h:∀v' w', Owns w' base e sz f v' (xs++[y])→(∀k,k<w.heap.size→v.ownBlock≠some k→w'.heap[k]? = w.heap[k]?)→w.heap.size≤w'.heap.size→Below base w w' → (∀k,v'.ownBlock=some k→v.ownBlock=some k∨w.heap.size≤k)→K (a.put o.dst v') w'):Oper.wp Tryz.prog o a w K Q:=by
 obtain⟨ht,i,z,hi,hz,hsize,hby,hzs,hsz⟩:=E;refine zG8 s x T ho base e i z sz by_ ht hi hz hsize hby hzs v xs.length (xs.flatMap f) hs hown ⟨g,0,none⟩ 1 c (f y) hx (by rw[hf];omega) ?_ h1 (by unfold maxLen;omega) hlen hbase ?_
 ·intro j u hj;rw[Addr.add_lit,Nat.zero_add];exact hnews j u hj
 ·intro v' w' ho' hg _ hb;refine h v' w' (by unfold Owns;simpa using ho') (fun k hk hne=>hg.block k hk (fun e=>hne e.symm)) hg.size ((Below.refl _ _).grown hg hbase (fun k hk=>(OwnR.lt hown k hk).1)) (fun k hk=>?_);rcases hb with hb|hb
  ·left;rw[←hb];exact hk
  ·right;rw[hb]at hk;simp at hk;omega
end Go.Proofs.YthnlalffjepdaaaGreat
namespace Go.Proofs.YthnlalffjepdaaaGreat
open Go.RowKit
set_option maxRecDepth 20000 in
theorem wp_lit5t {a : Act} {w : World} {K : Act → World → Prop} {Q : Exit → Act → World → Prop} (d : Option Nat) (ty : Nat) (pos : String) (aft : Array Edge) (t : Nat)
  {x0 x1 x2 x3 x4:Value} (hx:a.tmps.getD t undef=.agg #[x0,x1,x2,x3,x4]) (h1:(#[x0,x1,x2,x3,x4]:Array Value).all (·.oneCell')=true)
  (h:K (a.put d (.slice (some ⟨w.heap.size,0,none⟩) 1 1)) (w.alloc (.cells #[x0,x1,x2,x3,x4] 85))) :
  Oper.wp Tryz.prog { dst:=d,op:=.buildSlice 44 1 #[(0,.tmp t)],type:=ty,pos:=pos,after:=aft,guard:=none } a w K Q:=by
 obtain⟨tmps,defers⟩:=a;simp only[Array.getD_eq_getD_getElem?]at hx;go_simp;exact h
set_option maxRecDepth 20000 in
theorem wp_build5 {a : Act} {w : World} {K : Act → World → Prop} {Q : Exit → Act → World → Prop} (d : Option Nat) (ty : Nat) (pos : String) (aft : Array Edge) (t1 t2 t3 : Nat)
  {x0 x1:Int} {i c:Int} {va:Option Addr} {vn vc:Nat} (h1:a.tmps.getD t1 undef=.int .i64 x0) (h2:a.tmps.getD t2 undef=.int .i64 x1) (h3:a.tmps.getD t3 undef=.agg #[.int .i64 i,.int .i64 c,.slice va vn vc])
  (h:K (a.put d (.agg #[.int .i64 x0,.int .i64 x1,.int .i64 i,.int .i64 c,.slice va vn vc])) w) :
  Oper.wp Tryz.prog { dst:=d,op:=.build 85 #[(0,.tmp t1),(1,.tmp t2),(2,.tmp t3)],type:=ty,pos:=pos,after:=aft,guard:=none } a w K Q:=by
 obtain⟨tmps,defers⟩:=a;simp only[Array.getD_eq_getD_getElem?]at h1 h2 h3;go_simp;exact h
section
variable {w w1 w' : World} {base S Hb : Nat} {L : Nat → Value} {st : Cy} {ev : List Ev} {V : Nat → Value} {N : Nat → Nat} {C : Nat → List Value} {D : Nat → List TJV} {c : Cfg}
theorem CyM.atmAt2 (h:CyM w base S Hb L st ev V N C D) (hg:atmOk st.ws st.hs=true):∃gw ow cw gh oh ch,V 0=.slice (some ⟨gw,ow,none⟩) 64 cw∧V 1=.slice (some ⟨gh,oh,none⟩) 6 ch∧AtmAt w base S gw ow cw gh oh ch st.ws st.hs:=by
 have ha:=hg;simp only[atmOk,memOk,Bool.and_eq_true,beq_iff_eq]at ha;have hl:st.ws.length=64:=ha.1.1.1;have hh:st.hs.length=6:=ha.1.2;have o0:=h.raw.own 0 (by omega);have o1:=h.raw.own 1 (by omega);rw[h.con.n0,h.con.c0]at o0;rw[h.con.n1,h.con.c1]at o1;obtain⟨gw,ow,cw,e0,hcw,_,hb0,_⟩:=OwnR.addr o0 (by omega);obtain⟨gh,oh,ch,e1,hch,_,hb1,_⟩:=OwnR.addr o1 (by omega);rw[hl]at e0 hcw;rw[hh]at e1 hch;have g0:(V 0).ownBlock=some gw:=by rw[e0];rfl
 have g1:(V 1).ownBlock=some gh:=by rw[e1];rfl
 obtain⟨q0,q1,_⟩:=h.box;refine⟨gw,ow,cw,gh,oh,ch,e0,e1,?_⟩;refine⟨by rw[q0,e0],by rw[q1,e1],by have:=o0;rw[e0]at this;exact this,by have:=o1;rw[e1]at this;exact this,fun e=>h.raw.ap 0 1 (by omega) (by omega) (by omega) gw g0 (by rw[g1,e]),fun e=>h.fs 0 (by omega) (by rw[g0,e]),fun e=>h.fs 1 (by omega) (by rw[g1,e]),h.s0,hl,hh,hcw,hch⟩
def NX (V:Nat→Value) (s b:Nat):Prop:=(V 0).ownBlock≠some b∧(V 1).ownBlock≠some b∧(V (15+s)).ownBlock≠some b
theorem CyM.nxOld (h:CyM w base S Hb L st ev V N C D) {s b:Nat} (hs:s<4) (hb:b<base):NX V s b :=
 ⟨fun e=>by have:=(h.raw.lt (κ:=0) (by omega) e).1;omega,fun e=>by have:=(h.raw.lt (κ:=1) (by omega) e).1;omega,fun e=>by have:=(h.raw.lt (κ:=15+s) (by omega) e).1;omega⟩
theorem rspOk_data {x:Rs} (h:rspOk x=true):(∀y∈x.data,I64 y)∧x.data.length≤4:=by
 simp only[rspOk,Bool.and_eq_true,decide_eq_true_eq,List.all_eq_true]at h;exact⟨fun y hy=>by have:=h.2 y hy;simp only[zB3,inB,Bool.and_eq_true,decide_eq_true_eq]at this;unfold I64;omega,h.1.2⟩
end
end Go.Proofs.YthnlalffjepdaaaGreat
