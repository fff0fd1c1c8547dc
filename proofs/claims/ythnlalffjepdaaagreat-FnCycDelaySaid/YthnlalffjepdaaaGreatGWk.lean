/- A cycle: the stores do what they have to do. -/
import Derived.Test.YthnlalffjepdaaaGreatGLp
import Derived.Test.YthnlalffjepdaaaGreatGLib
set_option linter.unusedVariables false
set_option linter.unusedSimpArgs false
namespace Go.Proofs.YthnlalffjepdaaaGreat
open Go.RowKit
theorem work1_stall {c:Cfg} {inp:Inp} {s:Nat} {x:Cy×List Ev} (h:inp.stall.getD s false=true):work1 c inp s x=x:=by unfold work1;rw[if_pos h]
theorem work1_nil {c:Cfg} {inp:Inp} {s:Nat} {x:Cy×List Ev} (h:inp.stall.getD s false=false) (hp:(x.1.slaves s).pipe=[]):work1 c inp s x=x:=by unfold work1;rw[if_neg (by rw[h];simp),hp]
theorem work1_dec {c:Cfg} {inp:Inp} {s:Nat} {x:Cy×List Ev} {j:Jb} {rest:List Jb} (h:inp.stall.getD s false=false) (hp:(x.1.slaves s).pipe=j::rest) (hl:0<j.left):work1 c inp s x=(workDec s j rest x.1,x.2):=by unfold work1;rw[if_neg (by rw[h];simp),hp];simp only;rw[if_pos hl]
theorem work1_do {c:Cfg} {inp:Inp} {s:Nat} {x:Cy×List Ev} {j:Jb} {rest:List Jb} (h:inp.stall.getD s false=false) (hp:(x.1.slaves s).pipe=j::rest) (hl:¬0<j.left) (hd:(x.1.slaves s).done.length<2):work1 c inp s x=workDo c s j rest x:=by unfold work1;rw[if_neg (by rw[h];simp),hp];simp only;rw[if_neg hl,if_pos hd]
theorem work1_full {c:Cfg} {inp:Inp} {s:Nat} {x:Cy×List Ev} {j:Jb} {rest:List Jb} (h:inp.stall.getD s false=false) (hp:(x.1.slaves s).pipe=j::rest) (hl:¬0<j.left) (hd:¬(x.1.slaves s).done.length<2):work1 c inp s x=x:=by unfold work1;rw[if_neg (by rw[h];simp),hp];simp only;rw[if_neg hl,if_neg hd]
theorem work1_len (c:Cfg) (inp:Inp) (s:Nat) (x:Cy×List Ev):(work1 c inp s x).2.length≤x.2.length+1:=by
 unfold work1
 split
 ·omega
 ·split
  ·omega
  ·split
   ·show x.2.length≤_;omega
   ·split
    ·simp[workDo]
    ·omega
def JobB (w:World) (g:Nat) (j:Jb):Prop:=w.heap[g]? = some (.cells #[.int .i64 j.who,.int .i64 j.n,.int .i64 j.left] 75 (0,0))
theorem JobB.cells {w:World} {g:Nat} {j:Jb} (h:JobB w g j):w.cell? ⟨g,0,none⟩=some (.int .i64 j.who)∧w.cell? ⟨g,1,none⟩=some (.int .i64 j.n)∧w.cell? ⟨g,2,none⟩=some (.int .i64 j.left)∧g<w.heap.size:=by
 have:=heap_lt' h;unfold JobB at h;refine⟨?_,?_,?_,this⟩ <;> simp[World.cell?,h]
set_option maxRecDepth 8000 in
set_option maxHeartbeats 16000000 in
theorem work_any {c : Cfg} (hbus : Bus c) {w : World} {base S Hb : Nat} {L : Nat → Value} {st : Cy} {ev : List Ev} {V0 : Nat → Value} {N0 : Nat → Nat} {C0 : Nat → List Value} {D0 : Nat → List TJV} (hm : CyM w base S Hb L st ev V0 N0 C0 D0) (hg : Good c st) (hev : ev.length ≤ 500) {inp : Inp} {v u : Value} {B : Nat} (hc : BusV w B u c) (hin : InV w B v inp) (hB : B ≤ base) :
    Calls Tryz.prog 115 #[.pointer (some ⟨S,0,none⟩),u,v,.pointer (some ⟨Hb,0,none⟩)] w (PartP base S Hb L (workAll c inp (st,ev)) V0 w):=by
  obtain⟨⟨ra,rc,ta,tc,sa,sc,rfl,hr1,hr2,hr3⟩,hl1,hl2,hl3⟩:=hin;obtain⟨mv,lb,lo,lc,pb,po', pc', Q,K,rfl,⟨ma,mn,mk,rfl⟩,hms,hlb,hpb', hlat,hprog,hreq⟩:=hc.opened hbus;have HBO:=hid (show BusO w B c ma mn mk lb lo lc pb po' pc' Q K from⟨hms,hlb,hpb', hlat,hprog,hreq⟩);have HM:=hid hm;have HG0:=hid hg;have hS:=heap_lt' hm.bs;have hbw:base≤w.heap.size:=Nat.le_trans hm.s0 (Nat.le_of_lt (heap_lt' hm.bs));obtain⟨q0,q1,q2,q3,q4,qf⟩:=hm.box;obtain⟨sg,so,sc', hV3,hsc,hsc2,_,_⟩:=hm.stores;rw[hV3]at q3;have HR:=hid hr2;have HL3:=hid hl2;rw[hl2];clear hm hg hr1 hr2 hr3 hl1 hl2 hl3 hV3 qf q0 q1 q2 q4 hsc2 hsc hc hms hlat hprog hreq hlb
  go_enter Tryz.func115,Tryz.ntmps115
  go_wp2_with fail
  obtain⟨w0,hw0⟩:∃W,W=(w.alloc (.cells #[.slice ma mn mk,.slice (some ⟨lb,lo,none⟩) 4 lc,.slice (some ⟨pb,po', none⟩) 3 pc'] 27)).alloc (.cells #[.slice ra inp.ready.length rc,.slice ta 4 tc,.slice sa inp.send.length sc] 64):=⟨_,rfl⟩
  rw[←hw0];have hb0:Below w.heap.size w w0:=by rw[hw0];exact((Below.refl _ _).alloc (Nat.le_refl _) _).alloc (by simp) _
  have hz0:w0.heap.size=w.heap.size+2:=by rw[hw0];simp
  have HC0 := hid (show BusB w0 w.heap.size ma mn mk lb lo lc pb po' pc' by
    unfold BusB;rw[hw0,((Below.refl _ _).alloc (Nat.le_refl _) _).block _ (by simp)];exact alloc_at _ _ rfl)
  have HI0:=hid (show w0.heap[w.heap.size+1]? = some (.cells #[.slice ra inp.ready.length rc,.slice ta 4 tc,.slice sa inp.send.length sc] 64 (0,0)) by rw[hw0];exact alloc_at _ _ (by simp));have HFR:=hid (HM.out.fresh (w':=w0) (Nat.le_refl w.heap.size) (by omega));have HFR1:=hid (HM.out.fresh (w':=w0) (Nat.le_succ w.heap.size) (by omega));have HKB:=hid (Kp.below (S:=S) (Hb:=Hb) (V:=V0) hb0);have HM0:=hid (HM.out.below hb0);have HB0:=hid (hb0.mono hbw);have HR0:=hid HR.out;clear hw0 hb0 hz0 q3 HM HR hS
  go_loopw [16] (fun i wr=>∃k:Nat,k≤4∧i=.int .i64 k∧Good c (foldN (work1 c inp) k (st,ev)).1∧(foldN (work1 c inp) k (st,ev)).2.length≤ev.length+k∧(∃V N C D,CyM wr base S Hb L (foldN (work1 c inp) k (st,ev)).1 (foldN (work1 c inp) k (st,ev)).2 V N C D∧Kp S Hb V0 w0 V wr)∧Below base w wr) (fun i _=>4 - (intOf i).toNat)
  case atStart=>exact⟨0,by omega,by go_num,HG0.out,by simp[foldN],⟨_,_,_,_,HM0.out,Kp.refl _ _ _ _⟩,HB0.out⟩
  case round=>
    obtain⟨k,hk,rfl,hg,hlen,⟨V,N,C,D,hm,hkp⟩,hbl⟩:=hrel;have hib:=((hkp _ HFR1.out).1).trans HI0.out;have hcb:BusB wr w.heap.size ma mn mk lb lo lc pb po' pc':=((hkp _ HFR.out).1).trans HC0.out;have hdf:=(hkp _ HFR.out).2;have HKP:=hid hkp;clear hkp;by_cases hlt:k<4
    · have hlti : (k : Int) < 4 := by omega
      obtain⟨x,hx⟩:∃x,x=foldN (work1 c inp) k (st,ev):=⟨_,rfl⟩
      have HX1:=hid (show foldN (work1 c inp) (k+1) (st,ev)=work1 c inp k x by rw[hx];rfl);rw[←hx]at hg hlen hm;have hwl:=heap_lt' hib;obtain⟨i0,i1,i2⟩:wr.cell? ⟨w.heap.size+1,0,none⟩=some (.slice ra inp.ready.length rc)∧wr.cell? ⟨w.heap.size+1,1,none⟩=some (.slice ta 4 tc)∧wr.cell? ⟨w.heap.size+1,2,none⟩=some (.slice sa inp.send.length sc):=by refine⟨?_,?_,?_⟩ <;> simp[World.cell?,hib]
      have HM:=hid hm;have HG:=hid hg;have HBL:=hid hbl;have HLEN:=hid hlen;have HCB:=hid hcb;have HDF:=hid hdf;have hS:=heap_lt' hm.bs;obtain⟨q0,q1,q2,q3,q4,qf⟩:=hm.box;obtain⟨sg,so,sc', hV3,hsc,hsc2,hsb,hsz⟩:=hm.stores;have HV3:=hid hV3;rw[hV3]at q3;obtain⟨s0,s1,s2,sf⟩:=hm.store hV3 hlt;have HSF:=hid sf;obtain⟨da,dcp,hpv,hdcp,hdcp2⟩:=(hm.oPipe hlt).shape;rw[hpv]at s0;have HPV:=hid hpv;obtain⟨rb,ro,hra,hrb,hrc⟩:∃b off,ta=some ⟨b,off,none⟩∧b<B∧wr.cell? ⟨b,off+k,none⟩=some (.bool (inp.stall.getD k false)):=by
        obtain⟨ao,cp,eo,_,_,_,_,ho⟩:=HR0.out.opened;obtain⟨b,off,rfl,hb,hc⟩:=ho (by rw[HL3.out];omega);simp only[Value.slice.injEq]at eo;exact⟨b,off,eo.1,hb,(hbl.cell (p:=⟨b,_,none⟩) (Nat.lt_of_lt_of_le hb hB)).trans (hc k (by rw[HL3.out];exact hlt))⟩
      obtain⟨stl,hstl⟩:∃r,r=inp.stall.getD k false:=⟨_,rfl⟩
      rw[←hstl]at hrc;have HSTL:=hid hstl;subst hra;clear hm hg hib hcb hbl hlen hx hV3 hpv hstl HM0 HG0 hdf q0 q1 q2 q4 qf sf;rcases stl with _|_
      · rcases hpp : (x.1.slaves k).pipe with _ | ⟨j, rest⟩
        · have HNO := hid (work1_nil (c := c) HSTL.out.symm hpp)
          rw[hpp]at s0;have he:((([]:List Jb).length:Int)==0)=true:=rfl;clear hpp
          go_wp2_with fail
          go_roundw
          case rel=>exact⟨k+1,by omega,by go_num,by rw[HX1.out,HNO.out];exact HG.out,by rw[HX1.out,HNO.out];have:=HLEN.out;omega,⟨V,N,C,D,by rw[HX1.out,HNO.out];exact HM.out,HKP.out⟩,HBL.out⟩
          case measure=>simp[intOf];omega
        · have HPP := hid hpp
          rw[hpp]at s0;simp only[List.length_cons]at s0;have hown:=HM.out.oPipe hlt;rw[hpp]at hown;obtain⟨dg,dof,dcp', hvs,hdcp', hdcp2', hdgb,hdgz⟩:=OwnR.addr hown (by simp);rw[HPV.out,hpp]at hvs;simp only[Value.slice.injEq,List.length_cons]at hvs;obtain⟨rfl,_,rfl⟩:=hvs;rw[HPV.out,hpp]at hown;have c0:wr.cell? ⟨dg,dof,none⟩=some (.int .i64 (j.who:Nat)):=by have:=Owns.cellAt hown (fun _=>rfl) 0 0 j (by simp) (by omega);simpa[jbRow]using this
          have c1:wr.cell? ⟨dg,dof+1,none⟩=some (.int .i64 (j.n:Nat)):=by have:=Owns.cellAt hown (fun _=>rfl) 0 1 j (by simp) (by omega);simpa[jbRow]using this
          have c2:wr.cell? ⟨dg,dof+2,none⟩=some (.int .i64 (j.left:Nat)):=by have:=Owns.cellAt hown (fun _=>rfl) 0 2 j (by simp) (by omega);simpa[jbRow]using this
          have cf:wr.frozen? ⟨dg,dof+2,none⟩=false:=OwnR.unfrozen hown _;have hpe:(((rest.length+1:Nat):Int)==0)=false:=by simp;omega
          have hp0:(0:Int)<((rest.length+1:Nat):Int):=by omega
          have hp0n:0<rest.length+1:=by omega
          have hjk:=HG.out.key hlt (show(j.who,j.n)∈keysOf (x.1.slaves k) by rw[keysOf,hpp];simp);have hjn:=HG.out.keyN hlt (show(j.who,j.n)∈keysOf (x.1.slaves k) by rw[keysOf,hpp];simp);have hjl:j.left≤3:=Nat.le_trans ((HG.out.s k hlt).pl j rest hpp).1 (hbus.lt3 hlt);have HVS:=hid (show V (11+k)=.slice (some ⟨dg,dof,none⟩) (rest.length+1) dcp by rw[HPV.out,hpp];rfl);obtain⟨w1,hw1⟩:∃W,W=wr.alloc (.cells #[.int .i64 (j.who:Nat),.int .i64 (j.n:Nat),.int .i64 (j.left:Nat)] 75):=⟨_,rfl⟩
          have hb1:Below wr.heap.size wr w1:=by rw[hw1];exact(Below.refl _ _).alloc (Nat.le_refl _) _
          have hz1:w1.heap.size=wr.heap.size+1:=by rw[hw1];simp
          have hj1:JobB w1 wr.heap.size j:=by unfold JobB;rw[hw1];exact alloc_at _ _ rfl
          have HJ1:=hid hj1;have HM1:=hid (HM.out.below hb1);have s0':=(hb1.cell (p:=⟨sg,so+k * 3,none⟩) hsz).trans s0;have s1':=(hb1.cell (p:=⟨sg,so+k * 3+1,none⟩) hsz).trans s1;have sf':∀o,w1.frozen? ⟨sg,o,none⟩=false:=fun o=>(hb1.frozen (p:=⟨sg,o,none⟩) hsz).trans (HSF.out o)
          have c2':=(hb1.cell (p:=⟨dg,dof+2,none⟩) hdgz).trans c2;have cf':=(hb1.frozen (p:=⟨dg,dof+2,none⟩) hdgz).trans cf;have HB1:=hid (show Below base wr w1 from hb1.mono (Nat.le_trans hsb (Nat.le_of_lt hsz)));have HK1:=hid (HKP.out.trans (Kp.below (S:=S) (Hb:=Hb) (V:=V) hb1));have hsz1:sg<w1.heap.size:=by omega
          have HD0:=hid (Kp.below (S:=S) (Hb:=Hb) (V:=V) hb1 _ HDF.out);have HF1j:=hid (HM.out.fresh (w':=w1) (Nat.le_refl wr.heap.size) (by omega));obtain⟨b0,b1,b2,hcbz⟩:=HCB.out.cells;have b0':=(hb1.cell (p:=⟨w.heap.size,0,none⟩) hcbz).trans b0;have b2':=(hb1.cell (p:=⟨w.heap.size,2,none⟩) hcbz).trans b2;obtain⟨j0,j1,j2,hjz⟩:=hj1.cells;have HSF1:=hid sf';clear hpp hown;by_cases hl:0<j.left
          · have hli : (0 : Int) < (j.left : Int) := by omega
            have HDEC:=hid (work1_dec (c:=c) HSTL.out.symm HPP.out hl);have hsub:((j.left:Int) - 1)=((j.left - 1:Nat):Int):=by omega
            obtain⟨N', C', hm2,hk2⟩:=HM1.out.setLeft hlt HVS.out HPP.out (j.left - 1);rw[←hsub]at hm2 hk2;have HM2:=hid hm2;have HK2:=hid hk2;clear hm2 hk2 hsub sf' b0 b1 b2 b0' b2' hj1
            go_upto_if 44 with fail
            rw[←hw1];clear hw1
            go_wp2_with fail
            go_roundw
            case rel=>exact⟨k+1,by omega,by go_num,by rw[HX1.out,HDEC.out];exact HG.out.dec hlt HPP.out,by rw[HX1.out,HDEC.out];have:=HLEN.out;show x.2.length≤_;omega,⟨V,N', C', D,by rw[HX1.out,HDEC.out];exact HM2.out,HK1.out.trans HK2.out⟩,(HBL.out.trans HB1.out).setCell (p:=⟨dg,_,none⟩) hdgb _⟩
            case measure=>simp[intOf];omega
          · have hlf : decide ((0 : Int) < (j.left : Int)) = false := by simp; omega
            have hlf2:decide (0<j.left)=false:=by simp;omega
            obtain⟨dda,ddc,hdv,_,_⟩:=(HM1.out.oDone hlt).shape;have hdl:=HM1.out.lDone hlt;rw[hdl]at hdv;rw[hdv]at s1';have HDV:=hid hdv;by_cases hd:(x.1.slaves k).done.length<2
            · have hdi : ((x.1.slaves k).done.length : Int) < 2 := by omega
              have HDO:=hid (work1_do (c:=c) HSTL.out.symm HPP.out hl hd);obtain⟨A1,hA1⟩:=pop_addr dg dof 3 dcp;have hyl:1≤rest.length+1:=by omega
              obtain⟨N2,C2,hm2,hk2⟩:=HM1.out.popPipe hlt HV3.out HPP.out HVS.out hA1;have sf0:=sf' (so+k * 3);clear sf' b0 b1 b2 hj1 hdv hdl
              go_upto_if 44 with fail
              rw[←hw1];clear hw1 s0 s1 c0 c1 c2 c2' cf'
              go_upto_region 11 with fail
              obtain⟨v2,hv2⟩:∃v,v=Value.slice (some A1) rest.length (dcp - 1):=⟨_,rfl⟩
              obtain⟨w2,hw2⟩:∃W,W=w1.setCell ⟨sg,so+k * 3,none⟩ (.slice (some A1) rest.length (dcp - 1)):=⟨_,rfl⟩
              rw[←hw2]at hm2 hk2;rw[←hw2];rw[←hv2]at hm2 hk2;obtain⟨V2,hV2⟩:∃V', V' = upd V (11+k) v2:=⟨_,rfl⟩
              rw[←hV2]at hm2 hk2;have HM2:=hid hm2;have HK2:=hid hk2;have e3:V2 3=.slice (some ⟨sg,so,none⟩) 4 sc':=by rw[hV2,upd_other _ _ (by omega)];exact HV3.out
              have ed:V2 (15+k)=.slice dda (x.1.slaves k).done.length ddc:=by rw[hV2,upd_other _ _ (by omega)];exact HDV.out
              have hz2:w2.heap.size=w1.heap.size:=by rw[hw2];simp
              have hb2:Below base w1 w2:=by rw[hw2];exact(Below.refl _ _).setCell (p:=⟨sg,_,none⟩) hsb _
              have E3:=hid e3;have ED:=hid ed;have HB2:=hid hb2;have HW2:=hid (show Below base w w2 from(HBL.out.trans HB1.out).trans hb2);clear s0' s1' sf0 b0' b2' j0 j1 j2 hm2 hk2 e3 ed hb2 hw2 hv2 hV2 hA1;obtain⟨s0,s1,s2,sf⟩:=HM2.out.store E3.out hlt;rw[ED.out]at s1;have hj2:JobB w2 wr.heap.size j:=((HK2.out _ HF1j.out).1).trans HJ1.out;have HJ2:=hid hj2;have hc2b:BusB w2 w.heap.size ma mn mk lb lo lc pb po' pc':=((HK2.out _ HD0.out.2).1).trans (HD0.out.1.trans HCB.out);have HC2:=hid hc2b;obtain⟨b0,b1,b2,hcb2⟩:=hc2b.cells;obtain⟨j0,j1,j2,hjz2⟩:=hj2.cells;have hO2:BusO w2 B c ma mn mk lb lo lc pb po' pc' Q K:=HBO.out.below (HW2.out.mono hB);obtain⟨qb,qo,rda,rdc,rla,rlc,hQ,hqb,hRq,r0,r1,r2,r3,r4,r5,r6⟩:=hO2.at hjk.1 hjn;have hpw:=hO2.prog j.who hjk.1;rw[hQ]at hpw;obtain⟨st2,hst2⟩:∃s2:Cy,s2={ x.1 with slaves:=upd x.1.slaves k { x.1.slaves k with pipe:=rest } }:=⟨_,rfl⟩
              have HM2b:Hid (CyM w2 base S Hb L st2 x.2 V2 N2 C2 D):=hid (by rw[hst2];exact HM2.out);have hdl2:(st2.slaves k).done.length<2:=by rw[hst2];simp only[upd_same];exact hd
              have hat2:atmOk st2.ws st2.hs=true:=by rw[hst2];exact HG.out.atm
              obtain⟨ws1,hws1⟩:∃a,a=(doReq c.ms st2.ws st2.hs j.who (c.req j.who j.n)).1:=⟨_,rfl⟩
              obtain⟨hs1,hhs1⟩:∃a,a=(doReq c.ms st2.ws st2.hs j.who (c.req j.who j.n)).2.1:=⟨_,rfl⟩
              obtain⟨y,hy⟩:∃a,a=(doReq c.ms st2.ws st2.hs j.who (c.req j.who j.n)).2.2:=⟨_,rfl⟩
              have EQ:=hid (show(doReq c.ms st2.ws st2.hs j.who (c.req j.who j.n)).1=ws1∧(doReq c.ms st2.ws st2.hs j.who (c.req j.who j.n)).2.1=hs1∧(doReq c.ms st2.ws st2.hs j.who (c.req j.who j.n)).2.2=y from⟨hws1.symm,hhs1.symm,hy.symm⟩);have hrq:=hbus.req hjk.1 hjn;have hwbi:inB (j.who:Int) 0 2=true:=by have:=hjk.1;simp[inB];omega
              have hrs:rspOk y=true:=by
                have hrsp:=(rsp_law (okk_parts.2 ⟨hbus.ms,hat2,hwbi,hrq⟩)).1;rw[atmDo_yes (okk_parts.2 ⟨hbus.ms,hat2,hwbi,hrq⟩),←hy]at hrsp;exact hrsp
              obtain⟨hx6,hx4⟩:=rspOk_data hrs;have hww:st2.ws.all wordOk=true:=by simp only[atmOk,memOk,Bool.and_eq_true]at hat2;exact hat2.1.1.2
              have HST2:=hid hst2;clear hws1 hhs1 hy hst2
              go_cut [] from 73 to 104 (fun wd=>∃v N3 C3 dv,CyM wd base S Hb L { st2 with ws:=ws1,hs:=hs1,slaves:=upd st2.slaves k { st2.slaves k with done:=(D (15+k)++[((⟨j.who,j.n,y⟩:TJ),dv)]).map (·.1) } } x.2 (upd V2 (15+k) v) N3 C3 (upd D (15+k) (D (15+k)++[((⟨j.who,j.n,y⟩:TJ),dv)]))∧Kp S Hb V2 w2 (upd V2 (15+k) v) wd∧Below base w2 wd)
              case first=>
                rename_i J K' hJ hK;have hDj:=(HK2.out _ HF1j.out).2;have hDc:=(HK2.out _ HD0.out.2).2;have hbd:Below w2.heap.size w2 w2.drew:=(Below.refl _ _).drew;obtain⟨CC,hCC⟩:∃CC,CC=wkC w2 base S Hb L st2 x.2 V2 N2 C2 D k j.who j.n ws1 hs1 y:=⟨_,rfl⟩
                have hbw2:base≤w2.heap.size:=by omega
                have hC0:CC [] w2.drew:=by rw[hCC];exact⟨HM2b.out.below hbd,Kp.below hbd,(Below.refl _ _).drew⟩
                have hne:Nonempty (Ph CC):=⟨⟨([],w2.drew),hC0⟩⟩
                have hne3:Nonempty (Ph (lims CC (some 3))):=⟨⟨([],w2.drew),hC0,by simp⟩⟩
                have hCW:∀us W,CC us W→wkC w2 base S Hb L st2 x.2 V2 N2 C2 D k j.who j.n ws1 hs1 y us W:=by rw[hCC];exact fun _ _ h=>h
                have pc:∀{b o:Nat} {v:Value},DFree V2 S Hb w2 b∨b<base→w2.cell? ⟨b,o,none⟩=some v→∀z:Ph CC,z.1.2.cell? ⟨b,o,none⟩=some v:=fun hb hc z=>wkC.cell (hCW _ _ z.2) hlt hb hc
                have hpb:=Nat.lt_of_lt_of_le hO2.hpb hB;have hqb2:=Nat.lt_of_lt_of_le hqb hB;have cj0:=pc (.inl hDj) j0;have cj1:=pc (.inl hDj) j1;have cb0:=pc (.inl hDc) b0;have cb2:=pc (.inl hDc) b2;have cp:=pc (.inr hpb) hpw;have cr0:=pc (.inr hqb2) r0;have cr1:=pc (.inr hqb2) r1;have cr2:=pc (.inr hqb2) r2;have cr3:=pc (.inr hqb2) r3;have cr4:=pc (.inr hqb2) r4;have cr5:=pc (.inr hqb2) r5;have cr6:=pc (.inr hqb2) r6;have cd:∀z:Ph (lims CC (some 3)),z.1.2.cell? ⟨sg,so+k * 3+1,none⟩=some (.slice dda (x.1.slaves k).done.length ddc):=fun z=>by rw[←ED.out];exact wkC.row (hCW _ _ z.2.1) z.2.2 hlt E3.out
                have hj3:(j.who:Int)<3:=by have:=hjk.1;omega
                have hjn2:(j.n:Int)<((c.prog j.who).length:Int):=by omega
                have HCC:=hid hCC;have HDL2:=hid hdl2;have HX6:=hid hx6;have HX4:=hid hx4;have HBW2:=hid hbw2;have HRQ:=hid hRq;have HHRQ:=hid hrq;have HWW:=hid hww;have HAT2:=hid hat2;have HWBI:=hid hwbi;have HO2:=hid hO2;have HHSB:=hid hsb;clear hCC hCW pc hDj hDc hbd hdl2 hx6 hx4 hbw2 hRq hrq hww hat2 hwbi hO2 j0 j1 j2 b0 b1 b2 hpw r0 r1 r2 r3 r4 r5 r6 s0 s1 s2;refine wp_region_flow CC [(26,false),(27,false),(28,false),(29,false),(32,false)] [(4,3)] (by kernel_rfl) (by kernel_rfl) hC0 ?_
                repeat (
                  (with_reducible refine wq1_q ⟨rfl,rfl⟩ (fun K hK=>?_))
                  go_simp
                  first
                    |((with_reducible refine hK _ ?_);clear hK K)
                    |((with_reducible refine of_ite_neg (by simp[undef]) (hK _ ?_));clear hK K)
                    | (apply Exists.intro
                       (with_reducible refine⟨fun _=>?_,hK _ ?_⟩)
                       (fail)
                       clear hK K))
                refine wq1_b ⟨rfl,rfl⟩ (fun KA hKA=>?_);go_simp;refine hKA _ ?_;clear hKA KA
                repeat (
                  (with_reducible refine wq1_q ⟨rfl,rfl⟩ (fun K hK=>?_))
                  go_simp
                  first
                    |((with_reducible refine hK _ ?_);clear hK K)
                    |((with_reducible refine of_ite_neg (by simp[undef]) (hK _ ?_));clear hK K)
                    | (apply Exists.intro
                       (with_reducible refine⟨fun _=>?_,hK _ ?_⟩)
                       (fail)
                       clear hK K))
                iterate 4 refine wq1_v rfl ?_
                repeat (
                  (with_reducible refine wq1_q ⟨rfl,rfl⟩ (fun K hK=>?_))
                  go_simp
                  first
                    |((with_reducible refine hK _ ?_);clear hK K)
                    |((with_reducible refine of_ite_neg (by simp[undef]) (hK _ ?_));clear hK K)
                    | (apply Exists.intro
                       (with_reducible refine⟨fun _=>?_,hK _ ?_⟩)
                       (fail)
                       clear hK K))
                refine wq1_v rfl ?_;refine wq1_nil ?_;clear cj0 cj1 cb0 cb2 cp cr0 cr1 cr2 cr3 cr4 cr5 cr6 cd hne hne3;refine wq2_v _ rfl rfl ?_ ?_
                · intro W hW KA hKA
                  rw[HCC.out]at hW hKA;obtain⟨hm,hkp,hbl⟩:=hW;obtain⟨gw,ow,cw,gh,oh,ch,e0,e1,hAt⟩:=hm.atmAt2 HAT2.out;go_simp
                  (with_reducible refine(do_any _ _ c.ms base S gw ow cw gh oh ch st2.ws st2.hs j.who (c.req j.who j.n) W ((HO2.out.ms.below (hbl.mono hB)).mono hB) hAt ((HRQ.out.below (hbl.mono hB)).mono hB) HWBI.out HHRQ.out HWW.out).mono ?_)
                  rw[EQ.out.1,EQ.out.2.1,EQ.out.2.2];rintro e w'' ⟨dv,rfl,od,hAt', ht2⟩;obtain⟨xa,xk,rfl,_,_⟩:=od.shape;have hk2:∀b,b<W.heap.size→(V2 0).ownBlock≠some b→(V2 1).ownBlock≠some b→w''.heap[b]? = W.heap[b]?:=fun b hb h0 h1=>ht2.block b hb (fun e=>h0 (by rw[e0,e];rfl)) (fun e=>h1 (by rw[e1,e];rfl))
                  have hcy:=hm.atm hk2 ht2.size (by rw[e0];exact hAt'.ww) (by rw[e1];exact hAt'.hh);have hb1:Below base W w'':=⟨ht2.os,ht2.tape,ht2.output,ht2.size,fun b hb=>hk2 b (by have:=hm.s0;have:=heap_lt' hm.bs;omega) (hm.nxOld hlt hb).1 (hm.nxOld hlt hb).2.1⟩
                  have hid2:DatP L w'' (DFree V2 S Hb w'') ((⟨j.who,j.n,y⟩:TJ),Value.slice xa y.data.length xk):=⟨od.intsD (P:=DFree V2 S Hb w'') (fun k hk=>hm.fresh (OwnR.lt od k hk).1 (OwnR.lt od k hk).2) (by have:=HX4.out;omega) HX6.out,fun _ i hi b hb hb2=>by have h1:=hm.lx i hi b hb;have h2:=(OwnR.lt od b hb2).1;omega⟩
                  have hkp2:Kp S Hb V2 W V2 w'':=fun b hb=>⟨hk2 b hb.1 (hb.2.1 0 (by omega)) (hb.2.1 1 (by omega)),Nat.lt_of_lt_of_le hb.1 ht2.size,hb.2⟩
                  go_simp;exact hKA _ _ _ (wkC.p1.2 ⟨_,_,_,rfl,_,_,hcy,hid2,hkp.trans hkp2,hbl.trans hb1⟩) rfl
                intro v0 KA hKA;go_simp;refine hKA _ ?_;clear hKA KA;refine wq2_v _ rfl rfl ?_ ?_
                · intro W hW KA hKA
                  rw[HCC.out]at hW hKA;obtain⟨xa,xk,xm,rfl,hD⟩:=wkC.p1.1 hW;refine wp_build5 _ _ _ _ _ _ _ (x0:=(j.who:Nat)) (x1:=(j.n:Nat)) (i:=y.id) (c:=y.code) (va:=xa) (vn:=xk) (vc:=xm) rfl rfl rfl ?_;exact hKA _ _ _ (wkC.p2.2 ⟨_,_,_,rfl,hD⟩) rfl
                intro v1 KA hKA;go_simp;refine hKA _ ?_;clear hKA KA;refine wq2_v _ rfl rfl ?_ ?_
                · intro W hW KA hKA
                  rw[HCC.out]at hW hKA;obtain⟨xa,xk,xm,rfl,N5,C5,hm,hdt,hkp,hbl⟩:=wkC.p2.1 hW;have hb1:Below W.heap.size W (W.alloc (.cells #[.int .i64 (j.who:Nat),.int .i64 (j.n:Nat),.int .i64 y.id,.int .i64 y.code,.slice xa xk xm] 85)):=(Below.refl _ _).alloc (Nat.le_refl _) _;refine wp_lit5t _ _ _ _ _ (x0:=.int .i64 (j.who:Nat)) (x1:=.int .i64 (j.n:Nat)) (x2:=.int .i64 y.id) (x3:=.int .i64 y.code) (x4:=.slice xa xk xm) rfl (by simp[Value.oneCell']) ?_;exact hKA _ _ _ (wkC.p3.2 ⟨xa,xk,xm,⟨_,_,hm.below hb1,(hdt.kept fun b hb=>hb1.block b hb.1).weak fun b hb=>⟨Nat.lt_of_lt_of_le hb.1 hb1.size,hb.2⟩,hkp.trans (Kp.below hb1),hbl.trans (hb1.mono (Nat.le_trans HBW2.out hbl.size))⟩,_,rfl,fun j u hj=>by rw[World.cell?_alloc_at _ _ _ _ rfl,←hj];simp[tjRow]⟩) rfl
                intro v2 KA hKA;go_simp;refine hKA _ ?_;clear hKA KA;refine wq2_v _ rfl rfl ?_ ?_
                · intro W hW KA hKA
                  rw[HCC.out]at hW hKA;obtain⟨xa,xk,xm,⟨N5,C5,hm,hdt,hkp,hbl⟩,g2,rfl,hn2⟩:=wkC.p3.1 hW;have hOD:=hm.oDone hlt;rw[ED.out]at hOD;have hDl:=hm.lDone hlt;have hdd:=HDL2.out;refine wp_pushH elem_tj tjRow (fun _=>rfl) ((⟨j.who,j.n,y⟩:TJ),Value.slice xa xk xm) (tjRow_one _ ⟨_,_,_,rfl⟩) W _ _ rfl base _ (D (15+k)) rfl hOD g2 1 rfl hn2 (by rw[hDl];simp;omega) (by rw[hDl];simp;omega) (Nat.le_trans HBW2.out hbl.size) ?_;intro v' w'' o1 hk hz hb hv;have hk':∀b,b<W.heap.size→(V2 (15+k)).ownBlock≠some b→w''.heap[b]? = W.heap[b]?:=fun b hb hn=>hk b hb (by rw[←ED.out];exact hn)
                  exact hKA _ _ _ (wkC.p4.2 ⟨W,_,⟨_,_,hm,hdt,hkp,hbl⟩,o1,hk', hz,fun k2 hk2=>by rw[ED.out];exact hv k2 hk2,hbl.trans hb⟩) rfl
                intro v3 KA hKA;go_simp;refine hKA _ ?_;clear hKA KA;refine wq2_v _ rfl rfl ?_ ?_
                · intro W hW KA hKA
                  rw[HCC.out]at hW hKA;obtain⟨w1,dv,⟨N5,C5,hm,hdt,hkp,hbl⟩,o1,hk,hz,hv,hbl2⟩:=wkC.p4.1 hW;obtain⟨_,q1,_,qf⟩:=hm.store E3.out hlt;have hgo:(V2 3).ownBlock=some sg:=by rw[E3.out];rfl
                  have hnn:(V2 (15+k)).ownBlock≠some sg:=fun e=>hm.raw.ap (15+k) 3 (by omega) (by omega) (by omega) sg e hgo
                  have hsl:=(hm.raw.lt (κ:=3) (by omega) hgo).2;have hkk:=hk sg hsl hnn;have q:W.cell? ⟨sg,so+k * 3+1,none⟩=some (V2 (15+k)):=by rw[←q1];simp only[World.cell?,hkk]
                  have q2:W.frozen? ⟨sg,so+k * 3+1,none⟩=false:=by rw[←qf (so+k * 3+1)];simp only[World.frozen?,hkk]
                  rw[ED.out]at q
                  obtain ⟨N6, C6, h4, h5⟩ := hm.setDone hlt E3.out hk hz o1 hv (fun z hz2 => by
                    rcases List.mem_append.1 hz2 with hz2|hz2
                    · exact hm.old (by omega) (by omega) hk hz hv hz2
                    · obtain rfl := List.mem_singleton.1 hz2
                      exact(hdt.kept fun b hb=>hk b hb.1 (hb.2.1 (15+k) (by omega))).weak fun b hb=>⟨Nat.lt_of_lt_of_le hb.1 hz,hb.2.1.chg (w:=w1) hb.1 hv (by omega),hb.2.2⟩)
                  obtain⟨ua,uk,eu,_,_⟩:=o1.shape;rw[List.length_append,List.length_singleton]at eu;subst eu;have H4:=hid h4;have H5:=hid (hkp.trans h5);have HB9:=hid hbl2;have HFK:=hid hK;have HHJ:=hid hJ;clear hm hdt hkp hbl o1 hk hz hv hbl2 h4 h5;go_simp;exact hKA undef _ _ (wkC.p5.2 ⟨_,_,_,_,H4.out,H5.out,HB9.out.setCell HHSB.out _⟩) rfl
                intro v4 KA hKA;go_simp;refine hKA _ ?_;clear hKA KA;refine wq2_nil ?_;intro wd hwd;rw[HCC.out]at hwd;exact hK _ _ (Met.intro (hJ _ _ ⟨_,_,_,_,_,_,_,_,_,_,_,_,_,_,_,_,_,_,_,_,_,_,_,_,_,_,_,_,_,_,_,_,wkC.p5.1 hwd,rfl⟩))
              case rest=>
                obtain⟨w3,hw3⟩:∃W,W=wc:=⟨_,rfl⟩
                subst hw3;obtain⟨v3,N3,C3,dv3,hm3,hk3,hb3⟩:=hcut;have HM3:=hid hm3;have HK3:=hid hk3;have HB3:=hid hb3;have hj3:JobB w3 wr.heap.size j:=((HK3.out _ (HK2.out _ HF1j.out).2).1).trans HJ2.out;have HC3:=hid (show BusB w3 w.heap.size ma mn mk lb lo lc pb po' pc' from((HK3.out _ ((HK2.out _ HD0.out.2).2)).1).trans HC2.out);have HEV:=hid (show x.2.length≤100000 by have:=HLEN.out;omega);clear hm3 hk3 hb3 s0 s1 s2 sf b0 b1 b2 j0 j1 j2 r0 r1 r2 r3 r4 r5 r6 hpw hj2 hc2b;obtain⟨j0,j1,j2,hjz3⟩:=hj3.cells;have HTD:=hid (HM2b.out.con.td k hlt)
                have HFIN := hid (show ({ st2 with ws := ws1, hs := hs1, slaves := upd st2.slaves k { st2.slaves k with done := (D (15 + k) ++ [((⟨j.who, j.n, y⟩ : TJ), dv3)]).map (fun z : TJV => z.1) } } : Cy) = (workDo c k j rest x).1 by
                  rw[List.map_append,HTD.out,HST2.out];have e:=EQ.out;rw[HST2.out]at e;simp only[workDo,upd_upd,upd_same,e.1,e.2.1,e.2.2,List.map_cons,List.map_nil])
                clear hj3
                go_wp2_with (first
                  |(go_at_call 163;(with_reducible refine(add_do j.who j.n HM3.out HEV.out).mono ?_);rintro e w4 ⟨rfl,v4,N4,C4,hm4,hb4,hz4,hk4⟩;have HM4:=hid hm4;have HB4:=hid hb4;have HK4:=hid hk4;clear hm4 hb4 hz4 hk4))
                have HEND:=hid (HM4.out.congr (st':=(workDo c k j rest x).1) (ev':=(workDo c k j rest x).2) HFIN.out rfl)
                go_roundw
                case rel=>exact⟨k+1,by omega,by go_num,by rw[HX1.out,HDO.out];exact HG.out.work hbus hlt HPP.out hd,by rw[HX1.out,HDO.out];have:=HLEN.out;simp[workDo];omega,⟨_,_,_,_,by rw[HX1.out,HDO.out];exact HEND.out,((HK1.out.trans HK2.out).trans HK3.out).trans HK4.out⟩,(HW2.out.trans HB3.out).trans HB4.out⟩
                case measure=>simp[intOf];omega
            · have hdi : decide (((x.1.slaves k).done.length : Int) < 2) = false := by simp; omega
              have HFULL:=hid (work1_full (c:=c) HSTL.out.symm HPP.out hl hd);clear hd sf' b0 b1 b2 b0' b2' hj1 hdv hdl
              go_upto_if 44 with fail
              rw[←hw1];clear hw1
              go_wp2_with fail
              go_roundw
              case rel=>exact⟨k+1,by omega,by go_num,by rw[HX1.out,HFULL.out];exact HG.out,by rw[HX1.out,HFULL.out];have:=HLEN.out;omega,⟨V,N,C,D,by rw[HX1.out,HFULL.out];exact HM1.out,HK1.out⟩,HBL.out.trans HB1.out⟩
              case measure=>simp[intOf];omega
      · have HNO := hid (work1_stall (c := c) (x := x) HSTL.out.symm)
        go_wp2_with fail
        go_roundw
        case rel=>exact⟨k+1,by omega,by go_num,by rw[HX1.out,HNO.out];exact HG.out,by rw[HX1.out,HNO.out];have:=HLEN.out;omega,⟨V,N,C,D,by rw[HX1.out,HNO.out];exact HM.out,HKP.out⟩,HBL.out⟩
        case measure=>simp[intOf];omega
    · obtain rfl : k = 4 := by omega
      go_wp2_with fail
      exact bodyPost_end (v:=.tuple #[]) (by simp[results,Tryz.results115,go_sem]) rfl ⟨rfl,V,N,C,D,hm,HKB.out.trans HKP.out,hbl⟩
end Go.Proofs.YthnlalffjepdaaaGreat
