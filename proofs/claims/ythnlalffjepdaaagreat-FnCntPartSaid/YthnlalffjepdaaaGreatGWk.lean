/- AtmNew of the program, and of the reference with its words. -/
import Derived.Test.YthnlalffjepdaaaGreatGFl
import Derived.Test.YthnlalffjepdaaaGreatGDo4
import Derived.Test.YthnlalffjepdaaaGreatGClInt
import Derived.Test.YthnlalffjepdaaaGreatGTl
import Derived.Test.YthnlalffjepdaaaGreatGE1
import Derived.Test.YthnlalffjepdaaaGreatGDr2
import Derived.Test.YthnlalffjepdaaaGreatGMt
import Derived.Test.YthnlalffjepdaaaGreatGMs
import Derived.Deep.MidRow
import Derived.Laws.CopyOwn
import Derived.Deep.OwnRows
import Derived.StillTailTactics
import Derived.Deep.Cut
import Derived.Deep.CutRange
set_option linter.unusedVariables false
set_option linter.unusedSimpArgs false
set_option maxHeartbeats 16000000
namespace Go.Proofs.YthnlalffjepdaaaGreat
open Go.RowKit
theorem work1_stall {c:Cfg} {inp:Inp} {s:Nat} {x:Cy×List Ev} (h:inp.stall.getD s false=true):work1 c inp s x=x:=by unfold work1;rw[if_pos h]
theorem work1_nil {c:Cfg} {inp:Inp} {s:Nat} {x:Cy×List Ev} (h:inp.stall.getD s false=false) (hp:(x.1.slaves s).pipe=[]):work1 c inp s x=x:=by unfold work1;rw[if_neg (by rw[h];simp),hp]
theorem work1_dec {c:Cfg} {inp:Inp} {s:Nat} {x:Cy×List Ev} {j:Jb} {rest:List Jb} (h:inp.stall.getD s false=false) (hp:(x.1.slaves s).pipe=j::rest) (hl:0<j.left):work1 c inp s x=(zI0 s j rest x.1,x.2):=by unfold work1;rw[if_neg (by rw[h];simp),hp];simp only;rw[if_pos hl]
theorem work1_do {c:Cfg} {inp:Inp} {s:Nat} {x:Cy×List Ev} {j:Jb} {rest:List Jb} (h:inp.stall.getD s false=false) (hp:(x.1.slaves s).pipe=j::rest) (hl:¬0<j.left) (hd:(x.1.slaves s).done.length<2):work1 c inp s x=zE8 c s j rest x:=by unfold work1;rw[if_neg (by rw[h];simp),hp];simp only;rw[if_neg hl,if_pos hd]
theorem work1_full {c:Cfg} {inp:Inp} {s:Nat} {x:Cy×List Ev} {j:Jb} {rest:List Jb} (h:inp.stall.getD s false=false) (hp:(x.1.slaves s).pipe=j::rest) (hl:¬0<j.left) (hd:¬(x.1.slaves s).done.length<2):work1 c inp s x=x:=by unfold work1;rw[if_neg (by rw[h];simp),hp];simp only;rw[if_neg hl,if_neg hd]
theorem work1_len (c:Cfg) (inp:Inp) (s:Nat) (x:Cy×List Ev):(work1 c inp s x).2.length≤x.2.length+1:=by
 unfold work1
 split
 ·omega
 ·split
  ·omega
  ·split
   ·show x.2.length≤_;omega
   ·split
    ·simp[zE8]
    ·omega
def JobB (w:World) (g:Nat) (j:Jb):Prop:=w.heap[g]? = some (.cells #[.int .i64 j.who,.int .i64 j.n,.int .i64 j.left] 75 (0,0))
theorem JobB.cells {w:World} {g:Nat} {j:Jb} (h:JobB w g j):w.cell? ⟨g,0,none⟩=some (.int .i64 j.who)∧w.cell? ⟨g,1,none⟩=some (.int .i64 j.n)∧w.cell? ⟨g,2,none⟩=some (.int .i64 j.left)∧g<w.heap.size:=by
 have:=zA2 h;unfold JobB at h;refine⟨?_,?_,?_,this⟩ <;> simp[World.cell?,h]
set_option maxRecDepth 8000 in
theorem work_any {c : Cfg} (hbus : Bus c) {w : World} {base S Hb : Nat} {L : Nat → Value} {st : Cy} {ev : List Ev} {V0 : Nat → Value} {N0 : Nat → Nat} {C0 : Nat → List Value} {D0 : Nat → List TJV} (hm : CyM w base S Hb L st ev V0 N0 C0 D0) (hg : Good c st) (hev : ev.length ≤ 500) {inp : Inp} {v u : Value} {B : Nat} (hc : BusV w B u c) (hin : InV w B v inp) (hB : B ≤ base) :
    Calls Tryz.prog 115 #[.pointer (some ⟨S,0,none⟩),u,v,.pointer (some ⟨Hb,0,none⟩)] w (PartP base S Hb L (zA9 c inp (st,ev)) V0 w):=by
  obtain⟨⟨ra,rc,ta,tc,sa,sc,rfl,hr1,hr2,hr3⟩,hl1,hl2,hl3⟩:=hin;obtain⟨mv,lb,lo,lc,pb,po', pc', Q,K,rfl,⟨ma,mn,mk,rfl⟩,hms,hlb,hpb', hlat,hprog,hreq⟩:=hc.opened hbus;have HBO:=hid (show BusO w B c ma mn mk lb lo lc pb po' pc' Q K from⟨hms,hlb,hpb', hlat,hprog,hreq⟩);have HM:=hid hm;have HG0:=hid hg;have hS:=zA2 hm.bs;have hbw:base≤w.heap.size:=Nat.le_trans hm.s0 (Nat.le_of_lt (zA2 hm.bs));obtain⟨q0,q1,q2,q3,q4,qf⟩:=hm.box;obtain⟨sg,so,sc', hV3,hsc,hsc2,_,_⟩:=hm.stores;rw[hV3]at q3;have HR:=hid hr2;have HL3:=hid hl2;rw[hl2];clear hm hg hr1 hr2 hr3 hl1 hl2 hl3 hV3 qf q0 q1 q2 q4 hsc2 hsc hc hms hlat hprog hreq hlb
  go_enter Tryz.func115,Tryz.ntmps115
  go_wp2_with fail
  obtain⟨w0,hw0⟩:∃W,W=(w.alloc (.cells #[.slice ma mn mk,.slice (some ⟨lb,lo,none⟩) 4 lc,.slice (some ⟨pb,po', none⟩) 3 pc'] 27)).alloc (.cells #[.slice ra inp.ready.length rc,.slice ta 4 tc,.slice sa inp.send.length sc] 64):=⟨_,rfl⟩
  rw[←hw0];have hb0:Below w.heap.size w w0:=by rw[hw0];exact((Below.refl _ _).alloc (Nat.le_refl _) _).alloc (by simp) _
  have hz0:w0.heap.size=w.heap.size+2:=by rw[hw0];simp
  have HC0 := hid (show BusB w0 w.heap.size ma mn mk lb lo lc pb po' pc' by
    unfold BusB;rw[hw0,((Below.refl _ _).alloc (Nat.le_refl _) _).block _ (by simp)];exact zA8 _ _ rfl)
  have HI0:=hid (show w0.heap[w.heap.size+1]? = some (.cells #[.slice ra inp.ready.length rc,.slice ta 4 tc,.slice sa inp.send.length sc] 64 (0,0)) by rw[hw0];exact zA8 _ _ (by simp));have HFR:=hid (HM.out.fresh (w':=w0) (Nat.le_refl w.heap.size) (by omega));have HFR1:=hid (HM.out.fresh (w':=w0) (Nat.le_succ w.heap.size) (by omega));have HKB:=hid (Kp.below (S:=S) (Hb:=Hb) (V:=V0) hb0);have HM0:=hid (HM.out.below hb0);have HB0:=hid (hb0.mono hbw);have HR0:=hid HR.out;clear hw0 hb0 hz0 q3 HM HR hS
  go_loopw [16] (fun i wr=>∃k:Nat,k≤4∧i=.int .i64 k∧Good c (foldN (work1 c inp) k (st,ev)).1∧(foldN (work1 c inp) k (st,ev)).2.length≤ev.length+k∧(∃V N C D,CyM wr base S Hb L (foldN (work1 c inp) k (st,ev)).1 (foldN (work1 c inp) k (st,ev)).2 V N C D∧Kp S Hb V0 w0 V wr)∧Below base w wr) (fun i _=>4 - (intOf i).toNat)
  case atStart=>exact⟨0,by omega,by go_num,HG0.out,by simp[foldN],⟨_,_,_,_,HM0.out,Kp.refl _ _ _ _⟩,HB0.out⟩
  case round=>
    obtain⟨k,hk,rfl,hg,hlen,⟨V,N,C,D,hm,hkp⟩,hbl⟩:=hrel;have hib:=((hkp _ HFR1.out).1).trans HI0.out;have hcb:BusB wr w.heap.size ma mn mk lb lo lc pb po' pc':=((hkp _ HFR.out).1).trans HC0.out;have hdf:=(hkp _ HFR.out).2;have HKP:=hid hkp;clear hkp;by_cases hlt:k<4
    · have hlti : (k : Int) < 4 := by omega
      obtain⟨x,hx⟩:∃x,x=foldN (work1 c inp) k (st,ev):=⟨_,rfl⟩
      have HX1:=hid (show foldN (work1 c inp) (k+1) (st,ev)=work1 c inp k x by rw[hx];rfl);rw[←hx]at hg hlen hm;have hwl:=zA2 hib;obtain⟨i0,i1,i2⟩:wr.cell? ⟨w.heap.size+1,0,none⟩=some (.slice ra inp.ready.length rc)∧wr.cell? ⟨w.heap.size+1,1,none⟩=some (.slice ta 4 tc)∧wr.cell? ⟨w.heap.size+1,2,none⟩=some (.slice sa inp.send.length sc):=by refine⟨?_,?_,?_⟩ <;> simp[World.cell?,hib]
      have HM:=hid hm;have HG:=hid hg;have HBL:=hid hbl;have HLEN:=hid hlen;have HCB:=hid hcb;have HDF:=hid hdf;have hS:=zA2 hm.bs;obtain⟨q0,q1,q2,q3,q4,qf⟩:=hm.box;obtain⟨sg,so,sc', hV3,hsc,hsc2,hsb,hsz⟩:=hm.stores;have HV3:=hid hV3;rw[hV3]at q3;obtain⟨s0,s1,s2,sf⟩:=hm.store hV3 hlt;have HSF:=hid sf;obtain⟨da,dcp,hpv,hdcp,hdcp2⟩:=(hm.oPipe hlt).shape;rw[hpv]at s0;have HPV:=hid hpv;obtain⟨rb,ro,hra,hrb,hrc⟩:∃b off,ta=some ⟨b,off,none⟩∧b<B∧wr.cell? ⟨b,off+k,none⟩=some (.bool (inp.stall.getD k false)):=by
        obtain⟨ao,cp,eo,_,_,_,_,ho⟩:=HR0.out.opened;obtain⟨b,off,rfl,hb,hc⟩:=ho (by rw[HL3.out];omega);simp only[Value.slice.injEq]at eo;exact⟨b,off,eo.1,hb,(hbl.cell (p:=⟨b,_,none⟩) (Nat.lt_of_lt_of_le hb hB)).trans (hc k (by rw[HL3.out];exact hlt))⟩
      obtain⟨stl,hstl⟩:∃r,r=inp.stall.getD k false:=⟨_,rfl⟩
      rw[←hstl]at hrc;have HSTL:=hid hstl;subst hra;clear hm hg hib hcb hbl hlen hx hV3 hpv hstl HM0 HG0 hdf q0 q1 q2 q4 qf sf;rcases stl with _|_
      · rcases hpp : (x.1.slaves k).pipe with _ | ⟨j, rest⟩
        · have HNO := hid (work1_nil (c := c) HSTL.out.symm hpp)
          rw[hpp]at s0;have he:((([]:List Jb).length:Int)==0)=true:=rfl;clear hpp
          go_wp2_with fail
          go_roundw
          case rel=>exact⟨k+1,by omega,by go_num,by rw[HX1.out,HNO.out];exact HG.out,by rw[HX1.out,HNO.out];have:=HLEN.out;omega,⟨V,N,C,D,by rw[HX1.out,HNO.out];exact HM.out,HKP.out⟩,HBL.out⟩
          case measure=>simp[intOf];omega
        · have HPP := hid hpp
          rw[hpp]at s0;simp only[List.length_cons]at s0;have hown:=HM.out.oPipe hlt;rw[hpp]at hown;obtain⟨dg,dof,dcp', hvs,hdcp', hdcp2', hdgb,hdgz⟩:=OwnR.addr hown (by simp);rw[HPV.out,hpp]at hvs;simp only[Value.slice.injEq,List.length_cons]at hvs;obtain⟨rfl,_,rfl⟩:=hvs;rw[HPV.out,hpp]at hown;have c0:wr.cell? ⟨dg,dof,none⟩=some (.int .i64 (j.who:Nat)):=by have:=Owns.cellAt hown (fun _=>rfl) 0 0 j (by simp) (by omega);simpa[jbRow]using this
          have c1:wr.cell? ⟨dg,dof+1,none⟩=some (.int .i64 (j.n:Nat)):=by have:=Owns.cellAt hown (fun _=>rfl) 0 1 j (by simp) (by omega);simpa[jbRow]using this
          have c2:wr.cell? ⟨dg,dof+2,none⟩=some (.int .i64 (j.left:Nat)):=by have:=Owns.cellAt hown (fun _=>rfl) 0 2 j (by simp) (by omega);simpa[jbRow]using this
          have cf:wr.frozen? ⟨dg,dof+2,none⟩=false:=OwnR.unfrozen hown _;have hpe:(((rest.length+1:Nat):Int)==0)=false:=by simp;omega
          have hp0:(0:Int)<((rest.length+1:Nat):Int):=by omega
          have hp0n:0<rest.length+1:=by omega
          have hjk:=HG.out.key hlt (show(j.who,j.n)∈zA7 (x.1.slaves k) by rw[zA7,hpp];simp);have hjn:=HG.out.keyN hlt (show(j.who,j.n)∈zA7 (x.1.slaves k) by rw[zA7,hpp];simp);have hjl:j.left≤3:=Nat.le_trans ((HG.out.s k hlt).pl j rest hpp).1 (hbus.lt3 hlt);have HVS:=hid (show V (11+k)=.slice (some ⟨dg,dof,none⟩) (rest.length+1) dcp by rw[HPV.out,hpp];rfl);obtain⟨w1,hw1⟩:∃W,W=wr.alloc (.cells #[.int .i64 (j.who:Nat),.int .i64 (j.n:Nat),.int .i64 (j.left:Nat)] 75):=⟨_,rfl⟩
          have hb1:Below wr.heap.size wr w1:=by rw[hw1];exact(Below.refl _ _).alloc (Nat.le_refl _) _
          have hz1:w1.heap.size=wr.heap.size+1:=by rw[hw1];simp
          have hj1:JobB w1 wr.heap.size j:=by unfold JobB;rw[hw1];exact zA8 _ _ rfl
          have HJ1:=hid hj1;have HM1:=hid (HM.out.below hb1);have s0':=(hb1.cell (p:=⟨sg,so+k * 3,none⟩) hsz).trans s0;have s1':=(hb1.cell (p:=⟨sg,so+k * 3+1,none⟩) hsz).trans s1;have sf':∀o,w1.frozen? ⟨sg,o,none⟩=false:=fun o=>(hb1.frozen (p:=⟨sg,o,none⟩) hsz).trans (HSF.out o)
          have c2':=(hb1.cell (p:=⟨dg,dof+2,none⟩) hdgz).trans c2;have cf':=(hb1.frozen (p:=⟨dg,dof+2,none⟩) hdgz).trans cf;have HB1:=hid (show Below base wr w1 from hb1.mono (Nat.le_trans hsb (Nat.le_of_lt hsz)));have HK1:=hid (HKP.out.trans (Kp.below (S:=S) (Hb:=Hb) (V:=V) hb1));have hsz1:sg<w1.heap.size:=by omega
          have HD0:=hid (Kp.below (S:=S) (Hb:=Hb) (V:=V) hb1 _ HDF.out);have HF1j:=hid (HM.out.fresh (w':=w1) (Nat.le_refl wr.heap.size) (by omega));obtain⟨b0,b1,b2,hcbz⟩:=HCB.out.cells;have b0':=(hb1.cell (p:=⟨w.heap.size,0,none⟩) hcbz).trans b0;have b2':=(hb1.cell (p:=⟨w.heap.size,2,none⟩) hcbz).trans b2;obtain⟨j0,j1,j2,hjz⟩:=hj1.cells;have HSF1:=hid sf';clear hpp hown;by_cases hl:0<j.left
          · have hli : (0 : Int) < (j.left : Int) := by omega
            have HDEC:=hid (work1_dec (c:=c) HSTL.out.symm HPP.out hl);have hsub:((j.left:Int) - 1)=((j.left - 1:Nat):Int):=by omega
            obtain⟨N', C', hm2,hk2⟩:=HM1.out.setLeft hlt HVS.out HPP.out (j.left - 1);rw[←hsub]at hm2 hk2;have HM2:=hid hm2;have HK2:=hid hk2;clear hm2 hk2 hsub sf' b0 b1 b2 b0' b2' hj1
            go_upto_if 44 with fail
            rw[←hw1];clear hw1
            go_wp2_with fail
            go_roundw
            case rel=>exact⟨k+1,by omega,by go_num,by rw[HX1.out,HDEC.out];exact HG.out.dec hlt HPP.out,by rw[HX1.out,HDEC.out];have:=HLEN.out;show x.2.length≤_;omega,⟨V,N', C', D,by rw[HX1.out,HDEC.out];exact HM2.out,HK1.out.trans HK2.out⟩,(HBL.out.trans HB1.out).setCell (p:=⟨dg,_,none⟩) hdgb _⟩
            case measure=>simp[intOf];omega
          · have hlf : decide ((0 : Int) < (j.left : Int)) = false := by simp; omega
            have hlf2:decide (0<j.left)=false:=by simp;omega
            obtain⟨dda,ddc,hdv,_,_⟩:=(HM1.out.oDone hlt).shape;have hdl:=HM1.out.lDone hlt;rw[hdl]at hdv;rw[hdv]at s1';have HDV:=hid hdv;by_cases hd:(x.1.slaves k).done.length<2
            · have hdi : ((x.1.slaves k).done.length : Int) < 2 := by omega
              have HDO:=hid (work1_do (c:=c) HSTL.out.symm HPP.out hl hd);obtain⟨A1,hA1⟩:=pop_addr dg dof 3 dcp;have hyl:1≤rest.length+1:=by omega
              obtain⟨N2,C2,hm2,hk2⟩:=HM1.out.popPipe hlt HV3.out HPP.out HVS.out hA1;have sf0:=sf' (so+k * 3);clear sf' b0 b1 b2 hj1 hdv hdl
              go_upto_if 44 with fail
              rw[←hw1];clear hw1 s0 s1 c0 c1 c2 c2' cf'
              go_upto_region 11 with fail
              obtain⟨v2,hv2⟩:∃v,v=Value.slice (some A1) rest.length (dcp - 1):=⟨_,rfl⟩
              obtain⟨w2,hw2⟩:∃W,W=w1.setCell ⟨sg,so+k * 3,none⟩ (.slice (some A1) rest.length (dcp - 1)):=⟨_,rfl⟩
              rw[←hw2]at hm2 hk2;rw[←hw2];rw[←hv2]at hm2 hk2;obtain⟨V2,hV2⟩:∃V', V' = upd V (11+k) v2:=⟨_,rfl⟩
              rw[←hV2]at hm2 hk2;have HM2:=hid hm2;have HK2:=hid hk2;have e3:V2 3=.slice (some ⟨sg,so,none⟩) 4 sc':=by rw[hV2,zA0 _ _ (by omega)];exact HV3.out
              have ed:V2 (15+k)=.slice dda (x.1.slaves k).done.length ddc:=by rw[hV2,zA0 _ _ (by omega)];exact HDV.out
              have hz2:w2.heap.size=w1.heap.size:=by rw[hw2];simp
              have hb2:Below base w1 w2:=by rw[hw2];exact(Below.refl _ _).setCell (p:=⟨sg,_,none⟩) hsb _
              have E3:=hid e3;have ED:=hid ed;have HB2:=hid hb2;have HW2:=hid (show Below base w w2 from(HBL.out.trans HB1.out).trans hb2);clear s0' s1' sf0 b0' b2' j0 j1 j2 hm2 hk2 e3 ed hb2 hw2 hv2 hV2 hA1;obtain⟨s0,s1,s2,sf⟩:=HM2.out.store E3.out hlt;rw[ED.out]at s1;have hj2:JobB w2 wr.heap.size j:=((HK2.out _ HF1j.out).1).trans HJ1.out;have HJ2:=hid hj2;have hc2b:BusB w2 w.heap.size ma mn mk lb lo lc pb po' pc':=((HK2.out _ HD0.out.2).1).trans (HD0.out.1.trans HCB.out);have HC2:=hid hc2b;obtain⟨b0,b1,b2,hcb2⟩:=hc2b.cells;obtain⟨j0,j1,j2,hjz2⟩:=hj2.cells;have hO2:BusO w2 B c ma mn mk lb lo lc pb po' pc' Q K:=HBO.out.below (HW2.out.mono hB);obtain⟨qb,qo,rda,rdc,rla,rlc,hQ,hqb,hRq,r0,r1,r2,r3,r4,r5,r6⟩:=hO2.at hjk.1 hjn;have hpw:=hO2.prog j.who hjk.1;rw[hQ]at hpw;obtain⟨st2,hst2⟩:∃s2:Cy,s2={ x.1 with slaves:=upd x.1.slaves k { x.1.slaves k with pipe:=rest } }:=⟨_,rfl⟩
              have HM2b:Hid (CyM w2 base S Hb L st2 x.2 V2 N2 C2 D):=hid (by rw[hst2];exact HM2.out);have hdl2:(st2.slaves k).done.length<2:=by rw[hst2];simp only[zA1];exact hd
              have hat2:atmOk st2.ws st2.hs=true:=by rw[hst2];exact HG.out.atm
              obtain⟨ws1,hws1⟩:∃a,a=(doReq c.ms st2.ws st2.hs j.who (c.req j.who j.n)).1:=⟨_,rfl⟩
              obtain⟨hs1,hhs1⟩:∃a,a=(doReq c.ms st2.ws st2.hs j.who (c.req j.who j.n)).2.1:=⟨_,rfl⟩
              obtain⟨y,hy⟩:∃a,a=(doReq c.ms st2.ws st2.hs j.who (c.req j.who j.n)).2.2:=⟨_,rfl⟩
              have EQ:=hid (show(doReq c.ms st2.ws st2.hs j.who (c.req j.who j.n)).1=ws1∧(doReq c.ms st2.ws st2.hs j.who (c.req j.who j.n)).2.1=hs1∧(doReq c.ms st2.ws st2.hs j.who (c.req j.who j.n)).2.2=y from⟨hws1.symm,hhs1.symm,hy.symm⟩);have hrq:=hbus.req hjk.1 hjn;have hwbi:inB (j.who:Int) 0 2=true:=by have:=hjk.1;simp[inB];omega
              have hrs:rspOk y=true:=by
                have hrsp:=(rsp_law (okk_parts.2 ⟨hbus.ms,hat2,hwbi,hrq⟩)).1;rw[atmDo_yes (okk_parts.2 ⟨hbus.ms,hat2,hwbi,hrq⟩),←hy]at hrsp;exact hrsp
              obtain⟨hx6,hx4⟩:=rspOk_data hrs;have hww:st2.ws.all zB3=true:=by simp only[atmOk,memOk,Bool.and_eq_true]at hat2;exact hat2.1.1.2
              have HST2:=hid hst2;clear hws1 hhs1 hy hst2
              go_cut [] from 73 to 104 (fun wd=>∃v N3 C3 dv,CyM wd base S Hb L { st2 with ws:=ws1,hs:=hs1,slaves:=upd st2.slaves k { st2.slaves k with done:=(D (15+k)++[((⟨j.who,j.n,y⟩:TJ),dv)]).map (·.1) } } x.2 (upd V2 (15+k) v) N3 C3 (upd D (15+k) (D (15+k)++[((⟨j.who,j.n,y⟩:TJ),dv)]))∧Kp S Hb V2 w2 (upd V2 (15+k) v) wd∧Below base w2 wd)
              case first=>
                rename_i J K' hJ hK;have hDj:=(HK2.out _ HF1j.out).2;have hDc:=(HK2.out _ HD0.out.2).2;have hbd:Below w2.heap.size w2 w2.drew:=(Below.refl _ _).drew;obtain⟨CC,hCC⟩:∃CC,CC=wkC w2 base S Hb L st2 x.2 V2 N2 C2 D k j.who j.n ws1 hs1 y:=⟨_,rfl⟩
                have hbw2:base≤w2.heap.size:=by omega
                have hC0:CC [] w2.drew:=by rw[hCC];exact⟨HM2b.out.below hbd,Kp.below hbd,(Below.refl _ _).drew⟩
                have hne:Nonempty (Ph CC):=⟨⟨([],w2.drew),hC0⟩⟩
                have hne3:Nonempty (Ph (lims CC (some 3))):=⟨⟨([],w2.drew),hC0,by simp⟩⟩
                have hCW:∀us W,CC us W→wkC w2 base S Hb L st2 x.2 V2 N2 C2 D k j.who j.n ws1 hs1 y us W:=by rw[hCC];exact fun _ _ h=>h
                have pc:∀{b o:Nat} {v:Value},DFree V2 S Hb w2 b∨b<base→w2.cell? ⟨b,o,none⟩=some v→∀z:Ph CC,z.1.2.cell? ⟨b,o,none⟩=some v:=fun hb hc z=>wkC.cell (hCW _ _ z.2) hlt hb hc
                have hpb:=Nat.lt_of_lt_of_le hO2.hpb hB;have hqb2:=Nat.lt_of_lt_of_le hqb hB;have cj0:=pc (.inl hDj) j0;have cj1:=pc (.inl hDj) j1;have cb0:=pc (.inl hDc) b0;have cb2:=pc (.inl hDc) b2;have cp:=pc (.inr hpb) hpw;have cr0:=pc (.inr hqb2) r0;have cr1:=pc (.inr hqb2) r1;have cr2:=pc (.inr hqb2) r2;have cr3:=pc (.inr hqb2) r3;have cr4:=pc (.inr hqb2) r4;have cr5:=pc (.inr hqb2) r5;have cr6:=pc (.inr hqb2) r6;have cd:∀z:Ph (lims CC (some 3)),z.1.2.cell? ⟨sg,so+k * 3+1,none⟩=some (.slice dda (x.1.slaves k).done.length ddc):=fun z=>by rw[←ED.out];exact wkC.row (hCW _ _ z.2.1) z.2.2 hlt E3.out
                have hj3:(j.who:Int)<3:=by have:=hjk.1;omega
                have hjn2:(j.n:Int)<((c.prog j.who).length:Int):=by omega
                have HCC:=hid hCC;have HDL2:=hid hdl2;have HX6:=hid hx6;have HX4:=hid hx4;have HBW2:=hid hbw2;have HRQ:=hid hRq;have HHRQ:=hid hrq;have HWW:=hid hww;have HAT2:=hid hat2;have HWBI:=hid hwbi;have HO2:=hid hO2;have HHSB:=hid hsb;clear hCC hCW pc hDj hDc hbd hdl2 hx6 hx4 hbw2 hRq hrq hww hat2 hwbi hO2 j0 j1 j2 b0 b1 b2 hpw r0 r1 r2 r3 r4 r5 r6 s0 s1 s2;refine zB8 CC [(26,false),(27,false),(28,false),(29,false),(32,false)] [(4,3)] (by kernel_rfl) (by kernel_rfl) hC0 ?_
                repeat (
                  (with_reducible refine wq1_q ⟨rfl,rfl⟩ (fun K hK=>?_))
                  go_simp
                  first
                    |((with_reducible refine hK _ ?_);clear hK K)
                    |((with_reducible refine zB1 (by simp[undef]) (hK _ ?_));clear hK K)
                    | (apply Exists.intro
                       (with_reducible refine⟨fun _=>?_,hK _ ?_⟩)
                       (fail)
                       clear hK K))
                refine wq1_b ⟨rfl,rfl⟩ (fun KA hKA=>?_);go_simp;refine hKA _ ?_;clear hKA KA
                repeat (
                  (with_reducible refine wq1_q ⟨rfl,rfl⟩ (fun K hK=>?_))
                  go_simp
                  first
                    |((with_reducible refine hK _ ?_);clear hK K)
                    |((with_reducible refine zB1 (by simp[undef]) (hK _ ?_));clear hK K)
                    | (apply Exists.intro
                       (with_reducible refine⟨fun _=>?_,hK _ ?_⟩)
                       (fail)
                       clear hK K))
                iterate 4 refine wq1_v rfl ?_
                repeat (
                  (with_reducible refine wq1_q ⟨rfl,rfl⟩ (fun K hK=>?_))
                  go_simp
                  first
                    |((with_reducible refine hK _ ?_);clear hK K)
                    |((with_reducible refine zB1 (by simp[undef]) (hK _ ?_));clear hK K)
                    | (apply Exists.intro
                       (with_reducible refine⟨fun _=>?_,hK _ ?_⟩)
                       (fail)
                       clear hK K))
                refine wq1_v rfl ?_;refine zH2 ?_;clear cj0 cj1 cb0 cb2 cp cr0 cr1 cr2 cr3 cr4 cr5 cr6 cd hne hne3;refine wq2_v _ rfl rfl ?_ ?_
                · intro W hW KA hKA
                  rw[HCC.out]at hW hKA;obtain⟨hm,hkp,hbl⟩:=hW;obtain⟨gw,ow,cw,gh,oh,ch,e0,e1,hAt⟩:=hm.atmAt2 HAT2.out;go_simp
                  (with_reducible refine(do_any _ _ c.ms base S gw ow cw gh oh ch st2.ws st2.hs j.who (c.req j.who j.n) W ((HO2.out.ms.below (hbl.mono hB)).mono hB) hAt ((HRQ.out.below (hbl.mono hB)).mono hB) HWBI.out HHRQ.out HWW.out).mono ?_)
                  rw[EQ.out.1,EQ.out.2.1,EQ.out.2.2];rintro e w'' ⟨dv,rfl,od,hAt', ht2⟩;obtain⟨xa,xk,rfl,_,_⟩:=od.shape;have hk2:∀b,b<W.heap.size→(V2 0).ownBlock≠some b→(V2 1).ownBlock≠some b→w''.heap[b]? = W.heap[b]?:=fun b hb h0 h1=>ht2.block b hb (fun e=>h0 (by rw[e0,e];rfl)) (fun e=>h1 (by rw[e1,e];rfl))
                  have hcy:=hm.atm hk2 ht2.size (by rw[e0];exact hAt'.ww) (by rw[e1];exact hAt'.hh);have hb1:Below base W w'':=⟨ht2.os,ht2.tape,ht2.output,ht2.size,fun b hb=>hk2 b (by have:=hm.s0;have:=zA2 hm.bs;omega) (hm.nxOld hlt hb).1 (hm.nxOld hlt hb).2.1⟩
                  have hid2:DatP L w'' (DFree V2 S Hb w'') ((⟨j.who,j.n,y⟩:TJ),Value.slice xa y.data.length xk):=⟨od.intsD (P:=DFree V2 S Hb w'') (fun k hk=>hm.fresh (OwnR.lt od k hk).1 (OwnR.lt od k hk).2) (by have:=HX4.out;omega) HX6.out,fun _ i hi b hb hb2=>by have h1:=hm.lx i hi b hb;have h2:=(OwnR.lt od b hb2).1;omega⟩
                  have hkp2:Kp S Hb V2 W V2 w'':=fun b hb=>⟨hk2 b hb.1 (hb.2.1 0 (by omega)) (hb.2.1 1 (by omega)),Nat.lt_of_lt_of_le hb.1 ht2.size,hb.2⟩
                  go_simp;exact hKA _ _ _ (wkC.p1.2 ⟨_,_,_,rfl,_,_,hcy,hid2,hkp.trans hkp2,hbl.trans hb1⟩) rfl
                intro v0 KA hKA;go_simp;refine hKA _ ?_;clear hKA KA;refine wq2_v _ rfl rfl ?_ ?_
                · intro W hW KA hKA
                  rw[HCC.out]at hW hKA;obtain⟨xa,xk,xm,rfl,hD⟩:=wkC.p1.1 hW;refine wp_build5 _ _ _ _ _ _ _ (x0:=(j.who:Nat)) (x1:=(j.n:Nat)) (i:=y.id) (c:=y.code) (va:=xa) (vn:=xk) (vc:=xm) rfl rfl rfl ?_;exact hKA _ _ _ (wkC.p2.2 ⟨_,_,_,rfl,hD⟩) rfl
                intro v1 KA hKA;go_simp;refine hKA _ ?_;clear hKA KA;refine wq2_v _ rfl rfl ?_ ?_
                · intro W hW KA hKA
                  rw[HCC.out]at hW hKA;obtain⟨xa,xk,xm,rfl,N5,C5,hm,hdt,hkp,hbl⟩:=wkC.p2.1 hW;have hb1:Below W.heap.size W (W.alloc (.cells #[.int .i64 (j.who:Nat),.int .i64 (j.n:Nat),.int .i64 y.id,.int .i64 y.code,.slice xa xk xm] 85)):=(Below.refl _ _).alloc (Nat.le_refl _) _;refine wp_lit5t _ _ _ _ _ (x0:=.int .i64 (j.who:Nat)) (x1:=.int .i64 (j.n:Nat)) (x2:=.int .i64 y.id) (x3:=.int .i64 y.code) (x4:=.slice xa xk xm) rfl (by simp[Value.oneCell']) ?_;exact hKA _ _ _ (wkC.p3.2 ⟨xa,xk,xm,⟨_,_,hm.below hb1,(hdt.kept fun b hb=>hb1.block b hb.1).weak fun b hb=>⟨Nat.lt_of_lt_of_le hb.1 hb1.size,hb.2⟩,hkp.trans (Kp.below hb1),hbl.trans (hb1.mono (Nat.le_trans HBW2.out hbl.size))⟩,_,rfl,fun j u hj=>by rw[World.cell?_alloc_at _ _ _ _ rfl,←hj];simp[tjRow]⟩) rfl
                intro v2 KA hKA;go_simp;refine hKA _ ?_;clear hKA KA;refine wq2_v _ rfl rfl ?_ ?_
                · intro W hW KA hKA
                  rw[HCC.out]at hW hKA;obtain⟨xa,xk,xm,⟨N5,C5,hm,hdt,hkp,hbl⟩,g2,rfl,hn2⟩:=wkC.p3.1 hW;have hOD:=hm.oDone hlt;rw[ED.out]at hOD;have hDl:=hm.lDone hlt;have hdd:=HDL2.out;refine wp_pushH elem_tj tjRow (fun _=>rfl) ((⟨j.who,j.n,y⟩:TJ),Value.slice xa xk xm) (tjRow_one _ ⟨_,_,_,rfl⟩) W _ _ rfl base _ (D (15+k)) rfl hOD g2 1 rfl hn2 (by rw[hDl];simp;omega) (by rw[hDl];simp;omega) (Nat.le_trans HBW2.out hbl.size) ?_;intro v' w'' o1 hk hz hb hv;have hk':∀b,b<W.heap.size→(V2 (15+k)).ownBlock≠some b→w''.heap[b]? = W.heap[b]?:=fun b hb hn=>hk b hb (by rw[←ED.out];exact hn)
                  exact hKA _ _ _ (wkC.p4.2 ⟨W,_,⟨_,_,hm,hdt,hkp,hbl⟩,o1,hk', hz,fun k2 hk2=>by rw[ED.out];exact hv k2 hk2,hbl.trans hb⟩) rfl
                intro v3 KA hKA;go_simp;refine hKA _ ?_;clear hKA KA;refine wq2_v _ rfl rfl ?_ ?_
                · intro W hW KA hKA
                  rw[HCC.out]at hW hKA;obtain⟨w1,dv,⟨N5,C5,hm,hdt,hkp,hbl⟩,o1,hk,hz,hv,hbl2⟩:=wkC.p4.1 hW;obtain⟨_,q1,_,qf⟩:=hm.store E3.out hlt;have hgo:(V2 3).ownBlock=some sg:=by rw[E3.out];rfl
                  have hnn:(V2 (15+k)).ownBlock≠some sg:=fun e=>hm.raw.ap (15+k) 3 (by omega) (by omega) (by omega) sg e hgo
                  have hsl:=(hm.raw.lt (κ:=3) (by omega) hgo).2;have hkk:=hk sg hsl hnn;have q:W.cell? ⟨sg,so+k * 3+1,none⟩=some (V2 (15+k)):=by rw[←q1];simp only[World.cell?,hkk]
                  have q2:W.frozen? ⟨sg,so+k * 3+1,none⟩=false:=by rw[←qf (so+k * 3+1)];simp only[World.frozen?,hkk]
                  rw[ED.out]at q
                  obtain ⟨N6, C6, h4, h5⟩ := hm.setDone hlt E3.out hk hz o1 hv (fun z hz2 => by
                    rcases List.mem_append.1 hz2 with hz2|hz2
                    · exact hm.old (by omega) (by omega) hk hz hv hz2
                    · obtain rfl := List.mem_singleton.1 hz2
                      exact(hdt.kept fun b hb=>hk b hb.1 (hb.2.1 (15+k) (by omega))).weak fun b hb=>⟨Nat.lt_of_lt_of_le hb.1 hz,hb.2.1.chg (w:=w1) hb.1 hv (by omega),hb.2.2⟩)
                  obtain⟨ua,uk,eu,_,_⟩:=o1.shape;rw[List.length_append,List.length_singleton]at eu;subst eu;have H4:=hid h4;have H5:=hid (hkp.trans h5);have HB9:=hid hbl2;have HFK:=hid hK;have HHJ:=hid hJ;clear hm hdt hkp hbl o1 hk hz hv hbl2 h4 h5;go_simp;exact hKA undef _ _ (wkC.p5.2 ⟨_,_,_,_,H4.out,H5.out,HB9.out.setCell HHSB.out _⟩) rfl
                intro v4 KA hKA;go_simp;refine hKA _ ?_;clear hKA KA;refine zH9 ?_;intro wd hwd;rw[HCC.out]at hwd;exact hK _ _ (Met.intro (hJ _ _ ⟨_,_,_,_,_,_,_,_,_,_,_,_,_,_,_,_,_,_,_,_,_,_,_,_,_,_,_,_,_,_,_,_,wkC.p5.1 hwd,rfl⟩))
              case rest=>
                obtain⟨w3,hw3⟩:∃W,W=wc:=⟨_,rfl⟩
                subst hw3;obtain⟨v3,N3,C3,dv3,hm3,hk3,hb3⟩:=hcut;have HM3:=hid hm3;have HK3:=hid hk3;have HB3:=hid hb3;have hj3:JobB w3 wr.heap.size j:=((HK3.out _ (HK2.out _ HF1j.out).2).1).trans HJ2.out;have HC3:=hid (show BusB w3 w.heap.size ma mn mk lb lo lc pb po' pc' from((HK3.out _ ((HK2.out _ HD0.out.2).2)).1).trans HC2.out);have HEV:=hid (show x.2.length≤100000 by have:=HLEN.out;omega);clear hm3 hk3 hb3 s0 s1 s2 sf b0 b1 b2 j0 j1 j2 r0 r1 r2 r3 r4 r5 r6 hpw hj2 hc2b;obtain⟨j0,j1,j2,hjz3⟩:=hj3.cells;have HTD:=hid (HM2b.out.con.td k hlt)
                have HFIN := hid (show ({ st2 with ws := ws1, hs := hs1, slaves := upd st2.slaves k { st2.slaves k with done := (D (15 + k) ++ [((⟨j.who, j.n, y⟩ : TJ), dv3)]).map (fun z : TJV => z.1) } } : Cy) = (zE8 c k j rest x).1 by
                  rw[List.map_append,HTD.out,HST2.out];have e:=EQ.out;rw[HST2.out]at e;simp only[zE8,upd_upd,zA1,e.1,e.2.1,e.2.2,List.map_cons,List.map_nil])
                clear hj3
                go_wp2_with (first
                  |(go_at_call 163;(with_reducible refine(add_do j.who j.n HM3.out HEV.out).mono ?_);rintro e w4 ⟨rfl,v4,N4,C4,hm4,hb4,hz4,hk4⟩;have HM4:=hid hm4;have HB4:=hid hb4;have HK4:=hid hk4;clear hm4 hb4 hz4 hk4))
                have HEND:=hid (HM4.out.congr (st':=(zE8 c k j rest x).1) (ev':=(zE8 c k j rest x).2) HFIN.out rfl)
                go_roundw
                case rel=>exact⟨k+1,by omega,by go_num,by rw[HX1.out,HDO.out];exact HG.out.work hbus hlt HPP.out hd,by rw[HX1.out,HDO.out];have:=HLEN.out;simp[zE8];omega,⟨_,_,_,_,by rw[HX1.out,HDO.out];exact HEND.out,((HK1.out.trans HK2.out).trans HK3.out).trans HK4.out⟩,(HW2.out.trans HB3.out).trans HB4.out⟩
                case measure=>simp[intOf];omega
            · have hdi : decide (((x.1.slaves k).done.length : Int) < 2) = false := by simp; omega
              have HFULL:=hid (work1_full (c:=c) HSTL.out.symm HPP.out hl hd);clear hd sf' b0 b1 b2 b0' b2' hj1 hdv hdl
              go_upto_if 44 with fail
              rw[←hw1];clear hw1
              go_wp2_with fail
              go_roundw
              case rel=>exact⟨k+1,by omega,by go_num,by rw[HX1.out,HFULL.out];exact HG.out,by rw[HX1.out,HFULL.out];have:=HLEN.out;omega,⟨V,N,C,D,by rw[HX1.out,HFULL.out];exact HM1.out,HK1.out⟩,HBL.out.trans HB1.out⟩
              case measure=>simp[intOf];omega
      · have HNO := hid (work1_stall (c := c) (x := x) HSTL.out.symm)
        go_wp2_with fail
        go_roundw
        case rel=>exact⟨k+1,by omega,by go_num,by rw[HX1.out,HNO.out];exact HG.out,by rw[HX1.out,HNO.out];have:=HLEN.out;omega,⟨V,N,C,D,by rw[HX1.out,HNO.out];exact HM.out,HKP.out⟩,HBL.out⟩
        case measure=>simp[intOf];omega
    · obtain rfl : k = 4 := by omega
      go_wp2_with fail
      exact bodyPost_end (v:=.tuple #[]) (by simp[results,Tryz.results115,go_sem]) rfl ⟨rfl,V,N,C,D,hm,HKB.out.trans HKP.out,hbl⟩
theorem zG3 (v u : Value) (xs : List Int) (B C : Nat) (w : World) (hv : Ints w B v xs) (hu : Ints w C u xs) :
  Calls Tryz.prog 37 #[v,u] w fun e w' => e=.returned (.bool true)∧Drew w w':=by
 obtain⟨ao,cap,rfl,hlc,hcap,hln,hni,hr⟩:=hv.opened;obtain⟨bo,cbp,rfl,hlc2,hcap2,hln2,hni2,hr2⟩:=hu.opened;clear hv hu
 go_enter Tryz.func37,Tryz.ntmps37
 go_wp2_with fail
 go_loopw [5] (fun i wr=>∃k n:Nat,k≤xs.length∧i=.int .i64 k∧wr=w.drewN n) (fun i _=>xs.length - (intOf i).toNat)
 case atStart=>exact⟨0,0,Nat.zero_le _,rfl,rfl⟩
 case round=>
  obtain⟨k,n,hk,rfl,rfl⟩:=hrel;by_cases hlt:k<xs.length
  ·obtain⟨b,off,rfl,hb,hc⟩:=hr (by omega);obtain⟨b2,off2,rfl,hb2,hc2⟩:=hr2 (by omega);have hck:=hc k hlt;have hck2:=hc2 k hlt;obtain⟨x,hx⟩:∃x,x=xs.getD k 0:=⟨_,rfl⟩
   rw[←hx]at hck hck2;have hq2:(x != x)=false:=by simp
   clear hc hr hc2 hr2 hx
   go_wp2_with fail
   go_quiet (fail)
   go_wp2_with fail
   go_roundw
   case rel=>exact⟨k+1,_,by omega,by go_num,rfl⟩
   case measure=>simp[intOf];omega
  ·go_wp2_with fail
   go_ret
   exact⟨rfl,by first|exact Drew.one .. | exact Drew.two ..⟩
theorem bx1 (w:World) (o:Obj):Below w.heap.size w (w.alloc o):=(Below.refl _ _).alloc (Nat.le_refl _) _
def Rq20 (q:Rq):Prop:=q.data.length≤1048576∧q.lanes.length≤1048576
theorem at_world {P:Program} {f:FuncId} {args:Array Value} {w:World} {Q:Ending→World→Prop} (Z:World→Prop) (hZ:Z w) (h:∀W,Z W→Calls P f args W Q):Calls P f args w Q:=h w hZ
structure Bx (W:World) (H:Nat) (cs:List Value):Prop where
 c:∀j,j<cs.length→W.cell? ⟨H,j,none⟩=cs[j]?
 f:∀j,j<cs.length→W.frozen? ⟨H,j,none⟩=false
 n:0<cs.length
theorem Bx.lt {W:World} {H:Nat} {cs:List Value} (h:Bx W H cs):H<W.heap.size:=by
 have h0:=h.c 0 h.n;have hn:=h.n;rw[List.getElem?_eq_getElem hn]at h0;exact World.block_lt_of_cell? W _ h0
theorem Bx.kept {W W':World} {H:Nat} {cs:List Value} (h:Bx W H cs) (hk:W'.heap[H]? = W.heap[H]?):Bx W' H cs :=
 ⟨fun j hj=>by rw[←h.c j hj];simp only[World.cell?,hk],fun j hj=>by rw[←h.f j hj];simp only[World.frozen?,hk],h.n⟩
theorem Bx.below {W W':World} {H C:Nat} {cs:List Value} (h:Bx W H cs) (hb:Below C W W') (hH:H<C):Bx W' H cs:=h.kept (hb.block H hH)
theorem Bx.set {W:World} {H:Nat} {cs:List Value} (h:Bx W H cs) (j:Nat) (hj:j<cs.length) (u:Value):Bx (W.setCell ⟨H,j,none⟩ u) H (cs.set j u):=by
 refine⟨fun i hi=>?_,fun i hi=>?_,by simpa using h.n⟩
 ·have hi':i<cs.length:=by simpa using hi
  have hci:=h.c i hi';by_cases hij:i=j
  ·subst hij;rw[List.getElem?_set_self hj];have hs:(W.cell? ⟨H,i,none⟩).isSome:=by rw[hci];simp[hj]
   simp[go_sem,hs]
  ·rw[List.getElem?_set_ne (Ne.symm hij),←hci];simp[go_sem,hij,Ne.symm hij]
 ·have:=h.f i (by simpa using hi);simpa[go_sem]using this
theorem Bx.new (w:World) (cs:Array Value) (T:TypeId) (hn:0<cs.size):Bx (w.alloc (.cells cs T)) w.heap.size cs.toList :=
 ⟨fun j hj=>by rw[World.cell?_alloc_at _ _ _ _ rfl];simp,fun j hj=>by simp[go_sem],by simpa using hn⟩
theorem Bx.one {W:World} {H:Nat} {a:Value} (h:Bx W H [a]):W.cell? ⟨H,0,none⟩=some a∧W.frozen? ⟨H,0,none⟩=false:=⟨h.c 0 (by simp),h.f 0 (by simp)⟩
theorem Bx.two {W:World} {H:Nat} {a b:Value} (h:Bx W H [a,b]):(W.cell? ⟨H,0,none⟩=some a∧W.cell? ⟨H,1,none⟩=some b)∧W.frozen? ⟨H,0,none⟩=false∧W.frozen? ⟨H,1,none⟩=false :=
 ⟨⟨h.c 0 (by simp),h.c 1 (by simp)⟩,h.f 0 (by simp),h.f 1 (by simp)⟩
theorem Bx.three {W:World} {H:Nat} {a b c:Value} (h:Bx W H [a,b,c]):(W.cell? ⟨H,0,none⟩=some a∧W.cell? ⟨H,1,none⟩=some b∧W.cell? ⟨H,2,none⟩=some c)∧W.frozen? ⟨H,0,none⟩=false∧W.frozen? ⟨H,1,none⟩=false∧W.frozen? ⟨H,2,none⟩=false :=
 ⟨⟨h.c 0 (by simp),h.c 1 (by simp),h.c 2 (by simp)⟩,h.f 0 (by simp),h.f 1 (by simp),h.f 2 (by simp)⟩
theorem Bx.seven {W : World} {H : Nat} {a b c d e f g : Value} (h : Bx W H [a, b, c, d, e, f, g]) :
  (W.cell? ⟨H,0,none⟩=some a∧W.cell? ⟨H,1,none⟩=some b∧W.cell? ⟨H,2,none⟩=some c∧W.cell? ⟨H,3,none⟩=some d∧W.cell? ⟨H,4,none⟩=some e∧W.cell? ⟨H,5,none⟩=some f∧W.cell? ⟨H,6,none⟩=some g) ∧
  W.frozen? ⟨H,0,none⟩=false∧W.frozen? ⟨H,1,none⟩=false∧W.frozen? ⟨H,2,none⟩=false∧W.frozen? ⟨H,3,none⟩=false∧W.frozen? ⟨H,4,none⟩=false∧W.frozen? ⟨H,5,none⟩=false∧W.frozen? ⟨H,6,none⟩=false :=
 ⟨⟨h.c 0 (by simp),h.c 1 (by simp),h.c 2 (by simp),h.c 3 (by simp),h.c 4 (by simp),h.c 5 (by simp),h.c 6 (by simp)⟩,h.f 0 (by simp),h.f 1 (by simp),h.f 2 (by simp),h.f 3 (by simp),h.f 4 (by simp),h.f 5 (by simp),h.f 6 (by simp)⟩
theorem rowM4 (r:MR):(rowM r).length=4:=rfl
theorem Owns.maps {w:World} {base:Nat} {v:Value} {ms:List MR} (h:Owns w base 158 4 rowM v ms) (hn:ms.length≤1048576) (hx:∀r∈ms,MR64 r):Maps w w.heap.size v ms:=⟨h.arr rowM4 (by omega),hx⟩
theorem mul16 (w:World):Calls Tryz.prog 139 #[.int .u64 1,.int .u64 6] w fun e w' => e=.returned (.tuple #[.int .u64 0,.int .u64 6])∧w=w':=by
 go_enter Tryz.func139,Tryz.ntmps139
 go_wp2
 refine bodyPost_ret (v:=.tuple #[.int .u64 0,.int .u64 6]) (by simp[results,Tryz.results139];first|rfl|decide|exact⟨by rfl,by rfl⟩) rfl ⟨rfl,rfl⟩
def repC (x:Int) (n:Nat):List Value:=List.replicate n (.int .i64 x)++List.replicate (6 - n) (.int .i64 0)
theorem repC_len (x:Int) {n:Nat} (h:n≤6):(repC x n).length=6:=by simp[repC];omega
theorem one_of {cs:List Value} (h:∀v∈cs,∃k:Int,v=.int .i64 k):∀v∈cs,v.oneCell' = true:=fun v hv=>by obtain⟨k,rfl⟩:=h v hv;rfl
def RepP (x:Int) (w:World) (e:Ending) (w':World):Prop:=e=.returned (.slice (some ⟨w.heap.size,0,none⟩) 6 6)∧Owns w' w.heap.size 3 1 rowI (.slice (some ⟨w.heap.size,0,none⟩) 6 6) (List.replicate 6 x)∧Below w.heap.size w w'
theorem infoIs:(Tryz.prog.info? 3).map (·.size)=some 1:=by kernel_rfl
theorem rep_src {w:World} {g n:Nat} {x:Int} (hh:w.heap[g]? = some (.cells (repC x n).toArray 3 (0,0))) (cs:List Value) (hcs:∀(j:Nat) (v:Value),cs[j]? = some v→(repC x n)[j]? = some v):∀(j:Nat) (v:Value),cs[j]? = some v→w.cell? ((⟨g,0,none⟩:Addr).add j)=some v:=fun j v hv=>by
 rw[Addr.add_lit,Nat.zero_add];simp only[World.cell?,hh];simpa using hcs j v hv
def repM (n:Nat):Nat:=if n=1 then 1 else 2
theorem zF4 (g : Nat) : ∀ (cs : List Value) (w : World) (o : Nat), Touch g w (w.setCells g o cs)
 |[],w,_=>Touch.refl g w
 |c::cs,w,o=>(Touch.setCell g o w c).trans (zF4 g cs _ (o+1))
theorem rep_copy {w : World} {g n : Nat} {x : Int} (hn : n = 1 ∨ n = 2 ∨ n = 4) (hh : w.heap[g]? = some (.cells (repC x n).toArray 3 (0, 0))) :
  ∃w2,(∀ty,(Builtin.copy_ #[24,24] ty #[.slice (some ⟨g,n,none⟩) (6 - n) (6 - n),.slice (some ⟨g,0,none⟩) n 6]).run Tryz.prog w=.ok (goInt (repM n)) w2)∧w2.heap[g]? = some (.cells (repC x (n+repM n)).toArray 3 (0,0))∧Touch g w w2:=by
 have hc:∀j,j<6→(w.cell? ⟨g,j,none⟩).isSome=true:=fun j hj=>by
  simp only[World.cell?,hh];have:j<(repC x n).length:=by rw[repC_len x (by omega)];exact hj
  simp[this]
 have hf:∀j,w.frozen? ⟨g,j,none⟩=false:=fun j=>by simp only[World.frozen?,hh];simp
 have key:∀(m:Nat),m≤n→n+m≤6→m=Nat.min n (6 - n)→repM n=m→∃w2,(∀ty,(Builtin.copy_ #[24,24] ty #[.slice (some ⟨g,n,none⟩) (6 - n) (6 - n),.slice (some ⟨g,0,none⟩) n 6]).run Tryz.prog w=.ok (goInt (repM n)) w2)∧w2=w.setCells g n (List.replicate m (.int .i64 x)):=fun m h1 h2 h3 h4=>by
  refine⟨_,fun ty=>?_,rfl⟩
  have := run_copy_cells (P := Tryz.prog) w 24 24 ty 3 g n (6 - n) (6 - n) ⟨g, 0, none⟩ n 6 (List.replicate m (.int .i64 x)) Tryz.underlying24 infoIs (by simpa using h3) (rep_src hh _ (fun j v hv => by
   have hj:=(List.getElem?_eq_some_iff.1 hv).1;simp only[List.length_replicate]at hj;rw[←hv];simp only[repC];rw[List.getElem?_append_left (by simp;omega)];simp[List.getElem?_replicate,hj,show j<n by omega])) (fun j hj=>by simp only[List.length_replicate]at hj;exact hc _ (by omega)) (fun j _=>hf _) (one_of (by intro v hv;exact⟨x,(List.mem_replicate.1 hv).2⟩))
  rw[h4];simpa using this
 rcases hn with rfl|rfl|rfl
 ·obtain⟨w2,h1,h2⟩:=key 1 (by omega) (by omega) (by decide) rfl;refine⟨w2,h1,?_,by rw[h2];exact zF4 _ _ _ _⟩;rw[h2];show(w.setCell ⟨g,1,none⟩ _).heap[g]? = _;simp only[World.setCell,Array.getElem?_modify,hh]
  rfl
 ·obtain⟨w2,h1,h2⟩:=key 2 (by omega) (by omega) (by decide) rfl;refine⟨w2,h1,?_,by rw[h2];exact zF4 _ _ _ _⟩;rw[h2];show((w.setCell ⟨g,2,none⟩ _).setCell ⟨g,3,none⟩ _).heap[g]? = _;simp only[World.setCell,Array.getElem?_modify,hh]
  rfl
 ·obtain⟨w2,h1,h2⟩:=key 2 (by omega) (by omega) (by decide) rfl;refine⟨w2,h1,?_,by rw[h2];exact zF4 _ _ _ _⟩;rw[h2];show((w.setCell ⟨g,4,none⟩ _).setCell ⟨g,5,none⟩ _).heap[g]? = _;simp only[World.setCell,Array.getElem?_modify,hh]
  rfl
end Go.Proofs.YthnlalffjepdaaaGreat
namespace Go.Proofs.YthnlalffjepdaaaGreat
open Go.RowKit
attribute [local go_sem ↓] Go.wp_at_zero Go.wp_at_succ
theorem four {g n:Nat} (h:g+3<n):g<n∧g+1<n∧g+1+1<n∧g+1+1+1<n:=by omega
theorem Touch2.drewd {a b:Nat} {w w':World} (h:Touch2 a b w w'):Touch2 a b w w'.drew:=h.trans ⟨rfl,rfl,rfl,Nat.le_refl _,fun _ _ _ _=>rfl⟩
theorem Touch2.allocd {a b:Nat} {w w':World} (h:Touch2 a b w w') (o:Obj):Touch2 a b w (w'.alloc o):=h.trans (Touch2.of_below ((Below.refl _ _).alloc (Nat.le_refl _) o) (Nat.le_refl _))
theorem Touch2.bel {a b:Nat} {w w' w'':World} (h:Touch2 a b w w') (hb:Below w'.heap.size w' w''):Touch2 a b w w'':=h.trans (Touch2.of_below hb (Nat.le_refl _))
end Go.Proofs.YthnlalffjepdaaaGreat
namespace Go.Proofs.YthnlalffjepdaaaGreat
open Go.RowKit
theorem sgx {l:Array Bool} {i j:Nat} (h:i≠j):(l.setIfInBounds i true).getD j false=l.getD j false:=Go.getD_set_ne false h
theorem sgix {l:Array Bool} {i:Nat} (h:l.getD i true=false):(l.setIfInBounds i true).getD i false=true:=by
 have hlt:i<l.size:=by
  rcases Nat.lt_or_ge i l.size with h1|h1
  ·exact h1
  ·simp[Array.getElem?_eq_none h1]at h
 simp[hlt]
theorem zA3 {P : Program} {ops : Array Oper} {Q : Exit → Act → World → Prop} {i : Nat} {o : Oper} {I : Act → World → Prop} {a : Act} {w : World} (ho : ops[i]? = some o) (hg : o.guard = none)
  (h:∀K:Act→World→Prop,(∀a' w', I a' w' → K a' w')→o.wp P a w K Q):wpOp P ops Q i I a w:=wpOp_wp ho hg (h _ fun _ _ h=>h)
def Closed (ops:Array Oper) (listed:Array Bool):Prop:=∀i o,ops[i]? = some o→listed.getD i false=true→∀e∈o.after,Region.binds .any e=true→listed.getD e.on false=true
theorem zG7 {P : Program} {ops : Array Oper} {Q : Exit → Act → World → Prop} {id : Nat} {a : Act} {w : World} (I : Array Bool → Act → World → Prop) (hm : P.follows .mixedOrders = true) (hb : backB .any ops = true)
  (start:I (Array.replicate ops.size false) a { w with drawn:=w.drawn+1 })
  (step:∀listed a w i o,I listed a w→listed.size=ops.size→ops[i]? = some o→listed.getD i true=false→(∀e∈o.after,Region.binds .any e=true→listed.getD e.on false=true)→Closed ops listed→wpOp P ops Q i (fun a' w' => I (listed.setIfInBounds i true) a' w') a w)
  (done:∀listed a w,I listed a w→(∀i,i<ops.size→listed.getD i false=true)→Q .normal a w):(Code.region id ops true).wp P Q a w:=by
 refine zK9 (fun listed a w=>Closed ops listed∧I listed a w) hm hb ⟨fun i o _ hl=>?_,start⟩ ?_ (fun listed a w h hd=>done listed a w h.2 hd)
 ·rw[getD_replicate_false]at hl;cases hl
 ·rintro listed a w i o ⟨hc,hI⟩ hs ho hl he;refine wpOp_mono (fun a' w' h' => ⟨?_,h'⟩) (step listed a w i o hI hs ho hl he hc);intro j o' ho' hj e hem heb;have hset:∀k,listed.getD k false=true→(listed.setIfInBounds i true).getD k false=true:=fun k hk=>by
   by_cases hik:i=k
   ·subst hik;exact sgix hl
   ·rw[sgx hik];exact hk
  by_cases hij:i=j
  ·subst hij;rw[ho]at ho';obtain rfl:=Option.some.inj ho';exact hset _ (he e hem heb)
  ·rw[sgx hij]at hj;exact hset _ (hc j o' ho' hj e hem heb)
theorem heap_lt {w:World} {r:Nat} {o:Obj} (h:w.heap[r]? = some o):r<w.heap.size:=by
 rcases Nat.lt_or_ge r w.heap.size with h1|h1
 ·exact h1
 ·rw[Array.getElem?_eq_none h1]at h;simp at h
theorem Owns.touchN {w w':World} {base g:Nat} {v:Value} {xs:List Int} (h:Owns w base 3 1 rowI v xs) (ht:Touch g w w') (hg:∀k,v.ownBlock=some k→k≠g):Owns w' base 3 1 rowI v xs :=
 OwnR.kept h fun k hk=>ht.block k (OwnR.lt h k hk).2 (hg k hk)
theorem Below.touchN {B x:Nat} {a w w':World} (h:Below B a w) (ht:Touch x w w') (hx:B≤x) (hB:B≤a.heap.size):Below B a w':=h.trans (ht.below hx (Nat.le_trans hB h.size))
end Go.Proofs.YthnlalffjepdaaaGreat
namespace Go.Proofs.YthnlalffjepdaaaGreat
open Go.RowKit
attribute [local go_sem ↓] Go.wp_at_zero Go.wp_at_succ
def zJ1 (n : Nat) : Code → Option Code
 | .region id ops d=>if id=n then some (.region id ops d) else none
 | .seq a b => match zJ1 n a with
  |some c=>some c
  |none=>zJ1 n b
 | .loop c=>zJ1 n c
 | .block _ c=>zJ1 n c
 | .scope c=>zJ1 n c
 | .cond _ a b => match zJ1 n a with
  |some c=>some c
  |none=>zJ1 n b
 |_=>none
def rpA (i0 i1 i2 i3 i4 i5 i6 i9 i10 i11 i12 i13 i14 i15 i16 i17 i18 i19 i20 i21 i22 i23 i24 i25 i26 i27 i28 i29 i30 i31 i32 i33 i34 i35 i36 i37 i47:Value) (g n:Nat) (u8 u38 u39 u40 u41 u42 u43 u44 u45 u46:Value):Act:={ tmps:=#[i0,i1,i2,i3,i4,i5,i6,.slice (some ⟨g,0,none⟩) 6 6,u8,i9,i10,i11,i12,i13,i14,i15,i16,i17,i18,i19,i20,i21,i22,i23,i24,i25,i26,i27,i28,i29,i30,i31,i32,i33,i34,i35,i36,i37,u38,u39,u40,u41,u42,u43,u44,u45,u46,i47],defers:=[] }
def rpI (i0 i1 i2 i3 i4 i5 i6 i9 i10 i11 i12 i13 i14 i15 i16 i17 i18 i19 i20 i21 i22 i23 i24 i25 i26 i27 i28 i29 i30 i31 i32 i33 i34 i35 i36 i37 i47:Value) (g n:Nat) (x:Int) (w0 wq:World) (listed:Array Bool) (a:Act) (w':World):Prop :=
 ∃ u8 u38 u39 u40 u41 u42 u43 u44 u45 u46 : Value, a = rpA i0 i1 i2 i3 i4 i5 i6 i9 i10 i11 i12 i13 i14 i15 i16 i17 i18 i19 i20 i21 i22 i23 i24 i25 i26 i27 i28 i29 i30 i31 i32 i33 i34 i35 i36 i37 i47 g n u8 u38 u39 u40 u41 u42 u43 u44 u45 u46 ∧
   (listed.getD 0 false=true→u38=.int .i64 (n:Nat)) ∧
   (listed.getD 1 false=true→u39=.slice (some ⟨g,0,none⟩) 6 6) ∧
   (listed.getD 2 false=true→u40=.int .i64 (n:Nat)) ∧
   (listed.getD 3 false=true→u41=.slice (some ⟨g,n,none⟩) (6 - n) (6 - n)) ∧
   (listed.getD 4 false=true→u42=.slice (some ⟨g,0,none⟩) 6 6) ∧
   (listed.getD 5 false=true→u43=.int .i64 (n:Nat)) ∧
   (listed.getD 6 false=true→u44=.slice (some ⟨g,0,none⟩) n 6) ∧
   (listed.getD 7 false=true→u45=.int .i64 ((repM n:Nat):Int)∧w'.heap[g]? = some (.cells (repC x (n+repM n)).toArray 3 (0,0))) ∧
   (listed.getD 8 false=true→u46=.int .i64 ((n+repM n:Nat):Int)) ∧
   (listed.getD 9 false=true→u8=.int .i64 ((n+repM n:Nat):Int)) ∧
   (listed.getD 9 false=false→u8=.int .i64 (n:Nat)) ∧
   (listed.getD 7 false=false→w'.heap[g]? = some (.cells (repC x n).toArray 3 (0,0))) ∧
   Below w0.heap.size w0 w'
noncomputable def rpCode:Code:=(Tryz.f91.body.bind (zJ1 9)).getD .skip
set_option maxRecDepth 100000 in
theorem rp_region (i0 i1 i2 i3 i4 i5 i6 i9 i10 i11 i12 i13 i14 i15 i16 i17 i18 i19 i20 i21 i22 i23 i24 i25 i26 i27 i28 i29 i30 i31 i32 i33 i34 i35 i36 i37 i47 j38 j39 j40 j41 j42 j43 j44 j45 j46 : Value) (g n : Nat) (x : Int) (w0 wq : World) (hn : n = 1 ∨ n = 2 ∨ n = 4) (hG : wq.heap[g]? = some (.cells (repC x n).toArray 3 (0, 0))) (hB : Below w0.heap.size w0 wq) (hHg : w0.heap.size ≤ g)
  {Q:Exit→Act→World→Prop}
  (hK:∀(u8 u38 u39 u40 u41 u42 u43 u44 u45 u46:Value) w', u8=.int .i64 ((n+repM n:Nat):Int)∧w'.heap[g]? = some (.cells (repC x (n+repM n)).toArray 3 (0,0))∧Below w0.heap.size w0 w' → Q .normal (rpA i0 i1 i2 i3 i4 i5 i6 i9 i10 i11 i12 i13 i14 i15 i16 i17 i18 i19 i20 i21 i22 i23 i24 i25 i26 i27 i28 i29 i30 i31 i32 i33 i34 i35 i36 i37 i47 g n u8 u38 u39 u40 u41 u42 u43 u44 u45 u46) w'):rpCode.wp Tryz.prog Q (rpA i0 i1 i2 i3 i4 i5 i6 i9 i10 i11 i12 i13 i14 i15 i16 i17 i18 i19 i20 i21 i22 i23 i24 i25 i26 i27 i28 i29 i30 i31 i32 i33 i34 i35 i36 i37 i47 g n (.int .i64 (n:Nat)) j38 j39 j40 j41 j42 j43 j44 j45 j46) wq:=by
 conv=>arg 2;whnf
 refine zG7 (rpI i0 i1 i2 i3 i4 i5 i6 i9 i10 i11 i12 i13 i14 i15 i16 i17 i18 i19 i20 i21 i22 i23 i24 i25 i26 i27 i28 i29 i30 i31 i32 i33 i34 i35 i36 i37 i47 g n x w0 wq) (by kernel_rfl) (by kernel_rfl) ?_ ?_ ?_
 ·exact⟨_,_,_,_,_,_,_,_,_,_,rfl,(fun h=>absurd h (by rw[getD_replicate_false];simp)),(fun h=>absurd h (by rw[getD_replicate_false];simp)),(fun h=>absurd h (by rw[getD_replicate_false];simp)),(fun h=>absurd h (by rw[getD_replicate_false];simp)),(fun h=>absurd h (by rw[getD_replicate_false];simp)),(fun h=>absurd h (by rw[getD_replicate_false];simp)),(fun h=>absurd h (by rw[getD_replicate_false];simp)),(fun h=>absurd h (by rw[getD_replicate_false];simp)),(fun h=>absurd h (by rw[getD_replicate_false];simp)),(fun h=>absurd h (by rw[getD_replicate_false];simp)),(fun _=>rfl),(fun _=>hG),hB.drew⟩
 ·intro listed a w' i o hI hsz ho hl he hcl;have hi:i<10:=(Array.getElem?_eq_some_iff.1 ho).1;have e:i=0∨i=1∨i=2∨i=3∨i=4∨i=5∨i=6∨i=7∨i=8∨i=9:=by omega
  clear hi;rcases e with rfl|rfl|rfl|rfl|rfl|rfl|rfl|rfl|rfl|rfl
  all_goals (have ho2:=ho;obtain rfl:=Option.some.inj ho2.symm;clear ho2)
  ·as_aux_lemma=>
    obtain⟨u8,u38,u39,u40,u41,u42,u43,u44,u45,u46,rfl,F0,F1,F2,F3,F4,F5,F6,F7,F8,F9,N9,N7,hx⟩:=hI
    have e9 : u8 = .int .i64 n := N9 (by
     rcases hq:listed.getD 9 false with _|_
     ·rfl
     ·exact absurd (hcl 9 _ rfl hq ⟨0,.phase⟩ (by simp) rfl) (by rw[getD_both hl];simp))
    subst e9;refine zA3 ho rfl (fun K hK=>?_);unfold rpA;go_simp;exact hK _ _ ⟨_,_,_,_,_,_,_,_,_,_,rfl,fun _=>rfl,cy F1 rfl,cy F2 rfl,cy F3 rfl,cy F4 rfl,cy F5 rfl,cy F6 rfl,cy F7 rfl,cy F8 rfl,cy F9 rfl,cy N9 rfl,cy N7 rfl,hx⟩
  ·as_aux_lemma=>
    obtain⟨u8,u38,u39,u40,u41,u42,u43,u44,u45,u46,rfl,F0,F1,F2,F3,F4,F5,F6,F7,F8,F9,N9,N7,hx⟩:=hI;refine zA3 ho rfl (fun K hK=>?_);unfold rpA;go_simp;exact hK _ _ ⟨_,_,_,_,_,_,_,_,_,_,rfl,cy F0 rfl,fun _=>rfl,cy F2 rfl,cy F3 rfl,cy F4 rfl,cy F5 rfl,cy F6 rfl,cy F7 rfl,cy F8 rfl,cy F9 rfl,cy N9 rfl,cy N7 rfl,hx⟩
  ·as_aux_lemma=>
    obtain⟨u8,u38,u39,u40,u41,u42,u43,u44,u45,u46,rfl,F0,F1,F2,F3,F4,F5,F6,F7,F8,F9,N9,N7,hx⟩:=hI
    have e9 : u8 = .int .i64 n := N9 (by
     rcases hq:listed.getD 9 false with _|_
     ·rfl
     ·exact absurd (hcl 9 _ rfl hq ⟨2,.phase⟩ (by simp) rfl) (by rw[getD_both hl];simp))
    subst e9;refine zA3 ho rfl (fun K hK=>?_);unfold rpA;go_simp;exact hK _ _ ⟨_,_,_,_,_,_,_,_,_,_,rfl,cy F0 rfl,cy F1 rfl,fun _=>rfl,cy F3 rfl,cy F4 rfl,cy F5 rfl,cy F6 rfl,cy F7 rfl,cy F8 rfl,cy F9 rfl,cy N9 rfl,cy N7 rfl,hx⟩
  ·as_aux_lemma=>
    obtain⟨u8,u38,u39,u40,u41,u42,u43,u44,u45,u46,rfl,F0,F1,F2,F3,F4,F5,F6,F7,F8,F9,N9,N7,hx⟩:=hI;have l1:=he ⟨1,.data⟩ (by simp) rfl;have l2:=he ⟨2,.data⟩ (by simp) rfl;have e:=F1 l1;subst e;have e:=F2 l2;subst e;have h1:n≤6:=by omega
    have h2:¬6=n:=by omega
    refine zA3 ho rfl (fun K hK=>?_);unfold rpA;rcases hn with rfl|rfl|rfl
    all_goals
     go_simp;exact hK _ _ ⟨_,_,_,_,_,_,_,_,_,_,rfl,cy F0 rfl,cy F1 rfl,cy F2 rfl,fun _=>rfl,cy F4 rfl,cy F5 rfl,cy F6 rfl,cy F7 rfl,cy F8 rfl,cy F9 rfl,cy N9 rfl,cy N7 rfl,hx⟩
  ·as_aux_lemma=>
    obtain⟨u8,u38,u39,u40,u41,u42,u43,u44,u45,u46,rfl,F0,F1,F2,F3,F4,F5,F6,F7,F8,F9,N9,N7,hx⟩:=hI;refine zA3 ho rfl (fun K hK=>?_);unfold rpA;go_simp;exact hK _ _ ⟨_,_,_,_,_,_,_,_,_,_,rfl,cy F0 rfl,cy F1 rfl,cy F2 rfl,cy F3 rfl,fun _=>rfl,cy F5 rfl,cy F6 rfl,cy F7 rfl,cy F8 rfl,cy F9 rfl,cy N9 rfl,cy N7 rfl,hx⟩
  ·as_aux_lemma=>
    obtain⟨u8,u38,u39,u40,u41,u42,u43,u44,u45,u46,rfl,F0,F1,F2,F3,F4,F5,F6,F7,F8,F9,N9,N7,hx⟩:=hI
    have e9 : u8 = .int .i64 n := N9 (by
     rcases hq:listed.getD 9 false with _|_
     ·rfl
     ·exact absurd (hcl 9 _ rfl hq ⟨5,.phase⟩ (by simp) rfl) (by rw[getD_both hl];simp))
    subst e9;refine zA3 ho rfl (fun K hK=>?_);unfold rpA;go_simp;exact hK _ _ ⟨_,_,_,_,_,_,_,_,_,_,rfl,cy F0 rfl,cy F1 rfl,cy F2 rfl,cy F3 rfl,cy F4 rfl,fun _=>rfl,cy F6 rfl,cy F7 rfl,cy F8 rfl,cy F9 rfl,cy N9 rfl,cy N7 rfl,hx⟩
  ·as_aux_lemma=>
    obtain⟨u8,u38,u39,u40,u41,u42,u43,u44,u45,u46,rfl,F0,F1,F2,F3,F4,F5,F6,F7,F8,F9,N9,N7,hx⟩:=hI;have l4:=he ⟨4,.data⟩ (by simp) rfl;have l5:=he ⟨5,.data⟩ (by simp) rfl;have e:=F4 l4;subst e;have e:=F5 l5;subst e;have h1:n≤6:=by omega
    refine zA3 ho rfl (fun K hK=>?_);unfold rpA;rcases hn with rfl|rfl|rfl
    all_goals
     go_simp;exact hK _ _ ⟨_,_,_,_,_,_,_,_,_,_,rfl,cy F0 rfl,cy F1 rfl,cy F2 rfl,cy F3 rfl,cy F4 rfl,cy F5 rfl,fun _=>rfl,cy F7 rfl,cy F8 rfl,cy F9 rfl,cy N9 rfl,cy N7 rfl,hx⟩
  ·as_aux_lemma=>
    obtain⟨u8,u38,u39,u40,u41,u42,u43,u44,u45,u46,rfl,F0,F1,F2,F3,F4,F5,F6,F7,F8,F9,N9,N7,hx⟩:=hI;have l3:=he ⟨3,.data⟩ (by simp) rfl;have l6:=he ⟨6,.data⟩ (by simp) rfl;have e:=F3 l3;subst e;have e:=F6 l6;subst e;obtain⟨w2,hcp,hg2,ht2⟩:=rep_copy hn (N7 (getD_both hl));have HG2:=hid hg2;have HT2:=hid ht2;clear hg2 ht2;refine zA3 ho rfl (fun K hK=>?_);unfold rpA;go_simp;exact hK _ _ ⟨_,_,_,_,_,_,_,_,_,_,rfl,cy F0 rfl,cy F1 rfl,cy F2 rfl,cy F3 rfl,cy F4 rfl,cy F5 rfl,cy F6 rfl,fun _=>⟨rfl,HG2.out⟩,cy F8 rfl,cy F9 rfl,cy N9 rfl,fun hj=>absurd hj (by rw[sgix hl];simp),hx.trans (HT2.out.below hHg hx.size)⟩
  ·as_aux_lemma=>
    obtain⟨u8,u38,u39,u40,u41,u42,u43,u44,u45,u46,rfl,F0,F1,F2,F3,F4,F5,F6,F7,F8,F9,N9,N7,hx⟩:=hI;have l0:=he ⟨0,.data⟩ (by simp) rfl;have l7:=he ⟨7,.data⟩ (by simp) rfl;have e:=F0 l0;subst e;obtain⟨e,hg7⟩:=F7 l7;subst e;have HG7:=hid hg7;clear hg7;have hm:repM n≤2:=by unfold repM;split <;> omega
    have h1:n≤6:=by omega
    refine zA3 ho rfl (fun K hK=>?_);unfold rpA;go_simp;exact hK _ _ ⟨_,_,_,_,_,_,_,_,_,_,rfl,cy F0 rfl,cy F1 rfl,cy F2 rfl,cy F3 rfl,cy F4 rfl,cy F5 rfl,cy F6 rfl,fun hj=>⟨rfl,HG7.out⟩,fun _=>(by rcases hn with rfl|rfl|rfl <;> rfl),cy F9 rfl,cy N9 rfl,cy N7 rfl,hx⟩
  ·as_aux_lemma=>
    obtain⟨u8,u38,u39,u40,u41,u42,u43,u44,u45,u46,rfl,F0,F1,F2,F3,F4,F5,F6,F7,F8,F9,N9,N7,hx⟩:=hI;have l8:=he ⟨8,.data⟩ (by simp) rfl;have e:=F8 l8;subst e;refine zA3 ho rfl (fun K hK=>?_);unfold rpA;go_simp;exact hK _ _ ⟨_,_,_,_,_,_,_,_,_,_,rfl,cy F0 rfl,cy F1 rfl,cy F2 rfl,cy F3 rfl,cy F4 rfl,cy F5 rfl,cy F6 rfl,cy F7 rfl,cy F8 rfl,fun _=>rfl,fun hj=>absurd hj (by rw[sgix hl];simp),cy N7 rfl,hx⟩
 ·intro listed a w' hI hd;obtain⟨u8,u38,u39,u40,u41,u42,u43,u44,u45,u46,rfl,F0,F1,F2,F3,F4,F5,F6,F7,F8,F9,N9,N7,hx⟩:=hI;obtain⟨e7,hg7⟩:=F7 (hd 7 (by show 7<10;omega));have e9:=F9 (hd 9 (by show 9<10;omega));exact hK _ _ _ _ _ _ _ _ _ _ w' ⟨e9,hg7,hx⟩
set_option maxRecDepth 4000 in
theorem repeat6_any (x : Int) (b o : Nat) (w : World) (hc : w.cell? ⟨b, o, none⟩ = some (.int .i64 x)) :
  Calls Tryz.prog 91 #[.slice (some ⟨b,o,none⟩) 1 1,.int .i64 6] w (RepP x w):=by
 have hbl:b<w.heap.size:=World.block_lt_of_cell? w _ hc
 have HC := hid (show ∀ j v, ([.int .i64 x] : List Value)[j]? = some v → (w.alloc (.cells (madeCells #[.int .i64 0] 6) 3)).cell? ((⟨b, o, none⟩ : Addr).add j) = some v from fun j v hv => by
  have hj:j=0:=by have:=(List.getElem?_eq_some_iff.1 hv).1;simpa using this
  subst hj;simp only[List.getElem?_cons_zero,Option.some.injEq]at hv;subst hv;rw[Addr.add_lit,Nat.add_zero,(bx1 w _).cell (p:=⟨b,o,none⟩) hbl];exact hc)
 have hh := hid (show (w.alloc (.cells (madeCells #[.int .i64 0] 6) 3)).heap[w.heap.size]? = some (.cells (repC x 0).toArray 3 (0, 0)) by
  show(w.heap.push _)[w.heap.size]? = _;rw[Array.getElem?_push_size,show madeCells #[Value.int .i64 0] 6=(repC x 0).toArray by rw[←Array.toList_inj,toList_madeCells_one];rfl])
 have hbx:=hid (bx1 w (.cells (madeCells #[.int .i64 0] 6) 3));clear hc;obtain⟨W2,hW2⟩:∃W2,W2=(w.alloc (.cells (madeCells #[.int .i64 0] 6) 3)).setCells w.heap.size 0 [.int .i64 x]:=⟨_,rfl⟩
 have hcp:∀ty,(Builtin.copy_ #[24,24] ty #[.slice (some ⟨w.heap.size,0,none⟩) 6 6,.slice (some ⟨b,o,none⟩) 1 1]).run Tryz.prog (w.alloc (.cells (madeCells #[.int .i64 0] 6) 3))=.ok (goInt 1) W2:=fun ty=>by
  rw[hW2]
  exact run_copy_cells (P := Tryz.prog) _ 24 24 ty 3 w.heap.size 0 6 6 ⟨b, o, none⟩ 1 1 [.int .i64 x] Tryz.underlying24 infoIs rfl HC.out (fun j hj => by
   obtain rfl:j=0:=by simpa using hj
   simp only[World.cell?,hh.out];simp[repC]) (fun j hj=>by simp only[World.frozen?,hh.out];simp) (one_of (by simp))
 have HG2 := hid (show W2.heap[w.heap.size]? = some (.cells (repC x 1).toArray 3 (0, 0)) by
  rw[hW2];show((w.alloc _).setCell ⟨w.heap.size,0,none⟩ _).heap[w.heap.size]? = _;simp only[World.setCell,Array.getElem?_modify,hh.out]
  rfl)
 have HB2:=hid (show Below w.heap.size w W2 by rw[hW2];exact hbx.out.setCell (p:=⟨w.heap.size,0,none⟩) (Nat.le_refl _) _);clear hW2;obtain⟨i1,hj,jz0,jz1,jz2⟩:=info_parts infoI
 go_enter Tryz.func91,Tryz.ntmps91
 go_wp2_with (first
  |(go_at_call 139;refine(mul16 _).mono ?_;rintro e w' ⟨rfl,rfl⟩)
  |(at_make;go_must (refine wpList_make_row _ rfl _ _ 24 rfl 3 i1 (.int .i64 0) Tryz.underlying24 hj jz0 jz1 rfl _ _ 6 rfl rfl (by rw[jz2];omega) (by omega) ?_))
  |fail)
 clear hh hbx HC hcp
 go_loopw [8] (fun n' wr=>∃n:Nat,(n=1∨n=2∨n=4∨n=6)∧n' = .int .i64 n∧wr.heap[w.heap.size]? = some (.cells (repC x n).toArray 3 (0,0))∧Below w.heap.size w wr) (fun n' _=>6 - (intOf n').toNat)
 case atStart=>exact⟨1,.inl rfl,rfl,HG2.out,HB2.out⟩
 case round=>
  obtain⟨n,hn,rfl,hg,hb⟩:=hrel;have HG:=hid hg;have HB:=hid hb;clear hg hb HG2 HB2;by_cases h6:n=6
  ·subst h6
   go_wp2_with fail
   go_ret
   refine⟨rfl,?_,HB.out⟩;have e:(repC x 6)=(List.replicate 6 x).flatMap rowI:=by simp[repC,rowI,List.replicate]
   have hg:=HG.out;rw[e]at hg;exact⟨by simp[rowI],.inr ⟨w.heap.size,0,6,_,rfl,Nat.le_refl _,hg,by simp,by unfold maxLen;omega,by simp[rowI],fun j hj=>by simp⟩⟩
  ·have hn3:n=1∨n=2∨n=4:=by omega
   have HN:=hid hn3;have hlt:(n:Int)<6:=by omega
   clear hn h6 hn3
   go_upto_region 9 with fail
   refine rp_region _ _ _ _ _ _ _ _ _ _ _ _ _ _ _ _ _ _ _ _ _ _ _ _ _ _ _ _ _ _ _ _ _ _ _ _ _ _ _ _ _ _ _ _ _ _ w.heap.size n x w wr HN.out HG.out HB.out (Nat.le_refl _) ?_;intro u8 u38 u39 u40 u41 u42 u43 u44 u45 u46 w5 h5;obtain⟨rfl,hg,hb⟩:=h5;have HG5:=hid hg;have HB5:=hid hb;clear hg hb;unfold rpA
   go_wp2_with fail
   go_roundw
   case rel=>exact⟨n+repM n,by have:=HN.out;unfold repM;rcases this with rfl|rfl|rfl <;> simp,rfl,HG5.out,HB5.out⟩
   case measure=>
    have:=HN.out;simp only[intOf];unfold repM;rcases this with rfl|rfl|rfl <;> simp
end Go.Proofs.YthnlalffjepdaaaGreat
namespace Go.Proofs.YthnlalffjepdaaaGreat
open Go.RowKit
theorem implMemNew_any (w:World):Calls Tryz.prog 90 #[] w fun e w' => ∃g off c,e=.returned (.agg #[.slice (some ⟨g,off,none⟩) 64 c])∧Owns w' w.heap.size 3 1 rowI (.slice (some ⟨g,off,none⟩) 64 c) (List.replicate 64 0)∧64≤c∧c≤9223372036854775807∧Below w.heap.size w w':=by
 obtain⟨i1,hj,jz0,jz1,jz2⟩:=info_parts infoI
 go_enter Tryz.func90,Tryz.ntmps90
 go_wp2_with (at_make;go_must (refine wpList_make_full _ rfl _ _ 24 rfl (w.heap.size+1) 3 i1 (.int .i64 0) 1 Tryz.underlying24 hj jz0 jz1 _ _ _ _ 64 rfl rfl rfl rfl (by rw[jz2];omega) (by unfold maxLen;omega) (by simp) ?_);intro w1 hown hgrow;have hbx:=(show Below (w.heap.size+1) (w.alloc (.cells #[.slice none 0 0] 39)) w1 from(Below.refl _ _).grown hgrow (by simp) (by simp));have d0:w1.cell? ⟨w.heap.size,0,none⟩=some (.slice none 0 0):=(by rw[hbx.cell (p:=⟨w.heap.size,0,none⟩) (by simp)];simp[go_sem]);have d1:w1.frozen? ⟨w.heap.size,0,none⟩=false:=(by rw[hbx.frozen (p:=⟨w.heap.size,0,none⟩) (by simp)];simp[go_sem]))
 rw[show madeCells (Value.int .i64 0).cells (64 * 1)=madeCells #[.int .i64 0] 64 by rfl,toList_madeCells_one]at hown;have HO:=hid (owns_made hown);simp only[World.size_alloc]at HO;have HB:=hid hbx;clear hown hgrow hbx
 go_wp2_with fail
 refine bodyPost_ret (v:=.agg #[.slice (some ⟨w.heap.size+1,0,none⟩) 64 64]) (by simp[results,Tryz.results90,go_sem,d0]) rfl ⟨_,_,_,rfl,?_,by omega,by omega,?_⟩
 ·exact(HO.out.rebase (by omega)).set' _ _ _ (fun k hk=>by have:=(OwnR.lt HO.out k hk).1;omega)
 ·exact(((Below.refl _ _).alloc (Nat.le_refl _) _).trans (HB.out.mono (by omega))).setCell (by simp) _
def AtmNewW (w:World) (e:Ending) (w':World):Prop :=
 ∃ wa wc g ga go gc, e = .returned (.agg #[.slice (some ⟨g, wa, none⟩) 64 wc, .slice (some ⟨ga, go, none⟩) 6 gc]) ∧ Owns w' w.heap.size 3 1 rowI (.slice (some ⟨g, wa, none⟩) 64 wc) (List.replicate 64 0) ∧ Owns w' w.heap.size 3 1 rowI (.slice (some ⟨ga, go, none⟩) 6 gc) (List.replicate 6 (-1)) ∧
  6≤gc∧gc≤9223372036854775807∧Apart (.slice (some ⟨g,wa,none⟩) 64 wc) (.slice (some ⟨ga,go,none⟩) 6 gc)∧Below w.heap.size w w'
theorem implAtmNewW_any (w:World):Calls Tryz.prog 48 #[] w (AtmNewW w):=by
 go_enter Tryz.func48,Tryz.ntmps48
 go_wp2_with fail
 refine(implMemNew_any _).mono ?_;rintro e w1 ⟨g,off,c,rfl,hown,hc1,hc2,hb⟩;have HB1:=hid ((bx1 w _).trans (hb.mono (by simp)));have HO:=hid hown;have d0:w1.cell? ⟨w.heap.size,0,none⟩=some (.slice none 0 0):=by rw[hb.cell (p:=⟨w.heap.size,0,none⟩) (by simp)];simp[go_sem]
 have d1:w1.cell? ⟨w.heap.size,1,none⟩=some (.slice none 0 0):=by rw[hb.cell (p:=⟨w.heap.size,1,none⟩) (by simp)];simp[go_sem]
 have f0:w1.frozen? ⟨w.heap.size,0,none⟩=false:=by rw[hb.frozen (p:=⟨w.heap.size,0,none⟩) (by simp)];simp[go_sem]
 have f1:w1.frozen? ⟨w.heap.size,1,none⟩=false:=by rw[hb.frozen (p:=⟨w.heap.size,1,none⟩) (by simp)];simp[go_sem]
 have hz1:w.heap.size<w1.heap.size:=World.block_lt_of_cell? w1 _ d0;clear hown hb
 go_wp2_with fail
 refine(repeat6_any (-1) w1.heap.size 0 _ (by simp[go_sem])).mono ?_;rintro e w2 ⟨rfl,ho2,hb2⟩;simp only[World.size_alloc]at ho2 hb2 ⊢;have HB2:=hid ((bx1 w1 _).trans (hb2.mono (by omega)));have HO2:=hid ho2;have e0:w2.cell? ⟨w.heap.size,0,none⟩=some (.slice none 0 0):=by rw[HB2.out.cell (p:=⟨w.heap.size,0,none⟩) hz1];exact d0
 have e1:w2.cell? ⟨w.heap.size,1,none⟩=some (.slice none 0 0):=by rw[HB2.out.cell (p:=⟨w.heap.size,1,none⟩) hz1];exact d1
 have g0:w2.frozen? ⟨w.heap.size,0,none⟩=false:=by rw[HB2.out.frozen (p:=⟨w.heap.size,0,none⟩) hz1];exact f0
 have g1:w2.frozen? ⟨w.heap.size,1,none⟩=false:=by rw[HB2.out.frozen (p:=⟨w.heap.size,1,none⟩) hz1];exact f1
 have hz2:w.heap.size<w2.heap.size:=World.block_lt_of_cell? w2 _ e0;clear ho2 hb2 d0 d1 f0 f1
 go_wp2_with fail
 refine bodyPost_ret (zA4 Tryz.results48 _ _ ⟨w.heap.size,0,none⟩ (.agg #[.slice (some ⟨g,off,none⟩) 64 c,.slice (some ⟨w1.heap.size+1,0,none⟩) 6 6]) rfl (loadVar_atm _ _ _ _ (by simp[go_sem, *]) (by simp[go_sem, *]))) rfl ⟨_,_,_,_,_,_,rfl,?_,?_,by omega,by omega,fun k hk hk2=>?_,?_⟩
 ·have X:=(HO.out.below HB2.out).rebase (show w.heap.size≤_ by simp);have hl:=fun k hk=>(OwnR.lt HO.out k hk).1
  repeat(first|with_reducible exact X|with_reducible refine Owns.set' ?_ _ _ _ (fun j hj=>by have:=hl j hj;simp at this;omega))
 ·have X:=HO2.out.rebase (show w.heap.size≤_ by omega)
  repeat(first|with_reducible exact X|with_reducible refine Owns.set' ?_ _ _ _ (fun j hj=>by simp[Value.ownBlock]at hj;omega))
 ·have h1:=(OwnR.lt HO.out k hk).2;simp only[Value.ownBlock,Option.some.injEq]at hk2;omega
 ·exact((HB1.out.trans (HB2.out.mono (by omega))).setCell (by exact Nat.le_refl _) _).setCell (by exact Nat.le_refl _) _
end Go.Proofs.YthnlalffjepdaaaGreat
