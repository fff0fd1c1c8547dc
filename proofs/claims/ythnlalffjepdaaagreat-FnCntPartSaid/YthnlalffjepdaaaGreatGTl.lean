/- A cycle: may's test of a job whose id is another one: the guard strikes what is behind it (printed by wip/gen_my.py). -/
import Derived.Test.YthnlalffjepdaaaGreatGMs
import Derived.Test.YthnlalffjepdaaaGreatGDr2
import Derived.Test.YthnlalffjepdaaaGreatGE1
import Derived.Test.YthnlalffjepdaaaGreatGClInt
import Derived.BigGuardPart
import Derived.Deep.RegionHeld3
import Derived.Deep.QuietTactic
import Derived.BigQuiet
import Derived.Orders
import Derived.StillTail
set_option linter.unusedVariables false
set_option linter.unusedSimpArgs false
set_option maxHeartbeats 16000000
namespace Go.Proofs.YthnlalffjepdaaaGreat
open Go.RowKit
set_option maxRecDepth 4000 in
theorem tell_any {c : Cfg} (hbus : Bus c) {w : World} {base S Hb : Nat} {L : Nat → Value} {st : Cy} {ev : List Ev} {V0 : Nat → Value} {N0 : Nat → Nat} {C0 : Nat → List Value} {D0 : Nat → List TJV} (hm : CyM w base S Hb L st ev V0 N0 C0 D0) (hg : Good c st) (hev : ev.length ≤ 500) {inp : Inp} {v : Value} {B : Nat} (hin : InV w B v inp) (hB : B ≤ base) :
  Calls Tryz.prog 114 #[.pointer (some ⟨S,0,none⟩),v,.pointer (some ⟨Hb,0,none⟩)] w (PartP base S Hb L (zB2 inp (st,ev)) V0 w):=by
 obtain⟨⟨ra,rc,ta,tc,sa,sc,rfl,hr1,hr2,hr3⟩,hl1,hl2,hl3⟩:=hin;have HM:=hid hm;have HG0:=hid hg;have hS:=zA2 hm.bs;have hbw:base≤w.heap.size:=Nat.le_trans hm.s0 (Nat.le_of_lt (zA2 hm.bs));obtain⟨q0,q1,q2,q3,q4,qf⟩:=hm.box;obtain⟨pg,po,pc,hV2,hpc,hpc2,_,_⟩:=hm.ports;rw[hV2]at q2;have HR:=hid hr1;have HL1:=hid hl1;rw[hl1];clear hm hg hr1 hr2 hr3 hl1 hl2 hl3 hV2 qf q0 q1 q3 q4 hpc2 hpc
 go_enter Tryz.func114,Tryz.ntmps114
 go_wp2_with fail
 obtain⟨w0,hw0⟩:∃W,W=w.alloc (.cells #[.slice ra 3 rc,.slice ta inp.stall.length tc,.slice sa inp.send.length sc] 64):=⟨_,rfl⟩
 rw[←hw0];have hb0:Below w.heap.size w w0:=by rw[hw0];exact(Below.refl _ _).alloc (Nat.le_refl _) _
 have hz0:w0.heap.size=w.heap.size+1:=by rw[hw0];simp
 have HI0:=hid (show w0.heap[w.heap.size]? = some (.cells #[.slice ra 3 rc,.slice ta inp.stall.length tc,.slice sa inp.send.length sc] 64 (0,0)) by rw[hw0];show(w.heap.push _)[w.heap.size]? = _;simp);have HFR:=hid (HM.out.fresh (w':=w0) (Nat.le_refl w.heap.size) (by omega));have HKB:=hid (Kp.below (S:=S) (Hb:=Hb) (V:=V0) hb0);have HM0:=hid (HM.out.below hb0);have HB0:=hid (hb0.mono hbw);have HR0:=hid HR.out;have HZ:=hid hz0;clear hw0 hb0 hz0 q2 HM HR hS
 go_loopw [18] (fun i wr=>∃k:Nat,k≤3∧i=.int .i64 k∧Good c (foldN (tell1 inp) k (st,ev)).1∧(foldN (tell1 inp) k (st,ev)).2.length≤ev.length+k∧(∃V N C D,CyM wr base S Hb L (foldN (tell1 inp) k (st,ev)).1 (foldN (tell1 inp) k (st,ev)).2 V N C D∧Kp S Hb V0 w0 V wr)∧Below base w wr) (fun i _=>3 - (intOf i).toNat)
 case atStart=>exact⟨0,by omega,by go_num,HG0.out,by simp[foldN],⟨_,_,_,_,HM0.out,Kp.refl _ _ _ _⟩,HB0.out⟩
 case round=>
  obtain⟨k,hk,rfl,hg,hlen,⟨V,N,C,D,hm,hkp⟩,hbl⟩:=hrel;have hib:=((hkp _ HFR.out).1).trans HI0.out;have HKP:=hid hkp;clear hkp;by_cases hlt:k<3
  ·have hlti:(k:Int)<3:=by omega
   obtain⟨x,hx⟩:∃x,x=foldN (tell1 inp) k (st,ev):=⟨_,rfl⟩
   have HX1:=hid (show foldN (tell1 inp) (k+1) (st,ev)=tell1 inp k x by rw[hx];rfl);rw[←hx]at hg hlen hm;have HX:=hid hx;have hwl:=zA2 hib;obtain⟨i0,i1,i2⟩:wr.cell? ⟨w.heap.size,0,none⟩=some (.slice ra 3 rc)∧wr.cell? ⟨w.heap.size,1,none⟩=some (.slice ta inp.stall.length tc)∧wr.cell? ⟨w.heap.size,2,none⟩=some (.slice sa inp.send.length sc):=by refine⟨?_,?_,?_⟩ <;> simp[World.cell?,hib]
   have HM:=hid hm;have HG:=hid hg;have HIB:=hid hib;have HBL:=hid hbl;have HLEN:=hid hlen;have hS:=zA2 hm.bs;obtain⟨q0,q1,q2,q3,q4,qf⟩:=hm.box;obtain⟨pg,po,pc,hV2,hpc,hpc2,hpb,hpz⟩:=hm.ports;obtain⟨sg,so,sc', hV3,hsc,hsc2,hsb,hsz⟩:=hm.stores;obtain⟨p0,p1,p2,p3,pf⟩:=hm.port hV2 hlt;have HV2:=hid hV2;have HV3:=hid hV3;rw[hV2]at q2;rw[hV3]at q3;obtain⟨rb,ro,hra,hrb,hrc⟩:∃b off,ra=some ⟨b,off,none⟩∧b<B∧wr.cell? ⟨b,off+k,none⟩=some (.bool (inp.ready.getD k false)):=by
    obtain⟨ao,cp,eo,_,_,_,_,ho⟩:=HR0.out.opened;obtain⟨b,off,rfl,hb,hc⟩:=ho (by rw[HL1.out];omega);simp only[Value.slice.injEq]at eo;exact⟨b,off,eo.1,hb,(hbl.cell (p:=⟨b,_,none⟩) (Nat.lt_of_lt_of_le hb hB)).trans (hc k (by rw[HL1.out];exact hlt))⟩
   obtain⟨rdy,hrdy⟩:∃r,r=inp.ready.getD k false:=⟨_,rfl⟩
   rw[←hrdy]at hrc;have HRDY:=hid hrdy;have hlast:(x.1.ports k).last≤3:=(hg.p k hlt).l;have h1000:x.1.told.length≤36:=hg.told36 hbus;subst hra;clear hm hg hib hbl hlen hx hV2 hV3 hrdy HM0 HG0;rcases rdy with _|_
   ·go_wp2_with fail
    go_loopw [8] (fun i wd=>i=.int .i64 1∧wd=wr) (fun _ _=>0)
    case atStart=>exact⟨rfl,rfl⟩
    case round=>
     obtain⟨rfl,rfl⟩:=hrel
     go_wp2_with fail
     go_roundw
     case rel=>exact⟨k+1,by omega,by go_num,by rw[HX1.out,tell1_no HRDY.out.symm];exact HG.out,by rw[HX1.out,tell1_no HRDY.out.symm];have:=HLEN.out;omega,by rw[HX1.out,tell1_no HRDY.out.symm];exact⟨_,_,_,_,HM.out,HKP.out⟩,HBL.out⟩
     case measure=>simp[intOf];omega
   ·go_wp2_with fail
    go_loopw [8] (fun i wd=>∃m:Nat,1≤m∧m≤5∧i=.int .i64 m∧wd=wr∧∀j,1≤j→j<m→tellM x.1 k j=false) (fun i _=>5 - (intOf i).toNat)
    case atStart=>exact⟨1,by omega,by omega,rfl,rfl,fun j h1 h2=>by omega⟩
    case round=>
     obtain⟨m,hm1,hm5,rfl,rfl,hno⟩:=hrel;have HNO:=hid hno;clear hno;by_cases h4:m≤4
     ·have h4i:(m:Int)≤4:=by omega
      obtain⟨t,ht⟩:∃t,t=((x.1.ports k).last+m) % 4:=⟨_,rfl⟩
      have ht4:t<4:=by omega
      have hti:(((x.1.ports k).last:Int)+(m:Int)) % 4=(t:Int):=by omega
      have HT:=hid ht.symm;have HTI:=hid hti;clear ht hti
      go_upto_region 9 with fail
      simp only[HTI.out];obtain⟨s0,s1,s2,sf⟩:=HM.out.store HV3.out ht4;obtain⟨da,dc,hvd,hdc,hdc2⟩:=HM.out.oDone ht4 |>.shape
      have hdl:=HM.out.lDone ht4;rcases hd:(x.1.slaves t).done with _|⟨j,rest⟩
      ·rw[hdl,hd]at hvd;rw[hvd]at s1;simp only[List.length_nil]at s1 hvd;have HQ:=hid (show tellM x.1 k m=false by rw[tellM_eq HT.out,hd]);clear hdl hd hvd hdc hdc2 sf s0 s2
       go_wp2_with fail
       go_roundw
       case rel => exact ⟨m + 1, by omega, by omega, by go_num, by first | rfl | trivial, fun i h1 h2 => by
        by_cases e:i=m
        ·subst e;exact HQ.out
        ·exact HNO.out i h1 (by omega)⟩
       case measure=>simp[intOf];omega
      ·obtain⟨y,Y,hD,hy,hY⟩:∃y Y,D (15+t)=y::Y∧y.1=j∧Y.map (·.1)=rest:=by
        have h1:=HM.out.con.td t ht4;rw[hd]at h1;rcases hDD:D (15+t)with _|⟨y,Y⟩
        ·rw[hDD]at h1;cases h1
        ·rw[hDD]at h1;simp only[List.map_cons,List.cons.injEq]at h1;exact⟨y,Y,rfl,h1.1,h1.2⟩
       have hown:=HM.out.oDone ht4;rw[hD]at hown hdl hvd;obtain⟨dg,dof,dcp,hvs,hdcp,hdcp2,hdgb,hdgz⟩:=OwnR.addr hown (by simp);rw[hvs]at hown hvd s1;simp only[List.length_cons]at hvs hdcp s1;have cl:∀i,i<5→wr.cell? ⟨dg,dof+i,none⟩=(tjRow y)[i]?:=fun i hi=>by
        have:=Owns.cellAt hown (fun _=>rfl) 0 i y (by simp) hi;simpa using this
       obtain⟨ea,en,ec,hdv⟩:=intsD_slice (HM.out.dat (15+t) (by omega) y (by rw[hD];simp)).1;have c0:=cl 0 (by omega);have c1:=cl 1 (by omega);have c2:=cl 2 (by omega);have c3:=cl 3 (by omega);have c4:=cl 4 (by omega);simp only[tjRow,List.getElem?_cons_zero,List.getElem?_cons_succ,Nat.add_zero,hy,hdv]at c0 c1 c2 c3 c4;have HD:=hid hD;have HY:=hid hY;have HYJ:=hid hy;have HDV:=hid hdv;have HD0:=hid hd;have HVS:=hid hvs;have HOWN:=hid hown;clear hD hY hy hdv hd hvs hown hvd hdl cl hdc hdc2;by_cases hjk:j.who=k
       ·have hq:((j.who:Int) != (k:Int))=false:=by rw[hjk];simp
        have HJK:=hid hjk;have HIT:=hid (tell1_hit HRDY.out.symm hm1 h4 HNO.out HT.out HD0.out hjk)
        have HOX := hid (show ∃ o ∈ (x.1.ports k).out, o.n = j.n by
         have hkey:(k,j.n)∈zA7 (x.1.slaves t):=by simp[zA7,HD0.out,hjk]
         obtain⟨_,o,ho,he,_⟩:=HG.out.key ht4 hkey;exact⟨o,ho,he⟩)
        have ho4:=(HG.out.p k hlt).o4;have HO4:=hid ho4;clear hjk ho4
        go_upto_region 12 with fail
        obtain⟨w1,hw1⟩:∃W,W=wr.alloc (.cells #[.int .i64 j.who,.int .i64 j.n,.int .i64 j.rsp.id,.int .i64 j.rsp.code,.slice ea en ec] 85):=⟨_,rfl⟩
        rw[←hw1];have hb1:Below wr.heap.size wr w1:=by rw[hw1];exact(Below.refl _ _).alloc (Nat.le_refl _) _
        have hz1:w1.heap.size=wr.heap.size+1:=by rw[hw1];simp
        have hjb:w1.heap[wr.heap.size]? = some (.cells #[.int .i64 j.who,.int .i64 j.n,.int .i64 j.rsp.id,.int .i64 j.rsp.code,.slice ea en ec] 85 (0,0)):=by rw[hw1];show(wr.heap.push _)[wr.heap.size]? = _;simp
        have HJB:=hid hjb;obtain⟨j0,j1,j2,j3,j4⟩:w1.cell? ⟨wr.heap.size,0,none⟩=some (.int .i64 j.who)∧w1.cell? ⟨wr.heap.size,1,none⟩=some (.int .i64 j.n)∧w1.cell? ⟨wr.heap.size,2,none⟩=some (.int .i64 j.rsp.id)∧w1.cell? ⟨wr.heap.size,3,none⟩=some (.int .i64 j.rsp.code)∧w1.cell? ⟨wr.heap.size,4,none⟩=some (.slice ea en ec):=by refine⟨?_,?_,?_,?_,?_⟩ <;> simp[World.cell?,hjb]
        have HM1:=hid (HM.out.below hb1.drew);have HBJ:=hid hb1;have HB1:=hid (HBL.out.trans ((hb1).mono (Nat.le_trans hbw (Nat.le_of_lt (Nat.lt_of_lt_of_le (Nat.lt_succ_self _) hwl)))));obtain⟨q0,q1,q2,q3,q4,qf⟩:=HM.out.below hb1 |>.box
        have hS1:S<w1.heap.size:=by omega
        have hd4:(D 4).length≤36:=by have:=congrArg List.length HM.out.con.t4;rw[List.length_map]at this;omega
        have hbw1:base≤w1.heap.size:=Nat.le_trans HM.out.s0 (Nat.le_of_lt hS1);clear hw1 hb1 hjb qf c0 c1 c2 c3 c4 s0 s1 s2 sf p0 p1 p2 p3 pf i0 i1 i2 hrc;have HZ1:=hid hz1;have HFJ:=hid (HM.out.fresh (w':=w1) (Nat.le_refl wr.heap.size) (by omega));have HK1:=hid (HKP.out.trans (Kp.below (S:=S) (Hb:=Hb) (V:=V) HBJ.out));clear hz1
        go_cut [] from 74 to 83 (fun wd=>∃v' N' C', CyM wd base S Hb L { x.1 with told:=(D 4++[y]).map (·.1) } x.2 (upd V 4 v') N' C' (upd D 4 (D 4++[y]))∧Kp S Hb V w1 (upd V 4 v') wd∧Below base w1 wd)
        case first=>
         go_region_law (first
          |(refine step_push3 elem_tj tjRow (fun _=>rfl) w1.drew rfl (.tmp 78) (.tmp 80) rfl base (V 4) (D 4) y (tjRow_one y ⟨_,_,_,HDV.out⟩) (by rfl) HM1.out.oTold _ (by rw[tjRow,HYJ.out,HDV.out]) _ _ (by rfl) (by first|rfl|(simp;done)) (by omega) (by omega) hbw1 ?_;intro v' w2 ho hb2 hk2 hv2;obtain⟨va,vc,hv', _,_⟩:=ho.shape;simp only[List.length_append,List.length_cons,List.length_nil,Nat.zero_add]at hv';subst hv';obtain⟨g0,g1⟩:=cell_of (hk2 S hS1 (Ne.symm (HM1.out.fs 4 (by omega)))) 4;rw[HM1.out.box.2.2.2.2.1]at g0;rw[HM1.out.box.2.2.2.2.2 4]at g1;have HO:=hid ho;have HK:=hid hk2;have HW:=hid hv2;have HB2:=hid hb2;clear ho hb2 hk2 hv2))
         all_goals
          go_wp2_with fail
          have hk3:∀b,b<w1.drew.heap.size→(V 4).ownBlock≠some b→w2.heap[b]? = w1.drew.heap[b]?:=fun b hb hne=>HK.out b hb (Ne.symm hne)
          have hsz3:w1.drew.heap.size≤w2.heap.size:=HB2.out.size
          obtain ⟨N', C', hc1, hc2⟩ := HM1.out.setTold hk3 hsz3 HO.out HW.out (fun z hz => by
           simp only[List.mem_append,List.mem_singleton]at hz;rcases hz with hz|rfl
           ·exact HM1.out.old (κ:=4) (ν:=4) (by omega) (by omega) hk3 hsz3 HW.out hz
           ·exact HM1.out.old (κ:=4) (ν:=15+t) (by omega) (by omega) hk3 hsz3 HW.out (by rw[HD.out];simp))
          go_meet
          case rel=>exact⟨_,N', C', hc1,(Kp.below (show Below w1.heap.size w1 w1.drew from(Below.refl _ _).drew)).trans hc2,((show Below base w1 w1.drew from(Below.refl _ _).drew).trans HB2.out).setCell (p:=⟨S,4,none⟩) HM.out.s0 _⟩
        case rest=>
         clear q0 q1 q2 q3 q4 j0 j1 j2 j3 j4 hd4 HM1;obtain⟨w3,hw3⟩:∃W,W=wc:=⟨_,rfl⟩
         subst hw3;obtain⟨v4,N3,C3,hm3,hk3,hb3⟩:=hcut;have HK3:=hid (HK1.out.trans hk3);have hjb3:=((hk3 _ HFJ.out).1).trans HJB.out;have HFJ3:=hid ((hk3 _ HFJ.out).2);have HJB3:=hid hjb3;have HM3:=hid hm3;have HB3:=hid (HB1.out.trans hb3);obtain⟨q0,q1,q2,q3,q4,qf⟩:=hm3.box;obtain⟨s0,s1,s2,sf⟩:=hm3.store (show upd V 4 v4 3=_ from(zA0 _ _ (by omega)).trans HV3.out) ht4;rw[zA0 _ _ (by omega),HVS.out]at s1;obtain⟨A1,hA1⟩:=pop_addr dg dof 5 dcp;have hyl:1≤Y.length+1:=by omega
         clear hm3 hk3 hb3 hjb3
         go_upto_region 14 with fail
         obtain⟨w4,hw4⟩:∃W,W=w3.setCell ⟨sg,so+t * 3+1,none⟩ (.slice (some A1) Y.length (dcp - 1)):=⟨_,rfl⟩
         rw[←hw4];obtain⟨N4,C4,hm4,hk4⟩:=HM3.out.popDone ht4 (show upd V 4 v4 3=_ from(zA0 _ _ (by omega)).trans HV3.out) (show upd D 4 (D 4++[y]) (15+t)=_ from(zA0 _ _ (by omega)).trans HD.out) (show upd V 4 v4 (15+t)=_ from(zA0 _ _ (by omega)).trans HVS.out) hA1;rw[←hw4]at hm4 hk4;obtain⟨v5,hv5⟩:∃v,v=Value.slice (some A1) Y.length (dcp - 1):=⟨_,rfl⟩
         rw[←hv5]at hm4 hk4;have hb4:Below base w3 w4:=by rw[hw4];exact(Below.refl _ _).setCell (p:=⟨sg,_,none⟩) hsb _
         have HB4:=hid (HB3.out.trans hb4);have HK4:=hid (HK3.out.trans hk4);have hjb4:=((hk4 _ HFJ3.out).1).trans HJB3.out;have HFJ4:=hid ((hk4 _ HFJ3.out).2);have HJB4:=hid hjb4;obtain⟨V4,hV4⟩:∃V', V' = upd (upd V 4 v4) (15+t) v5:=⟨_,rfl⟩
         rw[←hV4]at hm4 hk4 HK4 HFJ4;have e2:V4 2=.slice (some ⟨pg,po,none⟩) 3 pc:=by rw[hV4,zA0 _ _ (by omega),zA0 _ _ (by omega)];exact HV2.out
         have e3:V4 3=.slice (some ⟨sg,so,none⟩) 4 sc':=by rw[hV4,zA0 _ _ (by omega),zA0 _ _ (by omega)];exact HV3.out
         have E2:=hid e2;have E3:=hid e3;obtain⟨p0,p1,p2,p3,pf⟩:=hm4.port e2 hlt;obtain⟨qa,qc,hqs,_,_⟩:=(hm4.oQueue hlt).shape;obtain⟨oa,oc,hos,_,_⟩:=(hm4.oOut hlt).shape;rw[hqs]at p1;rw[hos]at p2;have HOS:=hid hos;have j1:w4.cell? ⟨wr.heap.size,1,none⟩=some (.int .i64 j.n):=by simp[World.cell?,hjb4]
         have HOO:=hid (hm4.oOut hlt);rw[hos]at HOO;have hp4:=zA2 hm4.bs;have hpg4:pg<w4.heap.size:=(OwnR.lt (hm4.raw.own 2 (by omega)) pg (by rw[e2];rfl)).2;have hjz:wr.heap.size<w4.heap.size:=HFJ4.out.1;obtain⟨ix,hix,hil,hie⟩:=idxP_erase (x.1.ports k).out j.n HOX.out;obtain⟨og,oo,ocp,hoa,_,_,_,_⟩:=OwnR.addr HOO.out (by show(x.1.ports k).out.length≠0;omega);simp only[Value.slice.injEq]at hoa;obtain⟨rfl,_,rfl⟩:=hoa;have HIDX:=hid hix;have HIE:=hid hie;have HIL:=hid hil;have hog:og≠pg:=fun e=>hm4.raw.ap 2 (8+k) (by omega) (by omega) (by omega) pg (by rw[E2.out];rfl) (by rw[HOS.out];simp only[Value.ownBlock];rw[e])
         have HM4:=hid hm4;clear hix hie hil hw4 hv5 hV4 hm4 hk4 hb4 hjb4 e2 e3 hqs hos q0 q1 q2 q3 q4 qf s0 s1 s2 sf;simp only at p0 p1 p2 p3
         go_region_held3 (fun w' => w'.cell? ⟨pg, po + k * 4, none⟩ = some (.int .i64 (x.1.ports k).next) ∧ w'.cell? ⟨pg, po + k * 4 + 1, none⟩ = some (.slice qa (x.1.ports k).queue.length qc) ∧ w'.cell? ⟨pg, po + k * 4 + 2, none⟩ = some (.slice (some ⟨og, oo, none⟩) (x.1.ports k).out.length oc) ∧ w'.cell? ⟨pg, po + k * 4 + 3, none⟩ = some (.int .i64 (x.1.ports k).last) ∧ w'.cell? ⟨wr.heap.size, 1, none⟩ = some (.int .i64 j.n))
          (first|exact s6|go_keep)
          (first
           |(go_at_call 132;(with_reducible refine(outAt_any _ _ qa (some ⟨og,oo,none⟩) _ qc oc j.n (x.1.ports k).out w4.heap.size _ ((jbs_of HOO.out (by show(x.1.ports k).out.length≤_;have:=HO4.out;omega)).below (Below.refl _ _).drew) (Nat.le_refl _)).mono ?_);unfold OutAtP;rw[HIDX.out];rintro e w5 ⟨rfl,hb5⟩;have hb5':=(show Below w4.heap.size w4 w4.drew from(Below.refl _ _).drew).trans hb5;have HB5:=hid hb5';have s6:=And.intro ((hb5'.cell (p:=⟨pg,_,none⟩) hpg4).trans p0) (And.intro ((hb5'.cell (p:=⟨pg,_,none⟩) hpg4).trans p1) (And.intro ((hb5'.cell (p:=⟨pg,_,none⟩) hpg4).trans p2) (And.intro ((hb5'.cell (p:=⟨pg,_,none⟩) hpg4).trans p3) ((hb5'.cell (p:=⟨wr.heap.size,_,none⟩) hjz).trans j1))));clear hb5 hb5'))
         have HM5:=hid (HM4.out.below HB5.out);have HK5:=hid (HK4.out.trans (Kp.below (S:=S) (Hb:=Hb) (V:=V4) HB5.out));have HBB5:=hid (HB4.out.trans (HB5.out.mono (Nat.le_trans HM4.out.s0 (Nat.le_of_lt hp4))));have HJB5:=hid (((Kp.below (S:=S) (Hb:=Hb) (V:=V4) HB5.out _ HFJ4.out).1).trans HJB4.out);have HFJ5:=hid ((Kp.below (S:=S) (Hb:=Hb) (V:=V4) HB5.out _ HFJ4.out).2);have hpg5:pg<w5.heap.size:=Nat.lt_of_lt_of_le hpg4 HB5.out.size;have t2:=(HB5.out.cell (p:=⟨pg,po+k * 4+2,none⟩) hpg4).trans p2;have tf:=(HM5.out.port E2.out hlt).2.2.2.2;have HO5:=hid (HOO.out.below HB5.out);have hix4:(ix:Int)≤4:=by have:=HIL.out;have:=HO4.out;omega
         clear p0 p1 p2 p3 pf j1
         go_upto_region 16 with (first
          |(go_at_call 162;go_loud ((with_reducible refine(delJb_int base og oo oc ix (x.1.ports k).out w5 HO5.out HIL.out).mono ?_);rintro e w6 ⟨rfl,ho6,ht6,hz6⟩;obtain⟨g0,g1⟩:=cell_of (ht6.block pg hpg5 (Ne.symm hog)) (po+k * 4+2);rw[t2]at g0;rw[tf]at g1;have HO6:=hid ho6;have HT6:=hid ht6;have HZ6:=hid hz6;clear ho6 ht6 hz6 t2 tf)))
         obtain⟨v7,hv7⟩:∃v,v=Value.slice (some ⟨og,oo,none⟩) ((x.1.ports k).out.length - 1) oc:=⟨_,rfl⟩
         obtain⟨w7,hw7⟩:∃W,W=w6.setCell ⟨pg,po+k * 4+2,none⟩ (.slice (some ⟨og,oo,none⟩) ((x.1.ports k).out.length - 1) oc):=⟨_,rfl⟩
         rw[←hw7];have hvo:(V4 (8+k)).ownBlock=some og:=by rw[HOS.out];rfl
         obtain⟨N7,C7,hm7,hk7⟩:=HM5.out.setOut hlt E2.out (w1:=w6) (v:=v7) (x:=(x.1.ports k).out.eraseIdx ix) (fun b hb hne=>HT6.out.block b hb (fun e=>hne (by rw[hvo,e]))) (by rw[HZ6.out];exact Nat.le_refl _) (by rw[hv7];exact HO6.out) (fun q hq=>.inl (by rw[hvo];rw[hv7]at hq;exact hq));rw[hv7,←hw7]at hm7 hk7;rw[←hv7]at hm7 hk7;have HK7:=hid (HK5.out.trans hk7);have HJB7:=hid (((hk7 _ HFJ5.out).1).trans HJB5.out);have HFJ7:=hid ((hk7 _ HFJ5.out).2);have hb7:Below base w5 w7:=by
          rw[hw7];exact(HT6.out.below (Nat.le_trans (OwnR.lt HO5.out og rfl).1 (Nat.le_refl _)) (Nat.le_trans HM4.out.s0 (Nat.le_trans (Nat.le_of_lt hp4) HB5.out.size))).setCell (p:=⟨pg,_,none⟩) hpb _
         have HB7:=hid (HBB5.out.trans hb7);obtain⟨V7,hV7⟩:∃V', V' = upd V4 (8+k) v7:=⟨_,rfl⟩
         rw[←hV7]at hm7 hk7 HK7 HFJ7;have e2:V7 2=.slice (some ⟨pg,po,none⟩) 3 pc:=by rw[hV7,zA0 _ _ (by omega)];exact E2.out
         have E7:=hid e2;obtain⟨p0,p1,p2,p3,pf⟩:=hm7.port e2 hlt;have HM7:=hid hm7;clear hw7 hv7 hV7 hm7 hk7 hb7 e2 hvo g0 g1
         go_upto_region 17 with fail
         obtain⟨w8,hw8⟩:∃W,W=w7.setCell ⟨pg,po+k * 4+3,none⟩ (.int .i64 (t:Nat)):=⟨_,rfl⟩
         rw[←hw8];obtain⟨N8,C8,hm8,hk8⟩:=HM7.out.setLast hlt E7.out t;rw[←hw8]at hm8 hk8;have HK8:=hid (HK7.out.trans hk8);have hjb8:=((hk8 _ HFJ7.out).1).trans HJB7.out;have j1:w8.cell? ⟨wr.heap.size,1,none⟩=some (.int .i64 j.n):=by simp[World.cell?,hjb8]
         have HB8:=hid (HB7.out.trans (show Below base w7 w8 by rw[hw8];exact(Below.refl _ _).setCell (p:=⟨pg,_,none⟩) hpb _));have HM8:=hid hm8;clear hw8 hm8 hk8 hjb8 p0 p1 p2 p3 pf
         go_wp2_with (first
          |(go_at_call 163;go_loud ((with_reducible refine(add_tell k j.n HM8.out (by have:=HLEN.out;omega)).mono ?_);rintro e w9 ⟨rfl,v9,N9,C9,hm9,hb9,_,hk9⟩;have HM9:=hid hm9;have HB9:=hid (HB8.out.trans hb9);have HK9:=hid (HK8.out.trans hk9);clear hm9 hb9 hk9)))
         have HST := hid (HM9.out.congr (st' := (tell1 inp k x).1) (ev' := (tell1 inp k x).2) (by
          rw[HIT.out];simp only[zD4,upd_upd,zA1,HY.out,HIE.out,List.map_append,List.map_cons,List.map_nil,HYJ.out,HM.out.con.t4]) (by rw[HIT.out];rfl))
         go_roundw
         case rel=>exact⟨k+1,by omega,by go_num,by rw[HX1.out];exact good_tell1 HG.out hlt,by rw[HX1.out];have:=tell1_len inp k x;have:=HLEN.out;omega,by rw[HX1.out];exact⟨_,_,_,_,HST.out,HK9.out⟩,HB9.out⟩
         case measure=>simp[intOf];omega
       ·have hq:((j.who:Int) != (k:Int))=true:=by rw[bne_iff_ne];omega
        have HQ:=hid (show tellM x.1 k m=false by rw[tellM_eq HT.out,HD0.out];simp[hjk]);clear c1 c2 c3 c4 sf s0 s2 hjk
        go_wp2_with fail
        go_roundw
        case rel => exact ⟨m + 1, by omega, by omega, by go_num, by first | rfl | trivial, fun i h1 h2 => by
         by_cases e:i=m
         ·subst e;exact HQ.out
         ·exact HNO.out i h1 (by omega)⟩
        case measure=>simp[intOf];omega
     ·have HQ:=hid (tell1_miss (inp:=inp) (who:=k) (x:=x) (fun j h1 h2=>HNO.out j h1 (by omega)));have h4i:¬(m:Int)≤4:=by omega
      go_wp2_with fail
      go_roundw
      case rel=>exact⟨k+1,by omega,by go_num,by rw[HX1.out,HQ.out];exact HG.out,by rw[HX1.out,HQ.out];have:=HLEN.out;omega,by rw[HX1.out,HQ.out];exact⟨_,_,_,_,HM.out,HKP.out⟩,HBL.out⟩
      case measure=>simp[intOf];omega
  ·obtain rfl:k=3:=by omega
   go_wp2_with fail
   exact bodyPost_end (v:=.tuple #[]) (by simp[results,Tryz.results114,go_sem]) rfl ⟨rfl,V,N,C,D,hm,HKB.out.trans HKP.out,hbl⟩
def BusV (w:World) (B:Nat) (v:Value) (c:Cfg):Prop :=
 ∃ (ma la pa : Option Addr) (mc lc pc : Nat) (Q : Nat → Value), v = .agg #[.slice ma c.ms.length mc, .slice la c.lat.length lc, .slice pa c.progs.length pc] ∧ Maps w B (.slice ma c.ms.length mc) c.ms ∧ Arr w B 1 (.slice la c.lat.length lc) (c.lat.map rowN) ∧
  Arr w B 1 (.slice pa c.progs.length pc) ((List.range c.progs.length).map fun i=>[Q i])∧∀i,i<c.progs.length→Reqs w B (Q i) (c.prog i)
theorem BusV.below {w w':World} {B:Nat} {v:Value} {c:Cfg} (h:BusV w B v c) (hb:Below B w w'):BusV w' B v c:=by
 obtain⟨ma,la,pa,mc,lc,pc,Q,e,h1,h2,h3,h4⟩:=h;exact⟨ma,la,pa,mc,lc,pc,Q,e,h1.below hb,h2.below hb,h3.below hb,fun i hi=>(h4 i hi).below hb⟩
theorem BusV.mono {w:World} {B B':Nat} {v:Value} {c:Cfg} (h:BusV w B v c) (hb:B≤B'):BusV w B' v c:=by
 obtain⟨ma,la,pa,mc,lc,pc,Q,e,h1,h2,h3,h4⟩:=h;exact⟨ma,la,pa,mc,lc,pc,Q,e,h1.mono hb,h2.mono hb,h3.mono hb,fun i hi=>(h4 i hi).mono hb⟩
theorem BusV.opened {w : World} {B : Nat} {v : Value} {c : Cfg} (h : BusV w B v c) (hc : Bus c) : ∃ (mv : Value) (lb lo lc pb po pc : Nat) (Q : Nat → Option Addr) (K : Nat → Nat), v = .agg #[mv, .slice (some ⟨lb, lo, none⟩) 4 lc, .slice (some ⟨pb, po, none⟩) 3 pc] ∧ (∃ a n k, mv = .slice a n k) ∧ Maps w B mv c.ms ∧
  lb<B∧pb<B∧(∀s,s<4→w.cell? ⟨lb,lo+s,none⟩=some (.int .i64 (c.lt s:Nat)))∧(∀i,i<3→w.cell? ⟨pb,po+i,none⟩=some (.slice (Q i) (c.prog i).length (K i)))∧(∀i,i<3→Reqs w B (.slice (Q i) (c.prog i).length (K i)) (c.prog i)):=by
 obtain⟨ma,la,pa,mc,lc,pc,Q,rfl,h1,⟨_,_,e2,_,_,_,_,h2⟩,⟨_,_,e3,_,_,_,_,h3⟩,h4⟩:=h;simp only[Value.slice.injEq,List.length_map,List.length_range]at e2 e3 h2 h3;obtain⟨rfl,_,rfl⟩:=e2;obtain⟨rfl,_,rfl⟩:=e3;rw[hc.lat]at h2;rw[hc.progs]at h3 h4;obtain⟨lb,lo,rfl,hlb,hl⟩:=h2 (by omega);obtain⟨pb,po,rfl,hpb,hp⟩:=h3 (by omega);have sh:∀i,∃(a:Option Addr) (k:Nat),i<3→Q i=.slice a (c.prog i).length k:=fun i=>by
  by_cases hi:i<3
  ·obtain⟨a,k,e,_⟩:=(h4 i hi).shape;exact⟨a,k,fun _=>e⟩
  ·exact⟨none,0,fun h=>absurd h hi⟩
 refine⟨_,lb,lo,lc,pb,po,pc,fun i=>(sh i).choose,fun i=>(sh i).choose_spec.choose,by rw[hc.lat,hc.progs],⟨_,_,_,rfl⟩,h1,hlb,hpb,fun s hs=>?_,fun i hi=>?_,fun i hi=>?_⟩
 ·have:=hl s hs 0 (by omega);simp only[Nat.mul_one,Nat.add_zero]at this;rw[this];have hs':s<c.lat.length:=by rw[hc.lat];exact hs
  simp[List.getD,rowN,hs', Cfg.lt]
 ·have:=hp i hi 0 (by omega);simp only[Nat.mul_one,Nat.add_zero]at this;rw[this];have e:=(sh i).choose_spec.choose_spec hi;rw[←e];simp[List.getD,hi]
 ·have e:=(sh i).choose_spec.choose_spec hi;rw[←e];exact h4 i hi
theorem rowN_one (n:Nat):∀u∈rowN n,u.oneCell' = true:=by
 intro u hu;simp only[rowN,List.mem_cons,List.not_mem_nil,or_false]at hu;rcases hu with rfl;rfl
theorem ask1_no {c:Cfg} {inp:Inp} {who:Nat} {x:Cy×List Ev} (h:¬(inp.send.getD who false=true∧(x.1.ports who).queue.length<2∧(x.1.ports who).next<(c.prog who).length)):ask1 c inp who x=x:=by unfold ask1;rw[if_neg h]
theorem ask1_yes {c:Cfg} {inp:Inp} {who:Nat} {x:Cy×List Ev} (h:inp.send.getD who false=true∧(x.1.ports who).queue.length<2∧(x.1.ports who).next<(c.prog who).length):ask1 c inp who x=askDo who x:=by unfold ask1;rw[if_pos h]
theorem ask1_len (c:Cfg) (inp:Inp) (who:Nat) (x:Cy×List Ev):(ask1 c inp who x).2.length≤x.2.length+1:=by
 unfold ask1
 split
 ·simp[askDo]
 ·omega
set_option maxRecDepth 4000 in
theorem ask_any {c : Cfg} (hbus : Bus c) {w : World} {base S Hb : Nat} {L : Nat → Value} {st : Cy} {ev : List Ev} {V0 : Nat → Value} {N0 : Nat → Nat} {C0 : Nat → List Value} {D0 : Nat → List TJV} (hm : CyM w base S Hb L st ev V0 N0 C0 D0) (hg : Good c st) (hev : ev.length ≤ 500) {inp : Inp} {v u : Value} {B : Nat} (hc : BusV w B u c) (hin : InV w B v inp) (hB : B ≤ base) :
  Calls Tryz.prog 117 #[.pointer (some ⟨S,0,none⟩),u,v,.pointer (some ⟨Hb,0,none⟩)] w (PartP base S Hb L (zI5 c inp (st,ev)) V0 w):=by
 obtain⟨⟨ra,rc,ta,tc,sa,sc,rfl,hr1,hr2,hr3⟩,hl1,hl2,hl3⟩:=hin;obtain⟨mv,lb,lo,lc,pb,po', pc', Q,K,rfl,⟨ma,mn,mk,rfl⟩,hms,hlb,hpb', hlat,hprog,hreq⟩:=hc.opened hbus;have HM:=hid hm;have HG0:=hid hg;have hS:=zA2 hm.bs;have hbw:base≤w.heap.size:=Nat.le_trans hm.s0 (Nat.le_of_lt (zA2 hm.bs));obtain⟨q0,q1,q2,q3,q4,qf⟩:=hm.box;obtain⟨pg,po,pc,hV2,hpc,hpc2,_,_⟩:=hm.ports;rw[hV2]at q2;have HR:=hid hr3;have HL3:=hid hl3;have HPR:=hid hprog;rw[hl3];clear hm hg hr1 hr2 hr3 hl1 hl2 hl3 hV2 qf q0 q1 q3 q4 hpc2 hpc hc hms hlat hprog hreq hlb
 go_enter Tryz.func117,Tryz.ntmps117
 go_wp2_with fail
 obtain⟨w0,hw0⟩:∃W,W=(w.alloc (.cells #[.slice ma mn mk,.slice (some ⟨lb,lo,none⟩) 4 lc,.slice (some ⟨pb,po', none⟩) 3 pc'] 27)).alloc (.cells #[.slice ra inp.ready.length rc,.slice ta inp.stall.length tc,.slice sa 3 sc] 64):=⟨_,rfl⟩
 rw[←hw0];have hb0:Below w.heap.size w w0:=by rw[hw0];exact((Below.refl _ _).alloc (Nat.le_refl _) _).alloc (by simp) _
 have hz0:w0.heap.size=w.heap.size+2:=by rw[hw0];simp
 have HC0:=hid (show w0.heap[w.heap.size]? = some (.cells #[.slice ma mn mk,.slice (some ⟨lb,lo,none⟩) 4 lc,.slice (some ⟨pb,po', none⟩) 3 pc'] 27 (0,0)) by rw[hw0];rw[((Below.refl _ _).alloc (Nat.le_refl _) _).block _ (by simp)];show(w.heap.push _)[w.heap.size]? = _;simp);have HI0:=hid (show w0.heap[w.heap.size+1]? = some (.cells #[.slice ra inp.ready.length rc,.slice ta inp.stall.length tc,.slice sa 3 sc] 64 (0,0)) by rw[hw0];exact zA8 _ _ (by simp));have HFR:=hid (HM.out.fresh (w':=w0) (Nat.le_refl w.heap.size) (by omega));have HFR1:=hid (HM.out.fresh (w':=w0) (Nat.le_succ w.heap.size) (by omega));have HKB:=hid (Kp.below (S:=S) (Hb:=Hb) (V:=V0) hb0);have HM0:=hid (HM.out.below hb0);have HB0:=hid (hb0.mono hbw);have HR0:=hid HR.out;clear hw0 hb0 hz0 q2 HM HR hS
 go_loopw [15] (fun i wr=>∃k:Nat,k≤3∧i=.int .i64 k∧Good c (foldN (ask1 c inp) k (st,ev)).1∧(foldN (ask1 c inp) k (st,ev)).2.length≤ev.length+k∧(∃V N C D,CyM wr base S Hb L (foldN (ask1 c inp) k (st,ev)).1 (foldN (ask1 c inp) k (st,ev)).2 V N C D∧Kp S Hb V0 w0 V wr)∧Below base w wr) (fun i _=>3 - (intOf i).toNat)
 case atStart=>exact⟨0,by omega,by go_num,HG0.out,by simp[foldN],⟨_,_,_,_,HM0.out,Kp.refl _ _ _ _⟩,HB0.out⟩
 case round=>
  obtain⟨k,hk,rfl,hg,hlen,⟨V,N,C,D,hm,hkp⟩,hbl⟩:=hrel;have hib:=((hkp _ HFR1.out).1).trans HI0.out;have hcb:=((hkp _ HFR.out).1).trans HC0.out;have HKP:=hid hkp;clear hkp;by_cases hlt:k<3
  ·have hlti:(k:Int)<3:=by omega
   obtain⟨x,hx⟩:∃x,x=foldN (ask1 c inp) k (st,ev):=⟨_,rfl⟩
   have HX1:=hid (show foldN (ask1 c inp) (k+1) (st,ev)=ask1 c inp k x by rw[hx];rfl);rw[←hx]at hg hlen hm;have hwl:=zA2 hib;obtain⟨i0,i1,i2⟩:wr.cell? ⟨w.heap.size+1,0,none⟩=some (.slice ra inp.ready.length rc)∧wr.cell? ⟨w.heap.size+1,1,none⟩=some (.slice ta inp.stall.length tc)∧wr.cell? ⟨w.heap.size+1,2,none⟩=some (.slice sa 3 sc):=by refine⟨?_,?_,?_⟩ <;> simp[World.cell?,hib]
   obtain⟨b0,b1,b2⟩:wr.cell? ⟨w.heap.size,0,none⟩=some (.slice ma mn mk)∧wr.cell? ⟨w.heap.size,1,none⟩=some (.slice (some ⟨lb,lo,none⟩) 4 lc)∧wr.cell? ⟨w.heap.size,2,none⟩=some (.slice (some ⟨pb,po', none⟩) 3 pc'):=by refine⟨?_,?_,?_⟩ <;> simp[World.cell?,hcb]
   have hpk:wr.cell? ⟨pb,po' + k,none⟩=some (.slice (Q k) (c.prog k).length (K k)):=(hbl.cell (p:=⟨pb,_,none⟩) (Nat.lt_of_lt_of_le hpb' hB)).trans (HPR.out k hlt);have HM:=hid hm;have HG:=hid hg;have HBL:=hid hbl;have HLEN:=hid hlen;have hS:=zA2 hm.bs;obtain⟨q0,q1,q2,q3,q4,qf⟩:=hm.box;obtain⟨pg,po,pc,hV2,hpc,hpc2,hpb,hpz⟩:=hm.ports;obtain⟨p0,p1,p2,p3,pf⟩:=hm.port hV2 hlt;have HV2:=hid hV2;rw[hV2]at q2;obtain⟨qa,qc,hqs,_,_⟩:=(hm.oQueue hlt).shape;rw[hqs]at p1;have HQS:=hid hqs;obtain⟨rb,ro,hra,hrb,hrc⟩:∃b off,sa=some ⟨b,off,none⟩∧b<B∧wr.cell? ⟨b,off+k,none⟩=some (.bool (inp.send.getD k false)):=by
    obtain⟨ao,cp,eo,_,_,_,_,ho⟩:=HR0.out.opened;obtain⟨b,off,rfl,hb,hc⟩:=ho (by rw[HL3.out];omega);simp only[Value.slice.injEq]at eo;exact⟨b,off,eo.1,hb,(hbl.cell (p:=⟨b,_,none⟩) (Nat.lt_of_lt_of_le hb hB)).trans (hc k (by rw[HL3.out];exact hlt))⟩
   obtain⟨snd,hsnd⟩:∃r,r=inp.send.getD k false:=⟨_,rfl⟩
   rw[←hsnd]at hrc;have HSND:=hid hsnd;have hnx:=(hg.p k hlt).nx;have hpl:=hbus.twelve hlt;have hq2:=(hg.p k hlt).q2;subst hra;clear hm hg hib hcb hbl hlen hx hV2 hqs hsnd HM0 HG0;by_cases hgo:snd=true∧(x.1.ports k).queue.length<2∧(x.1.ports k).next<(c.prog k).length
   ·obtain⟨rfl,hql,hnl⟩:=hgo;have hqli:((x.1.ports k).queue.length:Int)<2:=by omega
    have hnli:((x.1.ports k).next:Int)<((c.prog k).length:Int):=by omega
    have HYES:=hid (ask1_yes (c:=c) (inp:=inp) (who:=k) (x:=x) ⟨HSND.out.symm,hql,hnl⟩)
    go_upto_region 5 with fail
    go_quiet (fail)
    go_upto_region 6 with fail
    obtain⟨w1,hw1⟩:∃W,W=wr.drewN nq:=⟨_,rfl⟩
    rw[←hw1];have hbd:Below wr.heap.size wr w1:=by rw[hw1];exact Below.draws (Below.refl _ _) _
    have hbd0:Below base wr w1:=by rw[hw1];exact Below.draws (Below.refl _ _) _
    have HM1:=hid (HM.out.below hbd);have HM1d:=hid (HM.out.below hbd.drew);have HK1:=hid (HKP.out.trans (Kp.below (S:=S) (Hb:=Hb) (V:=V) hbd.drew));have HB1:=hid (HBL.out.trans hbd0.drew);obtain⟨p0,p1,p2,p3,pf⟩:=HM1.out.port HV2.out hlt;rw[HQS.out]at p1;have HOQ:=hid (HM1d.out.oQueue hlt);rw[HQS.out]at HOQ;have hpg1:pg<w1.drew.heap.size:=Nat.lt_of_lt_of_le hpz hbd.size;have hpne:∀κ,κ<20→κ≠2→(V κ).ownBlock≠some pg:=fun κ hκ hne e=>HM.out.raw.ap κ 2 hκ (by omega) hne pg e (by rw[HV2.out];rfl)
    have hpg1':pg<w1.heap.size:=hpg1;have hbw1:base≤w1.drew.heap.size:=Nat.le_trans hpb (Nat.le_of_lt hpg1);have hqne:some pg≠(Value.slice qa (x.1.ports k).queue.length qc).ownBlock:=by rw[←HQS.out];exact Ne.symm (hpne (5+k) (by omega) (by omega))
    clear hw1 hbd hbd0 q0 q1 q2 q3 q4 qf i0 i1 i2 b0 b1 b2 hrc hpk
    go_cut [] from 50 to 62 (fun wd=>∃v' N' C', CyM wd base S Hb L { x.1 with ports:=upd x.1.ports k { x.1.ports k with queue:=(x.1.ports k).queue++[(x.1.ports k).next] } } x.2 (upd V (5+k) v') N' C' D∧Kp S Hb V w1.drew (upd V (5+k) v') wd∧Below base w1.drew wd)
    case first=>
     go_region_law (first
      |(refine step_push3 zJ5 rowN (fun _=>rfl) w1.drew rfl (.tmp 54) (.tmp 59) rfl base (.slice qa (x.1.ports k).queue.length qc) (x.1.ports k).queue (x.1.ports k).next (rowN_one _) (by rfl) HOQ.out _ (by rfl) _ _ (by rfl) (by first|rfl|(simp;done)) (by omega) (by omega) hbw1 ?_;intro v' w2 ho hb2 hk2 hv2;obtain⟨va,vc,hv', _,_⟩:=ho.shape;simp only[List.length_append,List.length_cons,List.length_nil,Nat.zero_add]at hv';subst hv';obtain⟨g0,g1⟩:=cell_of (hk2 pg hpg1 hqne) (po+k * 4+1);rw[show w1.drew.cell? ⟨pg,po+k * 4+1,none⟩=_ from p1]at g0;rw[show w1.drew.frozen? ⟨pg,po+k * 4+1,none⟩=_ from pf _]at g1;have HO:=hid ho;have HK:=hid hk2;have HW:=hid hv2;have HB2:=hid hb2;clear ho hb2 hk2 hv2))
     all_goals
      go_wp2_with fail
      obtain⟨N', C', hc1,hc2⟩:=HM1d.out.setQueue hlt HV2.out (fun b hb hne=>HK.out b hb (by rw[←HQS.out];exact Ne.symm hne)) HB2.out.size HO.out (fun q hq=>by rw[HQS.out];exact HW.out q hq);go_meet
      case rel=>exact⟨_,N', C', hc1,hc2,HB2.out.setCell (p:=⟨pg,_,none⟩) hpb _⟩
    case rest=>
     clear p0 p1 p2 p3 pf HM1 HM1d;obtain⟨w3,hw3⟩:∃W,W=wc:=⟨_,rfl⟩
     subst hw3;obtain⟨v4,N3,C3,hm3,hk3,hb3⟩:=hcut;have HK3:=hid (HK1.out.trans hk3);have HB3:=hid (HB1.out.trans hb3);have e2:upd V (5+k) v4 2=.slice (some ⟨pg,po,none⟩) 3 pc:=(zA0 _ _ (by omega)).trans HV2.out;have E2:=hid e2;obtain⟨p0,p1,p2,p3,pf⟩:=hm3.port e2 hlt;simp only[zA1]at p0;have HM3:=hid hm3;clear hm3 hk3 hb3 e2 p1 p2 p3 pf
     go_upto_region 8 with (first
      |(go_at_call 163;go_loud ((with_reducible refine(add_ask k (x.1.ports k).next HM3.out (by have:=HLEN.out;omega)).mono ?_);rintro e w4 ⟨rfl,v9,N4,C4,hm4,hb4,_,hk4⟩;have e2:upd (upd V (5+k) v4) 19 v9 2=.slice (some ⟨pg,po,none⟩) 3 pc:=((zA0 _ _ (by omega)).trans E2.out);have E4:=hid e2;obtain⟨p0,p1,p2,p3,pf⟩:=hm4.port e2 hlt;simp only[zA1]at p0;have HM4:=hid hm4;have HB4:=hid (HB3.out.trans hb4);have HK4:=hid (HK3.out.trans hk4);clear hm4 hb4 hk4 e2 p1 p2 p3)))
     have hnx12:((x.1.ports k).next:Int)≤12:=by omega
     go_wp2_with fail
     obtain⟨N5,C5,hm5,hk5⟩:=HM4.out.setNext hlt E4.out ((x.1.ports k).next+1);rw[show(((x.1.ports k).next+1:Nat):Int)=((x.1.ports k).next:Int)+1 from by omega]at hm5 hk5;have HST:=hid (hm5.congr (st':=(ask1 c inp k x).1) (ev':=(ask1 c inp k x).2) (by rw[HYES.out];simp only[askDo,upd_upd,zA1]) (by rw[HYES.out];rfl));have HK5:=hid (HK4.out.trans hk5);have HB5:=hid (HB4.out.setCell (p:=⟨pg,po+k * 4,none⟩) hpb (.int .i64 (((x.1.ports k).next:Int)+1)));clear hm5 hk5
     go_roundw
     case rel=>exact⟨k+1,by omega,by go_num,by rw[HX1.out];exact good_ask1 HG.out hlt,by rw[HX1.out];have:=ask1_len c inp k x;have:=HLEN.out;omega,by rw[HX1.out];exact⟨_,_,_,_,HST.out,HK5.out⟩,HB5.out⟩
     case measure=>simp[intOf];omega
   ·have HNO:=hid (ask1_no (c:=c) (inp:=inp) (who:=k) (x:=x) (by rw[←HSND.out];exact hgo));have hc3:snd=false∨(snd=true∧decide (((x.1.ports k).queue.length:Int)<2)=false)∨(snd=true∧((x.1.ports k).queue.length:Int)<2∧decide ((x.1.ports k).next<(c.prog k).length)=false):=by
     rcases snd with _|_
     ·exact .inl rfl
     ·right
      by_cases h1:(x.1.ports k).queue.length<2
      ·right
       refine⟨rfl,by omega,?_⟩;rw[decide_eq_false_iff_not];intro h2;exact hgo ⟨rfl,h1,h2⟩
      ·left
       refine⟨rfl,?_⟩;rw[decide_eq_false_iff_not];omega
    clear hgo;rcases hc3 with rfl|⟨rfl,h2⟩|⟨rfl,h2,h3⟩
    all_goals
     go_upto_region 5 with fail
     go_quiet (fail)
     go_wp2_with fail
     obtain⟨w1,hw1⟩:∃W,W=wr.drewN nq:=⟨_,rfl⟩
     have hbd:Below wr.heap.size wr w1:=by rw[hw1];exact Below.draws (Below.refl _ _) _
     have hbd0:Below base wr w1:=by rw[hw1];exact Below.draws (Below.refl _ _) _
     have HM1:=hid (HM.out.below hbd);have HK1:=hid (HKP.out.trans (Kp.below (S:=S) (Hb:=Hb) (V:=V) hbd));have HB1:=hid (HBL.out.trans hbd0);rw[hw1]at HM1 HK1 HB1;clear hw1 hbd hbd0
     go_roundw
     case rel=>exact⟨k+1,by omega,by go_num,by rw[HX1.out,HNO.out];exact HG.out,by rw[HX1.out,HNO.out];have:=HLEN.out;omega,by rw[HX1.out,HNO.out];exact⟨_,_,_,_,HM1.out,HK1.out⟩,HB1.out⟩
     case measure=>simp[intOf];omega
  ·obtain rfl:k=3:=by omega
   go_wp2_with fail
   exact bodyPost_end (v:=.tuple #[]) (by simp[results,Tryz.results117,go_sem]) rfl ⟨rfl,V,N,C,D,hm,HKB.out.trans HKP.out,hbl⟩
structure BusO (w:World) (B:Nat) (c:Cfg) (ma:Option Addr) (mn mk lb lo lc pb po pc:Nat) (Q:Nat→Option Addr) (K:Nat→Nat):Prop where
 ms:Maps w B (.slice ma mn mk) c.ms
 hlb:lb<B
 hpb:pb<B
 lat:∀s,s<4→w.cell? ⟨lb,lo+s,none⟩=some (.int .i64 (c.lt s:Nat))
 prog:∀i,i<3→w.cell? ⟨pb,po+i,none⟩=some (.slice (Q i) (c.prog i).length (K i))
 req:∀i,i<3→Reqs w B (.slice (Q i) (c.prog i).length (K i)) (c.prog i)
theorem BusO.below {w w':World} {B:Nat} {c:Cfg} {ma:Option Addr} {mn mk lb lo lc pb po pc:Nat} {Q:Nat→Option Addr} {K:Nat→Nat} (h:BusO w B c ma mn mk lb lo lc pb po pc Q K) (hb:Below B w w'):BusO w' B c ma mn mk lb lo lc pb po pc Q K :=
 ⟨h.ms.below hb,h.hlb,h.hpb,fun s hs=>(hb.cell (p:=⟨lb,_,none⟩) h.hlb).trans (h.lat s hs),fun i hi=>(hb.cell (p:=⟨pb,_,none⟩) h.hpb).trans (h.prog i hi),fun i hi=>(h.req i hi).below hb⟩
theorem BusO.at {w : World} {B : Nat} {c : Cfg} {ma : Option Addr} {mn mk lb lo lc pb po pc : Nat} {Q : Nat → Option Addr} {K : Nat → Nat} (h : BusO w B c ma mn mk lb lo lc pb po pc Q K) {who n : Nat} (hw : who < 3) (hn : n < (c.prog who).length) :
  ∃ qb qo da dc la lc', Q who = some ⟨qb, qo, none⟩ ∧ qb < B ∧ ReqV w B (.agg #[.int .i64 (c.req who n).id, .int .i64 (c.req who n).kind, .int .i64 (c.req who n).addr, .int .i64 (c.req who n).many, .bool (c.req who n).wrap, .slice da (c.req who n).data.length dc, .slice la (c.req who n).lanes.length lc']) (c.req who n) ∧
   w.cell? ⟨qb,qo+n * 7,none⟩=some (.int .i64 (c.req who n).id)∧w.cell? ⟨qb,qo+n * 7+1,none⟩=some (.int .i64 (c.req who n).kind)∧w.cell? ⟨qb,qo+n * 7+2,none⟩=some (.int .i64 (c.req who n).addr)∧w.cell? ⟨qb,qo+n * 7+3,none⟩=some (.int .i64 (c.req who n).many) ∧
   w.cell? ⟨qb,qo+n * 7+4,none⟩=some (.bool (c.req who n).wrap)∧w.cell? ⟨qb,qo+n * 7+5,none⟩=some (.slice da (c.req who n).data.length dc)∧w.cell? ⟨qb,qo+n * 7+6,none⟩=some (.slice la (c.req who n).lanes.length lc'):=by
 obtain⟨ao,cap,e,_,_,_,_,ho⟩:=(h.req who hw).opened;simp only[Value.slice.injEq]at e;obtain⟨b,off,ha,hb,hc⟩:=ho (by omega);obtain⟨da,dc,la,lc', h1,h2⟩:=hc n hn;exact⟨b,off,da,dc,la,lc', e.1.trans ha,hb,h1,h2⟩
theorem id_any {c : Cfg} (hbus : Bus c) {w : World} {B : Nat} {ma : Option Addr} {mn mk lb lo lc pb po pc : Nat} {Q : Nat → Option Addr} {K : Nat → Nat} (h : BusO w B c ma mn mk lb lo lc pb po pc Q K) (hB : B ≤ w.heap.size) {who n : Nat} (hw : who < 3) (hn : n < (c.prog who).length) :
  Calls Tryz.prog 130 #[.agg #[.slice ma mn mk,.slice (some ⟨lb,lo,none⟩) 4 lc,.slice (some ⟨pb,po,none⟩) 3 pc],.int .i64 who,.int .i64 n] w fun e w' => e=.returned (.int .i64 (c.id who n))∧Below w.heap.size w w':=by
 obtain⟨qb,qo,da,dc,la,lc', hq,hqb,_,c0,_⟩:=h.at hw hn;have hp:=h.prog who hw;rw[hq]at hp;have hpb:pb<w.heap.size:=Nat.lt_of_lt_of_le h.hpb hB;have hqz:qb<w.heap.size:=Nat.lt_of_lt_of_le hqb hB;have hwi:(who:Int)<3:=by omega
 have hni:(n:Int)<((c.prog who).length:Int):=by omega
 obtain⟨y,hy⟩:∃y,y=(c.req who n).id:=⟨_,rfl⟩
 rw[←hy]at c0;have HY:=hid (show c.id who n=y by rw[hy];rfl);have HBX:=hid ((Below.refl w.heap.size w).alloc (Nat.le_refl _) (.cells #[.slice ma mn mk,.slice (some ⟨lb,lo,none⟩) 4 lc,.slice (some ⟨pb,po,none⟩) 3 pc] 27));clear hy hq
 go_enter Tryz.func130,Tryz.ntmps130
 go_wp2_with fail
 go_ret
 exact⟨by rw[HY.out];rfl,HBX.out⟩
def BusB (w:World) (g:Nat) (ma:Option Addr) (mn mk lb lo lc pb po pc:Nat):Prop:=w.heap[g]? = some (.cells #[.slice ma mn mk,.slice (some ⟨lb,lo,none⟩) 4 lc,.slice (some ⟨pb,po,none⟩) 3 pc] 27 (0,0))
theorem BusB.below {w w':World} {g C:Nat} {ma:Option Addr} {mn mk lb lo lc pb po pc:Nat} (h:BusB w g ma mn mk lb lo lc pb po pc) (hb:Below C w w') (hg:g<C):BusB w' g ma mn mk lb lo lc pb po pc:=(hb.block g hg).trans h
theorem BusB.cells {w:World} {g:Nat} {ma:Option Addr} {mn mk lb lo lc pb po pc:Nat} (h:BusB w g ma mn mk lb lo lc pb po pc):w.cell? ⟨g,0,none⟩=some (.slice ma mn mk)∧w.cell? ⟨g,1,none⟩=some (.slice (some ⟨lb,lo,none⟩) 4 lc)∧w.cell? ⟨g,2,none⟩=some (.slice (some ⟨pb,po,none⟩) 3 pc)∧g<w.heap.size:=by
 have:=zA2 h;unfold BusB at h;refine⟨?_,?_,?_,this⟩ <;> simp[World.cell?,h]
def IntB (w:World) (g:Nat) (n:Int):Prop:=w.heap[g]? = some (.cells #[.int .i64 n] 3 (0,0))
theorem IntB.below {w w':World} {g C:Nat} {n:Int} (h:IntB w g n) (hb:Below C w w') (hg:g<C):IntB w' g n:=(hb.block g hg).trans h
theorem IntB.cells {w:World} {g:Nat} {n:Int} (h:IntB w g n):w.cell? ⟨g,0,none⟩=some (.int .i64 n)∧g<w.heap.size:=by
 have:=zA2 h;unfold IntB at h;exact⟨by simp[World.cell?,h],this⟩
def mayB (c:Cfg) (who s:Nat) (id:Int) (j:Jb):Bool:=c.id who j.n==id&&j.left != s
end Go.Proofs.YthnlalffjepdaaaGreat
namespace Go.Proofs.YthnlalffjepdaaaGreat
open Go
def restOf (listed:Array Bool):List Nat:=(List.range listed.size).filter fun j=>!listed.getD j true
theorem restOf_set {listed:Array Bool} {i:Nat} (hi:listed.getD i true=false):(restOf (listed.setIfInBounds i true)).length<(restOf listed).length:=by
 have hlt:i<listed.size:=by
  rcases Nat.lt_or_ge i listed.size with h|h
  ·exact h
  ·simp[Array.getElem?_eq_none h]at hi
 have e:restOf (listed.setIfInBounds i true)=(restOf listed).filter (fun j=>j != i):=by
  unfold restOf;rw[Array.size_setIfInBounds,List.filter_filter];apply List.filter_congr;intro j hj;by_cases hij:i=j
  ·subst hij;simp[hlt]
  ·have:(j != i)=true:=by simpa using Ne.symm hij
   rw[Go.getD_set_ne true hij,this];simp
 rw[e];apply List.length_filter_lt_length_iff_exists.2;exact⟨i,by simp[restOf,hlt];simpa[hlt]using hi,by simp⟩
theorem wpAny_inv {P : Program} {md : Region.Mode} {ops : Array Oper} {Q : Exit → Act → World → Prop} (I : Array Bool → Act → World → Prop)
  (step:∀listed a w i,I listed a w→i∈Region.ready md ops listed→wpOp P ops Q i (fun a' w' => I (listed.setIfInBounds i true) a' w') a w)
  (done:∀listed a w,I listed a w→Region.ready md ops listed=[]→Q .normal a w) :
  ∀(fuel:Nat) (listed:Array Bool) (a:Act) (w:World),(restOf listed).length≤fuel→I listed a w→wpAny P md ops Q fuel listed a w
 |0,listed,a,w,hf,h=>by
  have hr:Region.ready md ops listed=[]:=by
   rcases hr:Region.ready md ops listed with _|⟨i,l⟩
   ·rfl
   ·have hi:i∈Region.ready md ops listed:=by rw[hr];simp
    have hlt:=restOf_set (mem_ready.1 hi).1;omega
  exact⟨hr,done _ _ _ h hr⟩
 |fuel+1,listed,a,w,hf,h=>by
  refine⟨fun hr=>done _ _ _ h hr,fun i hi=>?_⟩;exact wpOp_mono (fun a' w' h' => wpAny_inv I step done fuel _ a' w' (by have:=restOf_set (mem_ready.1 hi).1;omega) h') (step listed a w i h hi)
def backB (md : Region.Mode) (ops : Array Oper) : Bool := (List.range ops.size).all fun i => match ops[i]? with
 |some o=>o.after.all fun e=>!Region.binds md e || decide (e.on<i)
 |none=>true
theorem zG5 {md:Region.Mode} {ops:Array Oper} (h:backB md ops=true) {i:Nat} {o:Oper} (ho:ops[i]? = some o):∀e∈o.after,Region.binds md e=true→e.on<i:=by
 intro e he hb;have h1:=List.all_eq_true.1 h i (List.mem_range.2 (Array.getElem?_eq_some_iff.1 ho).1);simp only[ho]at h1;have h2:=Array.all_eq_true'.1 h1 e he;simpa[hb]using h2
theorem all_done {md:Region.Mode} {ops:Array Oper} (hb:backB md ops=true) {listed:Array Bool} (hs:listed.size=ops.size) (hr:Region.ready md ops listed=[]):∀i,i<ops.size→listed.getD i false=true:=by
 intro i
 induction i using Nat.strongRecOn with
 |_ i ih=>
  intro hi;rcases hl:listed.getD i false with _|_
  ·exfalso
   have hm:i∈Region.ready md ops listed:=by
    refine mem_ready.2 ⟨getD_in (by omega) hl,ops[i],by simp[hi],fun e he hbd=>?_⟩;have hlt:=zG5 hb (i:=i) (o:=ops[i]) (by simp[hi]) e he hbd;exact ih e.on hlt (by omega)
   rw[hr]at hm;cases hm
  ·rfl
theorem zK9 {P : Program} {ops : Array Oper} {Q : Exit → Act → World → Prop} {id : Nat} {a : Act} {w : World} (I : Array Bool → Act → World → Prop) (hm : P.follows .mixedOrders = true) (hb : backB .any ops = true)
  (start:I (Array.replicate ops.size false) a { w with drawn:=w.drawn+1 })
  (step:∀listed a w i o,I listed a w→listed.size=ops.size→ops[i]? = some o→listed.getD i true=false→(∀e∈o.after,Region.binds .any e=true→listed.getD e.on false=true)→wpOp P ops Q i (fun a' w' => I (listed.setIfInBounds i true) a' w') a w)
  (done:∀listed a w,I listed a w→(∀i,i<ops.size→listed.getD i false=true)→Q .normal a w):(Code.region id ops true).wp P Q a w:=by
 refine wp_region_any hm (wpAny_inv (fun listed a w=>listed.size=ops.size∧I listed a w) ?_ ?_ _ _ _ _ ?_ ⟨by simp,start⟩)
 ·rintro listed a w i ⟨hs,h⟩ hi;obtain⟨h1,o,ho,h2⟩:=mem_ready.1 hi;exact wpOp_mono (fun a' w' h' => ⟨by simpa using hs,h'⟩) (step listed a w i o h hs ho h1 h2)
 ·rintro listed a w ⟨hs,h⟩ hr;exact done listed a w h (all_done hb hs hr)
 ·unfold restOf;refine Nat.le_trans (List.length_filter_le _ _) ?_;simp
theorem wpOp_wp {P:Program} {ops:Array Oper} {Q:Exit→Act→World→Prop} {i:Nat} {o:Oper} {K:Act→World→Prop} {a:Act} {w:World} (ho:ops[i]? = some o) (hg:o.guard=none) (h:o.wp P a w K Q):wpOp P ops Q i K a w:=by
 unfold wpOp;simp only[ho];rw[if_pos (by simp[Region.wanted,hg])];exact .inl h
end Go.Proofs.YthnlalffjepdaaaGreat
namespace Go.Proofs.YthnlalffjepdaaaGreat
open Go.RowKit
theorem sgy {l:Array Bool} {i j:Nat} (h:i≠j):(l.setIfInBounds i true).getD j false=l.getD j false:=Go.getD_set_ne false h
theorem sgiy {l:Array Bool} {i:Nat} (h:l.getD i true=false):(l.setIfInBounds i true).getD i false=true:=by
 have hlt:i<l.size:=by
  rcases Nat.lt_or_ge i l.size with h1|h1
  ·exact h1
  ·simp[Array.getElem?_eq_none h1]at h
 simp[hlt]
theorem zB4 {P : Program} {ops : Array Oper} {Q : Exit → Act → World → Prop} {i : Nat} {o : Oper} {I : Act → World → Prop} {a : Act} {w : World} (ho : ops[i]? = some o) (hg : o.guard = none)
  (h:∀K:Act→World→Prop,(∀a' w', I a' w' → K a' w')→o.wp P a w K Q):wpOp P ops Q i I a w:=wpOp_wp ho hg (h _ fun _ _ h=>h)
def ClosedY (ops:Array Oper) (listed:Array Bool):Prop:=∀i o,ops[i]? = some o→listed.getD i false=true→∀e∈o.after,Region.binds .any e=true→listed.getD e.on false=true
theorem zG6 {P : Program} {ops : Array Oper} {Q : Exit → Act → World → Prop} {id : Nat} {a : Act} {w : World} (I : Array Bool → Act → World → Prop) (hm : P.follows .mixedOrders = true) (hb : backB .any ops = true)
  (start:I (Array.replicate ops.size false) a { w with drawn:=w.drawn+1 })
  (step:∀listed a w i o,I listed a w→listed.size=ops.size→ops[i]? = some o→listed.getD i true=false→(∀e∈o.after,Region.binds .any e=true→listed.getD e.on false=true)→ClosedY ops listed→wpOp P ops Q i (fun a' w' => I (listed.setIfInBounds i true) a' w') a w)
  (done:∀listed a w,I listed a w→(∀i,i<ops.size→listed.getD i false=true)→Q .normal a w):(Code.region id ops true).wp P Q a w:=by
 refine zK9 (fun listed a w=>ClosedY ops listed∧I listed a w) hm hb ⟨fun i o _ hl=>?_,start⟩ ?_ (fun listed a w h hd=>done listed a w h.2 hd)
 ·rw[getD_replicate_false]at hl;cases hl
 ·rintro listed a w i o ⟨hc,hI⟩ hs ho hl he;refine wpOp_mono (fun a' w' h' => ⟨?_,h'⟩) (step listed a w i o hI hs ho hl he hc);intro j o' ho' hj e hem heb;have hset:∀k,listed.getD k false=true→(listed.setIfInBounds i true).getD k false=true:=fun k hk=>by
   by_cases hik:i=k
   ·subst hik;exact sgiy hl
   ·rw[sgy hik];exact hk
  by_cases hij:i=j
  ·subst hij;rw[ho]at ho';obtain rfl:=Option.some.inj ho';exact hset _ (he e hem heb)
  ·rw[sgy hij]at hj;exact hset _ (hc j o' ho' hj e hem heb)
theorem cy {l:Array Bool} {i j:Nat} {b:Bool} {P:Prop} (F:l.getD j false=b→P) (h:Nat.beq i j=false):(l.setIfInBounds i true).getD j false=b→P:=fun hj=>F (by rwa [sgy (Nat.ne_of_beq_eq_false h)]at hj)
theorem cyu {l:Array Bool} {i j k:Nat} {P:Prop} (F:l.getD j false=true→l.getD k false=false→P) (h:Nat.beq i j=false) (h2:Nat.beq i k=false):(l.setIfInBounds i true).getD j false=true→(l.setIfInBounds i true).getD k false=false→P :=
 fun hj hk=>F (by rwa [sgy (Nat.ne_of_beq_eq_false h)]at hj) (by rwa [sgy (Nat.ne_of_beq_eq_false h2)]at hk)
theorem wpOp_skip {P:Program} {ops:Array Oper} {Q:Exit→Act→World→Prop} {i:Nat} {o:Oper} {K:Act→World→Prop} {a:Act} {w:World} (ho:ops[i]? = some o) (hw:Region.wanted o (yielded ops a.tmps)=false) (h:K (a.put o.dst undef) w):wpOp P ops Q i K a w:=by
 unfold wpOp;simp only[ho];rw[if_neg (by simp[hw])];exact h
def myA (jv:Value) (g1 g2 g3 g4 G:Nat) (u6 u7 u8 u9 u10 u11 u12 u13 u14 u15 u16 u17 u18 u19:Value):Act:={ tmps:=#[jv,.pointer (some ⟨g1,0,none⟩),.pointer (some ⟨g2,0,none⟩),.pointer (some ⟨g3,0,none⟩),.pointer (some ⟨g4,0,none⟩),.pointer (some ⟨G,0,none⟩),u6,u7,u8,u9,u10,u11,u12,u13,u14,u15,u16,u17,u18,u19],defers:=[] }
def myI (jv:Value) (g1 g2 g3 g4 G:Nat) (ma:Option Addr) (mn mk lb lo lc pb po pc who n:Nat) (id y:Int) (wq:World) (listed:Array Bool) (a:Act) (w':World):Prop :=
 ∃ u6 u7 u8 u9 u10 u11 u12 u13 u14 u15 u16 u17 u18 u19 : Value, a = myA jv g1 g2 g3 g4 G u6 u7 u8 u9 u10 u11 u12 u13 u14 u15 u16 u17 u18 u19 ∧
   (listed.getD 0 false=true→u7=.agg #[.slice ma mn mk,.slice (some ⟨lb,lo,none⟩) 4 lc,.slice (some ⟨pb,po,none⟩) 3 pc]) ∧
   (listed.getD 1 false=true→u8=.int .i64 who) ∧
   (listed.getD 2 false=true→u9=.pointer (some ⟨G,1,none⟩)) ∧
   (listed.getD 3 false=true→u10=.int .i64 n) ∧
   (listed.getD 4 false=true→u11=.int .i64 y) ∧
   (listed.getD 5 false=true→u12=.int .i64 id) ∧
   (listed.getD 6 false=true→u13=.bool false) ∧
   (listed.getD 7 false=true→u14=.bool false) ∧
   (listed.getD 12 false=true→u19=.bool false) ∧
   (listed.getD 13 false=true→u6=.bool false) ∧
   Below wq.heap.size wq w'
set_option maxRecDepth 100000 in
theorem mayTestF_any {c : Cfg} (hbus : Bus c) {w w0 : World} {B : Nat} {ma : Option Addr} {mn mk lb lo lc pb po pc : Nat} {Q : Nat → Option Addr} {K : Nat → Nat} (HO : BusO w0 B c ma mn mk lb lo lc pb po pc Q K) (HB0 : Below w.heap.size w w0) (hBw : B ≤ w0.heap.size) {who s : Nat} {id y : Int} {j : Jb} {g1 g2 g3 g4 : Nat}
  (hj:w0.heap[w.heap.size]? = some (.cells #[.int .i64 j.who,.int .i64 j.n,.int .i64 j.left] 75 (0,0)))
  (x0:w0.cell? ⟨g1,0,none⟩=some (.slice ma mn mk)) (x1:w0.cell? ⟨g1,1,none⟩=some (.slice (some ⟨lb,lo,none⟩) 4 lc)) (x2:w0.cell? ⟨g1,2,none⟩=some (.slice (some ⟨pb,po,none⟩) 3 pc)) (x3:g1<w0.heap.size)
  (y0:w0.cell? ⟨g2,0,none⟩=some (.int .i64 who)) (y1:g2<w0.heap.size) (z0:w0.cell? ⟨g3,0,none⟩=some (.int .i64 id)) (z1:g3<w0.heap.size)
  (hwi:who<3) (hni:j.n<(c.prog who).length) (hy:y=c.id who j.n) (he1:(y==id)=false) (HM:Hid (mayB c who s id j=false))
  (hw0:w0=w.alloc (.cells #[.int .i64 j.who,.int .i64 j.n,.int .i64 j.left] 75)) :
  Calls Tryz.prog 185 #[.agg #[.int .i64 j.who,.int .i64 j.n,.int .i64 j.left],.pointer (some ⟨g1,0,none⟩),.pointer (some ⟨g2,0,none⟩),.pointer (some ⟨g3,0,none⟩),.pointer (some ⟨g4,0,none⟩)] w fun e w' => e=.returned (.bool (mayB c who s id j))∧Below w.heap.size w w':=by
 have HY:=hid hy;have HE:=hid he1;have hG:w.heap.size<w0.heap.size:=zA2 hj;have j1:w0.cell? ⟨w.heap.size,1,none⟩=some (.int .i64 j.n):=by simp[World.cell?,hj]
 clear hy he1 hj
 go_enter Tryz.func185,Tryz.ntmps185
 go_upto_region 1 with fail
 rw[←hw0];clear hw0;generalize hg:w.heap.size=G at hG j1;have hgs:G≤w.heap.size:=Nat.le_of_eq hg.symm;have HGS:=hid hg;clear hg;refine zG6 (myI (.agg #[.int .i64 j.who,.int .i64 j.n,.int .i64 j.left]) g1 g2 g3 g4 G ma mn mk lb lo lc pb po pc who j.n id y w0) (by kernel_rfl) (by kernel_rfl) ?_ ?_ ?_
 ·exact⟨_,_,_,_,_,_,_,_,_,_,_,_,_,_,rfl,(fun h=>absurd h (by rw[getD_replicate_false];simp)),(fun h=>absurd h (by rw[getD_replicate_false];simp)),(fun h=>absurd h (by rw[getD_replicate_false];simp)),(fun h=>absurd h (by rw[getD_replicate_false];simp)),(fun h=>absurd h (by rw[getD_replicate_false];simp)),(fun h=>absurd h (by rw[getD_replicate_false];simp)),(fun h=>absurd h (by rw[getD_replicate_false];simp)),(fun h=>absurd h (by rw[getD_replicate_false];simp)),(fun h=>absurd h (by rw[getD_replicate_false];simp)),(fun h=>absurd h (by rw[getD_replicate_false];simp)),(Below.refl _ _).drew⟩
 ·intro listed a w' i o hI hsz ho hl he hcl;have hi:i<14:=(Array.getElem?_eq_some_iff.1 ho).1;have e:i=0∨i=1∨i=2∨i=3∨i=4∨i=5∨i=6∨i=7∨i=8∨i=9∨i=10∨i=11∨i=12∨i=13:=by omega
  clear hi;rcases e with rfl|rfl|rfl|rfl|rfl|rfl|rfl|rfl|rfl|rfl|rfl|rfl|rfl|rfl
  all_goals (have ho2:=ho;obtain rfl:=Option.some.inj ho2.symm;clear ho2)
  ·as_aux_lemma=>
    obtain⟨u6,u7,u8,u9,u10,u11,u12,u13,u14,u15,u16,u17,u18,u19,rfl,F0,F1,F2,F3,F4,F5,F6,F7,F12,F13,hx⟩:=hI;have q0:=(hx.cell (p:=⟨g1,0,none⟩) x3).trans x0;have q1:=(hx.cell (p:=⟨g1,1,none⟩) x3).trans x1;have q2:=(hx.cell (p:=⟨g1,2,none⟩) x3).trans x2;refine zB4 ho rfl (fun K hK=>?_);unfold myA;go_simp;exact hK _ _ ⟨_,_,_,_,_,_,_,_,_,_,_,_,_,_,rfl,fun _=>rfl,cy F1 rfl,cy F2 rfl,cy F3 rfl,cy F4 rfl,cy F5 rfl,cy F6 rfl,cy F7 rfl,cy F12 rfl,cy F13 rfl,hx⟩
  ·as_aux_lemma=>
    obtain⟨u6,u7,u8,u9,u10,u11,u12,u13,u14,u15,u16,u17,u18,u19,rfl,F0,F1,F2,F3,F4,F5,F6,F7,F12,F13,hx⟩:=hI;have q0:=(hx.cell (p:=⟨g2,0,none⟩) y1).trans y0;refine zB4 ho rfl (fun K hK=>?_);unfold myA;go_simp;exact hK _ _ ⟨_,_,_,_,_,_,_,_,_,_,_,_,_,_,rfl,cy F0 rfl,fun _=>rfl,cy F2 rfl,cy F3 rfl,cy F4 rfl,cy F5 rfl,cy F6 rfl,cy F7 rfl,cy F12 rfl,cy F13 rfl,hx⟩
  ·as_aux_lemma=>
    obtain⟨u6,u7,u8,u9,u10,u11,u12,u13,u14,u15,u16,u17,u18,u19,rfl,F0,F1,F2,F3,F4,F5,F6,F7,F12,F13,hx⟩:=hI;refine zB4 ho rfl (fun K hK=>?_);unfold myA;go_simp;exact hK _ _ ⟨_,_,_,_,_,_,_,_,_,_,_,_,_,_,rfl,cy F0 rfl,cy F1 rfl,fun _=>rfl,cy F3 rfl,cy F4 rfl,cy F5 rfl,cy F6 rfl,cy F7 rfl,cy F12 rfl,cy F13 rfl,hx⟩
  ·as_aux_lemma=>
    obtain⟨u6,u7,u8,u9,u10,u11,u12,u13,u14,u15,u16,u17,u18,u19,rfl,F0,F1,F2,F3,F4,F5,F6,F7,F12,F13,hx⟩:=hI;have l2:=he ⟨2,.data⟩ (by simp) rfl;have e:=F2 l2;subst e;have q0:=(hx.cell (p:=⟨G,1,none⟩) hG).trans j1;refine zB4 ho rfl (fun K hK=>?_);unfold myA;go_simp;exact hK _ _ ⟨_,_,_,_,_,_,_,_,_,_,_,_,_,_,rfl,cy F0 rfl,cy F1 rfl,cy F2 rfl,fun _=>rfl,cy F4 rfl,cy F5 rfl,cy F6 rfl,cy F7 rfl,cy F12 rfl,cy F13 rfl,hx⟩
  ·as_aux_lemma=>
    obtain⟨u6,u7,u8,u9,u10,u11,u12,u13,u14,u15,u16,u17,u18,u19,rfl,F0,F1,F2,F3,F4,F5,F6,F7,F12,F13,hx⟩:=hI;have l0:=he ⟨0,.data⟩ (by simp) rfl;have l1:=he ⟨1,.data⟩ (by simp) rfl;have l3:=he ⟨3,.data⟩ (by simp) rfl;have e:=F0 l0;subst e;have e:=F1 l1;subst e;have e:=F3 l3;subst e;refine zB4 ho rfl (fun K hK=>?_);unfold myA;go_simp
    (with_reducible refine(id_any hbus (B:=B) (HO.below (hx.mono hBw)) (Nat.le_trans hBw hx.size) hwi hni).mono ?_)
    rw[←HY.out];rintro e w'' ⟨rfl,hb1⟩
    go_wp2_with fail
    exact⟨_,_,_,_,_,_,_,_,_,_,_,_,_,_,rfl,fun _=>rfl,fun _=>rfl,cy F2 rfl,fun _=>rfl,fun _=>rfl,cy F5 rfl,cy F6 rfl,cy F7 rfl,cy F12 rfl,cy F13 rfl,hx.trans (hb1.mono hx.size)⟩
  ·as_aux_lemma=>
    obtain⟨u6,u7,u8,u9,u10,u11,u12,u13,u14,u15,u16,u17,u18,u19,rfl,F0,F1,F2,F3,F4,F5,F6,F7,F12,F13,hx⟩:=hI;have q0:=(hx.cell (p:=⟨g3,0,none⟩) z1).trans z0;refine zB4 ho rfl (fun K hK=>?_);unfold myA;go_simp;exact hK _ _ ⟨_,_,_,_,_,_,_,_,_,_,_,_,_,_,rfl,cy F0 rfl,cy F1 rfl,cy F2 rfl,cy F3 rfl,cy F4 rfl,fun _=>rfl,cy F6 rfl,cy F7 rfl,cy F12 rfl,cy F13 rfl,hx⟩
  ·as_aux_lemma=>
    obtain⟨u6,u7,u8,u9,u10,u11,u12,u13,u14,u15,u16,u17,u18,u19,rfl,F0,F1,F2,F3,F4,F5,F6,F7,F12,F13,hx⟩:=hI;have l4:=he ⟨4,.data⟩ (by simp) rfl;have l5:=he ⟨5,.data⟩ (by simp) rfl;have e:=F4 l4;subst e;have e:=F5 l5;subst e;have e1:=HE.out;refine zB4 ho rfl (fun K hK=>?_);unfold myA;go_simp;exact hK _ _ ⟨_,_,_,_,_,_,_,_,_,_,_,_,_,_,rfl,cy F0 rfl,cy F1 rfl,cy F2 rfl,cy F3 rfl,cy F4 rfl,cy F5 rfl,fun _=>(by first|rfl|rw[e1]),cy F7 rfl,cy F12 rfl,cy F13 rfl,hx⟩
  ·as_aux_lemma=>
    obtain⟨u6,u7,u8,u9,u10,u11,u12,u13,u14,u15,u16,u17,u18,u19,rfl,F0,F1,F2,F3,F4,F5,F6,F7,F12,F13,hx⟩:=hI;have l6:=he ⟨6,.data⟩ (by simp) rfl;have e:=F6 l6;subst e;refine zB4 ho rfl (fun K hK=>?_);unfold myA;go_simp;exact hK _ _ ⟨_,_,_,_,_,_,_,_,_,_,_,_,_,_,rfl,cy F0 rfl,cy F1 rfl,cy F2 rfl,cy F3 rfl,cy F4 rfl,cy F5 rfl,cy F6 rfl,fun _=>rfl,cy F12 rfl,cy F13 rfl,hx⟩
  ·as_aux_lemma=>
    obtain⟨u6,u7,u8,u9,u10,u11,u12,u13,u14,u15,u16,u17,u18,u19,rfl,F0,F1,F2,F3,F4,F5,F6,F7,F12,F13,hx⟩:=hI;have l7:=he ⟨7,.guard⟩ (by simp) rfl;have e:=F7 l7;subst e;refine wpOp_skip ho rfl ?_;exact⟨_,_,_,_,_,_,_,_,_,_,_,_,_,_,rfl,cy F0 rfl,cy F1 rfl,cy F2 rfl,cy F3 rfl,cy F4 rfl,cy F5 rfl,cy F6 rfl,cy F7 rfl,cy F12 rfl,cy F13 rfl,hx⟩
  ·as_aux_lemma=>
    obtain⟨u6,u7,u8,u9,u10,u11,u12,u13,u14,u15,u16,u17,u18,u19,rfl,F0,F1,F2,F3,F4,F5,F6,F7,F12,F13,hx⟩:=hI;have l7:=he ⟨7,.guard⟩ (by simp) rfl;have e:=F7 l7;subst e;refine wpOp_skip ho rfl ?_;exact⟨_,_,_,_,_,_,_,_,_,_,_,_,_,_,rfl,cy F0 rfl,cy F1 rfl,cy F2 rfl,cy F3 rfl,cy F4 rfl,cy F5 rfl,cy F6 rfl,cy F7 rfl,cy F12 rfl,cy F13 rfl,hx⟩
  ·as_aux_lemma=>
    obtain⟨u6,u7,u8,u9,u10,u11,u12,u13,u14,u15,u16,u17,u18,u19,rfl,F0,F1,F2,F3,F4,F5,F6,F7,F12,F13,hx⟩:=hI;have l7:=he ⟨7,.guard⟩ (by simp) rfl;have e:=F7 l7;subst e;refine wpOp_skip ho rfl ?_;exact⟨_,_,_,_,_,_,_,_,_,_,_,_,_,_,rfl,cy F0 rfl,cy F1 rfl,cy F2 rfl,cy F3 rfl,cy F4 rfl,cy F5 rfl,cy F6 rfl,cy F7 rfl,cy F12 rfl,cy F13 rfl,hx⟩
  ·as_aux_lemma=>
    obtain⟨u6,u7,u8,u9,u10,u11,u12,u13,u14,u15,u16,u17,u18,u19,rfl,F0,F1,F2,F3,F4,F5,F6,F7,F12,F13,hx⟩:=hI;have l7:=he ⟨7,.guard⟩ (by simp) rfl;have e:=F7 l7;subst e;refine wpOp_skip ho rfl ?_;exact⟨_,_,_,_,_,_,_,_,_,_,_,_,_,_,rfl,cy F0 rfl,cy F1 rfl,cy F2 rfl,cy F3 rfl,cy F4 rfl,cy F5 rfl,cy F6 rfl,cy F7 rfl,cy F12 rfl,cy F13 rfl,hx⟩
  ·as_aux_lemma=>
    obtain⟨u6,u7,u8,u9,u10,u11,u12,u13,u14,u15,u16,u17,u18,u19,rfl,F0,F1,F2,F3,F4,F5,F6,F7,F12,F13,hx⟩:=hI;have l7:=he ⟨7,.data⟩ (by simp) rfl;have e:=F7 l7;subst e;refine zB4 ho rfl (fun K hK=>?_);unfold myA;go_simp;exact hK _ _ ⟨_,_,_,_,_,_,_,_,_,_,_,_,_,_,rfl,cy F0 rfl,cy F1 rfl,cy F2 rfl,cy F3 rfl,cy F4 rfl,cy F5 rfl,cy F6 rfl,cy F7 rfl,fun _=>rfl,cy F13 rfl,hx⟩
  ·as_aux_lemma=>
    obtain⟨u6,u7,u8,u9,u10,u11,u12,u13,u14,u15,u16,u17,u18,u19,rfl,F0,F1,F2,F3,F4,F5,F6,F7,F12,F13,hx⟩:=hI;have l12:=he ⟨12,.data⟩ (by simp) rfl;have e:=F12 l12;subst e;refine zB4 ho rfl (fun K hK=>?_);unfold myA;go_simp;exact hK _ _ ⟨_,_,_,_,_,_,_,_,_,_,_,_,_,_,rfl,cy F0 rfl,cy F1 rfl,cy F2 rfl,cy F3 rfl,cy F4 rfl,cy F5 rfl,cy F6 rfl,cy F7 rfl,cy F12 rfl,fun _=>rfl,hx⟩
 ·intro listed a w' hI hd;obtain⟨u6,u7,u8,u9,u10,u11,u12,u13,u14,u15,u16,u17,u18,u19,rfl,F0,F1,F2,F3,F4,F5,F6,F7,F12,F13,hx⟩:=hI;have e6:=F13 (hd 13 (by show 13<14;omega));clear F0 F1 F2 F3 F4 F5 F6 F7 F12 F13 hd;subst e6;unfold myA;have HX:=hid hx;clear hx
  go_wp2_with fail
  go_ret
  exact⟨by rw[HM.out];rfl,HB0.trans (HX.out.mono HB0.size)⟩
end Go.Proofs.YthnlalffjepdaaaGreat
