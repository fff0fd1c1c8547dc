/- A cycle: the stores do what they have to do. -/
import Derived.Test.YtgkdoehkmbhfiaaGreatQKo
import Derived.Test.YtgkdoehkmbhfiaaGreatQDr2
import Derived.Test.YtgkdoehkmbhfiaaGreatQCpy
import Derived.Test.YtgkdoehkmbhfiaaGreatQDl
import Derived.Test.YtgkdoehkmbhfiaaGreatQDo4
import Derived.Test.YtgkdoehkmbhfiaaGreatQFl
import Derived.Test.YtgkdoehkmbhfiaaGreatQRp0
set_option linter.unusedVariables false
set_option linter.unusedSimpArgs false
set_option maxHeartbeats 16000000
namespace Go.Proofs.YtgkdoehkmbhfiaaGreat
open Go.RowKit
set_option maxRecDepth 4000 in
theorem let_any {c : Cfg} (hbus : Bus c) {w : World} {base S Hb : Nat} {L : Nat → Value} {st : Cy} {ev : List Ev} {V0 : Nat → Value} {N0 : Nat → Nat} {C0 : Nat → List Value} {D0 : Nat → List TJV} (hm : CyM w base S Hb L st ev V0 N0 C0 D0) (hg : Good c st) {u : Value} {B : Nat} (hc : BusV w B u c) (hB : B ≤ base) :
  Calls Tryz.prog 92 #[.pointer (some ⟨S,0,none⟩),u,.pointer (some ⟨Hb,0,none⟩)] w (LetP base S Hb L ev (zL7 c st) V0 w):=by
 obtain⟨mv,lb,lo,lc,pb,po', pc', Q,K,rfl,⟨ma,mn,mk,rfl⟩,hms,hlb,hpb', hlat,hprog,hreq⟩:=hc.opened hbus;have HBO:=hid (show BusO w B c ma mn mk lb lo lc pb po' pc' Q K from⟨hms,hlb,hpb', hlat,hprog,hreq⟩);have HM:=hid hm;have HG0:=hid hg;have hS:=zA3 hm.bs;have hbw:base≤w.heap.size:=Nat.le_trans hm.s0 (Nat.le_of_lt (zA3 hm.bs));obtain⟨q0,q1,q2,q3,q4,qf⟩:=hm.box;obtain⟨sg,so,sc,hV3,hsc,hsc2,_,_⟩:=hm.stores;rw[hV3]at q3;obtain⟨w0,hw0⟩:∃W,W=(w.alloc (.cells #[.slice ma mn mk,.slice (some ⟨lb,lo,none⟩) 4 lc,.slice (some ⟨pb,po', none⟩) 3 pc'] 27)).alloc (.cells #[.bool false,.bool false,.bool false] 185):=⟨_,rfl⟩
 have hb0:Below w.heap.size w w0:=by rw[hw0];exact((Below.refl _ _).alloc (Nat.le_refl _) _).alloc (by simp) _
 have hz0:w0.heap.size=w.heap.size+2:=by rw[hw0];simp
 have HC0 := hid (show BusB w0 w.heap.size ma mn mk lb lo lc pb po' pc' by
  unfold BusB;rw[hw0,((Below.refl _ _).alloc (Nat.le_refl _) _).block _ (by simp)];exact zA8 _ _ rfl)
 have HU0:=hid (show UseB w0 (w.heap.size+1) (fun _=>false) by unfold UseB;rw[hw0];exact zA8 _ _ (by simp));have HFR:=hid (HM.out.fresh (w':=w0) (Nat.le_refl w.heap.size) (by omega));have HFR1:=hid (HM.out.fresh (w':=w0) (Nat.le_succ w.heap.size) (by omega));have HKB:=hid (Kp.below (S:=S) (Hb:=Hb) (V:=V0) hb0);have HM0:=hid (HM.out.below hb0);have HB0:=hid (hb0.mono hbw);have HBO0:=hid (HBO.out.below (hb0.mono (Nat.le_trans hB hbw)));clear hm hg hms hlb hpb' hlat hprog hreq hc hV3 qf q0 q1 q2 q4 hsc hsc2 hz0
 go_enter Tryz.func92,Tryz.ntmps92
 go_wp2_with fail
 rw[←hw0];clear hw0 hb0 q3 HM hS
 go_loopw [18] (fun i wr=>∃k:Nat,k≤4∧i=.int .i64 k∧Good c (foldN (let1 c) k ⟨st,fun _=>false,fun _=>0⟩).st∧(∃V N C D,CyM wr base S Hb (letsV L (foldN (let1 c) k ⟨st,fun _=>false,fun _=>0⟩).lets) (foldN (let1 c) k ⟨st,fun _=>false,fun _=>0⟩).st ev V N C D∧Kp S Hb V0 w V wr∧DFree V S Hb wr w.heap.size∧DFree V S Hb wr (w.heap.size+1))∧BusB wr w.heap.size ma mn mk lb lo lc pb po' pc' ∧ UseB wr (w.heap.size+1) (foldN (let1 c) k ⟨st,fun _=>false,fun _=>0⟩).used∧Below base w wr) (fun i _=>4 - (intOf i).toNat)
 case atStart=>exact⟨0,by omega,by go_num,HG0.out,⟨_,_,_,_,by simp only[foldN,letsV_zero];exact HM0.out,HKB.out,HFR.out,HFR1.out⟩,HC0.out,HU0.out,HB0.out⟩
 case round=>
  obtain⟨k,hk,rfl,hg,⟨V,N,C,D,hm,hkp,hf1,hf2⟩,hcb,hub,hbl⟩:=hrel;have HKP:=hid hkp;have HF1:=hid hf1;have HF2:=hid hf2;have HCB:=hid hcb;have HUB:=hid hub;have HBL:=hid hbl;clear hkp hf1 hf2;by_cases hlt:k<4
  ·have hlti:(k:Int)<4:=by omega
   obtain⟨y,hy⟩:∃y,y=foldN (let1 c) k ⟨st,fun _=>false,fun _=>0⟩:=⟨_,rfl⟩
   have HY1:=hid (show foldN (let1 c) (k+1) ⟨st,fun _=>false,fun _=>0⟩=let1 c k y by rw[hy];rfl);rw[←hy]at hg hm;rw[←hy]at HUB;have HM:=hid hm;have HG:=hid hg;have hS:=zA3 hm.bs;obtain⟨q0,q1,q2,q3,q4,qf⟩:=hm.box;obtain⟨sg,so,sc', hV3,hsc,hsc2,hsb,hsz⟩:=hm.stores;have HV3:=hid hV3;rw[hV3]at q3;obtain⟨s0,s1,s2,sf⟩:=hm.store hV3 hlt;obtain⟨pa,pcc,hpv,_,_⟩:=(hm.oPipe hlt).shape;rw[hpv]at s0;have HPV:=hid hpv;have hsl:=(hg.s k hlt).l;clear hm hg hcb hub hbl hV3 hpv hy;by_cases hp:(y.st.slaves k).pipe.length<2
   ·have hpi:((y.st.slaves k).pipe.length:Int)<2:=by omega
    go_wp2_with fail
    obtain⟨wo,hwo⟩:∃W,W=wr:=⟨_,rfl⟩
    subst hwo
    go_loopw [9] (fun i wd=>∃m:Nat,1≤m∧m≤4∧i=.int .i64 m∧Below wo.heap.size wo wd∧∀j,1≤j→j<m→letM c k y j=false) (fun i _=>4 - (intOf i).toNat)
    case atStart=>exact⟨1,by omega,by omega,rfl,Below.refl _ _,fun j h1 h2=>by omega⟩
    case round=>
     obtain⟨m,hm1,hm4,rfl,hbm,hno⟩:=hrel;have HNO:=hid hno;have HBM:=hid hbm;clear hno;have t0:=(hbm.cell (p:=⟨sg,so+k * 3,none⟩) hsz).trans s0;have t2:=(hbm.cell (p:=⟨sg,so+k * 3+2,none⟩) hsz).trans s2;clear hbm;by_cases h3:m≤3
     ·have h3i:(m:Int)≤3:=by omega
      obtain⟨t,ht⟩:∃t,t=((y.st.slaves k).last+m) % 3:=⟨_,rfl⟩
      have ht3:t<3:=by omega
      have hti:(((y.st.slaves k).last:Int)+(m:Int)) % 3=(t:Int):=by omega
      have HT:=hid ht.symm;have HTI:=hid hti;clear ht hti
      go_upto_region 10 with fail
      simp only[HTI.out];obtain⟨ut,hut⟩:∃b,b=y.used t:=⟨_,rfl⟩
      have hubz:=HF2.out.1;have hcbz:=HF1.out.1;have u0:=(HBM.out.cell (p:=⟨w.heap.size+1,t,none⟩) hubz).trans (HUB.out.cells ht3).1;rw[←hut]at u0;obtain⟨b0,b1,b2,_⟩:=(HCB.out.below HBM.out hcbz).cells;have HUT:=hid hut;have hti3:(t:Int)<3:=by omega
      clear hut;rcases ut with _|_
      ·obtain⟨mh,hmh⟩:∃b,b=may c y.st t k:=⟨_,rfl⟩
       have HMH:=hid hmh;clear hmh;have HBD:=hid (show BusO wr B c ma mn mk lb lo lc pb po' pc' Q K from HBO.out.below ((HBL.out.mono hB).trans (HBM.out.mono (Nat.le_trans hB (Nat.le_trans hsb (Nat.le_of_lt hsz))))));have HMD:=hid (HM.out.below HBM.out);rcases mh with _|_
       ·have HQ:=hid (show letM c k y m=false by rw[letM_eq HT.out,←HMH.out];simp)
        go_wp2_with (first
         |(go_at_call 145;(with_reducible refine(may_any hbus HMD.out HG.out HBD.out hB ht3 hlt).mono ?_);rw[←HMH.out];rintro e w5 ⟨rfl,hb5⟩;have HB5:=hid hb5;clear hb5))
        go_roundw
        case rel => exact ⟨m + 1, by omega, by omega, by go_num, HBM.out.trans (HB5.out.mono HBM.out.size), fun i h1 h2 => by
         by_cases e:i=m
         ·subst e;exact HQ.out
         ·exact HNO.out i h1 (by omega)⟩
        case measure=>simp[intOf];omega
       ·obtain⟨n,rest,hqn⟩:=may_queue HMH.out.symm;have HIT:=hid (let1_hit (c:=c) hp hm1 h3 HNO.out HT.out (by rw[←HMH.out,←HUT.out];rfl) hqn)
        go_upto_region 11 with (first
         |(go_at_call 145;(with_reducible refine(may_any hbus HMD.out HG.out HBD.out hB ht3 hlt).mono ?_);rw[←HMH.out];rintro e w5 ⟨rfl,hb5⟩;have HB5:=hid hb5;clear hb5))
        have hm5:=HMD.out.below HB5.out;obtain⟨q0,q1,q2,q3,q4,qf⟩:=hm5.box;obtain⟨pg,po,pc,hV2,hpc,hpc2,hpb,hpz⟩:=hm5.ports;rw[hV2]at q2;obtain⟨p0,p1,p2,p3,pf⟩:=hm5.port hV2 ht3;have hown:=hm5.oQueue ht3;rw[hqn]at hown;obtain⟨dg,dof,dcp,hvs,hdcp,hdcp2,hdgb,hdgz⟩:=OwnR.addr hown (by simp);rw[hvs]at hown p1;simp only[List.length_cons]at hvs hdcp p1;have c0:w5.cell? ⟨dg,dof,none⟩=some (.int .i64 (n:Nat)):=by
         have:=Owns.cellAt hown (fun _=>rfl) 0 0 n (by simp) (by omega);simpa[rowN]using this
        have HM5:=hid hm5;have HQN:=hid hqn;have HV2:=hid hV2;have HVS:=hid hvs;obtain⟨A1,hA1⟩:=pop_addr dg dof 1 dcp;have hyl:1≤rest.length+1:=by omega
        have hq0i:(0:Int)<((rest.length+1:Nat):Int):=by omega
        clear hm5 hqn hV2 hvs hown t0 t2 u0 b0 b1 b2 q0 q1 q3 q4 qf
        go_upto_region 13 with fail
        go_upto_region 14 with fail
        obtain⟨w6,hw6⟩:∃W,W=w5.setCell ⟨pg,po+t * 4+1,none⟩ (.slice (some A1) rest.length (dcp - 1)):=⟨_,rfl⟩
        rw[←hw6];obtain⟨N6,C6,hm6,hk6⟩:=HM5.out.popQueue ht3 HV2.out HQN.out HVS.out hA1;rw[←hw6]at hm6 hk6;obtain⟨v5,hv5⟩:∃v,v=Value.slice (some A1) rest.length (dcp - 1):=⟨_,rfl⟩
        rw[←hv5]at hm6 hk6;have hb6:Below base w5 w6:=by rw[hw6];exact(Below.refl _ _).setCell (p:=⟨pg,_,none⟩) hpb _
        obtain⟨V6,hV6⟩:∃V', V' = upd V (5+t) v5:=⟨_,rfl⟩
        rw[←hV6]at hm6 hk6;have e2:V6 2=.slice (some ⟨pg,po,none⟩) 3 pc:=by rw[hV6,zA0 _ _ (by omega)];exact HV2.out
        have e3:V6 3=.slice (some ⟨sg,so,none⟩) 4 sc':=by rw[hV6,zA0 _ _ (by omega)];exact HV3.out
        have E2:=hid e2;have E3:=hid e3;have ho6:=hm6.oOut ht3;simp only[zA1]at ho6;have HO6:=hid ho6;have ho4:=(HG.out.p t ht3).o4;have HM6:=hid hm6;have HK6:=hid hk6;have HB6:=hid hb6;have hpg6:pg<w6.heap.size:=Nat.lt_of_lt_of_le hpz hb6.size;have hbw6:base≤w6.heap.size:=Nat.le_trans hpb (Nat.le_of_lt hpg6);have hpne:(V6 (8+t)).ownBlock≠some pg:=fun e=>hm6.raw.ap (8+t) 2 (by omega) (by omega) (by omega) pg e (by rw[E2.out];rfl)
        clear p0 p1 p2 p3 pf hw6 hv5 hV6 e2 e3 ho6 hA1 c0;obtain⟨p0,p1,p2,p3,pf⟩:=hm6.port E2.out ht3;clear hm6 hk6 hb6 p0 p1 p3;have f2:=pf 2
        go_upto_region 15 with(at_builtin;go_must (refine zC4 elem_jb jbRow (fun _=>rfl) ⟨t,n,k⟩ (jbRow_one _) w6 rfl _ _ rfl base (V6 (8+t)) (y.st.ports t).out (by rfl) HO6.out _ (by rfl) (by rfl) (by omega) (by omega) hbw6 ?_;intro v' w7 ho hz hk hown hb;obtain⟨va,vc,hv', _,_⟩:=ho.shape;simp only[List.length_append,List.length_cons,List.length_nil,Nat.zero_add]at hv';subst hv';obtain⟨g0,g1⟩:=cell_of (hk pg hpg6 hpne) (po+t * 4+2);rw[p2]at g0;have HO:=hid ho;have HZ:=hid hz;have HK:=hid hk;have HW:=hid hown;have HB:=hid hb;clear ho hz hk hown hb))
        obtain⟨w8,hw8⟩:∃W,W=w7.setCell ⟨pg,po+t * 4+2,none⟩ (.slice va ((y.st.ports t).out.length+1) vc):=⟨_,rfl⟩
        rw[←hw8];obtain⟨N8,C8,hm8,hk8⟩:=HM6.out.setOut ht3 E2.out HK.out HZ.out HO.out (new_own HW.out);rw[←hw8]at hm8 hk8;have hb8:Below base w6 w8:=by rw[hw8];exact HB.out.setCell (p:=⟨pg,_,none⟩) hpb _
        obtain⟨V8,hV8⟩:∃V', V' = upd V6 (8+t) (.slice va ((y.st.ports t).out.length+1) vc):=⟨_,rfl⟩
        rw[←hV8]at hm8 hk8;have e2:V8 2=.slice (some ⟨pg,po,none⟩) 3 pc:=by rw[hV8,zA0 _ _ (by omega)];exact E2.out
        have e3:V8 3=.slice (some ⟨sg,so,none⟩) 4 sc':=by rw[hV8,zA0 _ _ (by omega)];exact E3.out
        have F2:=hid e2;have F3:=hid e3;have HM8:=hid hm8;have HK8:=hid hk8;have HB8:=hid hb8;have hsz6:sg<w8.heap.size:=by
         have h1:=HBM.out.size;have h2:=HB5.out.size;have h3:=HB6.out.size;have h4:=hb8.size;omega
        clear p2 pf f2 g0 g1 hw8 hV8 e2 e3 hm8 hk8 hb8;obtain⟨st8,hst8⟩:∃s:Cy,s={ { y.st with ports:=upd y.st.ports t { y.st.ports t with queue:=rest } } with ports:=upd (upd y.st.ports t { y.st.ports t with queue:=rest }) t { (upd y.st.ports t { y.st.ports t with queue:=rest }) t with out:=(y.st.ports t).out++[⟨t,n,k⟩] } }:=⟨_,rfl⟩
        have HM8b:Hid (CyM w8 base S Hb (letsV L y.lets) st8 ev V8 N8 C8 D):=hid (by rw[hst8];exact HM8.out);have hpl8:(st8.slaves k).pipe=(y.st.slaves k).pipe:=by rw[hst8]
        have HST8:=hid hst8;have hop:=(HM8b.out.below (show Below w8.heap.size w8 w8.drew from(Below.refl _ _).drew)).oPipe hlt;rw[hpl8]at hop;have HOP:=hid hop;have HM8d:=hid (HM8b.out.below (show Below w8.heap.size w8 w8.drew from(Below.refl _ _).drew));obtain⟨s0,s1,s2,sf⟩:=HM8b.out.store F3.out hlt;obtain⟨pa8,pc8,hpv8,_,_⟩:=hop.shape;rw[hpv8]at s0;have HPV8:=hid hpv8;have hsne:some sg≠(V8 (11+k)).ownBlock:=fun e=>HM8b.out.raw.ap (11+k) 3 (by omega) (by omega) (by omega) sg e.symm (by rw[F3.out];rfl)
        rw[hpv8]at hsne HOP;have hB58:=(HB5.out.mono HBM.out.size)
        have hbw8:base≤w8.heap.size:=Nat.le_trans hsb (Nat.le_of_lt hsz6);have hb38:Below base w w8:=(((HBL.out.trans (HBM.out.mono (Nat.le_trans hsb (Nat.le_of_lt hsz)))).trans (HB5.out.mono (by have:=HBM.out.size;omega))).trans HB6.out).trans HB8.out;have hf8:=(HK8.out _ (HK6.out _ ((Kp.below (S:=S) (Hb:=Hb) (V:=V) HB5.out) _ ((Kp.below (S:=S) (Hb:=Hb) (V:=V) HBM.out) _ HF1.out).2).2).2)
        have KPA:Kp S Hb V wo V8 w8:=((Kp.below (S:=S) (Hb:=Hb) (V:=V) HBM.out).trans (Kp.below (S:=S) (Hb:=Hb) (V:=V) HB5.out)).trans (HK6.out.trans HK8.out);have HC8:=hid (show BusB w8 w.heap.size ma mn mk lb lo lc pb po' pc' from(KPA _ HF1.out).1.trans HCB.out);have HBO8:=hid (HBO.out.below (hb38.mono hB));obtain⟨b0,b1,b2,hcbz8⟩:=HC8.out.cells;have lt0:=HBO8.out.lat k hlt;have HKPA:=hid KPA;have hbw8d:base≤w8.drew.heap.size:=hbw8;have hsz8d:sg<w8.drew.heap.size:=hsz6;have s0d:w8.drew.cell? ⟨sg,so+k * 3,none⟩=some (.slice pa8 (y.st.slaves k).pipe.length pc8):=s0;have sfd:∀o,w8.drew.frozen? ⟨sg,o,none⟩=false:=sf;clear KPA s1 s2 hst8 hop hpv8 hpl8 hf8
        go_cut [] from 90 to 106 (fun wd=>∃v' N' C', CyM wd base S Hb (letsV L y.lets) { st8 with slaves:=upd st8.slaves k { st8.slaves k with pipe:=(y.st.slaves k).pipe++[⟨t,n,c.lt k⟩] } } ev (upd V8 (11+k) v') N' C' D∧Kp S Hb V8 w8.drew (upd V8 (11+k) v') wd∧Below base w8.drew wd)
        case first=>
         go_region_law (first
          |(refine step_push3 elem_jb jbRow (fun _=>rfl) w8.drew rfl (.tmp 94) (.tmp 103) rfl base (.slice pa8 (y.st.slaves k).pipe.length pc8) (y.st.slaves k).pipe ⟨t,n,c.lt k⟩ (jbRow_one _) (by rfl) HOP.out _ (by rfl) _ _ (by rfl) (by first|rfl|(simp;done)) (by omega) (by omega) hbw8d ?_;intro v' w9 ho hb2 hk2 hv2;obtain⟨va,vc,hv', _,_⟩:=ho.shape;simp only[List.length_append,List.length_cons,List.length_nil,Nat.zero_add]at hv';subst hv';obtain⟨g0,g1⟩:=cell_of (hk2 sg hsz8d hsne) (so+k * 3);rw[s0d]at g0;rw[sfd]at g1;have HO:=hid ho;have HK:=hid hk2;have HW:=hid hv2;have HB2:=hid hb2;clear ho hb2 hk2 hv2))
         all_goals
          go_wp2_with fail
          obtain⟨N', C', hc1,hc2⟩:=HM8d.out.setPipe hlt F3.out (fun b hb hne=>HK.out b hb (by rw[←HPV8.out];exact Ne.symm hne)) HB2.out.size HO.out (fun q hq=>by rw[HPV8.out];exact HW.out q hq);go_meet
          case rel=>exact⟨_,N', C', hc1,hc2,HB2.out.setCell (p:=⟨sg,_,none⟩) hsb _⟩
        case rest=>
         obtain⟨w9,hw9⟩:∃W,W=wc:=⟨_,rfl⟩
         subst hw9;obtain⟨v9,N9,C9,hm9,hk9,hb9⟩:=hcut;obtain⟨V9,hV9⟩:∃V', V' = upd V8 (11+k) v9:=⟨_,rfl⟩
         rw[←hV9]at hm9 hk9;have e3:V9 3=.slice (some ⟨sg,so,none⟩) 4 sc':=by rw[hV9,zA0 _ _ (by omega)];exact F3.out
         clear s0 sf b0 b1 b2 lt0 hV9 s0d sfd;obtain⟨s0,s1,s2,sf⟩:=hm9.store e3 hlt;have sf2:=sf (so+k * 3+2);have HM9:=hid hm9;have HK9:=hid hk9;have HB9:=hid hb9;have E3:=hid e3;clear hm9 hk9 hb9 e3 s0 s1 sf
         go_upto_region 17 with fail
         obtain⟨N10,C10,hm10,hk10⟩:=HM9.out.setSlast hlt E3.out t;obtain⟨w10,hw10⟩:∃W,W=w9.setCell ⟨sg,so+k * 3+2,none⟩ (.int .i64 (t:Nat)):=⟨_,rfl⟩
         rw[←hw10]at hm10 hk10;rw[←hw10];have HB10:=hid (show Below base w9 w10 by rw[hw10];exact(Below.refl _ _).setCell (p:=⟨sg,_,none⟩) hsb _);have HKD:=hid (HKPA.out.trans (((Kp.below (S:=S) (Hb:=Hb) (V:=V8) (show Below w8.heap.size w8 w8.drew from(Below.refl _ _).drew)).trans HK9.out).trans hk10));have HU10:=hid (show UseB w10 (w.heap.size+1) y.used from(HKD.out _ HF2.out).1.trans HUB.out);have HD1:=hid (HKD.out _ HF1.out).2;have HD2:=hid (HKD.out _ HF2.out).2;have HC10:=hid (show BusB w10 w.heap.size ma mn mk lb lo lc pb po' pc' from(HKD.out _ HF1.out).1.trans HCB.out);have HM10:=hid hm10;clear hw10 hm10 hk10 s2 sf2;have u0:=(HU10.out.cells ht3).1;have u1:=(HU10.out.cells ht3).2
         go_upto_region 18 with fail
         obtain⟨w11,hw11⟩:∃W,W=w10.setCell ⟨w.heap.size+1,t,none⟩ (.bool true):=⟨_,rfl⟩
         rw[←hw11];have hm11:=HM10.out.usedPut HU10.out HD2.out t (.bool true);rw[←hw11]at hm11;have HU11:=hid (show UseB w11 (w.heap.size+1) (upd y.used t true) by rw[hw11];exact HU10.out.put ht3 true);have HK11:=hid (show Kp S Hb V0 w V9 w11 by rw[hw11];exact(HKP.out.trans HKD.out).old (Nat.le_succ _) _ _);have HC11:=hid (show BusB w11 w.heap.size ma mn mk lb lo lc pb po' pc' by rw[hw11];exact(Below.heap_setCell _ _ _ _ (show w.heap.size≠w.heap.size+1 by omega)).trans HC10.out);have HB11:=hid (show Below base w10 w11 by rw[hw11];exact(Below.refl _ _).setCell (p:=⟨w.heap.size+1,_,none⟩) (by show base≤w.heap.size+1;omega) _);have HS11:=hid (show w11.heap.size=w10.heap.size by rw[hw11];simp);have HM11:=hid hm11;obtain⟨h0,h1,h2,h3', h4,hf⟩:=hm11.hbox;have hl0:w11.cell? ⟨Hb,1+k,none⟩=some (letsV L y.lets k):=by
          rcases(show k=0∨k=1∨k=2∨k=3 by omega)with rfl|rfl|rfl|rfl <;> assumption
         have hf0:=hf (1+k);clear hw11 hm11 h0 h1 h2 h3' h4 hf u0 u1
         go_wp2_with fail
         have HFIN:=hid ((HM11.out.letPut hlt (.int .i64 1)).congr (st':=(letDo c k t n rest y).st) (ev':=ev) (by rw[HST8.out];simp only[letDo,upd_upd,zA1]) rfl);have HLV:=hid (show upd (letsV L y.lets) k (.int .i64 1)=letsV L (letDo c k t n rest y).lets from letsV_put ..);rw[HLV.out]at HFIN
         go_roundw
         case rel=>
          refine⟨k+1,by omega,by go_num,by rw[HY1.out,HIT.out];exact HG.out.lets hlt ht3 HQN.out hp HMH.out.symm,⟨V9,_,_,_,by rw[HY1.out,HIT.out];exact HFIN.out,HK11.out.trans (Kp.cell (.inr (.inl rfl)) _ _),⟨by simpa[HS11.out]using HD1.out.1,HD1.out.2⟩,⟨by simpa[HS11.out]using HD2.out.1,HD2.out.2⟩⟩,(Below.heap_setCell _ _ _ _ (Ne.symm (Ne.symm HD1.out.2.2.2))).trans HC11.out,by rw[HY1.out,HIT.out];exact(Below.heap_setCell _ _ _ _ HD2.out.2.2.2).trans HU11.out,?_⟩;exact(((hb38.trans ((Below.refl base w8).drew.trans HB9.out)).trans HB10.out).trans HB11.out).setCell (p:=⟨Hb,_,none⟩) HM11.out.h0 _
         case measure=>simp[intOf];omega
      ·have HQ:=hid (show letM c k y m=false by rw[letM_eq HT.out,←HUT.out];rfl)
       go_wp2_with fail
       go_roundw
       case rel => exact ⟨m + 1, by omega, by omega, by go_num, HBM.out, fun i h1 h2 => by
        by_cases e:i=m
        ·subst e;exact HQ.out
        ·exact HNO.out i h1 (by omega)⟩
       case measure=>simp[intOf];omega
     ·obtain rfl:m=4:=by omega
      have HMISS:=hid (let1_miss (c:=c) (s:=k) (y:=y) (fun j h1 h2=>HNO.out j h1 (by omega)));have HM1:=hid (HM.out.below HBM.out);have HK1:=hid (HKP.out.trans (Kp.below (S:=S) (Hb:=Hb) (V:=V) HBM.out));have hz:=HBM.out.size;have HF3:=hid ((Kp.below (S:=S) (Hb:=Hb) (V:=V) HBM.out _ HF1.out).2);have HF4:=hid ((Kp.below (S:=S) (Hb:=Hb) (V:=V) HBM.out _ HF2.out).2)
      go_wp2_with fail
      go_roundw
      case rel=>exact⟨k+1,by omega,by go_num,by rw[HY1.out,HMISS.out];exact HG.out,⟨V,N,C,D,by rw[HY1.out,HMISS.out];exact HM1.out,HK1.out,HF3.out,HF4.out⟩,HCB.out.below HBM.out HF1.out.1,by rw[HY1.out,HMISS.out];exact(HBM.out.block _ HF2.out.1).trans HUB.out,HBL.out.trans (HBM.out.mono (Nat.le_trans hsb (Nat.le_of_lt hsz)))⟩
      case measure=>simp[intOf];omega
   ·have hpd:decide (((y.st.slaves k).pipe.length:Int)<2)=false:=by simp;omega
    have HFULL:=hid (let1_full (c:=c) (s:=k) (y:=y) hp);clear hp
    go_wp2_with fail
    go_loopw [9] (fun i wd=>i=.int .i64 1∧wd=wr) (fun _ _=>0)
    case atStart=>exact⟨rfl,rfl⟩
    case round=>
     obtain⟨rfl,rfl⟩:=hrel
     go_wp2_with fail
     go_roundw
     case rel=>exact⟨k+1,by omega,by go_num,by rw[HY1.out,HFULL.out];exact HG.out,⟨V,N,C,D,by rw[HY1.out,HFULL.out];exact HM.out,HKP.out,HF1.out,HF2.out⟩,HCB.out,by rw[HY1.out,HFULL.out];exact HUB.out,HBL.out⟩
     case measure=>simp[intOf];omega
  ·obtain rfl:k=4:=by omega
   go_wp2_with fail
   exact bodyPost_end (v:=.tuple #[]) (by simp[results,Tryz.results92,go_sem]) rfl ⟨rfl,V,N,C,D,hm,HKP.out,HBL.out⟩
theorem wp_pushH {α : Type} {o : Oper} {a : Act} {K : Act → World → Prop} {Q : Exit → Act → World → Prop} {T e sz by_ : Nat} (E : Elem T e sz by_) (f : α → List Value) (hf : ∀ x, (f x).length = sz) (y : α) (h1 : ∀ u ∈ f y, u.oneCell' = true)
  (w:World) (s x:Operand) (ho:o.op=.call { callee:=.builtin .append,args:=#[s,x],argTypes:=#[T,T] })
  (base:Nat) (v:Value) (xs:List α) (hs:a.eval s=v) (hown:Owns w base e sz f v xs) (g c:Nat) (hx:a.eval x=.slice (some ⟨g,0,none⟩) 1 c) (hnews:∀j u,(f y)[j]? = some u→w.cell? ⟨g,j,none⟩=some u)
  (hlen:(xs.length+1) * by_≤140737488355328) (hlen2:xs.length+1≤9223372036854775807) (hbase:base≤w.heap.size)
  (h:∀v' w', Owns w' base e sz f v' (xs++[y])→(∀k,k<w.heap.size→v.ownBlock≠some k→w'.heap[k]? = w.heap[k]?)→w.heap.size≤w'.heap.size→Below base w w' → (∀k,v'.ownBlock=some k→v.ownBlock=some k∨w.heap.size≤k)→K (a.put o.dst v') w'):Oper.wp Tryz.prog o a w K Q:=by
 obtain⟨ht,i,z,hi,hz,hsize,hby,hzs,hsz⟩:=E;refine zG6 s x T ho base e i z sz by_ ht hi hz hsize hby hzs v xs.length (xs.flatMap f) hs hown ⟨g,0,none⟩ 1 c (f y) hx (by rw[hf];omega) ?_ h1 (by unfold maxLen;omega) hlen hbase ?_
 ·intro j u hj;rw[Addr.add_lit,Nat.zero_add];exact hnews j u hj
 ·intro v' w' ho' hg _ hb;refine h v' w' (by unfold Owns;simpa using ho') (fun k hk hne=>hg.block k hk (fun e=>hne e.symm)) hg.size ((Below.refl _ _).grown hg hbase (fun k hk=>(OwnR.lt hown k hk).1)) (fun k hk=>?_);rcases hb with hb|hb
  ·left;rw[←hb];exact hk
  ·right;rw[hb]at hk;simp at hk;omega
end Go.Proofs.YtgkdoehkmbhfiaaGreat
namespace Go.Proofs.YtgkdoehkmbhfiaaGreat
open Go.RowKit
set_option maxRecDepth 20000 in
theorem wp_lit5t {a : Act} {w : World} {K : Act → World → Prop} {Q : Exit → Act → World → Prop} (d : Option Nat) (ty : Nat) (pos : String) (aft : Array Edge) (t : Nat)
  {x0 x1 x2 x3 x4:Value} (hx:a.tmps.getD t undef=.agg #[x0,x1,x2,x3,x4]) (h1:(#[x0,x1,x2,x3,x4]:Array Value).all (·.oneCell')=true)
  (h:K (a.put d (.slice (some ⟨w.heap.size,0,none⟩) 1 1)) (w.alloc (.cells #[x0,x1,x2,x3,x4] 65))) :
  Oper.wp Tryz.prog { dst:=d,op:=.buildSlice 37 1 #[(0,.tmp t)],type:=ty,pos:=pos,after:=aft,guard:=none } a w K Q:=by
 obtain⟨tmps,defers⟩:=a;simp only[Array.getD_eq_getD_getElem?]at hx;go_simp;exact h
set_option maxRecDepth 20000 in
theorem wp_build5 {a : Act} {w : World} {K : Act → World → Prop} {Q : Exit → Act → World → Prop} (d : Option Nat) (ty : Nat) (pos : String) (aft : Array Edge) (t1 t2 t3 : Nat)
  {x0 x1:Int} {i c:Int} {va:Option Addr} {vn vc:Nat} (h1:a.tmps.getD t1 undef=.int .i64 x0) (h2:a.tmps.getD t2 undef=.int .i64 x1) (h3:a.tmps.getD t3 undef=.agg #[.int .i64 i,.int .i64 c,.slice va vn vc])
  (h:K (a.put d (.agg #[.int .i64 x0,.int .i64 x1,.int .i64 i,.int .i64 c,.slice va vn vc])) w) :
  Oper.wp Tryz.prog { dst:=d,op:=.build 65 #[(0,.tmp t1),(1,.tmp t2),(2,.tmp t3)],type:=ty,pos:=pos,after:=aft,guard:=none } a w K Q:=by
 obtain⟨tmps,defers⟩:=a;simp only[Array.getD_eq_getD_getElem?]at h1 h2 h3;go_simp;exact h
section
variable {w w1 w' : World} {base S Hb : Nat} {L : Nat → Value} {st : Cy} {ev : List Ev} {V : Nat → Value} {N : Nat → Nat} {C : Nat → List Value} {D : Nat → List TJV} {c : Cfg}
theorem CyM.atmAt2 (h:CyM w base S Hb L st ev V N C D) (hg:atmOk st.ws st.hs=true):∃gw ow cw gh oh ch,V 0=.slice (some ⟨gw,ow,none⟩) 64 cw∧V 1=.slice (some ⟨gh,oh,none⟩) 6 ch∧AtmAt w base S gw ow cw gh oh ch st.ws st.hs:=by
 have ha:=hg;simp only[atmOk,memOk,Bool.and_eq_true,beq_iff_eq]at ha;have hl:st.ws.length=64:=ha.1.1.1;have hh:st.hs.length=6:=ha.1.2;have o0:=h.raw.own 0 (by omega);have o1:=h.raw.own 1 (by omega);rw[h.con.n0,h.con.c0]at o0;rw[h.con.n1,h.con.c1]at o1;obtain⟨gw,ow,cw,e0,hcw,_,hb0,_⟩:=OwnR.addr o0 (by omega);obtain⟨gh,oh,ch,e1,hch,_,hb1,_⟩:=OwnR.addr o1 (by omega);rw[hl]at e0 hcw;rw[hh]at e1 hch;have g0:(V 0).ownBlock=some gw:=by rw[e0];rfl
 have g1:(V 1).ownBlock=some gh:=by rw[e1];rfl
 obtain⟨q0,q1,_⟩:=h.box;refine⟨gw,ow,cw,gh,oh,ch,e0,e1,?_⟩;refine⟨by rw[q0,e0],by rw[q1,e1],by have:=o0;rw[e0]at this;exact this,by have:=o1;rw[e1]at this;exact this,fun e=>h.raw.ap 0 1 (by omega) (by omega) (by omega) gw g0 (by rw[g1,e]),fun e=>h.fs 0 (by omega) (by rw[g0,e]),fun e=>h.fs 1 (by omega) (by rw[g1,e]),h.s0,hl,hh,hcw,hch⟩
def NX (V:Nat→Value) (s b:Nat):Prop:=(V 0).ownBlock≠some b∧(V 1).ownBlock≠some b∧(V (15+s)).ownBlock≠some b
theorem CyM.nxOld (h:CyM w base S Hb L st ev V N C D) {s b:Nat} (hs:s<4) (hb:b<base):NX V s b :=
 ⟨fun e=>by have:=(h.raw.lt (κ:=0) (by omega) e).1;omega,fun e=>by have:=(h.raw.lt (κ:=1) (by omega) e).1;omega,fun e=>by have:=(h.raw.lt (κ:=15+s) (by omega) e).1;omega⟩
theorem rspOk_data {x:Rs} (h:rspOk x=true):(∀y∈x.data,I64 y)∧x.data.length≤4:=by
 simp only[rspOk,Bool.and_eq_true,decide_eq_true_eq,List.all_eq_true]at h;exact⟨fun y hy=>by have:=h.2 y hy;simp only[zB1,inB,Bool.and_eq_true,decide_eq_true_eq]at this;unfold I64;omega,h.1.2⟩
end
end Go.Proofs.YtgkdoehkmbhfiaaGreat
namespace Go.Proofs.YtgkdoehkmbhfiaaGreat
open Go.RowKit
section
variable (wq : World) (base S Hb : Nat) (L : Nat → Value) (st : Cy) (ev : List Ev) (V : Nat → Value) (N : Nat → Nat) (C : Nat → List Value) (D : Nat → List TJV) (s who n : Nat) (ws1 hs1 : List Int) (x : Rs)
def wkD (dv:Value) (W:World):Prop:=∃N1 C1,CyM W base S Hb L { st with ws:=ws1,hs:=hs1 } ev V N1 C1 D∧DatP L W (DFree V S Hb W) ((⟨who,n,x⟩:TJ),dv)∧Kp S Hb V wq V W∧Below base wq W
def wkC : List Value → World → Prop
 |[],W=>CyM W base S Hb L st ev V N C D∧Kp S Hb V wq V W∧Below base wq W
 |[v0],W=>∃a k m,v0=.agg #[.int .i64 x.id,.int .i64 x.code,.slice a k m]∧wkD wq base S Hb L st ev V D who n ws1 hs1 x (.slice a k m) W
 |[_,v1],W=>∃a k m,v1=.agg #[.int .i64 (who:Nat),.int .i64 (n:Nat),.int .i64 x.id,.int .i64 x.code,.slice a k m]∧wkD wq base S Hb L st ev V D who n ws1 hs1 x (.slice a k m) W
 |[_,_,v2],W=>∃a k m,wkD wq base S Hb L st ev V D who n ws1 hs1 x (.slice a k m) W∧∃g2,v2=.slice (some ⟨g2,0,none⟩) 1 1∧∀j u,(tjRow ((⟨who,n,x⟩:TJ),.slice a k m))[j]? = some u→W.cell? ⟨g2,j,none⟩=some u
 |[_,_,_,v3],W=>∃w1 dv,wkD wq base S Hb L st ev V D who n ws1 hs1 x dv w1∧Owns W base 65 5 tjRow v3 (D (15+s)++[((⟨who,n,x⟩:TJ),dv)])∧(∀b,b<w1.heap.size→(V (15+s)).ownBlock≠some b→W.heap[b]? = w1.heap[b]?)∧w1.heap.size≤W.heap.size∧(∀k,v3.ownBlock=some k→(V (15+s)).ownBlock=some k∨w1.heap.size≤k)∧Below base wq W
 |[_,_,_,_,_],W=>∃v N2 C2 dv,CyM W base S Hb L { st with ws:=ws1,hs:=hs1,slaves:=upd st.slaves s { st.slaves s with done:=(D (15+s)++[((⟨who,n,x⟩:TJ),dv)]).map (·.1) } } ev (upd V (15+s) v) N2 C2 (upd D (15+s) (D (15+s)++[((⟨who,n,x⟩:TJ),dv)]))∧Kp S Hb V wq (upd V (15+s) v) W∧Below base wq W
 |_,_=>False
end
section
variable {wq : World} {base S Hb : Nat} {L : Nat → Value} {st : Cy} {ev : List Ev} {V : Nat → Value} {N : Nat → Nat} {C : Nat → List Value} {D : Nat → List TJV} {s who n : Nat} {ws1 hs1 : List Int} {x : Rs}
theorem wkC.cell {us:List Value} {W:World} (h:wkC wq base S Hb L st ev V N C D s who n ws1 hs1 x us W) (hs:s<4) {b o:Nat} {v:Value} (hb:DFree V S Hb wq b∨b<base) (hc:wq.cell? ⟨b,o,none⟩=some v):W.cell? ⟨b,o,none⟩=some v:=by
 rcases hb with hb|hb
 ·have key:W.heap[b]? = wq.heap[b]?:=by
   match us,h with
   |[],h=>exact(h.2.1 b hb).1
   |[_],⟨_,_,_,_,_,_,_,_,hk,_⟩=>exact(hk b hb).1
   |[_,_],⟨_,_,_,_,_,_,_,_,hk,_⟩=>exact(hk b hb).1
   |[_,_,_],⟨_,_,_,⟨_,_,_,_,hk,_⟩,_⟩=>exact(hk b hb).1
   |[_,_,_,_],⟨_,_,⟨_,_,_,_,hk,_⟩,_,h2,_⟩=>
    obtain⟨k1,k2⟩:=hk b hb;exact(h2 b k2.1 (k2.2.1 (15+s) (by omega))).trans k1
   |[_,_,_,_,_],⟨_,_,_,_,_,hk,_⟩=>exact(hk b hb).1
  simp only[World.cell?]at hc ⊢;rw[key];exact hc
 ·have key:Below base wq W:=by
   match us,h with
   |[],h=>exact h.2.2
   |[_],⟨_,_,_,_,_,_,_,_,_,hk⟩=>exact hk
   |[_,_],⟨_,_,_,_,_,_,_,_,_,hk⟩=>exact hk
   |[_,_,_],⟨_,_,_,⟨_,_,_,_,_,hk⟩,_⟩=>exact hk
   |[_,_,_,_],⟨_,_,_,_,_,_,_,hk⟩=>exact hk
   |[_,_,_,_,_],⟨_,_,_,_,_,_,hk⟩=>exact hk
  rw[key.cell (p:=⟨b,o,none⟩) hb];exact hc
theorem wkC.p1 {v0:Value} {W:World}:wkC wq base S Hb L st ev V N C D s who n ws1 hs1 x ([]++[v0]) W↔∃a k m,v0=.agg #[.int .i64 x.id,.int .i64 x.code,.slice a k m]∧wkD wq base S Hb L st ev V D who n ws1 hs1 x (.slice a k m) W:=Iff.rfl
theorem wkC.p2 {v0 v1:Value} {W:World}:wkC wq base S Hb L st ev V N C D s who n ws1 hs1 x ([]++[v0]++[v1]) W↔∃a k m,v1=.agg #[.int .i64 (who:Nat),.int .i64 (n:Nat),.int .i64 x.id,.int .i64 x.code,.slice a k m]∧wkD wq base S Hb L st ev V D who n ws1 hs1 x (.slice a k m) W:=Iff.rfl
theorem wkC.p3 {v0 v1 v2:Value} {W:World}:wkC wq base S Hb L st ev V N C D s who n ws1 hs1 x ([]++[v0]++[v1]++[v2]) W↔∃a k m,wkD wq base S Hb L st ev V D who n ws1 hs1 x (.slice a k m) W∧∃g2,v2=.slice (some ⟨g2,0,none⟩) 1 1∧∀j u,(tjRow ((⟨who,n,x⟩:TJ),.slice a k m))[j]? = some u→W.cell? ⟨g2,j,none⟩=some u:=Iff.rfl
theorem wkC.p4 {v0 v1 v2 v3:Value} {W:World}:wkC wq base S Hb L st ev V N C D s who n ws1 hs1 x ([]++[v0]++[v1]++[v2]++[v3]) W↔∃w1 dv,wkD wq base S Hb L st ev V D who n ws1 hs1 x dv w1∧Owns W base 65 5 tjRow v3 (D (15+s)++[((⟨who,n,x⟩:TJ),dv)])∧(∀b,b<w1.heap.size→(V (15+s)).ownBlock≠some b→W.heap[b]? = w1.heap[b]?)∧w1.heap.size≤W.heap.size∧(∀k,v3.ownBlock=some k→(V (15+s)).ownBlock=some k∨w1.heap.size≤k)∧Below base wq W:=Iff.rfl
theorem wkC.p5 {v0 v1 v2 v3 v4:Value} {W:World}:wkC wq base S Hb L st ev V N C D s who n ws1 hs1 x ([]++[v0]++[v1]++[v2]++[v3]++[v4]) W↔∃v N2 C2 dv,CyM W base S Hb L { st with ws:=ws1,hs:=hs1,slaves:=upd st.slaves s { st.slaves s with done:=(D (15+s)++[((⟨who,n,x⟩:TJ),dv)]).map (·.1) } } ev (upd V (15+s) v) N2 C2 (upd D (15+s) (D (15+s)++[((⟨who,n,x⟩:TJ),dv)]))∧Kp S Hb V wq (upd V (15+s) v) W∧Below base wq W:=Iff.rfl
theorem wkC.row {us:List Value} {W:World} (h:wkC wq base S Hb L st ev V N C D s who n ws1 hs1 x us W) (hl:us.length≤3) (hs:s<4) {g o k:Nat} (hV:V 3=.slice (some ⟨g,o,none⟩) 4 k):W.cell? ⟨g,o+s * 3+1,none⟩=some (V (15+s)):=by
 match us,h with
 |[],h=>exact(h.1.store hV hs).2.1
 |[_],⟨_,_,_,_,_,_,hm,_⟩=>exact(hm.store hV hs).2.1
 |[_,_],⟨_,_,_,_,_,_,hm,_⟩=>exact(hm.store hV hs).2.1
 |[_,_,_],⟨_,_,_,⟨_,_,hm,_⟩,_⟩=>exact(hm.store hV hs).2.1
 |_::_::_::_::_,_=>exact absurd hl (by simp)
end
end Go.Proofs.YtgkdoehkmbhfiaaGreat
namespace Go.Proofs.YtgkdoehkmbhfiaaGreat
open Go.RowKit
theorem work1_stall {c:Cfg} {inp:Inp} {s:Nat} {x:Cy×List Ev} (h:inp.stall.getD s false=true):work1 c inp s x=x:=by unfold work1;rw[if_pos h]
theorem work1_nil {c:Cfg} {inp:Inp} {s:Nat} {x:Cy×List Ev} (h:inp.stall.getD s false=false) (hp:(x.1.slaves s).pipe=[]):work1 c inp s x=x:=by unfold work1;rw[if_neg (by rw[h];simp),hp]
theorem work1_dec {c:Cfg} {inp:Inp} {s:Nat} {x:Cy×List Ev} {j:Jb} {rest:List Jb} (h:inp.stall.getD s false=false) (hp:(x.1.slaves s).pipe=j::rest) (hl:0<j.left):work1 c inp s x=(zF6 s j rest x.1,x.2):=by unfold work1;rw[if_neg (by rw[h];simp),hp];simp only;rw[if_pos hl]
theorem work1_do {c:Cfg} {inp:Inp} {s:Nat} {x:Cy×List Ev} {j:Jb} {rest:List Jb} (h:inp.stall.getD s false=false) (hp:(x.1.slaves s).pipe=j::rest) (hl:¬0<j.left) (hd:(x.1.slaves s).done.length<2):work1 c inp s x=zD9 c s j rest x:=by unfold work1;rw[if_neg (by rw[h];simp),hp];simp only;rw[if_neg hl,if_pos hd]
theorem work1_full {c:Cfg} {inp:Inp} {s:Nat} {x:Cy×List Ev} {j:Jb} {rest:List Jb} (h:inp.stall.getD s false=false) (hp:(x.1.slaves s).pipe=j::rest) (hl:¬0<j.left) (hd:¬(x.1.slaves s).done.length<2):work1 c inp s x=x:=by unfold work1;rw[if_neg (by rw[h];simp),hp];simp only;rw[if_neg hl,if_neg hd]
theorem work1_len (c:Cfg) (inp:Inp) (s:Nat) (x:Cy×List Ev):(work1 c inp s x).2.length≤x.2.length+1:=by
 unfold work1
 split
 ·omega
 ·split
  ·omega
  ·split
   ·show x.2.length≤_;omega
   ·split
    ·simp[zD9]
    ·omega
def JobB (w:World) (g:Nat) (j:Jb):Prop:=w.heap[g]? = some (.cells #[.int .i64 j.who,.int .i64 j.n,.int .i64 j.left] 101 (0,0))
theorem JobB.cells {w:World} {g:Nat} {j:Jb} (h:JobB w g j):w.cell? ⟨g,0,none⟩=some (.int .i64 j.who)∧w.cell? ⟨g,1,none⟩=some (.int .i64 j.n)∧w.cell? ⟨g,2,none⟩=some (.int .i64 j.left)∧g<w.heap.size:=by
 have:=zA3 h;unfold JobB at h;refine⟨?_,?_,?_,this⟩ <;> simp[World.cell?,h]
set_option maxRecDepth 8000 in
theorem work_any {c : Cfg} (hbus : Bus c) {w : World} {base S Hb : Nat} {L : Nat → Value} {st : Cy} {ev : List Ev} {V0 : Nat → Value} {N0 : Nat → Nat} {C0 : Nat → List Value} {D0 : Nat → List TJV} (hm : CyM w base S Hb L st ev V0 N0 C0 D0) (hg : Good c st) (hev : ev.length ≤ 500) {inp : Inp} {v u : Value} {B : Nat} (hc : BusV w B u c) (hin : InV w B v inp) (hB : B ≤ base) :
    Calls Tryz.prog 91 #[.pointer (some ⟨S,0,none⟩),u,v,.pointer (some ⟨Hb,0,none⟩)] w (PartP base S Hb L (zF0 c inp (st,ev)) V0 w):=by
  obtain⟨⟨ra,rc,ta,tc,sa,sc,rfl,hr1,hr2,hr3⟩,hl1,hl2,hl3⟩:=hin;obtain⟨mv,lb,lo,lc,pb,po', pc', Q,K,rfl,⟨ma,mn,mk,rfl⟩,hms,hlb,hpb', hlat,hprog,hreq⟩:=hc.opened hbus;have HBO:=hid (show BusO w B c ma mn mk lb lo lc pb po' pc' Q K from⟨hms,hlb,hpb', hlat,hprog,hreq⟩);have HM:=hid hm;have HG0:=hid hg;have hS:=zA3 hm.bs;have hbw:base≤w.heap.size:=Nat.le_trans hm.s0 (Nat.le_of_lt (zA3 hm.bs));obtain⟨q0,q1,q2,q3,q4,qf⟩:=hm.box;obtain⟨sg,so,sc', hV3,hsc,hsc2,_,_⟩:=hm.stores;rw[hV3]at q3;have HR:=hid hr2;have HL3:=hid hl2;rw[hl2];clear hm hg hr1 hr2 hr3 hl1 hl2 hl3 hV3 qf q0 q1 q2 q4 hsc2 hsc hc hms hlat hprog hreq hlb
  go_enter Tryz.func91,Tryz.ntmps91
  go_wp2_with fail
  obtain⟨w0,hw0⟩:∃W,W=(w.alloc (.cells #[.slice ma mn mk,.slice (some ⟨lb,lo,none⟩) 4 lc,.slice (some ⟨pb,po', none⟩) 3 pc'] 27)).alloc (.cells #[.slice ra inp.ready.length rc,.slice ta 4 tc,.slice sa inp.send.length sc] 45):=⟨_,rfl⟩
  rw[←hw0];have hb0:Below w.heap.size w w0:=by rw[hw0];exact((Below.refl _ _).alloc (Nat.le_refl _) _).alloc (by simp) _
  have hz0:w0.heap.size=w.heap.size+2:=by rw[hw0];simp
  have HC0 := hid (show BusB w0 w.heap.size ma mn mk lb lo lc pb po' pc' by
    unfold BusB;rw[hw0,((Below.refl _ _).alloc (Nat.le_refl _) _).block _ (by simp)];exact zA8 _ _ rfl)
  have HI0:=hid (show w0.heap[w.heap.size+1]? = some (.cells #[.slice ra inp.ready.length rc,.slice ta 4 tc,.slice sa inp.send.length sc] 45 (0,0)) by rw[hw0];exact zA8 _ _ (by simp));have HFR:=hid (HM.out.fresh (w':=w0) (Nat.le_refl w.heap.size) (by omega));have HFR1:=hid (HM.out.fresh (w':=w0) (Nat.le_succ w.heap.size) (by omega));have HKB:=hid (Kp.below (S:=S) (Hb:=Hb) (V:=V0) hb0);have HM0:=hid (HM.out.below hb0);have HB0:=hid (hb0.mono hbw);have HR0:=hid HR.out;clear hw0 hb0 hz0 q3 HM HR hS
  go_loopw [16] (fun i wr=>∃k:Nat,k≤4∧i=.int .i64 k∧Good c (foldN (work1 c inp) k (st,ev)).1∧(foldN (work1 c inp) k (st,ev)).2.length≤ev.length+k∧(∃V N C D,CyM wr base S Hb L (foldN (work1 c inp) k (st,ev)).1 (foldN (work1 c inp) k (st,ev)).2 V N C D∧Kp S Hb V0 w0 V wr)∧Below base w wr) (fun i _=>4 - (intOf i).toNat)
  case atStart=>exact⟨0,by omega,by go_num,HG0.out,by simp[foldN],⟨_,_,_,_,HM0.out,Kp.refl _ _ _ _⟩,HB0.out⟩
  case round=>
    obtain⟨k,hk,rfl,hg,hlen,⟨V,N,C,D,hm,hkp⟩,hbl⟩:=hrel;have hib:=((hkp _ HFR1.out).1).trans HI0.out;have hcb:BusB wr w.heap.size ma mn mk lb lo lc pb po' pc':=((hkp _ HFR.out).1).trans HC0.out;have hdf:=(hkp _ HFR.out).2;have HKP:=hid hkp;clear hkp;by_cases hlt:k<4
    · have hlti : (k : Int) < 4 := by omega
      obtain⟨x,hx⟩:∃x,x=foldN (work1 c inp) k (st,ev):=⟨_,rfl⟩
      have HX1:=hid (show foldN (work1 c inp) (k+1) (st,ev)=work1 c inp k x by rw[hx];rfl);rw[←hx]at hg hlen hm;have hwl:=zA3 hib;obtain⟨i0,i1,i2⟩:wr.cell? ⟨w.heap.size+1,0,none⟩=some (.slice ra inp.ready.length rc)∧wr.cell? ⟨w.heap.size+1,1,none⟩=some (.slice ta 4 tc)∧wr.cell? ⟨w.heap.size+1,2,none⟩=some (.slice sa inp.send.length sc):=by refine⟨?_,?_,?_⟩ <;> simp[World.cell?,hib]
      have HM:=hid hm;have HG:=hid hg;have HBL:=hid hbl;have HLEN:=hid hlen;have HCB:=hid hcb;have HDF:=hid hdf;have hS:=zA3 hm.bs;obtain⟨q0,q1,q2,q3,q4,qf⟩:=hm.box;obtain⟨sg,so,sc', hV3,hsc,hsc2,hsb,hsz⟩:=hm.stores;have HV3:=hid hV3;rw[hV3]at q3;obtain⟨s0,s1,s2,sf⟩:=hm.store hV3 hlt;have HSF:=hid sf;obtain⟨da,dcp,hpv,hdcp,hdcp2⟩:=(hm.oPipe hlt).shape;rw[hpv]at s0;have HPV:=hid hpv;obtain⟨rb,ro,hra,hrb,hrc⟩:∃b off,ta=some ⟨b,off,none⟩∧b<B∧wr.cell? ⟨b,off+k,none⟩=some (.bool (inp.stall.getD k false)):=by
        obtain⟨ao,cp,eo,_,_,_,_,ho⟩:=HR0.out.opened;obtain⟨b,off,rfl,hb,hc⟩:=ho (by rw[HL3.out];omega);simp only[Value.slice.injEq]at eo;exact⟨b,off,eo.1,hb,(hbl.cell (p:=⟨b,_,none⟩) (Nat.lt_of_lt_of_le hb hB)).trans (hc k (by rw[HL3.out];exact hlt))⟩
      obtain⟨stl,hstl⟩:∃r,r=inp.stall.getD k false:=⟨_,rfl⟩
      rw[←hstl]at hrc;have HSTL:=hid hstl;subst hra;clear hm hg hib hcb hbl hlen hx hV3 hpv hstl HM0 HG0 hdf q0 q1 q2 q4 qf sf;rcases stl with _|_
      · rcases hpp : (x.1.slaves k).pipe with _ | ⟨j, rest⟩
        · have HNO := hid (work1_nil (c := c) HSTL.out.symm hpp)
          rw[hpp]at s0;have he:((([]:List Jb).length:Int)==0)=true:=rfl;clear hpp
          go_wp2_with fail
          go_roundw
          case rel=>exact⟨k+1,by omega,by go_num,by rw[HX1.out,HNO.out];exact HG.out,by rw[HX1.out,HNO.out];have:=HLEN.out;omega,⟨V,N,C,D,by rw[HX1.out,HNO.out];exact HM.out,HKP.out⟩,HBL.out⟩
          case measure=>simp[intOf];omega
        · have HPP := hid hpp
          rw[hpp]at s0;simp only[List.length_cons]at s0;have hown:=HM.out.oPipe hlt;rw[hpp]at hown;obtain⟨dg,dof,dcp', hvs,hdcp', hdcp2', hdgb,hdgz⟩:=OwnR.addr hown (by simp);rw[HPV.out,hpp]at hvs;simp only[Value.slice.injEq,List.length_cons]at hvs;obtain⟨rfl,_,rfl⟩:=hvs;rw[HPV.out,hpp]at hown;have c0:wr.cell? ⟨dg,dof,none⟩=some (.int .i64 (j.who:Nat)):=by have:=Owns.cellAt hown (fun _=>rfl) 0 0 j (by simp) (by omega);simpa[jbRow]using this
          have c1:wr.cell? ⟨dg,dof+1,none⟩=some (.int .i64 (j.n:Nat)):=by have:=Owns.cellAt hown (fun _=>rfl) 0 1 j (by simp) (by omega);simpa[jbRow]using this
          have c2:wr.cell? ⟨dg,dof+2,none⟩=some (.int .i64 (j.left:Nat)):=by have:=Owns.cellAt hown (fun _=>rfl) 0 2 j (by simp) (by omega);simpa[jbRow]using this
          have cf:wr.frozen? ⟨dg,dof+2,none⟩=false:=OwnR.unfrozen hown _;have hpe:(((rest.length+1:Nat):Int)==0)=false:=by simp;omega
          have hp0:(0:Int)<((rest.length+1:Nat):Int):=by omega
          have hp0n:0<rest.length+1:=by omega
          have hjk:=HG.out.key hlt (show(j.who,j.n)∈zA6 (x.1.slaves k) by rw[zA6,hpp];simp);have hjn:=HG.out.keyN hlt (show(j.who,j.n)∈zA6 (x.1.slaves k) by rw[zA6,hpp];simp);have hjl:j.left≤3:=Nat.le_trans ((HG.out.s k hlt).pl j rest hpp).1 (hbus.lt3 hlt);have HVS:=hid (show V (11+k)=.slice (some ⟨dg,dof,none⟩) (rest.length+1) dcp by rw[HPV.out,hpp];rfl);obtain⟨w1,hw1⟩:∃W,W=wr.alloc (.cells #[.int .i64 (j.who:Nat),.int .i64 (j.n:Nat),.int .i64 (j.left:Nat)] 101):=⟨_,rfl⟩
          have hb1:Below wr.heap.size wr w1:=by rw[hw1];exact(Below.refl _ _).alloc (Nat.le_refl _) _
          have hz1:w1.heap.size=wr.heap.size+1:=by rw[hw1];simp
          have hj1:JobB w1 wr.heap.size j:=by unfold JobB;rw[hw1];exact zA8 _ _ rfl
          have HJ1:=hid hj1;have HM1:=hid (HM.out.below hb1);have s0':=(hb1.cell (p:=⟨sg,so+k * 3,none⟩) hsz).trans s0;have s1':=(hb1.cell (p:=⟨sg,so+k * 3+1,none⟩) hsz).trans s1;have sf':∀o,w1.frozen? ⟨sg,o,none⟩=false:=fun o=>(hb1.frozen (p:=⟨sg,o,none⟩) hsz).trans (HSF.out o)
          have c2':=(hb1.cell (p:=⟨dg,dof+2,none⟩) hdgz).trans c2;have cf':=(hb1.frozen (p:=⟨dg,dof+2,none⟩) hdgz).trans cf;have HB1:=hid (show Below base wr w1 from hb1.mono (Nat.le_trans hsb (Nat.le_of_lt hsz)));have HK1:=hid (HKP.out.trans (Kp.below (S:=S) (Hb:=Hb) (V:=V) hb1));have hsz1:sg<w1.heap.size:=by omega
          have HD0:=hid (Kp.below (S:=S) (Hb:=Hb) (V:=V) hb1 _ HDF.out);have HF1j:=hid (HM.out.fresh (w':=w1) (Nat.le_refl wr.heap.size) (by omega));obtain⟨b0,b1,b2,hcbz⟩:=HCB.out.cells;have b0':=(hb1.cell (p:=⟨w.heap.size,0,none⟩) hcbz).trans b0;have b2':=(hb1.cell (p:=⟨w.heap.size,2,none⟩) hcbz).trans b2;obtain⟨j0,j1,j2,hjz⟩:=hj1.cells;have HSF1:=hid sf';clear hpp hown;by_cases hl:0<j.left
          · have hli : (0 : Int) < (j.left : Int) := by omega
            have HDEC:=hid (work1_dec (c:=c) HSTL.out.symm HPP.out hl);have hsub:((j.left:Int) - 1)=((j.left - 1:Nat):Int):=by omega
            obtain⟨N', C', hm2,hk2⟩:=HM1.out.setLeft hlt HVS.out HPP.out (j.left - 1);rw[←hsub]at hm2 hk2;have HM2:=hid hm2;have HK2:=hid hk2;clear hm2 hk2 hsub sf' b0 b1 b2 b0' b2' hj1
            go_upto_if 44 with fail
            rw[←hw1];clear hw1
            go_wp2_with fail
            go_roundw
            case rel=>exact⟨k+1,by omega,by go_num,by rw[HX1.out,HDEC.out];exact HG.out.dec hlt HPP.out,by rw[HX1.out,HDEC.out];have:=HLEN.out;show x.2.length≤_;omega,⟨V,N', C', D,by rw[HX1.out,HDEC.out];exact HM2.out,HK1.out.trans HK2.out⟩,(HBL.out.trans HB1.out).setCell (p:=⟨dg,_,none⟩) hdgb _⟩
            case measure=>simp[intOf];omega
          · have hlf : decide ((0 : Int) < (j.left : Int)) = false := by simp; omega
            have hlf2:decide (0<j.left)=false:=by simp;omega
            obtain⟨dda,ddc,hdv,_,_⟩:=(HM1.out.oDone hlt).shape;have hdl:=HM1.out.lDone hlt;rw[hdl]at hdv;rw[hdv]at s1';have HDV:=hid hdv;by_cases hd:(x.1.slaves k).done.length<2
            · have hdi : ((x.1.slaves k).done.length : Int) < 2 := by omega
              have HDO:=hid (work1_do (c:=c) HSTL.out.symm HPP.out hl hd);obtain⟨A1,hA1⟩:=pop_addr dg dof 3 dcp;have hyl:1≤rest.length+1:=by omega
              obtain⟨N2,C2,hm2,hk2⟩:=HM1.out.popPipe hlt HV3.out HPP.out HVS.out hA1;have sf0:=sf' (so+k * 3);clear sf' b0 b1 b2 hj1 hdv hdl
              go_upto_if 44 with fail
              rw[←hw1];clear hw1 s0 s1 c0 c1 c2 c2' cf'
              go_upto_region 11 with fail
              obtain⟨v2,hv2⟩:∃v,v=Value.slice (some A1) rest.length (dcp - 1):=⟨_,rfl⟩
              obtain⟨w2,hw2⟩:∃W,W=w1.setCell ⟨sg,so+k * 3,none⟩ (.slice (some A1) rest.length (dcp - 1)):=⟨_,rfl⟩
              rw[←hw2]at hm2 hk2;rw[←hw2];rw[←hv2]at hm2 hk2;obtain⟨V2,hV2⟩:∃V', V' = upd V (11+k) v2:=⟨_,rfl⟩
              rw[←hV2]at hm2 hk2;have HM2:=hid hm2;have HK2:=hid hk2;have e3:V2 3=.slice (some ⟨sg,so,none⟩) 4 sc':=by rw[hV2,zA0 _ _ (by omega)];exact HV3.out
              have ed:V2 (15+k)=.slice dda (x.1.slaves k).done.length ddc:=by rw[hV2,zA0 _ _ (by omega)];exact HDV.out
              have hz2:w2.heap.size=w1.heap.size:=by rw[hw2];simp
              have hb2:Below base w1 w2:=by rw[hw2];exact(Below.refl _ _).setCell (p:=⟨sg,_,none⟩) hsb _
              have E3:=hid e3;have ED:=hid ed;have HB2:=hid hb2;have HW2:=hid (show Below base w w2 from(HBL.out.trans HB1.out).trans hb2);clear s0' s1' sf0 b0' b2' j0 j1 j2 hm2 hk2 e3 ed hb2 hw2 hv2 hV2 hA1;obtain⟨s0,s1,s2,sf⟩:=HM2.out.store E3.out hlt;rw[ED.out]at s1;have hj2:JobB w2 wr.heap.size j:=((HK2.out _ HF1j.out).1).trans HJ1.out;have HJ2:=hid hj2;have hc2b:BusB w2 w.heap.size ma mn mk lb lo lc pb po' pc':=((HK2.out _ HD0.out.2).1).trans (HD0.out.1.trans HCB.out);have HC2:=hid hc2b;obtain⟨b0,b1,b2,hcb2⟩:=hc2b.cells;obtain⟨j0,j1,j2,hjz2⟩:=hj2.cells;have hO2:BusO w2 B c ma mn mk lb lo lc pb po' pc' Q K:=HBO.out.below (HW2.out.mono hB);obtain⟨qb,qo,rda,rdc,rla,rlc,hQ,hqb,hRq,r0,r1,r2,r3,r4,r5,r6⟩:=hO2.at hjk.1 hjn;have hpw:=hO2.prog j.who hjk.1;rw[hQ]at hpw;obtain⟨st2,hst2⟩:∃s2:Cy,s2={ x.1 with slaves:=upd x.1.slaves k { x.1.slaves k with pipe:=rest } }:=⟨_,rfl⟩
              have HM2b:Hid (CyM w2 base S Hb L st2 x.2 V2 N2 C2 D):=hid (by rw[hst2];exact HM2.out);have hdl2:(st2.slaves k).done.length<2:=by rw[hst2];simp only[zA1];exact hd
              have hat2:atmOk st2.ws st2.hs=true:=by rw[hst2];exact HG.out.atm
              obtain⟨ws1,hws1⟩:∃a,a=(doReq c.ms st2.ws st2.hs j.who (c.req j.who j.n)).1:=⟨_,rfl⟩
              obtain⟨hs1,hhs1⟩:∃a,a=(doReq c.ms st2.ws st2.hs j.who (c.req j.who j.n)).2.1:=⟨_,rfl⟩
              obtain⟨y,hy⟩:∃a,a=(doReq c.ms st2.ws st2.hs j.who (c.req j.who j.n)).2.2:=⟨_,rfl⟩
              have EQ:=hid (show(doReq c.ms st2.ws st2.hs j.who (c.req j.who j.n)).1=ws1∧(doReq c.ms st2.ws st2.hs j.who (c.req j.who j.n)).2.1=hs1∧(doReq c.ms st2.ws st2.hs j.who (c.req j.who j.n)).2.2=y from⟨hws1.symm,hhs1.symm,hy.symm⟩);have hrq:=hbus.req hjk.1 hjn;have hwbi:inB (j.who:Int) 0 2=true:=by have:=hjk.1;simp[inB];omega
              have hrs:rspOk y=true:=by
                have hrsp:=(rsp_law (okk_parts.2 ⟨hbus.ms,hat2,hwbi,hrq⟩)).1;rw[zM1 (okk_parts.2 ⟨hbus.ms,hat2,hwbi,hrq⟩),←hy]at hrsp;exact hrsp
              obtain⟨hx6,hx4⟩:=rspOk_data hrs;have hww:st2.ws.all zB1=true:=by simp only[atmOk,memOk,Bool.and_eq_true]at hat2;exact hat2.1.1.2
              have HST2:=hid hst2;clear hws1 hhs1 hy hst2
              go_cut [] from 73 to 104 (fun wd=>∃v N3 C3 dv,CyM wd base S Hb L { st2 with ws:=ws1,hs:=hs1,slaves:=upd st2.slaves k { st2.slaves k with done:=(D (15+k)++[((⟨j.who,j.n,y⟩:TJ),dv)]).map (·.1) } } x.2 (upd V2 (15+k) v) N3 C3 (upd D (15+k) (D (15+k)++[((⟨j.who,j.n,y⟩:TJ),dv)]))∧Kp S Hb V2 w2 (upd V2 (15+k) v) wd∧Below base w2 wd)
              case first=>
                rename_i J K' hJ hK;have hDj:=(HK2.out _ HF1j.out).2;have hDc:=(HK2.out _ HD0.out.2).2;have hbd:Below w2.heap.size w2 w2.drew:=(Below.refl _ _).drew;obtain⟨CC,hCC⟩:∃CC,CC=wkC w2 base S Hb L st2 x.2 V2 N2 C2 D k j.who j.n ws1 hs1 y:=⟨_,rfl⟩
                have hbw2:base≤w2.heap.size:=by omega
                have hC0:CC [] w2.drew:=by rw[hCC];exact⟨HM2b.out.below hbd,Kp.below hbd,(Below.refl _ _).drew⟩
                have hne:Nonempty (Ph CC):=⟨⟨([],w2.drew),hC0⟩⟩
                have hne3:Nonempty (Ph (lims CC (some 3))):=⟨⟨([],w2.drew),hC0,by simp⟩⟩
                have hCW:∀us W,CC us W→wkC w2 base S Hb L st2 x.2 V2 N2 C2 D k j.who j.n ws1 hs1 y us W:=by rw[hCC];exact fun _ _ h=>h
                have pc:∀{b o:Nat} {v:Value},DFree V2 S Hb w2 b∨b<base→w2.cell? ⟨b,o,none⟩=some v→∀z:Ph CC,z.1.2.cell? ⟨b,o,none⟩=some v:=fun hb hc z=>wkC.cell (hCW _ _ z.2) hlt hb hc
                have hpb:=Nat.lt_of_lt_of_le hO2.hpb hB;have hqb2:=Nat.lt_of_lt_of_le hqb hB;have cj0:=pc (.inl hDj) j0;have cj1:=pc (.inl hDj) j1;have cb0:=pc (.inl hDc) b0;have cb2:=pc (.inl hDc) b2;have cp:=pc (.inr hpb) hpw;have cr0:=pc (.inr hqb2) r0;have cr1:=pc (.inr hqb2) r1;have cr2:=pc (.inr hqb2) r2;have cr3:=pc (.inr hqb2) r3;have cr4:=pc (.inr hqb2) r4;have cr5:=pc (.inr hqb2) r5;have cr6:=pc (.inr hqb2) r6;have cd:∀z:Ph (lims CC (some 3)),z.1.2.cell? ⟨sg,so+k * 3+1,none⟩=some (.slice dda (x.1.slaves k).done.length ddc):=fun z=>by rw[←ED.out];exact wkC.row (hCW _ _ z.2.1) z.2.2 hlt E3.out
                have hj3:(j.who:Int)<3:=by have:=hjk.1;omega
                have hjn2:(j.n:Int)<((c.prog j.who).length:Int):=by omega
                have HCC:=hid hCC;have HDL2:=hid hdl2;have HX6:=hid hx6;have HX4:=hid hx4;have HBW2:=hid hbw2;have HRQ:=hid hRq;have HHRQ:=hid hrq;have HWW:=hid hww;have HAT2:=hid hat2;have HWBI:=hid hwbi;have HO2:=hid hO2;have HHSB:=hid hsb;clear hCC hCW pc hDj hDc hbd hdl2 hx6 hx4 hbw2 hRq hrq hww hat2 hwbi hO2 j0 j1 j2 b0 b1 b2 hpw r0 r1 r2 r3 r4 r5 r6 s0 s1 s2;refine zA9 CC [(26,false),(27,false),(28,false),(29,false),(32,false)] [(4,3)] (by kernel_rfl) (by kernel_rfl) hC0 ?_
                repeat (
                  (with_reducible refine wq1_q ⟨rfl,rfl⟩ (fun K hK=>?_))
                  go_simp
                  first
                    |((with_reducible refine hK _ ?_);clear hK K)
                    |((with_reducible refine zA7 (by simp[undef]) (hK _ ?_));clear hK K)
                    | (apply Exists.intro
                       (with_reducible refine⟨fun _=>?_,hK _ ?_⟩)
                       (fail)
                       clear hK K))
                refine wq1_b ⟨rfl,rfl⟩ (fun KA hKA=>?_);go_simp;refine hKA _ ?_;clear hKA KA
                repeat (
                  (with_reducible refine wq1_q ⟨rfl,rfl⟩ (fun K hK=>?_))
                  go_simp
                  first
                    |((with_reducible refine hK _ ?_);clear hK K)
                    |((with_reducible refine zA7 (by simp[undef]) (hK _ ?_));clear hK K)
                    | (apply Exists.intro
                       (with_reducible refine⟨fun _=>?_,hK _ ?_⟩)
                       (fail)
                       clear hK K))
                iterate 4 refine wq1_v rfl ?_
                repeat (
                  (with_reducible refine wq1_q ⟨rfl,rfl⟩ (fun K hK=>?_))
                  go_simp
                  first
                    |((with_reducible refine hK _ ?_);clear hK K)
                    |((with_reducible refine zA7 (by simp[undef]) (hK _ ?_));clear hK K)
                    | (apply Exists.intro
                       (with_reducible refine⟨fun _=>?_,hK _ ?_⟩)
                       (fail)
                       clear hK K))
                refine wq1_v rfl ?_;refine zF4 ?_;clear cj0 cj1 cb0 cb2 cp cr0 cr1 cr2 cr3 cr4 cr5 cr6 cd hne hne3;refine wq2_v _ rfl rfl ?_ ?_
                · intro W hW KA hKA
                  rw[HCC.out]at hW hKA;obtain⟨hm,hkp,hbl⟩:=hW;obtain⟨gw,ow,cw,gh,oh,ch,e0,e1,hAt⟩:=hm.atmAt2 HAT2.out;go_simp
                  (with_reducible refine(do_any _ _ c.ms base S gw ow cw gh oh ch st2.ws st2.hs j.who (c.req j.who j.n) W ((HO2.out.ms.below (hbl.mono hB)).mono hB) hAt ((HRQ.out.below (hbl.mono hB)).mono hB) HWBI.out HHRQ.out HWW.out).mono ?_)
                  rw[EQ.out.1,EQ.out.2.1,EQ.out.2.2];rintro e w'' ⟨dv,rfl,od,hAt', ht2⟩;obtain⟨xa,xk,rfl,_,_⟩:=od.shape;have hk2:∀b,b<W.heap.size→(V2 0).ownBlock≠some b→(V2 1).ownBlock≠some b→w''.heap[b]? = W.heap[b]?:=fun b hb h0 h1=>ht2.block b hb (fun e=>h0 (by rw[e0,e];rfl)) (fun e=>h1 (by rw[e1,e];rfl))
                  have hcy:=hm.atm hk2 ht2.size (by rw[e0];exact hAt'.ww) (by rw[e1];exact hAt'.hh);have hb1:Below base W w'':=⟨ht2.os,ht2.tape,ht2.output,ht2.size,fun b hb=>hk2 b (by have:=hm.s0;have:=zA3 hm.bs;omega) (hm.nxOld hlt hb).1 (hm.nxOld hlt hb).2.1⟩
                  have hid2:DatP L w'' (DFree V2 S Hb w'') ((⟨j.who,j.n,y⟩:TJ),Value.slice xa y.data.length xk):=⟨od.intsD (P:=DFree V2 S Hb w'') (fun k hk=>hm.fresh (OwnR.lt od k hk).1 (OwnR.lt od k hk).2) (by have:=HX4.out;omega) HX6.out,fun _ i hi b hb hb2=>by have h1:=hm.lx i hi b hb;have h2:=(OwnR.lt od b hb2).1;omega⟩
                  have hkp2:Kp S Hb V2 W V2 w'':=fun b hb=>⟨hk2 b hb.1 (hb.2.1 0 (by omega)) (hb.2.1 1 (by omega)),Nat.lt_of_lt_of_le hb.1 ht2.size,hb.2⟩
                  go_simp;exact hKA _ _ _ (wkC.p1.2 ⟨_,_,_,rfl,_,_,hcy,hid2,hkp.trans hkp2,hbl.trans hb1⟩) rfl
                intro v0 KA hKA;go_simp;refine hKA _ ?_;clear hKA KA;refine wq2_v _ rfl rfl ?_ ?_
                · intro W hW KA hKA
                  rw[HCC.out]at hW hKA;obtain⟨xa,xk,xm,rfl,hD⟩:=wkC.p1.1 hW;refine wp_build5 _ _ _ _ _ _ _ (x0:=(j.who:Nat)) (x1:=(j.n:Nat)) (i:=y.id) (c:=y.code) (va:=xa) (vn:=xk) (vc:=xm) rfl rfl rfl ?_;exact hKA _ _ _ (wkC.p2.2 ⟨_,_,_,rfl,hD⟩) rfl
                intro v1 KA hKA;go_simp;refine hKA _ ?_;clear hKA KA;refine wq2_v _ rfl rfl ?_ ?_
                · intro W hW KA hKA
                  rw[HCC.out]at hW hKA;obtain⟨xa,xk,xm,rfl,N5,C5,hm,hdt,hkp,hbl⟩:=wkC.p2.1 hW;have hb1:Below W.heap.size W (W.alloc (.cells #[.int .i64 (j.who:Nat),.int .i64 (j.n:Nat),.int .i64 y.id,.int .i64 y.code,.slice xa xk xm] 65)):=(Below.refl _ _).alloc (Nat.le_refl _) _;refine wp_lit5t _ _ _ _ _ (x0:=.int .i64 (j.who:Nat)) (x1:=.int .i64 (j.n:Nat)) (x2:=.int .i64 y.id) (x3:=.int .i64 y.code) (x4:=.slice xa xk xm) rfl (by simp[Value.oneCell']) ?_;exact hKA _ _ _ (wkC.p3.2 ⟨xa,xk,xm,⟨_,_,hm.below hb1,(hdt.kept fun b hb=>hb1.block b hb.1).weak fun b hb=>⟨Nat.lt_of_lt_of_le hb.1 hb1.size,hb.2⟩,hkp.trans (Kp.below hb1),hbl.trans (hb1.mono (Nat.le_trans HBW2.out hbl.size))⟩,_,rfl,fun j u hj=>by rw[World.cell?_alloc_at _ _ _ _ rfl,←hj];simp[tjRow]⟩) rfl
                intro v2 KA hKA;go_simp;refine hKA _ ?_;clear hKA KA;refine wq2_v _ rfl rfl ?_ ?_
                · intro W hW KA hKA
                  rw[HCC.out]at hW hKA;obtain⟨xa,xk,xm,⟨N5,C5,hm,hdt,hkp,hbl⟩,g2,rfl,hn2⟩:=wkC.p3.1 hW;have hOD:=hm.oDone hlt;rw[ED.out]at hOD;have hDl:=hm.lDone hlt;have hdd:=HDL2.out;refine wp_pushH elem_tj tjRow (fun _=>rfl) ((⟨j.who,j.n,y⟩:TJ),Value.slice xa xk xm) (tjRow_one _ ⟨_,_,_,rfl⟩) W _ _ rfl base _ (D (15+k)) rfl hOD g2 1 rfl hn2 (by rw[hDl];simp;omega) (by rw[hDl];simp;omega) (Nat.le_trans HBW2.out hbl.size) ?_;intro v' w'' o1 hk hz hb hv;have hk':∀b,b<W.heap.size→(V2 (15+k)).ownBlock≠some b→w''.heap[b]? = W.heap[b]?:=fun b hb hn=>hk b hb (by rw[←ED.out];exact hn)
                  exact hKA _ _ _ (wkC.p4.2 ⟨W,_,⟨_,_,hm,hdt,hkp,hbl⟩,o1,hk', hz,fun k2 hk2=>by rw[ED.out];exact hv k2 hk2,hbl.trans hb⟩) rfl
                intro v3 KA hKA;go_simp;refine hKA _ ?_;clear hKA KA;refine wq2_v _ rfl rfl ?_ ?_
                · intro W hW KA hKA
                  rw[HCC.out]at hW hKA;obtain⟨w1,dv,⟨N5,C5,hm,hdt,hkp,hbl⟩,o1,hk,hz,hv,hbl2⟩:=wkC.p4.1 hW;obtain⟨_,q1,_,qf⟩:=hm.store E3.out hlt;have hgo:(V2 3).ownBlock=some sg:=by rw[E3.out];rfl
                  have hnn:(V2 (15+k)).ownBlock≠some sg:=fun e=>hm.raw.ap (15+k) 3 (by omega) (by omega) (by omega) sg e hgo
                  have hsl:=(hm.raw.lt (κ:=3) (by omega) hgo).2;have hkk:=hk sg hsl hnn;have q:W.cell? ⟨sg,so+k * 3+1,none⟩=some (V2 (15+k)):=by rw[←q1];simp only[World.cell?,hkk]
                  have q2:W.frozen? ⟨sg,so+k * 3+1,none⟩=false:=by rw[←qf (so+k * 3+1)];simp only[World.frozen?,hkk]
                  rw[ED.out]at q
                  obtain ⟨N6, C6, h4, h5⟩ := hm.setDone hlt E3.out hk hz o1 hv (fun z hz2 => by
                    rcases List.mem_append.1 hz2 with hz2|hz2
                    · exact hm.old (by omega) (by omega) hk hz hv hz2
                    · obtain rfl := List.mem_singleton.1 hz2
                      exact(hdt.kept fun b hb=>hk b hb.1 (hb.2.1 (15+k) (by omega))).weak fun b hb=>⟨Nat.lt_of_lt_of_le hb.1 hz,hb.2.1.chg (w:=w1) hb.1 hv (by omega),hb.2.2⟩)
                  obtain⟨ua,uk,eu,_,_⟩:=o1.shape;rw[List.length_append,List.length_singleton]at eu;subst eu;have H4:=hid h4;have H5:=hid (hkp.trans h5);have HB9:=hid hbl2;have HFK:=hid hK;have HHJ:=hid hJ;clear hm hdt hkp hbl o1 hk hz hv hbl2 h4 h5;go_simp;exact hKA undef _ _ (wkC.p5.2 ⟨_,_,_,_,H4.out,H5.out,HB9.out.setCell HHSB.out _⟩) rfl
                intro v4 KA hKA;go_simp;refine hKA _ ?_;clear hKA KA;refine zF3 ?_;intro wd hwd;rw[HCC.out]at hwd;exact hK _ _ (Met.intro (hJ _ _ ⟨_,_,_,_,_,_,_,_,_,_,_,_,_,_,_,_,_,_,_,_,_,_,_,_,_,_,_,_,_,_,_,_,wkC.p5.1 hwd,rfl⟩))
              case rest=>
                obtain⟨w3,hw3⟩:∃W,W=wc:=⟨_,rfl⟩
                subst hw3;obtain⟨v3,N3,C3,dv3,hm3,hk3,hb3⟩:=hcut;have HM3:=hid hm3;have HK3:=hid hk3;have HB3:=hid hb3;have hj3:JobB w3 wr.heap.size j:=((HK3.out _ (HK2.out _ HF1j.out).2).1).trans HJ2.out;have HC3:=hid (show BusB w3 w.heap.size ma mn mk lb lo lc pb po' pc' from((HK3.out _ ((HK2.out _ HD0.out.2).2)).1).trans HC2.out);have HEV:=hid (show x.2.length≤100000 by have:=HLEN.out;omega);clear hm3 hk3 hb3 s0 s1 s2 sf b0 b1 b2 j0 j1 j2 r0 r1 r2 r3 r4 r5 r6 hpw hj2 hc2b;obtain⟨j0,j1,j2,hjz3⟩:=hj3.cells;have HTD:=hid (HM2b.out.con.td k hlt)
                have HFIN := hid (show ({ st2 with ws := ws1, hs := hs1, slaves := upd st2.slaves k { st2.slaves k with done := (D (15 + k) ++ [((⟨j.who, j.n, y⟩ : TJ), dv3)]).map (fun z : TJV => z.1) } } : Cy) = (zD9 c k j rest x).1 by
                  rw[List.map_append,HTD.out,HST2.out];have e:=EQ.out;rw[HST2.out]at e;simp only[zD9,upd_upd,zA1,e.1,e.2.1,e.2.2,List.map_cons,List.map_nil])
                clear hj3
                go_wp2_with (first
                  |(go_at_call 144;(with_reducible refine(add_do j.who j.n HM3.out HEV.out).mono ?_);rintro e w4 ⟨rfl,v4,N4,C4,hm4,hb4,hz4,hk4⟩;have HM4:=hid hm4;have HB4:=hid hb4;have HK4:=hid hk4;clear hm4 hb4 hz4 hk4))
                have HEND:=hid (HM4.out.congr (st':=(zD9 c k j rest x).1) (ev':=(zD9 c k j rest x).2) HFIN.out rfl)
                go_roundw
                case rel=>exact⟨k+1,by omega,by go_num,by rw[HX1.out,HDO.out];exact HG.out.work hbus hlt HPP.out hd,by rw[HX1.out,HDO.out];have:=HLEN.out;simp[zD9];omega,⟨_,_,_,_,by rw[HX1.out,HDO.out];exact HEND.out,((HK1.out.trans HK2.out).trans HK3.out).trans HK4.out⟩,(HW2.out.trans HB3.out).trans HB4.out⟩
                case measure=>simp[intOf];omega
            · have hdi : decide (((x.1.slaves k).done.length : Int) < 2) = false := by simp; omega
              have HFULL:=hid (work1_full (c:=c) HSTL.out.symm HPP.out hl hd);clear hd sf' b0 b1 b2 b0' b2' hj1 hdv hdl
              go_upto_if 44 with fail
              rw[←hw1];clear hw1
              go_wp2_with fail
              go_roundw
              case rel=>exact⟨k+1,by omega,by go_num,by rw[HX1.out,HFULL.out];exact HG.out,by rw[HX1.out,HFULL.out];have:=HLEN.out;omega,⟨V,N,C,D,by rw[HX1.out,HFULL.out];exact HM1.out,HK1.out⟩,HBL.out.trans HB1.out⟩
              case measure=>simp[intOf];omega
      · have HNO := hid (work1_stall (c := c) (x := x) HSTL.out.symm)
        go_wp2_with fail
        go_roundw
        case rel=>exact⟨k+1,by omega,by go_num,by rw[HX1.out,HNO.out];exact HG.out,by rw[HX1.out,HNO.out];have:=HLEN.out;omega,⟨V,N,C,D,by rw[HX1.out,HNO.out];exact HM.out,HKP.out⟩,HBL.out⟩
        case measure=>simp[intOf];omega
    · obtain rfl : k = 4 := by omega
      go_wp2_with fail
      exact bodyPost_end (v:=.tuple #[]) (by simp[results,Tryz.results91,go_sem]) rfl ⟨rfl,V,N,C,D,hm,HKB.out.trans HKP.out,hbl⟩
end Go.Proofs.YtgkdoehkmbhfiaaGreat
