/- A cycle: who was let in already: a box of three truths, apart from all that the state owns. -/
import Derived.Test.YtgkdoehkmbhfiaaGreatQTc
import Derived.Test.YtgkdoehkmbhfiaaGreatQSk
import Derived.Test.YtgkdoehkmbhfiaaGreatQCpy
import Derived.Test.YtgkdoehkmbhfiaaGreatQDl
import Derived.Test.YtgkdoehkmbhfiaaGreatQMy
import Derived.BigGuardPart
import Derived.Deep.RegionHeld3
set_option linter.unusedVariables false
set_option linter.unusedSimpArgs false
set_option maxHeartbeats 16000000
namespace Go.Proofs.YtgkdoehkmbhfiaaGreat
open Go.RowKit
theorem rspOk_len {r:Rs} (h:rspOk r=true):r.data.length≤4:=by
 unfold rspOk at h;simp only[Bool.and_eq_true,decide_eq_true_eq]at h;exact h.1.2
theorem zJ0 {c:Cfg} (hb:Bus c) {st:Cy} (hg:Good c st):SmallC st:=by
 have ha:=hg.atm;simp only[atmOk,memOk,Bool.and_eq_true,beq_iff_eq]at ha;have h12:∀w,w<3→(st.ports w).next≤12:=fun w hw=>Nat.le_trans (hg.p w hw).nx (hb.twelve hw)
 refine⟨by omega,by omega,⟨?_,fun j hj=>?_⟩,fun i hi=>?_,fun i hi=>?_,fun s hs=>?_,fun s hs=>⟨?_,fun j hj=>?_⟩⟩
 ·have h1:st.told.length≤(kAll st).length:=by unfold kAll kTold;rw[List.length_append,List.length_append,List.length_map];omega
  rw[hg.many hb]at h1;have:=h12 0 (by omega);have:=h12 1 (by omega);have:=h12 2 (by omega);omega
 ·have:=rspOk_len (hg.t j hj).2.1;omega
 ·have:=(hg.p i hi).q2;omega
 ·have:=(hg.p i hi).o4;omega
 ·have:=(hg.s s hs).p2;omega
 ·have:=(hg.s s hs).d2;omega
 ·have:=rspOk_len ((hg.s s hs).dr j hj).1;omega
def outsN (st:Cy) (k:Nat):Nat:=((List.range k).map fun i=>(st.ports i).out.length).sum
def heldN (st:Cy) (k:Nat):Nat:=((List.range k).map fun s=>(st.slaves s).pipe.length+(st.slaves s).done.length).sum
theorem outsN_succ (st:Cy) (k:Nat):outsN st (k+1)=outsN st k+(st.ports k).out.length:=by unfold outsN;rw[List.range_succ];simp
theorem heldN_succ (st:Cy) (k:Nat):heldN st (k+1)=heldN st k+((st.slaves k).pipe.length+(st.slaves k).done.length):=by unfold heldN;rw[List.range_succ];simp
theorem Good.even {c:Cfg} (hb:Bus c) {st:Cy} (hg:Good c st):heldN st 4=outsN st 3:=by
 have:=hg.sums hb;simp[heldN,outsN,List.range_succ];omega
theorem Bx.four {W:World} {H:Nat} {a b c d:Value} (h:Bx W H [a,b,c,d]):(W.cell? ⟨H,0,none⟩=some a∧W.cell? ⟨H,1,none⟩=some b∧W.cell? ⟨H,2,none⟩=some c∧W.cell? ⟨H,3,none⟩=some d)∧W.frozen? ⟨H,0,none⟩=false∧W.frozen? ⟨H,1,none⟩=false∧W.frozen? ⟨H,2,none⟩=false∧W.frozen? ⟨H,3,none⟩=false :=
 ⟨⟨h.c 0 (by simp),h.c 1 (by simp),h.c 2 (by simp),h.c 3 (by simp)⟩,h.f 0 (by simp),h.f 1 (by simp),h.f 2 (by simp),h.f 3 (by simp)⟩
theorem JobsV.len {w:World} {B:Nat} {a:Option Addr} {n c:Nat} {js:List TJ} (h:JobsV w B (.slice a n c) js):n=js.length:=by
 obtain⟨D,⟨_,_,e,_⟩,hD,_⟩:=h;simp only[Value.slice.injEq,List.length_map]at e;rw[e.2.1,←hD,List.length_map]
theorem Jbs.len {w:World} {B:Nat} {a:Option Addr} {n c:Nat} {js:List Jb} (h:Jbs w B (.slice a n c) js):n=js.length:=by
 obtain⟨_,_,e,_⟩:=h;simp only[Value.slice.injEq,List.length_map]at e;exact e.2.1
theorem Nats.len {w:World} {B:Nat} {a:Option Addr} {n c:Nat} {js:List Nat} (h:Nats w B (.slice a n c) js):n=js.length:=by
 obtain⟨_,_,e,_⟩:=h;simp only[Value.slice.injEq,List.length_map]at e;exact e.2.1
set_option maxRecDepth 8000 in
theorem cycOk_any {c : Cfg} (hbus : Bus c) {w : World} {B : Nat} {u : Value} (hc : BusV w B u c) {a0 a1 a2 a3 a4 : Value} {st : Cy} {P : List PS} {Q : List SS} (h : CyV w B a0 a1 a2 a3 a4 st P Q) (hB : B ≤ w.heap.size) (hg : Good c st) :
  Calls Tryz.prog 16 #[u,.agg #[a0,a1,a2,a3,a4]] w fun e w' => e=.returned (.bool true)∧Below w.heap.size w w':=by
 obtain⟨mv,lb,lo,lc,pb,po,pc,QQ,K,rfl,⟨ma,mn,mk,rfl⟩,_,_,_,_,_,_⟩:=hc.opened hbus;obtain⟨pg,pgo,pgc,rfl,pc1,pc2,pgB,hpc⟩:=h.ps.at (by rw[h.lp];omega)
 obtain⟨tg,tp,tc,rfl,tc1,tc2,tgB,htc⟩:=h.ss.at (by rw[h.lq];omega)
 obtain⟨ya,yb,rfl⟩:∃a c,a0=.slice a st.ws.length c:=by obtain⟨a,c,e,_⟩:=h.ws.1;exact⟨a,c,by simpa using e⟩
 obtain⟨za,zb,rfl⟩:∃a c,a1=.slice a st.hs.length c:=by obtain⟨a,c,e,_⟩:=h.hs.1;exact⟨a,c,by simpa using e⟩
 obtain⟨ua,un,ub,rfl⟩:∃a n c,a4=.slice a n c:=by obtain⟨D,⟨a,c,e,_⟩,_⟩:=h.told;exact⟨a,_,c,e⟩
 rw[h.lp]at h pc1 hpc ⊢;rw[h.lq]at h tc1 htc ⊢;have HC:=hid h;have HG:=hid hg;have HPC:=hid hpc;have HTC:=hid htc;have HBV:=hid hc;obtain⟨yn,hyn⟩:∃x,x=st.ws.length:=⟨_,rfl⟩
 obtain⟨zn,hzn⟩:∃x,x=st.hs.length:=⟨_,rfl⟩
 rw[←hyn,←hzn]at HC ⊢;have HYN:=hid hyn;have HZN:=hid hzn
 have HBO := hid (fun (W : World) (hW : Below w.heap.size w W) => (show Calls Tryz.prog 50 #[.agg #[.slice ma mn mk, .slice (some ⟨lb, lo, none⟩) 4 lc, .slice (some ⟨pb, po, none⟩) 3 pc]] W fun e w' => e = .returned (.bool true) ∧ Below W.heap.size W w' from
  busOk_good hbus (HBV.out.below (hW.mono hB)) (Nat.le_trans hB hW.size)))
 have HAT := hid (fun (W : World) (hW : Below w.heap.size w W) => (show Calls Tryz.prog 51 #[.agg #[.slice ya yn yb, .slice za zn zb]] W fun e w' => e = .returned (.bool true) ∧ Below W.heap.size W w' from by
  have:=zI2 (.agg #[.slice ya yn yb,.slice za zn zb]) st.ws st.hs B W ⟨_,_,rfl,HC.out.ws.below (hW.mono hB),HC.out.hs.below (hW.mono hB)⟩ (Nat.le_trans hB hW.size);rw[HG.out.atm]at this;exact this))
 have HSL := hid (fun (W : World) (hW : Below w.heap.size w W) (s : Nat) (hs : s < 4) => (show Calls Tryz.prog 53 #[.agg #[.slice ma mn mk, .slice (some ⟨lb, lo, none⟩) 4 lc, .slice (some ⟨pb, po, none⟩) 3 pc], .agg #[.slice ya yn yb, .slice za zn zb, .slice (some ⟨pg, pgo, none⟩) 3 pgc, .slice (some ⟨tg, tp, none⟩) 4 tc, .slice ua un ub], .int .i64 s] W fun e w' => e = .returned (.bool true) ∧ Below W.heap.size W w' from
  slaveOk_any hbus (HBV.out.below (hW.mono hB)) (HC.out.below (hW.mono hB)) (Nat.le_trans hB hW.size) HG.out hs))
 have HAB := hid (fun (W : World) (hW : Below w.heap.size w W) => (show Calls Tryz.prog 37 #[.agg #[.slice ya yn yb, .slice za zn zb, .slice (some ⟨pg, pgo, none⟩) 3 pgc, .slice (some ⟨tg, tp, none⟩) 4 tc, .slice ua un ub]] W (AbsP st W) from
  cycAbs_any (HC.out.below (hW.mono hB)) (Nat.le_trans hB hW.size) HG.out (zJ0 hbus HG.out)))
 obtain⟨w0,hw0⟩:∃W,W=(w.alloc (.cells #[.slice ma mn mk,.slice (some ⟨lb,lo,none⟩) 4 lc,.slice (some ⟨pb,po,none⟩) 3 pc] 27)).alloc (.cells #[.slice ya yn yb,.slice za zn zb,.slice (some ⟨pg,pgo,none⟩) 3 pgc,.slice (some ⟨tg,tp,none⟩) 4 tc,.slice ua un ub] 39):=⟨_,rfl⟩
 have hb0:Below w.heap.size w w0:=by rw[hw0];exact((Below.refl _ _).alloc (Nat.le_refl _) _).alloc (by simp) _
 have B1:=hid (show BusB w0 w.heap.size ma mn mk lb lo lc pb po pc by unfold BusB;rw[hw0,((Below.refl _ _).alloc (Nat.le_refl _) _).block _ (by simp)];exact zA8 _ _ rfl);obtain⟨gT,hgT⟩:∃g,g=w.heap.size+1:=⟨_,rfl⟩
 have HT := hid (show Bx w0 gT [.slice ya yn yb, .slice za zn zb, .slice (some ⟨pg, pgo, none⟩) 3 pgc, .slice (some ⟨tg, tp, none⟩) 4 tc, .slice ua un ub] by
  rw[hw0,hgT];have:=Bx.new (w.alloc (.cells #[.slice ma mn mk,.slice (some ⟨lb,lo,none⟩) 4 lc,.slice (some ⟨pb,po,none⟩) 3 pc] 27)) #[.slice ya yn yb,.slice za zn zb,.slice (some ⟨pg,pgo,none⟩) 3 pgc,.slice (some ⟨tg,tp,none⟩) 4 tc,.slice ua un ub] 39 (by simp);simpa using this)
 have HB0:=hid hb0;obtain⟨b0,b1,b2,bz⟩:=B1.out.cells;obtain⟨t0,t1,t2,t3,t4⟩:=HT.out.five.1;clear hc h hg hpc htc hyn hzn hb0
 go_enter Tryz.func16,Tryz.ntmps16
 go_upto_region 1 with fail
 rw[←hw0,←hgT];have HGT:=hid hgT;clear hw0 hgT
 go_upto_region 4 with (first
  |(go_at_call 50;go_loud ((with_reducible refine(HBO.out _ HB0.out).mono ?_));rintro e w1 ⟨rfl,hb1⟩;have HQ1:=hid hb1;have HB1:=hid (HB0.out.trans (hb1.mono HB0.out.size));have HT1:=hid (HT.out.below hb1 HT.out.lt);have BB1:=hid (B1.out.below hb1 (zA3 B1.out));clear hb1 t0 t1 t2 t3 t4 b0 b1 b2 bz;obtain⟨t0,t1,t2,t3,t4⟩:=HT1.out.five.1)
  |(go_at_call 51;go_loud ((with_reducible refine(HAT.out _ HB1.out).mono ?_));rintro e w2 ⟨rfl,hb2⟩;have HQ2:=hid (HQ1.out.trans (hb2.mono HQ1.out.size));have HB2:=hid (HB1.out.trans (hb2.mono HB1.out.size));have HT2:=hid (HT1.out.below hb2 HT1.out.lt);have BB2:=hid (BB1.out.below hb2 (zA3 BB1.out));clear hb2 t0 t1 t2 t3 t4;obtain⟨t0,t1,t2,t3,t4⟩:=HT2.out.five.1))
 clear t0 t1 t3 t4
 go_wp2_with fail
 clear t2
 go_loopw [5,35] (fun s i wr=>∃k:Nat,i=.int .i64 k∧k≤3∧s=.int .i64 (outsN st k:Nat)∧outsN st k≤4 * k∧Below w2.heap.size w2 wr) (fun _ i _=>3 - (intOf i).toNat)
 case atStart=>exact⟨0,by go_num,Nat.zero_le _,rfl,by simp[outsN],Below.refl _ _⟩
 case round=>
  obtain⟨k,rfl,hk,rfl,hsm,hbr⟩:=hrel;have HBR:=hid hbr;have HBW:=hid (HB2.out.trans (hbr.mono HB2.out.size));have HTR:=hid (HT2.out.below hbr HT2.out.lt);have BBR:=hid (BB2.out.below hbr (zA3 BB2.out));clear hbr;by_cases hlt:k<3
  ·have hki:(k:Int)<3:=by omega
   have hpn:=HC.out.pn k hlt;have hqv:=HC.out.q k hlt;have hov:=HC.out.o k hlt;have hp5:∀j,j<4→wr.cell? ⟨pg,pgo+k * 4+j,none⟩=(rowPS (P.getD k default))[j]?:=fun j hj=>by
    rw[HBW.out.cell (p:=⟨pg,_,none⟩) (by show pg<w.heap.size;omega)];exact HPC.out k default hlt j hj
   obtain⟨x,hx⟩:∃x,x=P.getD k default:=⟨_,rfl⟩
   rw[←hx]at hpn hqv hov hp5;obtain⟨nx,⟨qa,qn,qc⟩,⟨oa,on,oc⟩,la⟩:=x;have p0:=hp5 0 (by omega);have p1:=hp5 1 (by omega);have p2:=hp5 2 (by omega);have p3:=hp5 3 (by omega);simp only[rowPS,sl,List.getElem?_cons_zero,List.getElem?_cons_succ,Nat.add_zero]at p0 p1 p2 p3;simp only[sl]at hqv hov hpn;have hqn:=hqv.len;have hon:=hov.len
   have HPK := hid (fun (W : World) (hW : Below w.heap.size w W) => (show Calls Tryz.prog 52 #[.agg #[.slice ma mn mk, .slice (some ⟨lb, lo, none⟩) 4 lc, .slice (some ⟨pb, po, none⟩) 3 pc], .int .i64 k, .agg #[.int .i64 (nx : Nat), .slice qa qn qc, .slice oa on oc, .int .i64 (la : Nat)]] W fun e w' => e = .returned (.bool true) ∧ Below W.heap.size W w' from by
    have:=portOk_any hbus (HBV.out.below (hW.mono hB)) (Nat.le_trans hB hW.size) hlt (HG.out.p k hlt) (qa:=qa) (qc:=qc) (oa:=oa) (oc:=oc) (by rw[←hqn];exact hqv.below (hW.mono hB)) (by rw[←hon];exact hov.below (hW.mono hB));rw[←hpn.1,←hpn.2,←hqn,←hon]at this;exact this))
   have HON:=hid (show outsN st (k+1)=outsN st k+on by rw[outsN_succ,hon]);have ho4:on≤4:=by rw[hon];exact(HG.out.p k hlt).o4
   have H4:=hid (show outsN st (k+1)≤4 * (k+1) by rw[HON.out];omega);obtain⟨sm,hsm2⟩:∃x,x=outsN st k:=⟨_,rfl⟩
   rw[←hsm2]at hsm HON ⊢;obtain⟨sy,hsy⟩:∃y,y=sm+on:=⟨_,rfl⟩
   rw[←hsy]at HON;have ew:IntKind.i64.wrap ((sm:Int)+(on:Int))=(sy:Int):=by rw[IntKind.wrap_i64];omega
   clear hp5 hx hpn hqv hov hqn hon hsm2 ho4 hsy
   go_upto_region 7 with fail
   clear p0 p1 p2 p3;obtain⟨W3,hW3⟩:∃W,W=wr.alloc (.cells #[.int .i64 (nx:Nat),.slice qa qn qc,.slice oa on oc,.int .i64 (la:Nat)] 48):=⟨_,rfl⟩
   obtain⟨gp,hgp⟩:∃g,g=wr.heap.size:=⟨_,rfl⟩
   rw[←hW3,←hgp];have hb3:Below wr.heap.size wr W3:=by rw[hW3];exact(Below.refl _ _).alloc (Nat.le_refl _) _
   have hpt:Bx W3 gp [.int .i64 (nx:Nat),.slice qa qn qc,.slice oa on oc,.int .i64 (la:Nat)]:=by rw[hW3,hgp];exact Bx.new wr #[.int .i64 (nx:Nat),.slice qa qn qc,.slice oa on oc,.int .i64 (la:Nat)] 48 (by simp)
   have HPT:=hid hpt;have HB3:=hid hb3;have HBW3:=hid (HBW.out.trans (hb3.mono HBW.out.size));have BB3:=hid (BBR.out.below hb3 (zA3 BBR.out));obtain⟨b0,b1,b2,bz⟩:=BB3.out.cells;obtain⟨⟨n0,n1,n2,n3⟩,_⟩:=HPT.out.four;clear hW3 hgp hb3 hpt
   go_upto_region 9 with(go_at_call 52;go_loud ((with_reducible refine(HPK.out _ HBW3.out).mono ?_));rintro e w4 ⟨rfl,hb4⟩;have HB4:=hid hb4;have HPT4:=hid (HPT.out.below hb4 HPT.out.lt);clear hb4 n0 n1 n2 n3 b0 b1 b2 bz;obtain⟨⟨n0,n1,n2,n3⟩,_⟩:=HPT4.out.four)
   clear n0 n1 n3
   go_wp2_with fail
   go_roundw
   case rel=>exact⟨k+1,by go_num,by omega,by rw[HON.out],H4.out,(HBR.out.trans (HB3.out.mono HBR.out.size)).trans (HB4.out.mono (Nat.le_trans HBR.out.size HB3.out.size))⟩
   case measure=>simp[intOf];omega
  ·obtain rfl:k=3:=by omega
   rw[show(((3:Nat)):Int)=(3:Int) from rfl];obtain⟨so,hso⟩:∃x,x=outsN st 3:=⟨_,rfl⟩
   rw[←hso];have HSO:=hid hso;obtain⟨t0,t1,t2,t3,t4⟩:=HTR.out.five.1;clear hso hsm t0 t1 t2 t4
   go_wp2_with fail
   clear t3;obtain⟨wo,hwo⟩:∃W,W=wr:=⟨_,rfl⟩
   subst hwo
   go_loopw [6,54] (fun s i wr=>∃k:Nat,i=.int .i64 k∧k≤4∧s=.int .i64 (heldN st k:Nat)∧heldN st k≤4 * k∧Below wo.heap.size wo wr) (fun _ i _=>4 - (intOf i).toNat)
   case atStart=>exact⟨0,by go_num,Nat.zero_le _,rfl,by simp[heldN],Below.refl _ _⟩
   case round=>
    obtain⟨k,rfl,hk,rfl,hsm,hbr⟩:=hrel;have HBX:=hid (HBW.out.trans (hbr.mono HBW.out.size));have HTX:=hid (HTR.out.below hbr HTR.out.lt);have BBX:=hid (BBR.out.below hbr (zA3 BBR.out));have HBR2:=hid hbr;clear hbr;by_cases hlt:k<4
    ·have hki:(k:Int)<4:=by omega
     have hpv:=HC.out.p k hlt;have hdv:=HC.out.d k hlt;have hp5:∀j,j<3→wr.cell? ⟨tg,tp+k * 3+j,none⟩=(rowSS (Q.getD k default))[j]?:=fun j hj=>by
      rw[HBX.out.cell (p:=⟨tg,_,none⟩) (by show tg<w.heap.size;omega)];exact HTC.out k default hlt j hj
     obtain⟨x,hx⟩:∃x,x=Q.getD k default:=⟨_,rfl⟩
     rw[←hx]at hpv hdv hp5;obtain⟨⟨qa,qn,qc⟩,⟨da,dn,dc⟩,la⟩:=x;have p0:=hp5 0 (by omega);have p1:=hp5 1 (by omega);have p2:=hp5 2 (by omega);simp only[rowSS,sl,List.getElem?_cons_zero,List.getElem?_cons_succ,Nat.add_zero]at p0 p1 p2;simp only[sl]at hpv hdv;have hqn:=hpv.len;have hdn:=hdv.len;have q2:qn≤2:=by rw[hqn];exact(HG.out.s k hlt).p2
     have d2:dn≤2:=by rw[hdn];exact(HG.out.s k hlt).d2
     have HON:=hid (show heldN st (k+1)=heldN st k+(qn+dn) by rw[heldN_succ,hqn,hdn]);have H4:=hid (show heldN st (k+1)≤4 * (k+1) by rw[HON.out];omega);obtain⟨sm,hsm2⟩:∃x,x=heldN st k:=⟨_,rfl⟩
     rw[←hsm2]at hsm HON ⊢;obtain⟨hn,hhn⟩:∃y,y=qn+dn:=⟨_,rfl⟩
     rw[←hhn]at HON;obtain⟨sy,hsy⟩:∃y,y=sm+hn:=⟨_,rfl⟩
     rw[←hsy]at HON;have ew1:IntKind.i64.wrap ((qn:Int)+(dn:Int))=(hn:Int):=by rw[IntKind.wrap_i64];omega
     have ew:IntKind.i64.wrap ((sm:Int)+(hn:Int))=(sy:Int):=by rw[IntKind.wrap_i64];omega
     clear hp5 hx hpv hdv hqn hdn hsm2 q2 d2 hhn hsy;obtain⟨b0,b1,b2,bz⟩:=BBX.out.cells;obtain⟨t0,t1,t2,t3,t4⟩:=HTX.out.five.1
     go_upto_region 14 with fail
     clear p0 p1 p2 b0 b1 b2 bz t0 t1 t2 t3 t4;obtain⟨W3,hW3⟩:∃W,W=wr.alloc (.cells #[.slice qa qn qc,.slice da dn dc,.int .i64 (la:Nat)] 94):=⟨_,rfl⟩
     obtain⟨gp,hgp⟩:∃g,g=wr.heap.size:=⟨_,rfl⟩
     rw[←hW3,←hgp];have hb3:Below wr.heap.size wr W3:=by rw[hW3];exact(Below.refl _ _).alloc (Nat.le_refl _) _
     have hpt:Bx W3 gp [.slice qa qn qc,.slice da dn dc,.int .i64 (la:Nat)]:=by rw[hW3,hgp];exact Bx.new wr #[.slice qa qn qc,.slice da dn dc,.int .i64 (la:Nat)] 94 (by simp)
     have HPT:=hid hpt;have HB3:=hid hb3;have HBW3:=hid (HBX.out.trans (hb3.mono HBX.out.size));have BB3:=hid (BBX.out.below hb3 (zA3 BBX.out));have HT3:=hid (HTX.out.below hb3 HTX.out.lt);obtain⟨b0,b1,b2,bz⟩:=BB3.out.cells;obtain⟨t0,t1,t2,t3,t4⟩:=HT3.out.five.1;clear hW3 hgp hb3 hpt
     go_upto_region 16 with(go_at_call 53;go_loud ((with_reducible refine(HSL.out _ HBW3.out k hlt).mono ?_));rintro e w4 ⟨rfl,hb4⟩;have HB4:=hid hb4;have HPT4:=hid (HPT.out.below hb4 HPT.out.lt);clear hb4 b0 b1 b2 bz t0 t1 t2 t3 t4)
     obtain⟨⟨n0,n1,n2⟩,_⟩:=HPT4.out.three;clear n2
     go_wp2_with fail
     go_roundw
     case rel=>exact⟨k+1,by go_num,by omega,by rw[HON.out],H4.out,(HBR2.out.trans (HB3.out.mono HBR2.out.size)).trans (HB4.out.mono (Nat.le_trans HBR2.out.size HB3.out.size))⟩
     case measure=>simp[intOf];omega
    ·obtain rfl:k=4:=by omega
     have hev:heldN st 4=so:=by rw[HSO.out];exact Good.even hbus HG.out
     rw[show(((4:Nat)):Int)=(4:Int) from rfl,hev];obtain⟨b0,b1,b2,bz⟩:=BBX.out.cells;obtain⟨t0,t1,t2,t3,t4⟩:=HTX.out.five.1;have zt:=HTX.out.lt;clear hsm hev
     go_upto_region 18 with fail
     go_region_held3 (fun w' => w'.cell? ⟨w.heap.size, 0, none⟩ = some (.slice ma mn mk) ∧ w'.cell? ⟨w.heap.size, 1, none⟩ = some (.slice (some ⟨lb, lo, none⟩) 4 lc) ∧ w'.cell? ⟨w.heap.size, 2, none⟩ = some (.slice (some ⟨pb, po, none⟩) 3 pc) ∧ w'.cell? ⟨gT, 0, none⟩ = some (.slice ya yn yb) ∧ w'.cell? ⟨gT, 1, none⟩ = some (.slice za zn zb) ∧ w'.cell? ⟨gT, 2, none⟩ = some (.slice (some ⟨pg, pgo, none⟩) 3 pgc) ∧ w'.cell? ⟨gT, 3, none⟩ = some (.slice (some ⟨tg, tp, none⟩) 4 tc) ∧ w'.cell? ⟨gT, 4, none⟩ = some (.slice ua un ub))
      (first|exact s7|exact s6|go_keep)
      (first
       |(go_at_call 37;go_loud (with_reducible refine(HAB.out _ HBX.out.drew).mono ?_);rintro e w6 ⟨y0,y1,y2,y3,y4,y5,wj,dj,hw1,hw2,hd1,hd2,rfl,h0,h1,h2,h3,h4,h5,hb6⟩;have hb6':=(show Below wr.heap.size wr wr.drew from(Below.refl _ _).drew).trans hb6;have s6:w6.cell? ⟨w.heap.size,0,none⟩=some (.slice ma mn mk)∧w6.cell? ⟨w.heap.size,1,none⟩=some (.slice (some ⟨lb,lo,none⟩) 4 lc)∧w6.cell? ⟨w.heap.size,2,none⟩=some (.slice (some ⟨pb,po,none⟩) 3 pc)∧w6.cell? ⟨gT,0,none⟩=some (.slice ya yn yb)∧w6.cell? ⟨gT,1,none⟩=some (.slice za zn zb)∧w6.cell? ⟨gT,2,none⟩=some (.slice (some ⟨pg,pgo,none⟩) 3 pgc)∧w6.cell? ⟨gT,3,none⟩=some (.slice (some ⟨tg,tp,none⟩) 4 tc)∧w6.cell? ⟨gT,4,none⟩=some (.slice ua un ub):=⟨(hb6'.cell (p:=⟨w.heap.size,0,none⟩) bz).trans b0,(hb6'.cell (p:=⟨w.heap.size,1,none⟩) bz).trans b1,(hb6'.cell (p:=⟨w.heap.size,2,none⟩) bz).trans b2,(hb6'.cell (p:=⟨gT,0,none⟩) zt).trans t0,(hb6'.cell (p:=⟨gT,1,none⟩) zt).trans t1,(hb6'.cell (p:=⟨gT,2,none⟩) zt).trans t2,(hb6'.cell (p:=⟨gT,3,none⟩) zt).trans t3,(hb6'.cell (p:=⟨gT,4,none⟩) zt).trans t4⟩;have HB6:=hid hb6';have HTL:=hid (tlmAbs_any hbus (B:=w6.heap.size) ((HBV.out.below ((HBX.out.trans (hb6'.mono HBX.out.size)).mono hB)).mono (Nat.le_trans hB (Nat.le_trans HBX.out.size hb6'.size))) HG.out hw1 hw2 hd1 hd2 h0 h1 h2 h3 h4 h5 (Nat.le_refl _));have zt6:=Nat.lt_of_lt_of_le zt hb6'.size;have bz6:=Nat.lt_of_lt_of_le bz hb6'.size;clear hb6 hb6' hw1 hw2 hd1 hd2 h0 h1 h2 h3 h4 h5)
       |(go_at_call 54;go_loud (with_reducible refine(HTL.out).mono ?_);rintro e w7 ⟨rfl,hb7⟩;have s7:w7.cell? ⟨w.heap.size,0,none⟩=some (.slice ma mn mk)∧w7.cell? ⟨w.heap.size,1,none⟩=some (.slice (some ⟨lb,lo,none⟩) 4 lc)∧w7.cell? ⟨w.heap.size,2,none⟩=some (.slice (some ⟨pb,po,none⟩) 3 pc)∧w7.cell? ⟨gT,0,none⟩=some (.slice ya yn yb)∧w7.cell? ⟨gT,1,none⟩=some (.slice za zn zb)∧w7.cell? ⟨gT,2,none⟩=some (.slice (some ⟨pg,pgo,none⟩) 3 pgc)∧w7.cell? ⟨gT,3,none⟩=some (.slice (some ⟨tg,tp,none⟩) 4 tc)∧w7.cell? ⟨gT,4,none⟩=some (.slice ua un ub):=⟨(hb7.cell (p:=⟨w.heap.size,0,none⟩) bz6).trans s6.1,(hb7.cell (p:=⟨w.heap.size,1,none⟩) bz6).trans s6.2.1,(hb7.cell (p:=⟨w.heap.size,2,none⟩) bz6).trans s6.2.2.1,(hb7.cell (p:=⟨gT,0,none⟩) zt6).trans s6.2.2.2.1,(hb7.cell (p:=⟨gT,1,none⟩) zt6).trans s6.2.2.2.2.1,(hb7.cell (p:=⟨gT,2,none⟩) zt6).trans s6.2.2.2.2.2.1,(hb7.cell (p:=⟨gT,3,none⟩) zt6).trans s6.2.2.2.2.2.2.1,(hb7.cell (p:=⟨gT,4,none⟩) zt6).trans s6.2.2.2.2.2.2.2⟩;have HB7:=hid hb7;clear hb7))
     clear s6 s7
     go_wp2_with fail
     go_ret
     exact⟨rfl,(HBX.out.trans (HB6.out.mono HBX.out.size)).trans (HB7.out.mono (Nat.le_trans HBX.out.size HB6.out.size))⟩
set_option maxRecDepth 4000 in
theorem tell_any {c : Cfg} (hbus : Bus c) {w : World} {base S Hb : Nat} {L : Nat → Value} {st : Cy} {ev : List Ev} {V0 : Nat → Value} {N0 : Nat → Nat} {C0 : Nat → List Value} {D0 : Nat → List TJV} (hm : CyM w base S Hb L st ev V0 N0 C0 D0) (hg : Good c st) (hev : ev.length ≤ 500) {inp : Inp} {v : Value} {B : Nat} (hin : InV w B v inp) (hB : B ≤ base) :
  Calls Tryz.prog 90 #[.pointer (some ⟨S,0,none⟩),v,.pointer (some ⟨Hb,0,none⟩)] w (PartP base S Hb L (zE0 inp (st,ev)) V0 w):=by
 obtain⟨⟨ra,rc,ta,tc,sa,sc,rfl,hr1,hr2,hr3⟩,hl1,hl2,hl3⟩:=hin;have HM:=hid hm;have HG0:=hid hg;have hS:=zA3 hm.bs;have hbw:base≤w.heap.size:=Nat.le_trans hm.s0 (Nat.le_of_lt (zA3 hm.bs));obtain⟨q0,q1,q2,q3,q4,qf⟩:=hm.box;obtain⟨pg,po,pc,hV2,hpc,hpc2,_,_⟩:=hm.ports;rw[hV2]at q2;have HR:=hid hr1;have HL1:=hid hl1;rw[hl1];clear hm hg hr1 hr2 hr3 hl1 hl2 hl3 hV2 qf q0 q1 q3 q4 hpc2 hpc
 go_enter Tryz.func90,Tryz.ntmps90
 go_wp2_with fail
 obtain⟨w0,hw0⟩:∃W,W=w.alloc (.cells #[.slice ra 3 rc,.slice ta inp.stall.length tc,.slice sa inp.send.length sc] 45):=⟨_,rfl⟩
 rw[←hw0];have hb0:Below w.heap.size w w0:=by rw[hw0];exact(Below.refl _ _).alloc (Nat.le_refl _) _
 have hz0:w0.heap.size=w.heap.size+1:=by rw[hw0];simp
 have HI0:=hid (show w0.heap[w.heap.size]? = some (.cells #[.slice ra 3 rc,.slice ta inp.stall.length tc,.slice sa inp.send.length sc] 45 (0,0)) by rw[hw0];show(w.heap.push _)[w.heap.size]? = _;simp);have HFR:=hid (HM.out.fresh (w':=w0) (Nat.le_refl w.heap.size) (by omega));have HKB:=hid (Kp.below (S:=S) (Hb:=Hb) (V:=V0) hb0);have HM0:=hid (HM.out.below hb0);have HB0:=hid (hb0.mono hbw);have HR0:=hid HR.out;have HZ:=hid hz0;clear hw0 hb0 hz0 q2 HM HR hS
 go_loopw [18] (fun i wr=>∃k:Nat,k≤3∧i=.int .i64 k∧Good c (foldN (tell1 inp) k (st,ev)).1∧(foldN (tell1 inp) k (st,ev)).2.length≤ev.length+k∧(∃V N C D,CyM wr base S Hb L (foldN (tell1 inp) k (st,ev)).1 (foldN (tell1 inp) k (st,ev)).2 V N C D∧Kp S Hb V0 w0 V wr)∧Below base w wr) (fun i _=>3 - (intOf i).toNat)
 case atStart=>exact⟨0,by omega,by go_num,HG0.out,by simp[foldN],⟨_,_,_,_,HM0.out,Kp.refl _ _ _ _⟩,HB0.out⟩
 case round=>
  obtain⟨k,hk,rfl,hg,hlen,⟨V,N,C,D,hm,hkp⟩,hbl⟩:=hrel;have hib:=((hkp _ HFR.out).1).trans HI0.out;have HKP:=hid hkp;clear hkp;by_cases hlt:k<3
  ·have hlti:(k:Int)<3:=by omega
   obtain⟨x,hx⟩:∃x,x=foldN (tell1 inp) k (st,ev):=⟨_,rfl⟩
   have HX1:=hid (show foldN (tell1 inp) (k+1) (st,ev)=tell1 inp k x by rw[hx];rfl);rw[←hx]at hg hlen hm;have HX:=hid hx;have hwl:=zA3 hib;obtain⟨i0,i1,i2⟩:wr.cell? ⟨w.heap.size,0,none⟩=some (.slice ra 3 rc)∧wr.cell? ⟨w.heap.size,1,none⟩=some (.slice ta inp.stall.length tc)∧wr.cell? ⟨w.heap.size,2,none⟩=some (.slice sa inp.send.length sc):=by refine⟨?_,?_,?_⟩ <;> simp[World.cell?,hib]
   have HM:=hid hm;have HG:=hid hg;have HIB:=hid hib;have HBL:=hid hbl;have HLEN:=hid hlen;have hS:=zA3 hm.bs;obtain⟨q0,q1,q2,q3,q4,qf⟩:=hm.box;obtain⟨pg,po,pc,hV2,hpc,hpc2,hpb,hpz⟩:=hm.ports;obtain⟨sg,so,sc', hV3,hsc,hsc2,hsb,hsz⟩:=hm.stores;obtain⟨p0,p1,p2,p3,pf⟩:=hm.port hV2 hlt;have HV2:=hid hV2;have HV3:=hid hV3;rw[hV2]at q2;rw[hV3]at q3;obtain⟨rb,ro,hra,hrb,hrc⟩:∃b off,ra=some ⟨b,off,none⟩∧b<B∧wr.cell? ⟨b,off+k,none⟩=some (.bool (inp.ready.getD k false)):=by
    obtain⟨ao,cp,eo,_,_,_,_,ho⟩:=HR0.out.opened;obtain⟨b,off,rfl,hb,hc⟩:=ho (by rw[HL1.out];omega);simp only[Value.slice.injEq]at eo;exact⟨b,off,eo.1,hb,(hbl.cell (p:=⟨b,_,none⟩) (Nat.lt_of_lt_of_le hb hB)).trans (hc k (by rw[HL1.out];exact hlt))⟩
   obtain⟨rdy,hrdy⟩:∃r,r=inp.ready.getD k false:=⟨_,rfl⟩
   rw[←hrdy]at hrc;have HRDY:=hid hrdy;have hlast:(x.1.ports k).last≤3:=(hg.p k hlt).l;have h1000:x.1.told.length≤36:=hg.told36 hbus;subst hra;clear hm hg hib hbl hlen hx hV2 hV3 hrdy HM0 HG0;rcases rdy with _|_
   ·go_wp2_with fail
    go_loopw [8] (fun i wd=>i=.int .i64 1∧wd=wr) (fun _ _=>0)
    case atStart=>exact⟨rfl,rfl⟩
    case round=>
     obtain⟨rfl,rfl⟩:=hrel
     go_wp2_with fail
     go_roundw
     case rel=>exact⟨k+1,by omega,by go_num,by rw[HX1.out,tell1_no HRDY.out.symm];exact HG.out,by rw[HX1.out,tell1_no HRDY.out.symm];have:=HLEN.out;omega,by rw[HX1.out,tell1_no HRDY.out.symm];exact⟨_,_,_,_,HM.out,HKP.out⟩,HBL.out⟩
     case measure=>simp[intOf];omega
   ·go_wp2_with fail
    go_loopw [8] (fun i wd=>∃m:Nat,1≤m∧m≤5∧i=.int .i64 m∧wd=wr∧∀j,1≤j→j<m→tellM x.1 k j=false) (fun i _=>5 - (intOf i).toNat)
    case atStart=>exact⟨1,by omega,by omega,rfl,rfl,fun j h1 h2=>by omega⟩
    case round=>
     obtain⟨m,hm1,hm5,rfl,rfl,hno⟩:=hrel;have HNO:=hid hno;clear hno;by_cases h4:m≤4
     ·have h4i:(m:Int)≤4:=by omega
      obtain⟨t,ht⟩:∃t,t=((x.1.ports k).last+m) % 4:=⟨_,rfl⟩
      have ht4:t<4:=by omega
      have hti:(((x.1.ports k).last:Int)+(m:Int)) % 4=(t:Int):=by omega
      have HT:=hid ht.symm;have HTI:=hid hti;clear ht hti
      go_upto_region 9 with fail
      simp only[HTI.out];obtain⟨s0,s1,s2,sf⟩:=HM.out.store HV3.out ht4;obtain⟨da,dc,hvd,hdc,hdc2⟩:=HM.out.oDone ht4 |>.shape
      have hdl:=HM.out.lDone ht4;rcases hd:(x.1.slaves t).done with _|⟨j,rest⟩
      ·rw[hdl,hd]at hvd;rw[hvd]at s1;simp only[List.length_nil]at s1 hvd;have HQ:=hid (show tellM x.1 k m=false by rw[tellM_eq HT.out,hd]);clear hdl hd hvd hdc hdc2 sf s0 s2
       go_wp2_with fail
       go_roundw
       case rel => exact ⟨m + 1, by omega, by omega, by go_num, by first | rfl | trivial, fun i h1 h2 => by
        by_cases e:i=m
        ·subst e;exact HQ.out
        ·exact HNO.out i h1 (by omega)⟩
       case measure=>simp[intOf];omega
      ·obtain⟨y,Y,hD,hy,hY⟩:∃y Y,D (15+t)=y::Y∧y.1=j∧Y.map (·.1)=rest:=by
        have h1:=HM.out.con.td t ht4;rw[hd]at h1;rcases hDD:D (15+t)with _|⟨y,Y⟩
        ·rw[hDD]at h1;cases h1
        ·rw[hDD]at h1;simp only[List.map_cons,List.cons.injEq]at h1;exact⟨y,Y,rfl,h1.1,h1.2⟩
       have hown:=HM.out.oDone ht4;rw[hD]at hown hdl hvd;obtain⟨dg,dof,dcp,hvs,hdcp,hdcp2,hdgb,hdgz⟩:=OwnR.addr hown (by simp);rw[hvs]at hown hvd s1;simp only[List.length_cons]at hvs hdcp s1;have cl:∀i,i<5→wr.cell? ⟨dg,dof+i,none⟩=(tjRow y)[i]?:=fun i hi=>by
        have:=Owns.cellAt hown (fun _=>rfl) 0 i y (by simp) hi;simpa using this
       obtain⟨ea,en,ec,hdv⟩:=intsD_slice (HM.out.dat (15+t) (by omega) y (by rw[hD];simp)).1;have c0:=cl 0 (by omega);have c1:=cl 1 (by omega);have c2:=cl 2 (by omega);have c3:=cl 3 (by omega);have c4:=cl 4 (by omega);simp only[tjRow,List.getElem?_cons_zero,List.getElem?_cons_succ,Nat.add_zero,hy,hdv]at c0 c1 c2 c3 c4;have HD:=hid hD;have HY:=hid hY;have HYJ:=hid hy;have HDV:=hid hdv;have HD0:=hid hd;have HVS:=hid hvs;have HOWN:=hid hown;clear hD hY hy hdv hd hvs hown hvd hdl cl hdc hdc2;by_cases hjk:j.who=k
       ·have hq:((j.who:Int) != (k:Int))=false:=by rw[hjk];simp
        have HJK:=hid hjk;have HIT:=hid (tell1_hit HRDY.out.symm hm1 h4 HNO.out HT.out HD0.out hjk)
        have HOX := hid (show ∃ o ∈ (x.1.ports k).out, o.n = j.n by
         have hkey:(k,j.n)∈zA6 (x.1.slaves t):=by simp[zA6,HD0.out,hjk]
         obtain⟨_,o,ho,he,_⟩:=HG.out.key ht4 hkey;exact⟨o,ho,he⟩)
        have ho4:=(HG.out.p k hlt).o4;have HO4:=hid ho4;clear hjk ho4
        go_upto_region 12 with fail
        obtain⟨w1,hw1⟩:∃W,W=wr.alloc (.cells #[.int .i64 j.who,.int .i64 j.n,.int .i64 j.rsp.id,.int .i64 j.rsp.code,.slice ea en ec] 65):=⟨_,rfl⟩
        rw[←hw1];have hb1:Below wr.heap.size wr w1:=by rw[hw1];exact(Below.refl _ _).alloc (Nat.le_refl _) _
        have hz1:w1.heap.size=wr.heap.size+1:=by rw[hw1];simp
        have hjb:w1.heap[wr.heap.size]? = some (.cells #[.int .i64 j.who,.int .i64 j.n,.int .i64 j.rsp.id,.int .i64 j.rsp.code,.slice ea en ec] 65 (0,0)):=by rw[hw1];show(wr.heap.push _)[wr.heap.size]? = _;simp
        have HJB:=hid hjb;obtain⟨j0,j1,j2,j3,j4⟩:w1.cell? ⟨wr.heap.size,0,none⟩=some (.int .i64 j.who)∧w1.cell? ⟨wr.heap.size,1,none⟩=some (.int .i64 j.n)∧w1.cell? ⟨wr.heap.size,2,none⟩=some (.int .i64 j.rsp.id)∧w1.cell? ⟨wr.heap.size,3,none⟩=some (.int .i64 j.rsp.code)∧w1.cell? ⟨wr.heap.size,4,none⟩=some (.slice ea en ec):=by refine⟨?_,?_,?_,?_,?_⟩ <;> simp[World.cell?,hjb]
        have HM1:=hid (HM.out.below hb1.drew);have HBJ:=hid hb1;have HB1:=hid (HBL.out.trans ((hb1).mono (Nat.le_trans hbw (Nat.le_of_lt (Nat.lt_of_lt_of_le (Nat.lt_succ_self _) hwl)))));obtain⟨q0,q1,q2,q3,q4,qf⟩:=HM.out.below hb1 |>.box
        have hS1:S<w1.heap.size:=by omega
        have hd4:(D 4).length≤36:=by have:=congrArg List.length HM.out.con.t4;rw[List.length_map]at this;omega
        have hbw1:base≤w1.heap.size:=Nat.le_trans HM.out.s0 (Nat.le_of_lt hS1);clear hw1 hb1 hjb qf c0 c1 c2 c3 c4 s0 s1 s2 sf p0 p1 p2 p3 pf i0 i1 i2 hrc;have HZ1:=hid hz1;have HFJ:=hid (HM.out.fresh (w':=w1) (Nat.le_refl wr.heap.size) (by omega));have HK1:=hid (HKP.out.trans (Kp.below (S:=S) (Hb:=Hb) (V:=V) HBJ.out));clear hz1
        go_cut [] from 74 to 83 (fun wd=>∃v' N' C', CyM wd base S Hb L { x.1 with told:=(D 4++[y]).map (·.1) } x.2 (upd V 4 v') N' C' (upd D 4 (D 4++[y]))∧Kp S Hb V w1 (upd V 4 v') wd∧Below base w1 wd)
        case first=>
         go_region_law (first
          |(refine step_push3 elem_tj tjRow (fun _=>rfl) w1.drew rfl (.tmp 78) (.tmp 80) rfl base (V 4) (D 4) y (tjRow_one y ⟨_,_,_,HDV.out⟩) (by rfl) HM1.out.oTold _ (by rw[tjRow,HYJ.out,HDV.out]) _ _ (by rfl) (by first|rfl|(simp;done)) (by omega) (by omega) hbw1 ?_;intro v' w2 ho hb2 hk2 hv2;obtain⟨va,vc,hv', _,_⟩:=ho.shape;simp only[List.length_append,List.length_cons,List.length_nil,Nat.zero_add]at hv';subst hv';obtain⟨g0,g1⟩:=cell_of (hk2 S hS1 (Ne.symm (HM1.out.fs 4 (by omega)))) 4;rw[HM1.out.box.2.2.2.2.1]at g0;rw[HM1.out.box.2.2.2.2.2 4]at g1;have HO:=hid ho;have HK:=hid hk2;have HW:=hid hv2;have HB2:=hid hb2;clear ho hb2 hk2 hv2))
         all_goals
          go_wp2_with fail
          have hk3:∀b,b<w1.drew.heap.size→(V 4).ownBlock≠some b→w2.heap[b]? = w1.drew.heap[b]?:=fun b hb hne=>HK.out b hb (Ne.symm hne)
          have hsz3:w1.drew.heap.size≤w2.heap.size:=HB2.out.size
          obtain ⟨N', C', hc1, hc2⟩ := HM1.out.setTold hk3 hsz3 HO.out HW.out (fun z hz => by
           simp only[List.mem_append,List.mem_singleton]at hz;rcases hz with hz|rfl
           ·exact HM1.out.old (κ:=4) (ν:=4) (by omega) (by omega) hk3 hsz3 HW.out hz
           ·exact HM1.out.old (κ:=4) (ν:=15+t) (by omega) (by omega) hk3 hsz3 HW.out (by rw[HD.out];simp))
          go_meet
          case rel=>exact⟨_,N', C', hc1,(Kp.below (show Below w1.heap.size w1 w1.drew from(Below.refl _ _).drew)).trans hc2,((show Below base w1 w1.drew from(Below.refl _ _).drew).trans HB2.out).setCell (p:=⟨S,4,none⟩) HM.out.s0 _⟩
        case rest=>
         clear q0 q1 q2 q3 q4 j0 j1 j2 j3 j4 hd4 HM1;obtain⟨w3,hw3⟩:∃W,W=wc:=⟨_,rfl⟩
         subst hw3;obtain⟨v4,N3,C3,hm3,hk3,hb3⟩:=hcut;have HK3:=hid (HK1.out.trans hk3);have hjb3:=((hk3 _ HFJ.out).1).trans HJB.out;have HFJ3:=hid ((hk3 _ HFJ.out).2);have HJB3:=hid hjb3;have HM3:=hid hm3;have HB3:=hid (HB1.out.trans hb3);obtain⟨q0,q1,q2,q3,q4,qf⟩:=hm3.box;obtain⟨s0,s1,s2,sf⟩:=hm3.store (show upd V 4 v4 3=_ from(zA0 _ _ (by omega)).trans HV3.out) ht4;rw[zA0 _ _ (by omega),HVS.out]at s1;obtain⟨A1,hA1⟩:=pop_addr dg dof 5 dcp;have hyl:1≤Y.length+1:=by omega
         clear hm3 hk3 hb3 hjb3
         go_upto_region 14 with fail
         obtain⟨w4,hw4⟩:∃W,W=w3.setCell ⟨sg,so+t * 3+1,none⟩ (.slice (some A1) Y.length (dcp - 1)):=⟨_,rfl⟩
         rw[←hw4];obtain⟨N4,C4,hm4,hk4⟩:=HM3.out.popDone ht4 (show upd V 4 v4 3=_ from(zA0 _ _ (by omega)).trans HV3.out) (show upd D 4 (D 4++[y]) (15+t)=_ from(zA0 _ _ (by omega)).trans HD.out) (show upd V 4 v4 (15+t)=_ from(zA0 _ _ (by omega)).trans HVS.out) hA1;rw[←hw4]at hm4 hk4;obtain⟨v5,hv5⟩:∃v,v=Value.slice (some A1) Y.length (dcp - 1):=⟨_,rfl⟩
         rw[←hv5]at hm4 hk4;have hb4:Below base w3 w4:=by rw[hw4];exact(Below.refl _ _).setCell (p:=⟨sg,_,none⟩) hsb _
         have HB4:=hid (HB3.out.trans hb4);have HK4:=hid (HK3.out.trans hk4);have hjb4:=((hk4 _ HFJ3.out).1).trans HJB3.out;have HFJ4:=hid ((hk4 _ HFJ3.out).2);have HJB4:=hid hjb4;obtain⟨V4,hV4⟩:∃V', V' = upd (upd V 4 v4) (15+t) v5:=⟨_,rfl⟩
         rw[←hV4]at hm4 hk4 HK4 HFJ4;have e2:V4 2=.slice (some ⟨pg,po,none⟩) 3 pc:=by rw[hV4,zA0 _ _ (by omega),zA0 _ _ (by omega)];exact HV2.out
         have e3:V4 3=.slice (some ⟨sg,so,none⟩) 4 sc':=by rw[hV4,zA0 _ _ (by omega),zA0 _ _ (by omega)];exact HV3.out
         have E2:=hid e2;have E3:=hid e3;obtain⟨p0,p1,p2,p3,pf⟩:=hm4.port e2 hlt;obtain⟨qa,qc,hqs,_,_⟩:=(hm4.oQueue hlt).shape;obtain⟨oa,oc,hos,_,_⟩:=(hm4.oOut hlt).shape;rw[hqs]at p1;rw[hos]at p2;have HOS:=hid hos;have j1:w4.cell? ⟨wr.heap.size,1,none⟩=some (.int .i64 j.n):=by simp[World.cell?,hjb4]
         have HOO:=hid (hm4.oOut hlt);rw[hos]at HOO;have hp4:=zA3 hm4.bs;have hpg4:pg<w4.heap.size:=(OwnR.lt (hm4.raw.own 2 (by omega)) pg (by rw[e2];rfl)).2;have hjz:wr.heap.size<w4.heap.size:=HFJ4.out.1;obtain⟨ix,hix,hil,hie⟩:=idxP_erase (x.1.ports k).out j.n HOX.out;obtain⟨og,oo,ocp,hoa,_,_,_,_⟩:=OwnR.addr HOO.out (by show(x.1.ports k).out.length≠0;omega);simp only[Value.slice.injEq]at hoa;obtain⟨rfl,_,rfl⟩:=hoa;have HIDX:=hid hix;have HIE:=hid hie;have HIL:=hid hil;have hog:og≠pg:=fun e=>hm4.raw.ap 2 (8+k) (by omega) (by omega) (by omega) pg (by rw[E2.out];rfl) (by rw[HOS.out];simp only[Value.ownBlock];rw[e])
         have HM4:=hid hm4;clear hix hie hil hw4 hv5 hV4 hm4 hk4 hb4 hjb4 e2 e3 hqs hos q0 q1 q2 q3 q4 qf s0 s1 s2 sf;simp only at p0 p1 p2 p3
         go_region_held3 (fun w' => w'.cell? ⟨pg, po + k * 4, none⟩ = some (.int .i64 (x.1.ports k).next) ∧ w'.cell? ⟨pg, po + k * 4 + 1, none⟩ = some (.slice qa (x.1.ports k).queue.length qc) ∧ w'.cell? ⟨pg, po + k * 4 + 2, none⟩ = some (.slice (some ⟨og, oo, none⟩) (x.1.ports k).out.length oc) ∧ w'.cell? ⟨pg, po + k * 4 + 3, none⟩ = some (.int .i64 (x.1.ports k).last) ∧ w'.cell? ⟨wr.heap.size, 1, none⟩ = some (.int .i64 j.n))
          (first|exact s6|go_keep)
          (first
           |(go_at_call 109;(with_reducible refine(outAt_any _ _ qa (some ⟨og,oo,none⟩) _ qc oc j.n (x.1.ports k).out w4.heap.size _ ((jbs_of HOO.out (by show(x.1.ports k).out.length≤_;have:=HO4.out;omega)).below (Below.refl _ _).drew) (Nat.le_refl _)).mono ?_);unfold OutAtP;rw[HIDX.out];rintro e w5 ⟨rfl,hb5⟩;have hb5':=(show Below w4.heap.size w4 w4.drew from(Below.refl _ _).drew).trans hb5;have HB5:=hid hb5';have s6:=And.intro ((hb5'.cell (p:=⟨pg,_,none⟩) hpg4).trans p0) (And.intro ((hb5'.cell (p:=⟨pg,_,none⟩) hpg4).trans p1) (And.intro ((hb5'.cell (p:=⟨pg,_,none⟩) hpg4).trans p2) (And.intro ((hb5'.cell (p:=⟨pg,_,none⟩) hpg4).trans p3) ((hb5'.cell (p:=⟨wr.heap.size,_,none⟩) hjz).trans j1))));clear hb5 hb5'))
         have HM5:=hid (HM4.out.below HB5.out);have HK5:=hid (HK4.out.trans (Kp.below (S:=S) (Hb:=Hb) (V:=V4) HB5.out));have HBB5:=hid (HB4.out.trans (HB5.out.mono (Nat.le_trans HM4.out.s0 (Nat.le_of_lt hp4))));have HJB5:=hid (((Kp.below (S:=S) (Hb:=Hb) (V:=V4) HB5.out _ HFJ4.out).1).trans HJB4.out);have HFJ5:=hid ((Kp.below (S:=S) (Hb:=Hb) (V:=V4) HB5.out _ HFJ4.out).2);have hpg5:pg<w5.heap.size:=Nat.lt_of_lt_of_le hpg4 HB5.out.size;have t2:=(HB5.out.cell (p:=⟨pg,po+k * 4+2,none⟩) hpg4).trans p2;have tf:=(HM5.out.port E2.out hlt).2.2.2.2;have HO5:=hid (HOO.out.below HB5.out);have hix4:(ix:Int)≤4:=by have:=HIL.out;have:=HO4.out;omega
         clear p0 p1 p2 p3 pf j1
         go_upto_region 16 with (first
          |(go_at_call 143;go_loud ((with_reducible refine(delJb_int base og oo oc ix (x.1.ports k).out w5 HO5.out HIL.out).mono ?_);rintro e w6 ⟨rfl,ho6,ht6,hz6⟩;obtain⟨g0,g1⟩:=cell_of (ht6.block pg hpg5 (Ne.symm hog)) (po+k * 4+2);rw[t2]at g0;rw[tf]at g1;have HO6:=hid ho6;have HT6:=hid ht6;have HZ6:=hid hz6;clear ho6 ht6 hz6 t2 tf)))
         obtain⟨v7,hv7⟩:∃v,v=Value.slice (some ⟨og,oo,none⟩) ((x.1.ports k).out.length - 1) oc:=⟨_,rfl⟩
         obtain⟨w7,hw7⟩:∃W,W=w6.setCell ⟨pg,po+k * 4+2,none⟩ (.slice (some ⟨og,oo,none⟩) ((x.1.ports k).out.length - 1) oc):=⟨_,rfl⟩
         rw[←hw7];have hvo:(V4 (8+k)).ownBlock=some og:=by rw[HOS.out];rfl
         obtain⟨N7,C7,hm7,hk7⟩:=HM5.out.setOut hlt E2.out (w1:=w6) (v:=v7) (x:=(x.1.ports k).out.eraseIdx ix) (fun b hb hne=>HT6.out.block b hb (fun e=>hne (by rw[hvo,e]))) (by rw[HZ6.out];exact Nat.le_refl _) (by rw[hv7];exact HO6.out) (fun q hq=>.inl (by rw[hvo];rw[hv7]at hq;exact hq));rw[hv7,←hw7]at hm7 hk7;rw[←hv7]at hm7 hk7;have HK7:=hid (HK5.out.trans hk7);have HJB7:=hid (((hk7 _ HFJ5.out).1).trans HJB5.out);have HFJ7:=hid ((hk7 _ HFJ5.out).2);have hb7:Below base w5 w7:=by
          rw[hw7];exact(HT6.out.below (Nat.le_trans (OwnR.lt HO5.out og rfl).1 (Nat.le_refl _)) (Nat.le_trans HM4.out.s0 (Nat.le_trans (Nat.le_of_lt hp4) HB5.out.size))).setCell (p:=⟨pg,_,none⟩) hpb _
         have HB7:=hid (HBB5.out.trans hb7);obtain⟨V7,hV7⟩:∃V', V' = upd V4 (8+k) v7:=⟨_,rfl⟩
         rw[←hV7]at hm7 hk7 HK7 HFJ7;have e2:V7 2=.slice (some ⟨pg,po,none⟩) 3 pc:=by rw[hV7,zA0 _ _ (by omega)];exact E2.out
         have E7:=hid e2;obtain⟨p0,p1,p2,p3,pf⟩:=hm7.port e2 hlt;have HM7:=hid hm7;clear hw7 hv7 hV7 hm7 hk7 hb7 e2 hvo g0 g1
         go_upto_region 17 with fail
         obtain⟨w8,hw8⟩:∃W,W=w7.setCell ⟨pg,po+k * 4+3,none⟩ (.int .i64 (t:Nat)):=⟨_,rfl⟩
         rw[←hw8];obtain⟨N8,C8,hm8,hk8⟩:=HM7.out.setLast hlt E7.out t;rw[←hw8]at hm8 hk8;have HK8:=hid (HK7.out.trans hk8);have hjb8:=((hk8 _ HFJ7.out).1).trans HJB7.out;have j1:w8.cell? ⟨wr.heap.size,1,none⟩=some (.int .i64 j.n):=by simp[World.cell?,hjb8]
         have HB8:=hid (HB7.out.trans (show Below base w7 w8 by rw[hw8];exact(Below.refl _ _).setCell (p:=⟨pg,_,none⟩) hpb _));have HM8:=hid hm8;clear hw8 hm8 hk8 hjb8 p0 p1 p2 p3 pf
         go_wp2_with (first
          |(go_at_call 144;go_loud ((with_reducible refine(add_tell k j.n HM8.out (by have:=HLEN.out;omega)).mono ?_);rintro e w9 ⟨rfl,v9,N9,C9,hm9,hb9,_,hk9⟩;have HM9:=hid hm9;have HB9:=hid (HB8.out.trans hb9);have HK9:=hid (HK8.out.trans hk9);clear hm9 hb9 hk9)))
         have HST := hid (HM9.out.congr (st' := (tell1 inp k x).1) (ev' := (tell1 inp k x).2) (by
          rw[HIT.out];simp only[zD4,upd_upd,zA1,HY.out,HIE.out,List.map_append,List.map_cons,List.map_nil,HYJ.out,HM.out.con.t4]) (by rw[HIT.out];rfl))
         go_roundw
         case rel=>exact⟨k+1,by omega,by go_num,by rw[HX1.out];exact good_tell1 HG.out hlt,by rw[HX1.out];have:=tell1_len inp k x;have:=HLEN.out;omega,by rw[HX1.out];exact⟨_,_,_,_,HST.out,HK9.out⟩,HB9.out⟩
         case measure=>simp[intOf];omega
       ·have hq:((j.who:Int) != (k:Int))=true:=by rw[bne_iff_ne];omega
        have HQ:=hid (show tellM x.1 k m=false by rw[tellM_eq HT.out,HD0.out];simp[hjk]);clear c1 c2 c3 c4 sf s0 s2 hjk
        go_wp2_with fail
        go_roundw
        case rel => exact ⟨m + 1, by omega, by omega, by go_num, by first | rfl | trivial, fun i h1 h2 => by
         by_cases e:i=m
         ·subst e;exact HQ.out
         ·exact HNO.out i h1 (by omega)⟩
        case measure=>simp[intOf];omega
     ·have HQ:=hid (tell1_miss (inp:=inp) (who:=k) (x:=x) (fun j h1 h2=>HNO.out j h1 (by omega)));have h4i:¬(m:Int)≤4:=by omega
      go_wp2_with fail
      go_roundw
      case rel=>exact⟨k+1,by omega,by go_num,by rw[HX1.out,HQ.out];exact HG.out,by rw[HX1.out,HQ.out];have:=HLEN.out;omega,by rw[HX1.out,HQ.out];exact⟨_,_,_,_,HM.out,HKP.out⟩,HBL.out⟩
      case measure=>simp[intOf];omega
  ·obtain rfl:k=3:=by omega
   go_wp2_with fail
   exact bodyPost_end (v:=.tuple #[]) (by simp[results,Tryz.results90,go_sem]) rfl ⟨rfl,V,N,C,D,hm,HKB.out.trans HKP.out,hbl⟩
theorem CyM.popQueue {w : World} {base S Hb : Nat} {L : Nat → Value} {st : Cy} {ev : List Ev} {V : Nat → Value} {N : Nat → Nat} {C : Nat → List Value} {D : Nat → List TJV} (h : CyM w base S Hb L st ev V N C D) {i g off cap dg dof dn dcp : Nat} (hi : i < 3) (hV : V 2 = .slice (some ⟨g, off, none⟩) 3 cap)
  {n:Nat} {rest:List Nat} (hq:(st.ports i).queue=n::rest) (hv:V (5+i)=.slice (some ⟨dg,dof,none⟩) dn dcp) {A:Addr} (hA:(if dcp=1 then(some ⟨dg,dof,none⟩:Option Addr) else some ⟨dg,dof+1,none⟩)=some A) :
  ∃N' C', CyM (w.setCell ⟨g,off+i * 4+1,none⟩ (.slice (some A) rest.length (dcp - 1))) base S Hb L { st with ports:=upd st.ports i { st.ports i with queue:=rest } } ev (upd V (5+i) (.slice (some A) rest.length (dcp - 1))) N' C' D∧Kp S Hb V w (upd V (5+i) (.slice (some A) rest.length (dcp - 1))) (w.setCell ⟨g,off+i * 4+1,none⟩ (.slice (some A) rest.length (dcp - 1))):=by
 have ho:=h.oQueue hi;rw[hq,hv]at ho;obtain⟨h1,h2⟩:=Owns.pop (f:=rowN) (sz:=1) (fun _=>rfl) ho hA;have hk:∀b,b<w.heap.size→(V (5+i)).ownBlock≠some b→w.heap[b]? = w.heap[b]?:=fun _ _ _=>rfl
 have hvv:∀k,(Value.slice (some A) rest.length (dcp - 1)).ownBlock=some k→(V (5+i)).ownBlock=some k∨w.heap.size≤k:=fun k hk=>by
  left;rw[hv];simp only[Value.ownBlock]at hk ⊢;rw[←hk,h2]
 exact h.setQueue hi hV hk (Nat.le_refl _) h1 hvv
theorem CyM.popPipe {w : World} {base S Hb : Nat} {L : Nat → Value} {st : Cy} {ev : List Ev} {V : Nat → Value} {N : Nat → Nat} {C : Nat → List Value} {D : Nat → List TJV} (h : CyM w base S Hb L st ev V N C D) {s g off cap dg dof dn dcp : Nat} (hs : s < 4) (hV : V 3 = .slice (some ⟨g, off, none⟩) 4 cap)
  {j:Jb} {rest:List Jb} (hq:(st.slaves s).pipe=j::rest) (hv:V (11+s)=.slice (some ⟨dg,dof,none⟩) dn dcp) {A:Addr} (hA:(if dcp=1 then(some ⟨dg,dof,none⟩:Option Addr) else some ⟨dg,dof+3,none⟩)=some A) :
  ∃N' C', CyM (w.setCell ⟨g,off+s * 3,none⟩ (.slice (some A) rest.length (dcp - 1))) base S Hb L { st with slaves:=upd st.slaves s { st.slaves s with pipe:=rest } } ev (upd V (11+s) (.slice (some A) rest.length (dcp - 1))) N' C' D∧Kp S Hb V w (upd V (11+s) (.slice (some A) rest.length (dcp - 1))) (w.setCell ⟨g,off+s * 3,none⟩ (.slice (some A) rest.length (dcp - 1))):=by
 have ho:=h.oPipe hs;rw[hq,hv]at ho;obtain⟨h1,h2⟩:=Owns.pop (f:=jbRow) (sz:=3) (fun _=>rfl) ho hA;have hk:∀b,b<w.heap.size→(V (11+s)).ownBlock≠some b→w.heap[b]? = w.heap[b]?:=fun _ _ _=>rfl
 have hvv:∀k,(Value.slice (some A) rest.length (dcp - 1)).ownBlock=some k→(V (11+s)).ownBlock=some k∨w.heap.size≤k:=fun k hk=>by
  left;rw[hv];simp only[Value.ownBlock]at hk ⊢;rw[←hk,h2]
 exact h.setPipe hs hV hk (Nat.le_refl _) h1 hvv
theorem let1_full {c:Cfg} {s:Nat} {y:Lt} (h:¬(y.st.slaves s).pipe.length<2):let1 c s y=y:=by unfold let1;rw[if_neg h]
theorem let1_miss {c:Cfg} {s:Nat} {y:Lt} (h:∀j,1≤j→j≤3→letM c s y j=false):let1 c s y=y:=by unfold let1;rw[firstK_miss h];split <;> rfl
theorem letM_eq {c:Cfg} {s k who:Nat} {y:Lt} (hk:((y.st.slaves s).last+k) % 3=who):letM c s y k=(!y.used who&&may c y.st who s):=by unfold letM;rw[hk]
theorem may_queue {c:Cfg} {st:Cy} {who s:Nat} (h:may c st who s=true):∃n rest,(st.ports who).queue=n::rest:=by
 unfold may at h
 split at h
 ·cases h
 ·exact⟨_,_,by assumption⟩
theorem let1_hit {c : Cfg} {s k who n : Nat} {rest : List Nat} {y : Lt} (hp : (y.st.slaves s).pipe.length < 2) (h1 : 1 ≤ k) (h3 : k ≤ 3) (hb : ∀ i, 1 ≤ i → i < k → letM c s y i = false) (hk : ((y.st.slaves s).last + k) % 3 = who) (hm : (!y.used who && may c y.st who s) = true) (hq : (y.st.ports who).queue = n :: rest) :
  let1 c s y=letDo c s who n rest y:=by
 unfold let1;rw[if_pos hp,firstK_hit h1 h3 (by rw[letM_eq hk];exact hm) hb];simp only[hk,hq]
def letsV (L:Nat→Value) (l:Nat→Nat):Nat→Value:=fun s=>if l s=0 then L s else .int .i64 (l s:Nat)
theorem letsV_put (L:Nat→Value) (l:Nat→Nat) (s:Nat):upd (letsV L l) s (.int .i64 ((1:Nat):Int))=letsV L (upd l s 1):=by
 funext j
 unfold letsV upd
 split <;> simp_all
theorem letsV_zero (L:Nat→Value):letsV L (fun _=>0)=L:=by funext j;simp[letsV]
def UseB (w:World) (g:Nat) (u:Nat→Bool):Prop:=w.heap[g]? = some (.cells #[.bool (u 0),.bool (u 1),.bool (u 2)] 185 (0,0))
theorem UseB.cells {w:World} {g:Nat} {u:Nat→Bool} (h:UseB w g u) {k:Nat} (hk:k<3):w.cell? ⟨g,k,none⟩=some (.bool (u k))∧w.frozen? ⟨g,k,none⟩=false∧g<w.heap.size:=by
 have:=zA3 h;unfold UseB at h;rcases(show k=0∨k=1∨k=2 by omega)with rfl|rfl|rfl <;> exact⟨by simp[World.cell?,h],by simp[World.frozen?,h],this⟩
theorem UseB.put {w:World} {g:Nat} {u:Nat→Bool} (h:UseB w g u) {k:Nat} (hk:k<3) (b:Bool):UseB (w.setCell ⟨g,k,none⟩ (.bool b)) g (upd u k b):=by
 unfold UseB at h ⊢;rcases(show k=0∨k=1∨k=2 by omega)with rfl|rfl|rfl <;> simp[World.setCell,Array.getElem?_modify,h,upd]
theorem IntsD.apart {w:World} {P:Nat→Prop} {v:Value} {xs:List Int} {g:Nat} {u:Nat→Bool} (h:IntsD w P v xs) (hu:UseB w g u):IntsD w (fun b=>P b∧b≠g) v xs:=by
 obtain⟨⟨ao,cap,hv,h1,h2,h0,h9,h3⟩,hx⟩:=h;refine⟨⟨ao,cap,hv,h1,h2,h0,h9,fun hn=>?_⟩,hx⟩;obtain⟨b,off,ha,hP,hc⟩:=h3 hn;refine⟨b,off,ha,⟨hP,?_⟩,hc⟩;rintro rfl;have e:=hc 0 (by omega) 0 (by omega);rcases xs with _|⟨x,xs⟩
 ·simp at hn
 ·unfold UseB at hu;simp[World.cell?,hu,rowI,List.getD]at e;rcases(show off=0∨off=1∨off=2∨3≤off by omega)with rfl|rfl|rfl|h3
  ·simp at e
  ·simp at e
  ·simp at e
  ·obtain⟨m,rfl⟩:∃m,off=m+3:=⟨off - 3,by omega⟩
   simp at e
theorem DatP.apart {L:Nat→Value} {w:World} {P:Nat→Prop} {x:TJV} {g:Nat} {u:Nat→Bool} (h:DatP L w P x) (hu:UseB w g u):DatP L w (fun b=>P b∧b≠g) x:=⟨h.1.apart hu,h.2⟩
theorem CyM.usedPut {w : World} {base S Hb : Nat} {L : Nat → Value} {st : Cy} {ev : List Ev} {V : Nat → Value} {N : Nat → Nat} {C : Nat → List Value} {D : Nat → List TJV} (h : CyM w base S Hb L st ev V N C D) {g : Nat} {u : Nat → Bool} (hu : UseB w g u) (hf : DFree V S Hb w g) (k : Nat) (v : Value) :
  CyM (w.setCell ⟨g,k,none⟩ v) base S Hb L st ev V N C D:=by
 have hset:∀b,b≠g→(w.setCell ⟨g,k,none⟩ v).heap[b]? = w.heap[b]?:=fun b hb=>Below.heap_setCell _ _ _ _ hb
 refine⟨h.raw.kept fun b _ hb=>hset b (fun e=>hb (by rw[e];exact hf.2.1)),h.con,(hset S (Ne.symm hf.2.2.1)).trans h.bs,(hset Hb (Ne.symm hf.2.2.2)).trans h.bh,h.fs,h.fh,h.ne,h.s0,h.h0,fun i hi b hb=>by simpa using h.lx i hi b hb,fun ν hν x hx=>?_⟩;exact(((h.dat ν hν x hx).apart hu).kept fun b hb=>hset b hb.2).weak fun b hb=>⟨by simpa using hb.1.1,hb.1.2⟩
theorem Kp.old {S Hb:Nat} {V V':Nat→Value} {w w':World} (h:Kp S Hb V w V' w') {g:Nat} (hg:w.heap.size≤g) (k:Nat) (v:Value):Kp S Hb V w V' (w'.setCell ⟨g,k,none⟩ v):=fun b hb=>by
 have hb1:=hb.1;exact⟨(Below.heap_setCell _ _ _ _ (show b≠g by omega)).trans (h b hb).1,by simpa using(h b hb).2.1,(h b hb).2.2⟩
def LetP (base S Hb:Nat) (L:Nat→Value) (ev:List Ev) (y:Lt) (V:Nat→Value) (w:World) (e:Ending) (w':World):Prop:=e=.returned (.tuple #[])∧∃V' N' C' D', CyM w' base S Hb (letsV L y.lets) y.st ev V' N' C' D' ∧ Kp S Hb V w V' w' ∧ Below base w w'
end Go.Proofs.YtgkdoehkmbhfiaaGreat
