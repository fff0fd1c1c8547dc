/- CycOk of a bus that stands as it may. -/
import Derived.Test.YtenjbhbcacocjaaGreatGTg
import Derived.Test.YtenjbhbcacocjaaGreatGSk
import Derived.Test.YtenjbhbcacocjaaGreatGCa
import Derived.Test.YtenjbhbcacocjaaGreatGCpy
set_option linter.unusedVariables false
set_option linter.unusedSimpArgs false
namespace Go.Proofs.YtenjbhbcacocjaaGreat
open Go.RowKit
theorem rspOk_len {r:Rs} (h:rspOk r = true):r.data.length ≤ 4:=by
 unfold rspOk at h
 simp only [Bool.and_eq_true,decide_eq_true_eq] at h
 exact h.1.2
theorem smallC_of {c:Cfg} (hb:Bus c) {st:Cy} (hg:Good c st):SmallC st:=by
 have ha:=hg.atm
 simp only [atmOk,memOk,Bool.and_eq_true,beq_iff_eq] at ha
 have h12:∀ w,w < 3 → (st.ports w).next ≤ 12:=fun w hw => Nat.le_trans (hg.p w hw).nx (hb.twelve hw)
 refine ⟨by omega,by omega,⟨?_,fun j hj => ?_⟩,fun i hi => ?_,fun i hi => ?_,fun s hs => ?_,fun s hs => ⟨?_,fun j hj => ?_⟩⟩
 ·have h1:st.told.length ≤ (kAll st).length:=by unfold kAll kTold;rw [List.length_append,List.length_append,List.length_map];omega
  rw [hg.many hb] at h1
  have:=h12 0 (by omega);have:=h12 1 (by omega);have:=h12 2 (by omega);omega
 ·have:=rspOk_len (hg.t j hj).2.1;omega
 ·have:=(hg.p i hi).q2;omega
 ·have:=(hg.p i hi).o4;omega
 ·have:=(hg.s s hs).p2;omega
 ·have:=(hg.s s hs).d2;omega
 ·have:=rspOk_len ((hg.s s hs).dr j hj).1;omega
def outsN (st:Cy) (k:Nat):Nat:=((List.range k).map fun i => (st.ports i).out.length).sum
def heldN (st:Cy) (k:Nat):Nat:=((List.range k).map fun s => (st.slaves s).pipe.length + (st.slaves s).done.length).sum
theorem outsN_succ (st:Cy) (k:Nat):outsN st (k + 1) = outsN st k + (st.ports k).out.length:=by unfold outsN;rw [List.range_succ];simp
theorem heldN_succ (st:Cy) (k:Nat):heldN st (k + 1) = heldN st k + ((st.slaves k).pipe.length + (st.slaves k).done.length):=by unfold heldN;rw [List.range_succ];simp
theorem Good.even {c:Cfg} (hb:Bus c) {st:Cy} (hg:Good c st):heldN st 4 = outsN st 3:=by
 have:=hg.sums hb
 simp [heldN,outsN,List.range_succ];omega
theorem Bx.four {W:World} {H:Nat} {a b c d:Value} (h:Bx W H [a,b,c,d]):(W.cell? ⟨H,0,none⟩ = some a ∧ W.cell? ⟨H,1,none⟩ = some b ∧ W.cell? ⟨H,2,none⟩ = some c ∧ W.cell? ⟨H,3,none⟩ = some d) ∧ W.frozen? ⟨H,0,none⟩ = false ∧ W.frozen? ⟨H,1,none⟩ = false ∧ W.frozen? ⟨H,2,none⟩ = false ∧ W.frozen? ⟨H,3,none⟩ = false :=
 ⟨⟨h.c 0 (by simp),h.c 1 (by simp),h.c 2 (by simp),h.c 3 (by simp)⟩,h.f 0 (by simp),h.f 1 (by simp),h.f 2 (by simp),h.f 3 (by simp)⟩
theorem JobsV.len {w:World} {B:Nat} {a:Option Addr} {n c:Nat} {js:List TJ} (h:JobsV w B (.slice a n c) js):n = js.length:=by
 obtain ⟨D,⟨_,_,e,_⟩,hD,_⟩:=h
 simp only [Value.slice.injEq,List.length_map] at e
 rw [e.2.1,← hD,List.length_map]
theorem Jbs.len {w:World} {B:Nat} {a:Option Addr} {n c:Nat} {js:List Jb} (h:Jbs w B (.slice a n c) js):n = js.length:=by
 obtain ⟨_,_,e,_⟩:=h
 simp only [Value.slice.injEq,List.length_map] at e
 exact e.2.1
theorem Nats.len {w:World} {B:Nat} {a:Option Addr} {n c:Nat} {js:List Nat} (h:Nats w B (.slice a n c) js):n = js.length:=by
 obtain ⟨_,_,e,_⟩:=h
 simp only [Value.slice.injEq,List.length_map] at e
 exact e.2.1
set_option maxRecDepth 8000 in
set_option maxHeartbeats 16000000 in
theorem cycOk_any {c:Cfg} (hbus:Bus c) {w:World} {B:Nat} {u:Value} (hc:BusV w B u c) {a0 a1 a2 a3 a4:Value} {st:Cy} {P:List PS} {Q:List SS} (h:CyV w B a0 a1 a2 a3 a4 st P Q) (hB:B ≤ w.heap.size) (hg:Good c st) :
  Calls Tryz.prog 20 #[u,.agg #[a0,a1,a2,a3,a4]] w fun e w' => e = .returned (.bool true) ∧ Below w.heap.size w w':=by
 obtain ⟨mv,lb,lo,lc,pb,po,pc,QQ,K,rfl,⟨ma,mn,mk,rfl⟩,_,_,_,_,_,_⟩:=hc.opened hbus
 obtain ⟨pg,pgo,pgc,rfl,pc1,pc2,pgB,hpc⟩:=h.ps.at (by rw [h.lp];omega)
 obtain ⟨tg,tp,tc,rfl,tc1,tc2,tgB,htc⟩:=h.ss.at (by rw [h.lq];omega)
 obtain ⟨ya,yb,rfl⟩:∃ a c,a0 = .slice a st.ws.length c:=by obtain ⟨a,c,e,_⟩:=h.ws.1;exact ⟨a,c,by simpa using e⟩
 obtain ⟨za,zb,rfl⟩:∃ a c,a1 = .slice a st.hs.length c:=by obtain ⟨a,c,e,_⟩:=h.hs.1;exact ⟨a,c,by simpa using e⟩
 obtain ⟨ua,un,ub,rfl⟩:∃ a n c,a4 = .slice a n c:=by obtain ⟨D,⟨a,c,e,_⟩,_⟩:=h.told;exact ⟨a,_,c,e⟩
 rw [h.lp] at h pc1 hpc ⊢
 rw [h.lq] at h tc1 htc ⊢
 have HC:=hid h;have HG:=hid hg;have HPC:=hid hpc;have HTC:=hid htc;have HBV:=hid hc
 obtain ⟨yn,hyn⟩:∃ x,x = st.ws.length:=⟨_,rfl⟩
 obtain ⟨zn,hzn⟩:∃ x,x = st.hs.length:=⟨_,rfl⟩
 rw [← hyn,← hzn] at HC ⊢
 have HYN:=hid hyn;have HZN:=hid hzn
 have HBO:=hid (fun (W:World) (hW:Below w.heap.size w W) => (show Calls Tryz.prog 26 #[.agg #[.slice ma mn mk,.slice (some ⟨lb,lo,none⟩) 4 lc,.slice (some ⟨pb,po,none⟩) 3 pc]] W fun e w' => e = .returned (.bool true) ∧ Below W.heap.size W w' from
  busOk_good hbus (HBV.out.below (hW.mono hB)) (Nat.le_trans hB hW.size)))
 have HAT:=hid (fun (W:World) (hW:Below w.heap.size w W) => (show Calls Tryz.prog 50 #[.agg #[.slice ya yn yb,.slice za zn zb]] W fun e w' => e = .returned (.bool true) ∧ Below W.heap.size W w' from by
  have:=implAtmOk_any (.agg #[.slice ya yn yb,.slice za zn zb]) st.ws st.hs B W ⟨_,_,rfl,HC.out.ws.below (hW.mono hB),HC.out.hs.below (hW.mono hB)⟩ (Nat.le_trans hB hW.size)
  rw [HG.out.atm] at this;exact this))
 have HSL:=hid (fun (W:World) (hW:Below w.heap.size w W) (s:Nat) (hs:s < 4) => (show Calls Tryz.prog 52 #[.agg #[.slice ma mn mk,.slice (some ⟨lb,lo,none⟩) 4 lc,.slice (some ⟨pb,po,none⟩) 3 pc],.agg #[.slice ya yn yb,.slice za zn zb,.slice (some ⟨pg,pgo,none⟩) 3 pgc,.slice (some ⟨tg,tp,none⟩) 4 tc,.slice ua un ub],.int .i64 s] W fun e w' => e = .returned (.bool true) ∧ Below W.heap.size W w' from
  slaveOk_any hbus (HBV.out.below (hW.mono hB)) (HC.out.below (hW.mono hB)) (Nat.le_trans hB hW.size) HG.out hs))
 have HAB:=hid (fun (W:World) (hW:Below w.heap.size w W) => (show Calls Tryz.prog 54 #[.agg #[.slice ya yn yb,.slice za zn zb,.slice (some ⟨pg,pgo,none⟩) 3 pgc,.slice (some ⟨tg,tp,none⟩) 4 tc,.slice ua un ub]] W (AbsP st W) from
  cycAbs_any (HC.out.below (hW.mono hB)) (Nat.le_trans hB hW.size) HG.out (smallC_of hbus HG.out)))
 obtain ⟨w0,hw0⟩:∃ W,W = (w.alloc (.cells #[.slice ma mn mk,.slice (some ⟨lb,lo,none⟩) 4 lc,.slice (some ⟨pb,po,none⟩) 3 pc] 27)).alloc (.cells #[.slice ya yn yb,.slice za zn zb,.slice (some ⟨pg,pgo,none⟩) 3 pgc,.slice (some ⟨tg,tp,none⟩) 4 tc,.slice ua un ub] 39):=⟨_,rfl⟩
 have hb0:Below w.heap.size w w0:=by rw [hw0];exact ((Below.refl _ _).alloc (Nat.le_refl _) _).alloc (by simp) _
 have B1:=hid (show BusB w0 w.heap.size ma mn mk lb lo lc pb po pc by unfold BusB;rw [hw0,((Below.refl _ _).alloc (Nat.le_refl _) _).block _ (by simp)];exact alloc_at _ _ rfl)
 obtain ⟨gT,hgT⟩:∃ g,g = w.heap.size + 1:=⟨_,rfl⟩
 have HT:=hid (show Bx w0 gT [.slice ya yn yb,.slice za zn zb,.slice (some ⟨pg,pgo,none⟩) 3 pgc,.slice (some ⟨tg,tp,none⟩) 4 tc,.slice ua un ub] by
  rw [hw0,hgT];have:=Bx.new (w.alloc (.cells #[.slice ma mn mk,.slice (some ⟨lb,lo,none⟩) 4 lc,.slice (some ⟨pb,po,none⟩) 3 pc] 27)) #[.slice ya yn yb,.slice za zn zb,.slice (some ⟨pg,pgo,none⟩) 3 pgc,.slice (some ⟨tg,tp,none⟩) 4 tc,.slice ua un ub] 39 (by simp);simpa using this)
 have HB0:=hid hb0
 obtain ⟨b0,b1,b2,bz⟩:=B1.out.cells
 obtain ⟨t0,t1,t2,t3,t4⟩:=HT.out.five.1
 clear hc h hg hpc htc hyn hzn hb0
 go_enter Tryz.func20,Tryz.ntmps20
 go_upto_region 1 with fail
 rw [← hw0,← hgT]
 have HGT:=hid hgT
 clear hw0 hgT
 go_upto_region 4 with (first
  | (go_at_call 26;go_loud ((with_reducible refine (HBO.out _ HB0.out).mono ?_));rintro e w1 ⟨rfl,hb1⟩;have HQ1:=hid hb1;have HB1:=hid (HB0.out.trans (hb1.mono HB0.out.size));have HT1:=hid (HT.out.below hb1 HT.out.lt);have BB1:=hid (B1.out.below hb1 (heap_lt' B1.out));clear hb1 t0 t1 t2 t3 t4 b0 b1 b2 bz;obtain ⟨t0,t1,t2,t3,t4⟩:=HT1.out.five.1)
  | (go_at_call 50;go_loud ((with_reducible refine (HAT.out _ HB1.out).mono ?_));rintro e w2 ⟨rfl,hb2⟩;have HQ2:=hid (HQ1.out.trans (hb2.mono HQ1.out.size));have HB2:=hid (HB1.out.trans (hb2.mono HB1.out.size));have HT2:=hid (HT1.out.below hb2 HT1.out.lt);have BB2:=hid (BB1.out.below hb2 (heap_lt' BB1.out));clear hb2 t0 t1 t2 t3 t4;obtain ⟨t0,t1,t2,t3,t4⟩:=HT2.out.five.1))
 clear t0 t1 t3 t4
 go_wp2_with fail
 clear t2
 go_loopw [5,35] (fun s i wr => ∃ k:Nat,i = .int .i64 k ∧ k ≤ 3 ∧ s = .int .i64 (outsN st k:Nat) ∧ outsN st k ≤ 4 * k ∧ Below w2.heap.size w2 wr) (fun _ i _ => 3 - (intOf i).toNat)
 case atStart => exact ⟨0,by go_num,Nat.zero_le _,rfl,by simp [outsN],Below.refl _ _⟩
 case round =>
  obtain ⟨k,rfl,hk,rfl,hsm,hbr⟩:=hrel
  have HBR:=hid hbr
  have HBW:=hid (HB2.out.trans (hbr.mono HB2.out.size))
  have HTR:=hid (HT2.out.below hbr HT2.out.lt)
  have BBR:=hid (BB2.out.below hbr (heap_lt' BB2.out))
  clear hbr
  by_cases hlt:k < 3
  ·have hki:(k:Int) < 3:=by omega
   have hpn:=HC.out.pn k hlt
   have hqv:=HC.out.q k hlt
   have hov:=HC.out.o k hlt
   have hp5:∀ j,j < 4 → wr.cell? ⟨pg,pgo + k * 4 + j,none⟩ = (rowPS (P.getD k default))[j]?:=fun j hj => by
    rw [HBW.out.cell (p:=⟨pg,_,none⟩) (by show pg < w.heap.size;omega)];exact HPC.out k default hlt j hj
   obtain ⟨x,hx⟩:∃ x,x = P.getD k default:=⟨_,rfl⟩
   rw [← hx] at hpn hqv hov hp5
   obtain ⟨nx,⟨qa,qn,qc⟩,⟨oa,on,oc⟩,la⟩:=x
   have p0:=hp5 0 (by omega);have p1:=hp5 1 (by omega);have p2:=hp5 2 (by omega);have p3:=hp5 3 (by omega)
   simp only [rowPS,sl,List.getElem?_cons_zero,List.getElem?_cons_succ,Nat.add_zero] at p0 p1 p2 p3
   simp only [sl] at hqv hov hpn
   have hqn:=hqv.len
   have hon:=hov.len
   have HPK:=hid (fun (W:World) (hW:Below w.heap.size w W) => (show Calls Tryz.prog 51 #[.agg #[.slice ma mn mk,.slice (some ⟨lb,lo,none⟩) 4 lc,.slice (some ⟨pb,po,none⟩) 3 pc],.int .i64 k,.agg #[.int .i64 (nx:Nat),.slice qa qn qc,.slice oa on oc,.int .i64 (la:Nat)]] W fun e w' => e = .returned (.bool true) ∧ Below W.heap.size W w' from by
    have:=portOk_any hbus (HBV.out.below (hW.mono hB)) (Nat.le_trans hB hW.size) hlt (HG.out.p k hlt) (qa:=qa) (qc:=qc) (oa:=oa) (oc:=oc) (by rw [← hqn];exact hqv.below (hW.mono hB)) (by rw [← hon];exact hov.below (hW.mono hB))
    rw [← hpn.1,← hpn.2,← hqn,← hon] at this;exact this))
   have HON:=hid (show outsN st (k + 1) = outsN st k + on by rw [outsN_succ,hon])
   have ho4:on ≤ 4:=by rw [hon];exact (HG.out.p k hlt).o4
   have H4:=hid (show outsN st (k + 1) ≤ 4 * (k + 1) by rw [HON.out];omega)
   obtain ⟨sm,hsm2⟩:∃ x,x = outsN st k:=⟨_,rfl⟩
   rw [← hsm2] at hsm HON ⊢
   obtain ⟨sy,hsy⟩:∃ y,y = sm + on:=⟨_,rfl⟩
   rw [← hsy] at HON
   have ew:IntKind.i64.wrap ((sm:Int) + (on:Int)) = (sy:Int):=by rw [IntKind.wrap_i64];omega
   clear hp5 hx hpn hqv hov hqn hon hsm2 ho4 hsy
   go_upto_region 7 with fail
   clear p0 p1 p2 p3
   obtain ⟨W3,hW3⟩:∃ W,W = wr.alloc (.cells #[.int .i64 (nx:Nat),.slice qa qn qc,.slice oa on oc,.int .i64 (la:Nat)] 49):=⟨_,rfl⟩
   obtain ⟨gp,hgp⟩:∃ g,g = wr.heap.size:=⟨_,rfl⟩
   rw [← hW3,← hgp]
   have hb3:Below wr.heap.size wr W3:=by rw [hW3];exact (Below.refl _ _).alloc (Nat.le_refl _) _
   have hpt:Bx W3 gp [.int .i64 (nx:Nat),.slice qa qn qc,.slice oa on oc,.int .i64 (la:Nat)]:=by rw [hW3,hgp];exact Bx.new wr #[.int .i64 (nx:Nat),.slice qa qn qc,.slice oa on oc,.int .i64 (la:Nat)] 49 (by simp)
   have HPT:=hid hpt
   have HB3:=hid hb3
   have HBW3:=hid (HBW.out.trans (hb3.mono HBW.out.size))
   have BB3:=hid (BBR.out.below hb3 (heap_lt' BBR.out))
   obtain ⟨b0,b1,b2,bz⟩:=BB3.out.cells
   obtain ⟨⟨n0,n1,n2,n3⟩,_⟩:=HPT.out.four
   clear hW3 hgp hb3 hpt
   go_upto_region 9 with (go_at_call 51;go_loud ((with_reducible refine (HPK.out _ HBW3.out).mono ?_));rintro e w4 ⟨rfl,hb4⟩;have HB4:=hid hb4;have HPT4:=hid (HPT.out.below hb4 HPT.out.lt);clear hb4 n0 n1 n2 n3 b0 b1 b2 bz;obtain ⟨⟨n0,n1,n2,n3⟩,_⟩:=HPT4.out.four)
   clear n0 n1 n3
   go_wp2_with fail
   go_roundw
   case rel => exact ⟨k + 1,by go_num,by omega,by rw [HON.out],H4.out,(HBR.out.trans (HB3.out.mono HBR.out.size)).trans (HB4.out.mono (Nat.le_trans HBR.out.size HB3.out.size))⟩
   case measure => simp [intOf];omega
  ·obtain rfl:k = 3:=by omega
   rw [show (((3:Nat)):Int) = (3:Int) from rfl]
   obtain ⟨so,hso⟩:∃ x,x = outsN st 3:=⟨_,rfl⟩
   rw [← hso]
   have HSO:=hid hso
   obtain ⟨t0,t1,t2,t3,t4⟩:=HTR.out.five.1
   clear hso hsm t0 t1 t2 t4
   go_wp2_with fail
   clear t3
   obtain ⟨wo,hwo⟩:∃ W,W = wr:=⟨_,rfl⟩
   subst hwo
   go_loopw [6,54] (fun s i wr => ∃ k:Nat,i = .int .i64 k ∧ k ≤ 4 ∧ s = .int .i64 (heldN st k:Nat) ∧ heldN st k ≤ 4 * k ∧ Below wo.heap.size wo wr) (fun _ i _ => 4 - (intOf i).toNat)
   case atStart => exact ⟨0,by go_num,Nat.zero_le _,rfl,by simp [heldN],Below.refl _ _⟩
   case round =>
    obtain ⟨k,rfl,hk,rfl,hsm,hbr⟩:=hrel
    have HBX:=hid (HBW.out.trans (hbr.mono HBW.out.size))
    have HTX:=hid (HTR.out.below hbr HTR.out.lt)
    have BBX:=hid (BBR.out.below hbr (heap_lt' BBR.out))
    have HBR2:=hid hbr
    clear hbr
    by_cases hlt:k < 4
    ·have hki:(k:Int) < 4:=by omega
     have hpv:=HC.out.p k hlt
     have hdv:=HC.out.d k hlt
     have hp5:∀ j,j < 3 → wr.cell? ⟨tg,tp + k * 3 + j,none⟩ = (rowSS (Q.getD k default))[j]?:=fun j hj => by
      rw [HBX.out.cell (p:=⟨tg,_,none⟩) (by show tg < w.heap.size;omega)];exact HTC.out k default hlt j hj
     obtain ⟨x,hx⟩:∃ x,x = Q.getD k default:=⟨_,rfl⟩
     rw [← hx] at hpv hdv hp5
     obtain ⟨⟨qa,qn,qc⟩,⟨da,dn,dc⟩,la⟩:=x
     have p0:=hp5 0 (by omega);have p1:=hp5 1 (by omega);have p2:=hp5 2 (by omega)
     simp only [rowSS,sl,List.getElem?_cons_zero,List.getElem?_cons_succ,Nat.add_zero] at p0 p1 p2
     simp only [sl] at hpv hdv
     have hqn:=hpv.len
     have hdn:=hdv.len
     have q2:qn ≤ 2:=by rw [hqn];exact (HG.out.s k hlt).p2
     have d2:dn ≤ 2:=by rw [hdn];exact (HG.out.s k hlt).d2
     have HON:=hid (show heldN st (k + 1) = heldN st k + (qn + dn) by rw [heldN_succ,hqn,hdn])
     have H4:=hid (show heldN st (k + 1) ≤ 4 * (k + 1) by rw [HON.out];omega)
     obtain ⟨sm,hsm2⟩:∃ x,x = heldN st k:=⟨_,rfl⟩
     rw [← hsm2] at hsm HON ⊢
     obtain ⟨hn,hhn⟩:∃ y,y = qn + dn:=⟨_,rfl⟩
     rw [← hhn] at HON
     obtain ⟨sy,hsy⟩:∃ y,y = sm + hn:=⟨_,rfl⟩
     rw [← hsy] at HON
     have ew1:IntKind.i64.wrap ((qn:Int) + (dn:Int)) = (hn:Int):=by rw [IntKind.wrap_i64];omega
     have ew:IntKind.i64.wrap ((sm:Int) + (hn:Int)) = (sy:Int):=by rw [IntKind.wrap_i64];omega
     clear hp5 hx hpv hdv hqn hdn hsm2 q2 d2 hhn hsy
     obtain ⟨b0,b1,b2,bz⟩:=BBX.out.cells
     obtain ⟨t0,t1,t2,t3,t4⟩:=HTX.out.five.1
     go_upto_region 14 with fail
     clear p0 p1 p2 b0 b1 b2 bz t0 t1 t2 t3 t4
     obtain ⟨W3,hW3⟩:∃ W,W = wr.alloc (.cells #[.slice qa qn qc,.slice da dn dc,.int .i64 (la:Nat)] 62):=⟨_,rfl⟩
     obtain ⟨gp,hgp⟩:∃ g,g = wr.heap.size:=⟨_,rfl⟩
     rw [← hW3,← hgp]
     have hb3:Below wr.heap.size wr W3:=by rw [hW3];exact (Below.refl _ _).alloc (Nat.le_refl _) _
     have hpt:Bx W3 gp [.slice qa qn qc,.slice da dn dc,.int .i64 (la:Nat)]:=by rw [hW3,hgp];exact Bx.new wr #[.slice qa qn qc,.slice da dn dc,.int .i64 (la:Nat)] 62 (by simp)
     have HPT:=hid hpt
     have HB3:=hid hb3
     have HBW3:=hid (HBX.out.trans (hb3.mono HBX.out.size))
     have BB3:=hid (BBX.out.below hb3 (heap_lt' BBX.out))
     have HT3:=hid (HTX.out.below hb3 HTX.out.lt)
     obtain ⟨b0,b1,b2,bz⟩:=BB3.out.cells
     obtain ⟨t0,t1,t2,t3,t4⟩:=HT3.out.five.1
     clear hW3 hgp hb3 hpt
     go_upto_region 16 with (go_at_call 52;go_loud ((with_reducible refine (HSL.out _ HBW3.out k hlt).mono ?_));rintro e w4 ⟨rfl,hb4⟩;have HB4:=hid hb4;have HPT4:=hid (HPT.out.below hb4 HPT.out.lt);clear hb4 b0 b1 b2 bz t0 t1 t2 t3 t4)
     obtain ⟨⟨n0,n1,n2⟩,_⟩:=HPT4.out.three
     clear n2
     go_wp2_with fail
     go_roundw
     case rel => exact ⟨k + 1,by go_num,by omega,by rw [HON.out],H4.out,(HBR2.out.trans (HB3.out.mono HBR2.out.size)).trans (HB4.out.mono (Nat.le_trans HBR2.out.size HB3.out.size))⟩
     case measure => simp [intOf];omega
    ·obtain rfl:k = 4:=by omega
     have hev:heldN st 4 = so:=by rw [HSO.out];exact Good.even hbus HG.out
     rw [show (((4:Nat)):Int) = (4:Int) from rfl,hev]
     obtain ⟨b0,b1,b2,bz⟩:=BBX.out.cells
     obtain ⟨t0,t1,t2,t3,t4⟩:=HTX.out.five.1
     have zt:=HTX.out.lt
     clear hsm hev
     go_upto_region 18 with fail
     go_region_held3 (fun w' => w'.cell? ⟨w.heap.size,0,none⟩ = some (.slice ma mn mk) ∧ w'.cell? ⟨w.heap.size,1,none⟩ = some (.slice (some ⟨lb,lo,none⟩) 4 lc) ∧ w'.cell? ⟨w.heap.size,2,none⟩ = some (.slice (some ⟨pb,po,none⟩) 3 pc) ∧ w'.cell? ⟨gT,0,none⟩ = some (.slice ya yn yb) ∧ w'.cell? ⟨gT,1,none⟩ = some (.slice za zn zb) ∧ w'.cell? ⟨gT,2,none⟩ = some (.slice (some ⟨pg,pgo,none⟩) 3 pgc) ∧ w'.cell? ⟨gT,3,none⟩ = some (.slice (some ⟨tg,tp,none⟩) 4 tc) ∧ w'.cell? ⟨gT,4,none⟩ = some (.slice ua un ub))
      (first | exact s7 | exact s6 | go_keep)
      (first
       | (go_at_call 54;go_loud (with_reducible refine (HAB.out _ HBX.out.drew).mono ?_);rintro e w6 ⟨y0,y1,y2,y3,y4,y5,wj,dj,hw1,hw2,hd1,hd2,rfl,h0,h1,h2,h3,h4,h5,hb6⟩;have hb6':=(show Below wr.heap.size wr wr.drew from (Below.refl _ _).drew).trans hb6;have s6:w6.cell? ⟨w.heap.size,0,none⟩ = some (.slice ma mn mk) ∧ w6.cell? ⟨w.heap.size,1,none⟩ = some (.slice (some ⟨lb,lo,none⟩) 4 lc) ∧ w6.cell? ⟨w.heap.size,2,none⟩ = some (.slice (some ⟨pb,po,none⟩) 3 pc) ∧ w6.cell? ⟨gT,0,none⟩ = some (.slice ya yn yb) ∧ w6.cell? ⟨gT,1,none⟩ = some (.slice za zn zb) ∧ w6.cell? ⟨gT,2,none⟩ = some (.slice (some ⟨pg,pgo,none⟩) 3 pgc) ∧ w6.cell? ⟨gT,3,none⟩ = some (.slice (some ⟨tg,tp,none⟩) 4 tc) ∧ w6.cell? ⟨gT,4,none⟩ = some (.slice ua un ub):=⟨(hb6'.cell (p:=⟨w.heap.size,0,none⟩) bz).trans b0,(hb6'.cell (p:=⟨w.heap.size,1,none⟩) bz).trans b1,(hb6'.cell (p:=⟨w.heap.size,2,none⟩) bz).trans b2,(hb6'.cell (p:=⟨gT,0,none⟩) zt).trans t0,(hb6'.cell (p:=⟨gT,1,none⟩) zt).trans t1,(hb6'.cell (p:=⟨gT,2,none⟩) zt).trans t2,(hb6'.cell (p:=⟨gT,3,none⟩) zt).trans t3,(hb6'.cell (p:=⟨gT,4,none⟩) zt).trans t4⟩;have HB6:=hid hb6';have HTL:=hid (tlmAbs_any hbus (B:=w6.heap.size) ((HBV.out.below ((HBX.out.trans (hb6'.mono HBX.out.size)).mono hB)).mono (Nat.le_trans hB (Nat.le_trans HBX.out.size hb6'.size))) HG.out hw1 hw2 hd1 hd2 h0 h1 h2 h3 h4 h5 (Nat.le_refl _));have zt6:=Nat.lt_of_lt_of_le zt hb6'.size;have bz6:=Nat.lt_of_lt_of_le bz hb6'.size;clear hb6 hb6' hw1 hw2 hd1 hd2 h0 h1 h2 h3 h4 h5)
       | (go_at_call 53;go_loud (with_reducible refine (HTL.out).mono ?_);rintro e w7 ⟨rfl,hb7⟩;have s7:w7.cell? ⟨w.heap.size,0,none⟩ = some (.slice ma mn mk) ∧ w7.cell? ⟨w.heap.size,1,none⟩ = some (.slice (some ⟨lb,lo,none⟩) 4 lc) ∧ w7.cell? ⟨w.heap.size,2,none⟩ = some (.slice (some ⟨pb,po,none⟩) 3 pc) ∧ w7.cell? ⟨gT,0,none⟩ = some (.slice ya yn yb) ∧ w7.cell? ⟨gT,1,none⟩ = some (.slice za zn zb) ∧ w7.cell? ⟨gT,2,none⟩ = some (.slice (some ⟨pg,pgo,none⟩) 3 pgc) ∧ w7.cell? ⟨gT,3,none⟩ = some (.slice (some ⟨tg,tp,none⟩) 4 tc) ∧ w7.cell? ⟨gT,4,none⟩ = some (.slice ua un ub):=⟨(hb7.cell (p:=⟨w.heap.size,0,none⟩) bz6).trans s6.1,(hb7.cell (p:=⟨w.heap.size,1,none⟩) bz6).trans s6.2.1,(hb7.cell (p:=⟨w.heap.size,2,none⟩) bz6).trans s6.2.2.1,(hb7.cell (p:=⟨gT,0,none⟩) zt6).trans s6.2.2.2.1,(hb7.cell (p:=⟨gT,1,none⟩) zt6).trans s6.2.2.2.2.1,(hb7.cell (p:=⟨gT,2,none⟩) zt6).trans s6.2.2.2.2.2.1,(hb7.cell (p:=⟨gT,3,none⟩) zt6).trans s6.2.2.2.2.2.2.1,(hb7.cell (p:=⟨gT,4,none⟩) zt6).trans s6.2.2.2.2.2.2.2⟩;have HB7:=hid hb7;clear hb7))
     clear s6 s7
     go_wp2_with fail
     go_ret
     exact ⟨rfl,(HBX.out.trans (HB6.out.mono HBX.out.size)).trans (HB7.out.mono (Nat.le_trans HBX.out.size HB6.out.size))⟩
end Go.Proofs.YtenjbhbcacocjaaGreat
