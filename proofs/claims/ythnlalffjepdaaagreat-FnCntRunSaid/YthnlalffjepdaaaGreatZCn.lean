/- For every code the law FnCntRun returns true, and its argument reads behind the call as it read before. -/
import Derived.Test.YthnlalffjepdaaaGreatGRow
import Derived.Test.YthnlalffjepdaaaGreatGRn
import Derived.Test.YthnlalffjepdaaaGreatGLb
set_option linter.unusedVariables false
set_option linter.unusedSimpArgs false
set_option maxHeartbeats 16000000
namespace Go.Proofs.YthnlalffjepdaaaGreat
open Go.RowKit
set_option maxRecDepth 8000 in
theorem cntrun_any (hdraw : DrawPl) (v : Value) (bs : List Nat) (B : Nat) (w : World) (h : Bytes w B v bs) (hB : B ≤ w.heap.size) :
    Calls Tryz.prog 4 #[v] w fun e w' => e=.returned (.bool true)∧Below w.heap.size w w':=by
  obtain⟨ao,cap,rfl,hlc,hcap,hln,hni,hr⟩:=h.opened;clear hr;by_cases hbig:(1048576:Int)<(bs.length:Int)
  · go_enter Tryz.func4, Tryz.ntmps4
    go_wp2_with fail
    go_ret
    exact⟨rfl,Below.refl _ _⟩
  · go_enter Tryz.func4, Tryz.ntmps4
    go_wp2_with fail
    refine(hdraw _ bs B w h hB).mono ?_;rintro e w1 ⟨u,iv,c,ins,rfl,hbus,hbv,hins,hil,hb1⟩;obtain⟨mv,lb,lo,lc,pb,po,pc,QQ,K,rfl,⟨ma,mn,mk,rfl⟩,_,_,_,_,_,_⟩:=hbv.opened hbus;obtain⟨ia,ic,rfl,ic1,ic2,ic3,_,_⟩:=hins.opened;have HBV:=hid hbv;have HINS:=hid hins;have HB1:=hid hb1;clear hbv hins hb1 h
    go_upto_region 4 with fail
    obtain⟨w2,hw2⟩:∃W,W=w1.alloc (.cells #[.slice ma mn mk,.slice (some ⟨lb,lo,none⟩) 4 lc,.slice (some ⟨pb,po,none⟩) 3 pc] 27):=⟨_,rfl⟩
    obtain⟨gb,hgb⟩:∃g,g=w1.heap.size:=⟨_,rfl⟩
    have X0:=hid (show Bx w2 gb [.slice ma mn mk,.slice (some ⟨lb,lo,none⟩) 4 lc,.slice (some ⟨pb,po,none⟩) 3 pc] by rw[hw2,hgb];exact Bx.new w1 #[.slice ma mn mk,.slice (some ⟨lb,lo,none⟩) 4 lc,.slice (some ⟨pb,po,none⟩) 3 pc] 27 (by simp));have HB2:=hid (show Below w1.heap.size w1 w2 by rw[hw2];exact(Below.refl _ _).alloc (Nat.le_refl _) _);obtain⟨il,hil2⟩:∃x,x=ins.length:=⟨_,rfl⟩
    have hbvw:=(HBV.out.below HB2.out).mono HB2.out.size;have hinw:=(HINS.out.below HB2.out).mono HB2.out.size;have hil3:il≤300:=by omega
    have HCN:=hid (cntRun_any hbus hbvw hinw (Nat.le_refl _) (by omega));rw[←hil2]at HCN;have HIL:=hid hil2;rw[←hil2];rw[←hw2,←hgb];have HGB:=hid hgb;obtain⟨b0,b1,b2⟩:=X0.out.three.1;clear hw2 hgb hbvw hinw hil2
    go_upto_region 5 with(go_at_call 16;go_loud ((with_reducible refine(HCN.out).mono ?_));rintro e w3 ⟨G,rfl,hsix,hb3,hcl,_⟩;have HSIX:=hid hsix;have HB3:=hid hb3;have HCL:=hid hcl;clear hsix hb3 hcl b0 b1 b2)
    have HCO := hid (show CnOk c il (runC c ins cy0) (cntR c ins cy0 cn0) from by
      have h:=cnOk_run hbus ins (zE3 c) (cnOk_zero c)
      rwa [Nat.zero_add,←HIL.out]at h)
    obtain⟨n,hn⟩:∃n,n=cntR c ins cy0 cn0:=⟨_,rfl⟩
    rw[←hn]at HSIX HCL HCO HCN;rw[←hn,HCO.out.cy];clear hn;obtain⟨w4,hw4⟩:∃W,W=w3.alloc (.cells #[.int .i64 (il:Nat),.slice (some ⟨G 0,0,none⟩) 3 3,.slice (some ⟨G 1,0,none⟩) 3 3,.slice (some ⟨G 2,0,none⟩) 3 3,.slice (some ⟨G 3,0,none⟩) 4 4,.slice (some ⟨G 4,0,none⟩) 4 4,.slice (some ⟨G 5,0,none⟩) 4 4] 32):=⟨_,rfl⟩
    obtain⟨gc,hgc⟩:∃g,g=w3.heap.size:=⟨_,rfl⟩
    have hb4:Below w3.heap.size w3 w4:=by rw[hw4];exact(Below.refl _ _).alloc (Nat.le_refl _) _
    have XC4:=hid (show Bx w4 gc [.int .i64 (il:Nat),.slice (some ⟨G 0,0,none⟩) 3 3,.slice (some ⟨G 1,0,none⟩) 3 3,.slice (some ⟨G 2,0,none⟩) 3 3,.slice (some ⟨G 3,0,none⟩) 4 4,.slice (some ⟨G 4,0,none⟩) 4 4,.slice (some ⟨G 5,0,none⟩) 4 4] by rw[hw4,hgc];exact Bx.new w3 #[.int .i64 (il:Nat),.slice (some ⟨G 0,0,none⟩) 3 3,.slice (some ⟨G 1,0,none⟩) 3 3,.slice (some ⟨G 2,0,none⟩) 3 3,.slice (some ⟨G 3,0,none⟩) 4 4,.slice (some ⟨G 4,0,none⟩) 4 4,.slice (some ⟨G 5,0,none⟩) 4 4] 32 (by simp));rw[←hw4,←hgc];have HB24:=hid (HB3.out.trans (hb4.mono HB3.out.size));have X4:=hid (X0.out.below HB24.out X0.out.lt);have HB14:=hid (HB2.out.trans (HB24.out.mono HB2.out.size));have HCL4:=hid (show ∀i j,i<6→j<cnL i→w4.cell? ⟨G i,j,none⟩=some (.int .i64 (n.l i j:Nat)) from fun i j hi hj=>(hb4.cell (World.block_lt_of_cell? w3 _ (HCL.out i j hi hj))).trans (HCL.out i j hi hj));have HSIX4:=hid ((HSIX.out.below hb4).mono hb4.size)
    have HPL := hid (show Calls Tryz.prog 20 #[.agg #[.slice ma mn mk, .slice (some ⟨lb, lo, none⟩) 4 lc, .slice (some ⟨pb, po, none⟩) 3 pc], .slice ia il ic] w4 (CopP (runC c ins cy0) w4) from by
      have h:=crPlay_any hbus ((HBV.out.below HB14.out).mono HB14.out.size) ((HINS.out.below HB14.out).mono HB14.out.size) (Nat.le_refl _) (by omega)
      rwa [←HIL.out]at h)
    obtain⟨b0,b1,b2⟩:=X4.out.three.1;clear hw4 hgc hb4 HCL HSIX HCN X0 HB3
    go_upto_region 6 with(go_at_call 20;go_loud ((with_reducible refine(HPL.out).mono ?_));rintro e w5 hcop;obtain⟨V,N,C,D,y0,y1,y2,y3,y4,m0,m1,m2,m3,m4,j0,j1,j2,j3,j4,hE,rfl,hr,hb5⟩:=hcop.sl;have HE:=hid hE;have HR:=hid hr;have HB5:=hid hb5;clear hcop hE hr hb5 b0 b1 b2)
    obtain⟨w6,hw6⟩:∃W,W=w5.alloc (.cells #[.slice y0 m0 j0,.slice y1 m1 j1,.slice y2 m2 j2,.slice y3 m3 j3,.slice y4 m4 j4] 46):=⟨_,rfl⟩
    obtain⟨gs,hgs⟩:∃g,g=w5.heap.size:=⟨_,rfl⟩
    have hb6:Below w5.heap.size w5 w6:=by rw[hw6];exact(Below.refl _ _).alloc (Nat.le_refl _) _
    have HS := hid (show CyBox w6 gs (runC c ins cy0) from CyBox.new HR.out hb6 (by omega) (by
      obtain⟨e0,e1,e2,e3,e4⟩:=HE.out;rw[e0,e1,e2,e3,e4,hw6,hgs];exact Bx.new w5 #[.slice y0 m0 j0,.slice y1 m1 j1,.slice y2 m2 j2,.slice y3 m3 j3,.slice y4 m4 j4] 46 (by simp)))
    have HB46:=hid (HB5.out.trans (hb6.mono HB5.out.size));have HB16:=hid (HB14.out.trans (HB46.out.mono HB14.out.size));have XC:=hid (XC4.out.below HB46.out XC4.out.lt);have HG:=hid (show Good c (runC c ins cy0) from good_run hbus _ (zE3 c));have HCL:=hid (show ∀i j,i<6→j<cnL i→w6.cell? ⟨G i,j,none⟩=some (.int .i64 (n.l i j:Nat)) from fun i j hi hj=>(HB46.out.cell (World.block_lt_of_cell? w4 _ (HCL4.out i j hi hj))).trans (HCL4.out i j hi hj));have HOK:=hid (zL6 (il:Nat) _ _ _ _ _ _ _ _ _ _ _ _ w4.heap.size w6 (HSIX4.out.below HB46.out) HB46.out.size);rw[show cntOk (il:Nat) (cnI n 0) (cnI n 1) (cnI n 2) (cnI n 3) (cnI n 4) (cnI n 5)=true from by have h:=cntOk_of HCO.out hil3;rwa [HCO.out.cy]at h]at HOK;rw[←hw6,←hgs];clear hw6 hgs hb6 HE HR HCL4 HSIX4 XC4 HPL HB5;obtain⟨st,hst⟩:∃s,s=runC c ins cy0:=⟨_,rfl⟩
    rw[←hst]at HS HG HCO;clear hst;obtain⟨v0,v1,v4,l0,l1,c0,c1,c4,pg,po2,pc2,tg,tp,tc,P,Q,hx2,hv2,hpr,hqr,hpf,hqf⟩:=HS.out.rows hbus HG.out;have HX:=hid hx2;have HV:=hid hv2;have HPR:=hid hpr;have HQR:=hid hqr;have HPF:=hid hpf;have HQF:=hid hqf;have HTD:=hid hv2.told;obtain⟨⟨q0,q1,q2,q3,q4,q5,q6⟩,_⟩:=XC.out.seven;clear hx2 hv2 hpr hqr hpf hqf
    go_upto_region 8 with(go_at_call 17;go_loud ((with_reducible refine(HOK.out).mono ?_));rintro e w7 ⟨rfl,hb7⟩;have HB7:=hid hb7;clear hb7 q0 q1 q2 q3 q4 q5 q6)
    have hb7:=HB7.out
    have HK := hid (show ∀ W, Below w7.heap.size w7 W → ∀ {p : Addr} {v : Value}, w6.cell? p = some v → W.cell? p = some v from fun W hW {p v} h => by
      have h1:=(HB7.out.cell (World.block_lt_of_cell? w6 _ h)).trans h;exact(hW.cell (World.block_lt_of_cell? w7 _ h1)).trans h1)
    clear hb7;obtain⟨fl,hfl⟩:∃f,f=n.lt:=⟨_,rfl⟩
    obtain⟨fd,hfd⟩:∃f,f=n.done:=⟨_,rfl⟩
    obtain⟨fw,hfw⟩:∃f:Nat→Nat,f=fun s=>(st.slaves s).done.length:=⟨_,rfl⟩
    obtain⟨fo,hfo⟩:∃f:Nat→Nat,f=fun s=>(st.ports s).out.length:=⟨_,rfl⟩
    have HFL:=hid hfl;have HFD:=hid hfd;have HFW:=hid hfw;have HFO:=hid hfo;have SL:=hid (show ∀k,sumTo fl k≤300 * k from fun k=>sumTo_le (fun i=>by rw[hfl];exact Nat.le_trans (HCO.out.lt i) hil3) k);have SD:=hid (show ∀k,sumTo fd k≤300 * k from fun k=>sumTo_le (fun i=>by rw[hfd];exact Nat.le_trans (HCO.out.done i) (Nat.le_trans (HCO.out.busy i) hil3)) k);clear hfl hfd hfw hfo
    go_wp2_with fail
    go_loopw [7,8,10,11] (fun a b d i wr=>∃k:Nat,i=.int .i64 k∧k≤4∧a=.int .i64 (sumTo fl k:Nat)∧b=.int .i64 (sumTo fd k:Nat)∧d=.int .i64 (sumTo fw k:Nat)∧sumTo fw k≤2 * k∧Below w7.heap.size w7 wr) (fun _ _ _ i _=>4 - (intOf i).toNat)
    case atStart=>exact⟨0,by go_num,Nat.zero_le _,rfl,rfl,rfl,Nat.zero_le _,Below.refl _ _⟩
    case round=>
      obtain⟨k,rfl,hk,rfl,rfl,rfl,hfk,hbr⟩:=hrel;have HBR:=hid hbr;obtain⟨wo,hwo⟩:∃W,W=wr:=⟨_,rfl⟩
      subst hwo;clear hbr;by_cases hlt:k<4
      · have hki : (k : Int) ≤ 3 := by omega
        have hki4:(k:Int)<4:=by omega
        obtain⟨⟨q0,q1,q2,q3,q4,q5,q6⟩,_⟩:=XC.out.seven;have m3:=HCL.out 3 k (by omega) (by simpa[cnL]using hlt);have m4:=HCL.out 4 k (by omega) (by simpa[cnL]using hlt);have m5:=HCL.out 5 k (by omega) (by simpa[cnL]using hlt);simp only[Cn.l]at m3 m4 m5;obtain⟨qa,qc,oa,oc,he⟩:=HQF.out k hlt;have r1:=HQR.out k hlt 1 (by omega);rw[he]at r1;simp only[rowSS,sl,List.getElem?_cons_zero,List.getElem?_cons_succ,Nat.add_zero]at r1;have t3:=HX.out.five.1.2.2.2.1;replace q0:=HK.out wo HBR.out q0;replace q4:=HK.out wo HBR.out q4;replace q5:=HK.out wo HBR.out q5;replace q6:=HK.out wo HBR.out q6;replace m3:=HK.out wo HBR.out m3;replace m4:=HK.out wo HBR.out m4;replace m5:=HK.out wo HBR.out m5;replace r1:=HK.out wo HBR.out r1;replace t3:=HK.out wo HBR.out t3;obtain⟨xl,hxl⟩:∃x,x=n.lt k:=⟨_,rfl⟩
        obtain⟨xd,hxd⟩:∃x,x=n.done k:=⟨_,rfl⟩
        obtain⟨xb,hxb⟩:∃x,x=n.busy k:=⟨_,rfl⟩
        obtain⟨xw,hxw⟩:∃x,x=(st.slaves k).done.length:=⟨_,rfl⟩
        rw[←hxl]at m3;rw[←hxd]at m4;rw[←hxb]at m5;rw[←hxw]at r1;have hlx:xl≤il:=by rw[hxl];exact HCO.out.lt k
        have hdx:xd≤xb:=by rw[hxd,hxb];exact HCO.out.done k
        have hbx:xb≤il:=by rw[hxb];exact HCO.out.busy k
        have hwx:xw≤2:=by rw[hxw];exact(HG.out.s k hlt).d2
        have e1:decide (il<xl)=false:=by simp;omega
        have e2:decide (xb<xd)=false:=by simp;omega
        obtain⟨la,hsl⟩:∃x,x=sumTo fl k:=⟨_,rfl⟩
        obtain⟨sd,hsd⟩:∃x,x=sumTo fd k:=⟨_,rfl⟩
        obtain⟨sw,hsw⟩:∃x,x=sumTo fw k:=⟨_,rfl⟩
        have HL1:=hid (show sumTo fl (k+1)=la+xl by rw[hsl,hxl,←HFL.out];rfl);have HD1:=hid (show sumTo fd (k+1)=sd+xd by rw[hsd,hxd,←HFD.out];rfl);have HW1:=hid (show sumTo fw (k+1)=sw+xw by rw[hsw,hxw,HFW.out];rfl);have b1:=SL.out k;have b2:=SD.out k;rw[←hsl]at b1 ⊢;rw[←hsd]at b2 ⊢;rw[←hsw]at hfk ⊢;obtain⟨tl,htl⟩:∃x,x=la+xl:=⟨_,rfl⟩
        obtain⟨td,htd⟩:∃x,x=sd+xd:=⟨_,rfl⟩
        obtain⟨tw,htw⟩:∃x,x=sw+xw:=⟨_,rfl⟩
        rw[←htl]at HL1;rw[←htd]at HD1;rw[←htw]at HW1;have ew1:IntKind.i64.wrap ((la:Int)+(xl:Int))=(tl:Int):=by rw[IntKind.wrap_i64];omega
        have ew2:IntKind.i64.wrap ((sd:Int)+(xd:Int))=(td:Int):=by rw[IntKind.wrap_i64];omega
        have ew3:IntKind.i64.wrap ((sw:Int)+(xw:Int))=(tw:Int):=by rw[IntKind.wrap_i64];omega
        have hfk2:tw≤2 * (k+1):=by omega
        have HF2:=hid hfk2;clear hxl hxd hxb hxw hlx hdx hbx hwx hsl hsd hsw b1 b2 htl htd htw he hfk hfk2
        go_upto_region 18 with fail
        obtain⟨CC,hCC⟩:∃CC:List Value→World→Prop,CC=fun us W=>Below wo.heap.size wo W:=⟨_,rfl⟩
        have hC0:CC [] wo.drew:=by rw[hCC];exact(Below.refl _ _).drew
        have hTC:∀us W,CC us W→Below wo.heap.size wo W:=by rw[hCC];exact fun us W h=>h
        have HTC:=hid hTC;have hne:Nonempty (Ph CC):=⟨⟨([],wo.drew),hC0⟩⟩
        have pc:∀{p:Addr} {v:Value},wo.cell? p=some v→∀x:Ph CC,x.1.2.cell? p=some v:=fun hc x=>((hTC _ _ x.2).cell (World.block_lt_of_cell? wo _ hc)).trans hc
        replace q0:=pc q0;replace q4:=pc q4;replace q5:=pc q5;replace q6:=pc q6;replace m3:=pc m3;replace m4:=pc m4;replace m5:=pc m5;clear hCC hTC pc;refine zB8 CC [] [] (by kernel_rfl) (by kernel_rfl) hC0 ?_
        try simp only[List.append_eq,List.cons_append,List.nil_append]
        repeat (
          (with_reducible refine wq1_q ⟨rfl,rfl⟩ (fun K hK=>?_))
          go_simp
          first
            |((with_reducible refine hK _ ?_);clear hK K)
            |((with_reducible refine zB1 (by simp[undef]) (hK _ ?_));clear hK K)
            | (apply Exists.intro
               (with_reducible refine⟨fun _=>?_,hK _ ?_⟩)
               (fail)
               clear hK K))
        refine zH2 ?_;refine zH9 ?_;intro wz hwz;have HBZ:=hid (HTC.out _ _ hwz);clear hwz hC0 HTC hne q0 q4 q5 q6 m3 m4 m5
        go_wp2_with fail
        go_roundw
        case rel=>exact⟨k+1,by go_num,by omega,by rw[HL1.out],by rw[HD1.out],by rw[HW1.out],by rw[HW1.out];exact HF2.out,HBR.out.trans (HBZ.out.mono HBR.out.size)⟩
        case measure=>simp[intOf];omega
      · obtain rfl : k = 4 := by omega
        rw[show(((4:Nat)):Int)=(4:Int) from rfl];obtain⟨la,hsl⟩:∃x,x=sumTo fl 4:=⟨_,rfl⟩
        obtain⟨sd,hsd⟩:∃x,x=sumTo fd 4:=⟨_,rfl⟩
        obtain⟨sw,hsw⟩:∃x,x=sumTo fw 4:=⟨_,rfl⟩
        rw[←hsw]at hfk;have b2:=SD.out 4;rw[←hsd]at b2;rw[←hsl,←hsd,←hsw];have HSL:=hid (show la=st.told.length+sum3 fo from by rw[hsl,sumTo_four,HFL.out,HCO.out.slt,HFO.out];rfl);have HSD:=hid (show sd=st.told.length+sw from by rw[hsd,hsw,sumTo_four,sumTo_four,HFD.out,HFW.out,HCO.out.sdn];rfl);clear hsl hsd hsw
        go_wp2_with fail
        obtain⟨w8,hw8⟩:∃W,W=wo:=⟨_,rfl⟩
        go_loopw [9,12] (fun a i wr=>∃k:Nat,i=.int .i64 k∧k≤3∧a=.int .i64 (sumTo fo k:Nat)∧sumTo fo k≤4 * k∧Below w7.heap.size w7 wr) (fun _ i _=>3 - (intOf i).toNat)
        case atStart=>exact⟨0,by go_num,Nat.zero_le _,rfl,Nat.zero_le _,HBR.out⟩
        case round=>
          clear HBR;obtain⟨k,rfl,hk,rfl,hfk2,hbr⟩:=hrel;have HBR:=hid hbr;clear hw8;obtain⟨wo,hwo⟩:∃W,W=wr:=⟨_,rfl⟩
          subst hwo;clear hbr;by_cases hlt:k<3
          · have hki : (k : Int) < 3 := by omega
            obtain⟨⟨q0,q1,q2,q3,q4,q5,q6⟩,_⟩:=XC.out.seven;have m0:=HCL.out 0 k (by omega) (by simpa[cnL]using hlt);have m1:=HCL.out 1 k (by omega) (by simpa[cnL]using hlt);simp only[Cn.l]at m0 m1;obtain⟨qa,qc,oa,oc,he⟩:=HPF.out k hlt;have r0:=HPR.out k hlt 0 (by omega);have r2:=HPR.out k hlt 2 (by omega);rw[he]at r0 r2;simp only[rowPS,sl,List.getElem?_cons_zero,List.getElem?_cons_succ,Nat.add_zero]at r0 r2;obtain⟨t0,t1,t2,t3,t4⟩:=HX.out.five.1;replace q0:=HK.out wo HBR.out q0;replace q1:=HK.out wo HBR.out q1;replace q2:=HK.out wo HBR.out q2;replace m0:=HK.out wo HBR.out m0;replace m1:=HK.out wo HBR.out m1;replace r0:=HK.out wo HBR.out r0;replace r2:=HK.out wo HBR.out r2;replace t2:=HK.out wo HBR.out t2;replace t4:=HK.out wo HBR.out t4;rw[HCO.out.asked k]at m0;rw[HCO.out.told k]at m1;obtain⟨xa,hxa⟩:∃x,x=(st.ports k).next:=⟨_,rfl⟩
            obtain⟨xt,hxt⟩:∃x,x=cntW k st.told:=⟨_,rfl⟩
            obtain⟨xo,hxo⟩:∃x,x=(st.ports k).out.length:=⟨_,rfl⟩
            obtain⟨tn,htn⟩:∃x,x=st.told.length:=⟨_,rfl⟩
            rw[←hxa]at m0 r0;rw[←hxt]at m1;rw[←hxo]at r2;rw[←htn]at t4;have hax:xa≤il:=by rw[hxa,←HCO.out.asked k];exact HCO.out.asked1 k
            have htx:xt≤il:=by rw[hxt,←HCO.out.told k];exact HCO.out.told1 k
            have hox:xo≤4:=by rw[hxo];exact(HG.out.p k hlt).o4
            have e1:((xa:Int) != (xa:Int))=false:=by simp
            have e2:((xt:Int) != (xt:Int))=false:=by simp
            have e3:decide (il<xt)=false:=by simp;omega
            have e4:decide (il<xa)=false:=by simp;omega
            have HTO := hid (show ∀ W, Below wo.heap.size wo W → Calls Tryz.prog 21 #[.slice v4 tn c4, .int .i64 k] W fun e w' => ∃ a cap, e = .returned (.slice a xt cap) ∧ Below W.heap.size W w' from fun W hW => by
              have hbb:=((HB7.out.trans (HBR.out.mono HB7.out.size)).trans (hW.mono (Nat.le_trans HB7.out.size HBR.out.size)))
              have h1:=toldOf_any (k:=k) (HTD.out.below hbb) hbb.size (Nat.le_trans (HG.out.told36 hbus) (by omega)) (fun j hj=>Nat.le_trans (rspOk_len (HG.out.t j hj).2.1) (by omega));rw[hxt];rw[←htn]at h1;exact h1)
            have HSB:=hid (show sumTo fo (k+1)=sumTo fo k+xo by rw[hxo,HFO.out];rfl);obtain⟨so,hso⟩:∃x,x=sumTo fo k:=⟨_,rfl⟩
            rw[←hso]at hfk2 HSB ⊢;obtain⟨tz,hto⟩:∃x,x=so+xo:=⟨_,rfl⟩
            rw[←hto]at HSB;have ew:IntKind.i64.wrap ((so:Int)+(xo:Int))=(tz:Int):=by rw[IntKind.wrap_i64];omega
            have HF2:=hid (show tz≤4 * (k+1) by omega);clear hxa hxt hxo htn hax htx hox hso hto hfk2 he t0 t1 t3
            go_upto_region 24 with fail
            obtain⟨CC,hCC⟩:∃CC:List Value→World→Prop,CC=fun us W=>Below wo.heap.size wo W∧∀v,us[0]? = some v→∃a cap,v=.slice a xt cap:=⟨_,rfl⟩
            have hC0:CC [] wo.drew:=by rw[hCC];exact⟨(Below.refl _ _).drew,by simp⟩
            have hTC:∀us W,CC us W→Below wo.heap.size wo W:=by rw[hCC];exact fun us W h=>h.1
            have HTC:=hid hTC;have HCC:=hid hCC;have hne:Nonempty (Ph CC):=⟨⟨([],wo.drew),hC0⟩⟩
            have pc:∀{p:Addr} {v:Value},wo.cell? p=some v→∀x:Ph CC,x.1.2.cell? p=some v:=fun hc x=>((hTC _ _ x.2).cell (World.block_lt_of_cell? wo _ hc)).trans hc
            replace q0:=pc q0;replace q1:=pc q1;replace q2:=pc q2;replace m0:=pc m0;replace m1:=pc m1;replace r0:=pc r0;replace t2:=pc t2;replace t4:=pc t4;clear hCC hTC pc r2;refine zB8 CC [(21,false),(22,true)] [] (by kernel_rfl) (by kernel_rfl) hC0 ?_
            try simp only[List.append_eq,List.cons_append,List.nil_append]
            repeat (
              (with_reducible refine wq1_q ⟨rfl,rfl⟩ (fun K hK=>?_))
              go_simp
              first
                |((with_reducible refine hK _ ?_);clear hK K)
                |((with_reducible refine zB1 (by simp[undef]) (hK _ ?_));clear hK K)
                | (apply Exists.intro
                   (with_reducible refine⟨fun _=>?_,hK _ ?_⟩)
                   (fail)
                   clear hK K))
            refine wq1_v rfl ?_;refine wq1_x rfl (.int .i64 xt) (fun KA hKA=>?_);go_simp;refine hKA _ ?_;clear hKA KA
            repeat (
              (with_reducible refine wq1_q ⟨rfl,rfl⟩ (fun K hK=>?_))
              go_simp
              first
                |((with_reducible refine hK _ ?_);clear hK K)
                |((with_reducible refine zB1 (by simp[undef]) (hK _ ?_));clear hK K)
                | (apply Exists.intro
                   (with_reducible refine⟨fun _=>?_,hK _ ?_⟩)
                   (fail)
                   clear hK K))
            refine zH2 ?_;clear hne q0 q1 q2 m0 m1 r0 t2 t4;refine wq2_v _ rfl rfl ?_ ?_
            · intro W hW KA hKA
              have h1:=HTC.out _ _ hW;go_simp
              (with_reducible refine(HTO.out W h1).mono ?_)
              rintro e w'' ⟨oa9,oc9,rfl,h2⟩;go_simp;exact hKA _ _ _ (by rw[HCC.out];exact⟨h1.trans (h2.mono h1.size),fun v hv=>by simp only[List.nil_append,List.getElem?_cons_zero,Option.some.injEq]at hv;exact⟨_,_,hv.symm⟩⟩) rfl
            intro v0 KA hKA;go_simp;refine hKA _ ?_;clear hKA KA;refine wq2_x _ rfl rfl ?_ ?_
            · intro W hW KA hKA
              rw[HCC.out]at hW;obtain⟨oa9,oc9,rfl⟩:=hW.2 v0 (by simp);go_simp;exact hKA (.int .i64 xt) _ _ (by rw[HCC.out];exact⟨hW.1,fun v hv=>hW.2 v (by simpa using hv)⟩) rfl rfl
            intro _;refine zH9 ?_;intro wz hwz;have HBZ:=hid (HTC.out _ _ hwz);clear hwz hC0 HTC HCC
            go_wp2_with fail
            go_roundw
            case rel=>exact⟨k+1,by go_num,by omega,by rw[HSB.out],by rw[HSB.out];exact HF2.out,HBR.out.trans (HBZ.out.mono HBR.out.size)⟩
            case measure=>simp[intOf];omega
          · obtain rfl : k = 3 := by omega
            rw[show(((3:Nat)):Int)=(3:Int) from rfl];have t4:=HK.out wo HBR.out HX.out.five.1.2.2.2.2;obtain⟨tn,htn⟩:∃x,x=st.told.length:=⟨_,rfl⟩
            have htn36:tn≤36:=by rw[htn];exact HG.out.told36 hbus
            obtain⟨so,hso⟩:∃x,x=sumTo fo 3:=⟨_,rfl⟩
            have hsl:=HSL.out;have hsd:=HSD.out;rw[←sumTo_three,←hso,←htn]at hsl;rw[←htn]at hsd;rw[←htn]at t4;rw[←hso]at hfk2;rw[←hso];have ew1:IntKind.i64.wrap ((tn:Int)+(so:Int))=(la:Int):=by rw[IntKind.wrap_i64];omega
            have ew2:IntKind.i64.wrap ((tn:Int)+(sw:Int))=(sd:Int):=by rw[IntKind.wrap_i64];omega
            have e1:((la:Int)==(la:Int))=true:=by simp
            have e2:((sd:Int)==(sd:Int))=true:=by simp
            clear htn hso hsl hsd htn36 hfk hfk2 b2
            go_wp2_with fail
            go_ret
            exact⟨rfl,(((HB1.out.trans (HB16.out.mono HB1.out.size)).trans (HB7.out.mono (Nat.le_trans HB1.out.size HB16.out.size))).trans (HBR.out.mono (Nat.le_trans HB1.out.size (Nat.le_trans HB16.out.size HB7.out.size))))⟩
end Go.Proofs.YthnlalffjepdaaaGreat
namespace Go.Proofs.YthnlalffjepdaaaGreat
open Go.RowKit
open Go.ChangeShapes Go.WideShapes Go.ChangeAt
theorem cntrun_holds:Rows.FnCntRunSaid :=
 OpenClaim.holds_of_wide 4 Tryz.f4 rfl rfl rfl rfl rfl rfl rfl ⟨rfl, rfl, rfl, rfl, rfl⟩ rfl rfl rfl rfl rfl (by kernel_rfl) Tryz.func4 (by kernel_rfl)
  (of_decide_eq_true (by kernel_rfl)) (by unfold Func.isWrapper;first|(rw[if_pos (by decide +kernel)];kernel_rfl)|(rw[if_neg (by decide +kernel)];exact⟨rfl,rfl⟩))
  (fun os started H enc _ => code_lifted started enc 4 Tryz.f4 Rows.fnCntRunSpec rfl (by kernel_rfl) Tryz.func4
   (ChangeSpec.witness6 (enc:=enc) (C:=Tryz.checked) false ⟨#[],#[.slice none 0 0],[]⟩ 8 (by kernel_rfl) (by kernel_rfl) (by kernel_rfl) (by kernel_rfl)) Tryz.params4 rfl (fun _=>⟨rfl,rfl,rfl⟩) (cntrun_any drawPlay_any))
#print axioms cntrun_holds
end Go.Proofs.YthnlalffjepdaaaGreat
