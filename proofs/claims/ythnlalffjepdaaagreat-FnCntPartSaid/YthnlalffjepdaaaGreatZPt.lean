/- For every code the law FnCntPart returns true, and its argument reads behind the call as it read before. -/
import Derived.Test.YthnlalffjepdaaaGreatGCc
import Derived.Test.YthnlalffjepdaaaGreatGLb
import Derived.Test.YthnlalffjepdaaaGreatGRow
set_option linter.unusedVariables false
set_option linter.unusedSimpArgs false
set_option maxHeartbeats 16000000
namespace Go.Proofs.YthnlalffjepdaaaGreat
open Go.RowKit
set_option maxRecDepth 8000 in
theorem cntpart_any (hdraw : DrawPl) (v : Value) (bs : List Nat) (B : Nat) (w : World) (h : Bytes w B v bs) (hB : B ≤ w.heap.size) :
    Calls Tryz.prog 3 #[v] w fun e w' => e=.returned (.bool true)∧Below w.heap.size w w':=by
  obtain⟨ao,cap,rfl,hlc,hcap,hln,hni,hr⟩:=h.opened;clear hr;by_cases hbig:(1048576:Int)<(bs.length:Int)
  · go_enter Tryz.func3, Tryz.ntmps3
    go_wp2_with fail
    go_ret
    exact⟨rfl,Below.refl _ _⟩
  · go_enter Tryz.func3, Tryz.ntmps3
    go_wp2_with fail
    refine(hdraw _ bs B w h hB).mono ?_;rintro e w1 ⟨u,iv,c,ins,rfl,hbus,hbv,hins,hil,hb1⟩;obtain⟨mv,lb,lo,lc,pb,po,pc,QQ,K,rfl,⟨ma,mn,mk,rfl⟩,_,_,_,_,_,_⟩:=hbv.opened hbus;obtain⟨ia,ic,rfl,ic1,ic2,ic3,_,_⟩:=hins.opened;have HBV:=hid hbv;have HINS:=hid hins;have HB1:=hid hb1;clear hbv hins hb1 h
    go_upto_region 4 with fail
    obtain⟨w2,hw2⟩:∃W,W=w1.alloc (.cells #[.slice ma mn mk,.slice (some ⟨lb,lo,none⟩) 4 lc,.slice (some ⟨pb,po,none⟩) 3 pc] 27):=⟨_,rfl⟩
    obtain⟨gb,hgb⟩:∃g,g=w1.heap.size:=⟨_,rfl⟩
    have X0:=hid (show Bx w2 gb [.slice ma mn mk,.slice (some ⟨lb,lo,none⟩) 4 lc,.slice (some ⟨pb,po,none⟩) 3 pc] by rw[hw2,hgb];exact Bx.new w1 #[.slice ma mn mk,.slice (some ⟨lb,lo,none⟩) 4 lc,.slice (some ⟨pb,po,none⟩) 3 pc] 27 (by simp));have HB2:=hid (show Below w1.heap.size w1 w2 by rw[hw2];exact(Below.refl _ _).alloc (Nat.le_refl _) _);obtain⟨il,hil2⟩:∃x,x=ins.length:=⟨_,rfl⟩
    have hbvw:=(HBV.out.below HB2.out).mono HB2.out.size;have hinw:=(HINS.out.below HB2.out).mono HB2.out.size;have hil3:il≤300:=by omega
    have HCN:=hid (cntRun_any hbus hbvw hinw (Nat.le_refl _) (by omega));rw[←hil2]at HCN;have HIL:=hid hil2;rw[←hil2];rw[←hw2,←hgb];have HGB:=hid hgb;obtain⟨b0,b1,b2⟩:=X0.out.three.1;clear hw2 hgb hbvw hinw hil2
    go_upto_region 5 with(go_at_call 16;go_loud ((with_reducible refine(HCN.out).mono ?_));rintro e w3 ⟨G,rfl,hsix,hb3,hcl,_⟩;have HSIX:=hid hsix;have HB3:=hid hb3;have HCL:=hid hcl;clear hsix hb3 hcl b0 b1 b2)
    have HCO := hid (show CnOk c il (runC c ins cy0) (cntR c ins cy0 cn0) from by
      have h:=cnOk_run hbus ins (zE3 c) (cnOk_zero c)
      rwa [Nat.zero_add,←HIL.out]at h)
    obtain⟨n,hn⟩:∃n,n=cntR c ins cy0 cn0:=⟨_,rfl⟩
    rw[←hn]at HSIX HCL HCO HCN;rw[←hn,HCO.out.cy];have HN:=hid hn;clear hn;obtain⟨w4,hw4⟩:∃W,W=w3.alloc (.cells #[.int .i64 (il:Nat),.slice (some ⟨G 0,0,none⟩) 3 3,.slice (some ⟨G 1,0,none⟩) 3 3,.slice (some ⟨G 2,0,none⟩) 3 3,.slice (some ⟨G 3,0,none⟩) 4 4,.slice (some ⟨G 4,0,none⟩) 4 4,.slice (some ⟨G 5,0,none⟩) 4 4] 32):=⟨_,rfl⟩
    obtain⟨gc,hgc⟩:∃g,g=w3.heap.size:=⟨_,rfl⟩
    have hb4:Below w3.heap.size w3 w4:=by rw[hw4];exact(Below.refl _ _).alloc (Nat.le_refl _) _
    have XC4:=hid (show Bx w4 gc [.int .i64 (il:Nat),.slice (some ⟨G 0,0,none⟩) 3 3,.slice (some ⟨G 1,0,none⟩) 3 3,.slice (some ⟨G 2,0,none⟩) 3 3,.slice (some ⟨G 3,0,none⟩) 4 4,.slice (some ⟨G 4,0,none⟩) 4 4,.slice (some ⟨G 5,0,none⟩) 4 4] by rw[hw4,hgc];exact Bx.new w3 #[.int .i64 (il:Nat),.slice (some ⟨G 0,0,none⟩) 3 3,.slice (some ⟨G 1,0,none⟩) 3 3,.slice (some ⟨G 2,0,none⟩) 3 3,.slice (some ⟨G 3,0,none⟩) 4 4,.slice (some ⟨G 4,0,none⟩) 4 4,.slice (some ⟨G 5,0,none⟩) 4 4] 32 (by simp));rw[←hw4,←hgc];have HB24:=hid (HB3.out.trans (hb4.mono HB3.out.size));have X4:=hid (X0.out.below HB24.out X0.out.lt);have HB14:=hid (HB2.out.trans (HB24.out.mono HB2.out.size));have HCL4:=hid (show ∀i j,i<6→j<cnL i→w4.cell? ⟨G i,j,none⟩=some (.int .i64 (n.l i j:Nat)) from fun i j hi hj=>(hb4.cell (World.block_lt_of_cell? w3 _ (HCL.out i j hi hj))).trans (HCL.out i j hi hj));have HSIX4:=hid ((HSIX.out.below hb4).mono hb4.size);obtain⟨m,hm⟩:∃m,m=il / 2:=⟨_,rfl⟩
    have hmq:((il:Int) / 2)=(m:Int):=by omega
    have hmi:m≤il:=by omega
    have hmi2:(m:Int)≤(il:Int):=by omega
    have hmc:(m:Int)≤(ic:Int):=by have:=HIL.out;omega
    have hmw:IntKind.i64.wrap (m:Int)=(m:Int):=by rw[IntKind.wrap_i64];omega
    have HMQ:=hid hmq;have HMI:=hid hmi
    have HPT := hid (show ∀ W, Below w4.heap.size w4 W → Calls Tryz.prog 16 #[.agg #[.slice ma mn mk, .slice (some ⟨lb, lo, none⟩) 4 lc, .slice (some ⟨pb, po, none⟩) 3 pc], .slice ia m ic] W (CntP (cntR c (ins.take m) cy0 cn0) W) from fun W hW => by
      have hb:=HB14.out.trans (hW.mono HB14.out.size);exact cntRun_any hbus ((HBV.out.below hb).mono hb.size) (((HINS.out.below hb).mono hb.size).take (by rw[←HIL.out];exact hmi)) (Nat.le_refl _) (by rw[List.length_take,←HIL.out];omega))
    have HCO2 := hid (show CnOk c m (runC c (ins.take m) cy0) (cntR c (ins.take m) cy0 cn0) from by
      have h:=cnOk_run hbus (ins.take m) (zE3 c) (cnOk_zero c)
      rwa [Nat.zero_add,List.length_take_of_le (by rw[←HIL.out];exact hmi)]at h)
    have HLE:=hid (show CnLe (cntR c (ins.take m) cy0 cn0) n from by rw[HN.out];exact cnLe_part c ins m cy0 cn0);obtain⟨n2,hn2⟩:∃n,n=cntR c (ins.take m) cy0 cn0:=⟨_,rfl⟩
    rw[←hn2]at HPT HCO2 HLE;have HMM:=hid hm;have HSM:=hid (HCO2.out.small (by omega)).2;clear hn2 hm hw4 hgc hb4 HCL HSIX HCN X0 HB3;obtain⟨b0,b1,b2⟩:=X4.out.three.1
    go_upto_region 5 with fail
    go_cut [6] from 20 to 26 (fun s6 w9=>CntO n2 w4 s6 w9)
    case first=>
      obtain⟨CC,hCC⟩:∃CC:List Value→World→Prop,CC=boxC (CntR n2) w4 [.int .i64 0,vnil,vnil,vnil,vnil,vnil,vnil] 6 7 8:=⟨_,rfl⟩
      have hC0:CC [] w4.drew:=by rw[hCC];exact boxC_start
      have hTC:∀us W,CC us W→Below w4.heap.size w4 W:=by rw[hCC];exact fun us W h=>boxC_below h
      have HTC:=hid hTC;have HCC:=hid hCC;have hne:Nonempty (Ph CC):=⟨⟨([],w4.drew),hC0⟩⟩
      have pc:∀{p:Addr} {v:Value},w4.cell? p=some v→∀x:Ph CC,x.1.2.cell? p=some v:=fun hc x=>((hTC _ _ x.2).cell (World.block_lt_of_cell? w4 _ hc)).trans hc
      replace b0:=pc b0;replace b1:=pc b1;replace b2:=pc b2;clear hCC hTC pc;refine wp_region_tree CC [(6,false),(7,false),(8,false)] (.alt 6 false (.alt 7 false (.alt 8 false .stop .stop) .stop) (.alt 7 false (.alt 6 false (.alt 8 false .stop .stop) .stop) .stop)) [] (by kernel_rfl) (by kernel_rfl) hC0 ?_
      repeat (
        (with_reducible refine wq1_q ⟨rfl,rfl⟩ (fun K hK=>?_))
        go_simp
        first
          |((with_reducible refine hK _ ?_);clear hK K)
          |((with_reducible refine zB1 (by simp[undef]) (hK _ ?_));clear hK K)
          | (apply Exists.intro
             (with_reducible refine⟨fun _=>?_,hK _ ?_⟩)
             (fail)
             clear hK K))
      iterate 3 refine wq1_v rfl ?_
      refine zH2 ?_;clear hne b0 b1 b2;refine wqt_v _ rfl rfl ?_ ?_ (fun _=>?_)
      · intro W hW KA hKA
        go_simp
        (with_reducible refine(HPT.out W (HTC.out _ _ hW)).mono ?_)
        rintro e W' ⟨G9,rfl,h6,hb,hcl,hge⟩;go_simp;exact hKA _ _ _ (by rw[HCC.out]at hW ⊢;exact boxC_call hW hb ⟨G9,rfl,hcl,hge⟩) rfl
      · intro v6 KA hKA
        go_simp;refine hKA _ ?_;clear hKA KA;refine wqt_v _ rfl rfl ?_ ?_ (fun h=>by cases h)
        · intro W hW KA hKA
          go_simp;exact hKA _ _ _ (by rw[HCC.out]at hW ⊢;exact boxC_box2 (by decide) hW (by simp)) rfl
        · intro v7 KA hKA
          go_simp;refine hKA _ ?_;clear hKA KA;refine wqt_v _ rfl rfl ?_ ?_ (fun h=>by cases h)
          · intro W hW KA hKA
            rw[HCC.out]at hW;obtain⟨lo9,W0,g9,rfl,hy,hg9,hx,hs⟩:=boxC_at (by decide) (.inl ⟨rfl,rfl⟩) hW;obtain⟨G9,rfl,hcl,hge⟩:=hy.r;obtain⟨⟨z0,z1,z2,z3,z4,z5,z6⟩,f0,f1,f2,f3,f4,f5,f6⟩:=hx.seven;have hxl:=hx.lt;unfold ptr;go_simp;refine hKA undef _ _ ?_ rfl;rw[HCC.out];exact cnt_store (.inr rfl) hW.1 hy hg9 hs hx
          · intro u KA hKA
            go_simp;refine hKA _ ?_;clear hKA KA;refine wqt_nil ?_;intro wd hwd;rw[HCC.out]at hwd;have hd:=cnt_done HSM.out (boxC_done (by decide) (.inl ⟨_,rfl,rfl⟩) hwd);clear hwd
            go_wp2_with fail
            go_meet;exact hd
      refine wqt_v _ rfl rfl ?_ ?_ (fun h=>by cases h)
      · intro W hW KA hKA
        go_simp;exact hKA _ _ _ (by rw[HCC.out]at hW ⊢;exact boxC_box hW (by simp)) rfl
      · intro v7 KA hKA
        go_simp;refine hKA _ ?_;clear hKA KA;refine wqt_v _ rfl rfl ?_ ?_ (fun h=>by cases h)
        · intro W hW KA hKA
          go_simp
          (with_reducible refine(HPT.out W (HTC.out _ _ hW)).mono ?_)
          rintro e W' ⟨G9,rfl,h6,hb,hcl,hge⟩;go_simp;exact hKA _ _ _ (by rw[HCC.out]at hW ⊢;exact boxC_call2 (by decide) hW hb ⟨G9,rfl,hcl,hge⟩) rfl
        · intro v6 KA hKA
          go_simp;refine hKA _ ?_;clear hKA KA;refine wqt_v _ rfl rfl ?_ ?_ (fun h=>by cases h)
          · intro W hW KA hKA
            rw[HCC.out]at hW;obtain⟨lo9,W0,g9,rfl,hy,hg9,hx,hs⟩:=boxC_at (by decide) (.inr ⟨rfl,rfl⟩) hW;obtain⟨G9,rfl,hcl,hge⟩:=hy.r;obtain⟨⟨z0,z1,z2,z3,z4,z5,z6⟩,f0,f1,f2,f3,f4,f5,f6⟩:=hx.seven;have hxl:=hx.lt;unfold ptr;go_simp;refine hKA undef _ _ ?_ rfl;rw[HCC.out];exact cnt_store (.inl rfl) hW.1 hy hg9 hs hx
          · intro u KA hKA
            go_simp;refine hKA _ ?_;clear hKA KA;refine wqt_nil ?_;intro wd hwd;rw[HCC.out]at hwd;have hd:=cnt_done HSM.out (boxC_done (by decide) (.inr ⟨_,rfl,rfl⟩) hwd);clear hwd
            go_wp2_with fail
            go_meet;exact hd
    case rest=>
      obtain⟨gp,G2,rfl,hx9,h62,hcl2,hb9⟩:=hcut;unfold cnBox at hx9;rw[HCO2.out.cy]at hx9;have XP:=hid hx9;have HSP:=hid h62;have HCP:=hid hcl2;have HB49:=hid hb9;obtain⟨w9,hw9⟩:∃W,W=wc:=⟨_,rfl⟩
      subst hw9;have HB19:=hid (HB14.out.trans (HB49.out.mono HB14.out.size));have X9:=hid (X4.out.below HB49.out X4.out.lt);have XC:=hid (XC4.out.below HB49.out XC4.out.lt);have HCL:=hid (show ∀i j,i<6→j<cnL i→w9.cell? ⟨G i,j,none⟩=some (.int .i64 (n.l i j:Nat)) from fun i j hi hj=>(HB49.out.cell (World.block_lt_of_cell? w4 _ (HCL4.out i j hi hj))).trans (HCL4.out i j hi hj));have HOK1:=hid (zL6 (il:Nat) _ _ _ _ _ _ _ _ _ _ _ _ w4.heap.size w9 (HSIX4.out.below HB49.out) HB49.out.size);rw[show cntOk (il:Nat) (cnI n 0) (cnI n 1) (cnI n 2) (cnI n 3) (cnI n 4) (cnI n 5)=true from by have h:=cntOk_of HCO.out (by omega);rwa [HCO.out.cy]at h]at HOK1
      have HOK2 := hid (show ∀ W, Below w9.heap.size w9 W → Calls Tryz.prog 17 #[.agg #[.int .i64 (m : Nat), .slice (some ⟨G2 0, 0, none⟩) 3 3, .slice (some ⟨G2 1, 0, none⟩) 3 3, .slice (some ⟨G2 2, 0, none⟩) 3 3, .slice (some ⟨G2 3, 0, none⟩) 4 4, .slice (some ⟨G2 4, 0, none⟩) 4 4, .slice (some ⟨G2 5, 0, none⟩) 4 4]] W fun e w' => e = .returned (.bool true) ∧ Below W.heap.size W w' from fun W hW => by
        have h:=zL6 (m:Nat) _ _ _ _ _ _ _ _ _ _ _ _ w9.heap.size W (HSP.out.below hW) hW.size
        rwa [show cntOk (m:Nat) (cnI n2 0) (cnI n2 1) (cnI n2 2) (cnI n2 3) (cnI n2 4) (cnI n2 5)=true from by have h:=cntOk_of HCO2.out (by omega);rwa [HCO2.out.cy]at h]at h)
      have HRE := hid (show ∀ W, Below w9.heap.size w9 W → Calls Tryz.prog 16 #[.agg #[.slice ma mn mk, .slice (some ⟨lb, lo, none⟩) 4 lc, .slice (some ⟨pb, po, none⟩) 3 pc], .slice (some ⟨W.heap.size, 0, none⟩) 0 0] (W.alloc (.cells #[] 64)) (CntP cn0 (W.alloc (.cells #[] 64))) from fun W hW => by
        have h1:Below W.heap.size W (W.alloc (.cells #[] 64)):=(Below.refl _ _).alloc (Nat.le_refl _) _;have hb:=HB19.out.trans ((hW.trans (h1.mono hW.size)).mono HB19.out.size);have h:=cntRun_any (w:=W.alloc (.cells #[] 64)) hbus ((HBV.out.below hb).mono hb.size) (ins:=[]) ((ins_zero (g:=W.heap.size)).mono (by simp)) (Nat.le_refl _) (by simp);exact h)
      clear hx9 h62 hcl2 hb9 HSIX4 HCL4 HSP XC4 X4 HPT b0 b1 b2;obtain⟨b0,b1,b2⟩:=X9.out.three.1;obtain⟨⟨q0,q1,q2,q3,q4,q5,q6⟩,_⟩:=XC.out.seven;have em:((m:Int) != (m:Int))=false:=by simp
      go_upto_region 8 with (first
        |(go_at_call 17;(with_reducible refine(HOK1.out).mono ?_);rintro e a1 ⟨rfl,hb⟩;have HA1:=hid hb;clear hb q0 q1 q2 q3 q4 q5 q6 b0 b1 b2;obtain⟨⟨p0,p1,p2,p3,p4,p5,p6⟩,_⟩:=(XP.out.below HA1.out XP.out.lt).seven)
        |(go_at_call 17;(with_reducible refine(HOK2.out _ HA1.out).mono ?_);rintro e a2 ⟨rfl,hb⟩;have HA2:=hid (HA1.out.trans (hb.mono HA1.out.size));clear hb p0 p1 p2 p3 p4 p5 p6;have p0:=(XP.out.below HA2.out XP.out.lt).seven.1.1;obtain⟨b0,b1,b2⟩:=(X9.out.below HA2.out X9.out.lt).three.1)
        |(go_at_call 16;(with_reducible refine(HRE.out _ HA2.out).mono ?_);rintro e a3 ⟨G3,rfl,h6,hb,_,_⟩;rw[show((cn0.cycles:Nat):Int)=0 from rfl];have H63:=hid h6;have HA3:=hid (HA2.out.trans ((((Below.refl _ _).alloc (Nat.le_refl _) _).trans (hb.mono (by simp))).mono HA2.out.size));clear h6 hb p0 b0 b1 b2)
        |(go_at_call 19;(with_reducible refine(implCntNew_any _).mono ?_);rintro e a4 ⟨g1,g2,g3,g4,g5,g6,rfl,hsx,hb⟩;have HSX:=hid (six_ints hsx);have H64:=hid ((H63.out.below hb).mono hb.size);have HA4:=hid (HA3.out.trans (hb.mono HA3.out.size));clear hsx hb)
        |(go_at_call 18;go_loud (with_reducible refine(crCount_any 0 _ _ _ _ _ _ _ _ _ _ _ _ _ _ _ _ _ _ _ _ H64.out HSX.out (Nat.le_refl _)).mono ?_);rintro e a5 ⟨rfl,hb⟩;have HA5:=hid (HA4.out.trans (hb.mono HA4.out.size));clear hb))
      have HK := hid (show ∀ W, Below a5.heap.size a5 W → ∀ {p : Addr} {v : Value}, w9.cell? p = some v → W.cell? p = some v from fun W hW {p v} h => by
        have h1:=(HA5.out.cell (World.block_lt_of_cell? w9 _ h)).trans h;exact(hW.cell (World.block_lt_of_cell? a5 _ h1)).trans h1)
      go_wp2_with fail
      go_loopw [7] (fun i wr=>∃k:Nat,i=.int .i64 k∧k≤3∧Below a5.heap.size a5 wr) (fun i _=>3 - (intOf i).toNat)
      case atStart=>exact⟨0,rfl,Nat.zero_le _,Below.refl _ _⟩
      case round=>
        obtain⟨k,rfl,hk,hbr⟩:=hrel;have HBR:=hid hbr;obtain⟨wo,hwo⟩:∃W,W=wr:=⟨_,rfl⟩
        subst hwo;clear hbr;by_cases hlt:k<3
        · have hki : (k : Int) < 3 := by omega
          obtain⟨⟨q0,q1,q2,q3,q4,q5,q6⟩,_⟩:=XC.out.seven;obtain⟨⟨p0,p1,p2,p3,p4,p5,p6⟩,_⟩:=XP.out.seven;have m0:=HCL.out 0 k (by omega) (by simpa[cnL]using hlt);have l0:=HCP.out 0 k (by omega) (by simpa[cnL]using hlt);simp only[Cn.l]at m0 l0;obtain⟨x0,hx0⟩:∃x,x=n.asked k:=⟨_,rfl⟩
          obtain⟨y0,hy0⟩:∃x,x=n2.asked k:=⟨_,rfl⟩
          rw[←hx0]at m0;rw[←hy0]at l0;have e0:decide (x0<y0)=false:=by have h:=HLE.out.asked k;rw[←hx0,←hy0]at h;simp;omega
          clear hx0 hy0;have m1:=HCL.out 1 k (by omega) (by simpa[cnL]using hlt);have l1:=HCP.out 1 k (by omega) (by simpa[cnL]using hlt);simp only[Cn.l]at m1 l1;obtain⟨x1,hx1⟩:∃x,x=n.told k:=⟨_,rfl⟩
          obtain⟨y1,hy1⟩:∃x,x=n2.told k:=⟨_,rfl⟩
          rw[←hx1]at m1;rw[←hy1]at l1;have e1:decide (x1<y1)=false:=by have h:=HLE.out.told k;rw[←hx1,←hy1]at h;simp;omega
          clear hx1 hy1;have m2:=HCL.out 2 k (by omega) (by simpa[cnL]using hlt);have l2:=HCP.out 2 k (by omega) (by simpa[cnL]using hlt);simp only[Cn.l]at m2 l2;obtain⟨x2,hx2⟩:∃x,x=n.waits k:=⟨_,rfl⟩
          obtain⟨y2,hy2⟩:∃x,x=n2.waits k:=⟨_,rfl⟩
          rw[←hx2]at m2;rw[←hy2]at l2;have e2:decide (x2<y2)=false:=by have h:=HLE.out.waits k;rw[←hx2,←hy2]at h;simp;omega
          clear hx2 hy2;replace m0:=HK.out wo HBR.out m0;replace l0:=HK.out wo HBR.out l0;replace q1:=HK.out wo HBR.out q1;replace p1:=HK.out wo HBR.out p1;replace m1:=HK.out wo HBR.out m1;replace l1:=HK.out wo HBR.out l1;replace q2:=HK.out wo HBR.out q2;replace p2:=HK.out wo HBR.out p2;replace m2:=HK.out wo HBR.out m2;replace l2:=HK.out wo HBR.out l2;replace q3:=HK.out wo HBR.out q3;replace p3:=HK.out wo HBR.out p3
          go_upto_region 11 with fail
          obtain⟨CC,hCC⟩:∃CC:List Value→World→Prop,CC=fun us W=>Below wo.heap.size wo W:=⟨_,rfl⟩
          have hC0:CC [] wo.drew:=by rw[hCC];exact(Below.refl _ _).drew
          have hTC:∀us W,CC us W→Below wo.heap.size wo W:=by rw[hCC];exact fun us W h=>h
          have HTC:=hid hTC;have hne:Nonempty (Ph CC):=⟨⟨([],wo.drew),hC0⟩⟩
          have pc:∀{p:Addr} {v:Value},wo.cell? p=some v→∀x:Ph CC,x.1.2.cell? p=some v:=fun hc x=>((hTC _ _ x.2).cell (World.block_lt_of_cell? wo _ hc)).trans hc
          replace m0:=pc m0;replace l0:=pc l0;replace q1:=pc q1;replace p1:=pc p1;replace m1:=pc m1;replace l1:=pc l1;replace q2:=pc q2;replace p2:=pc p2;replace m2:=pc m2;replace l2:=pc l2;replace q3:=pc q3;replace p3:=pc p3;clear hCC hTC pc;refine zB8 CC [] [] (by kernel_rfl) (by kernel_rfl) hC0 ?_
          try simp only[List.append_eq,List.cons_append,List.nil_append]
          repeat (
            (with_reducible refine wq1_q ⟨rfl,rfl⟩ (fun K hK=>?_))
            go_simp
            first
              |((with_reducible refine hK _ ?_);clear hK K)
              |((with_reducible refine zB1 (by simp[undef]) (hK _ ?_));clear hK K)
              | (apply Exists.intro
                 (with_reducible refine⟨fun _=>?_,hK _ ?_⟩)
                 (fail)
                 clear hK K))
          refine zH2 ?_;refine zH9 ?_;intro wz hwz;have HBZ:=hid (HTC.out _ _ hwz);clear hwz hC0 HTC hne m0 l0 q1 p1 m1 l1 q2 p2 m2 l2 q3 p3
          go_wp2_with fail
          go_roundw
          case rel=>exact⟨k+1,by go_num,by omega,HBR.out.trans (HBZ.out.mono HBR.out.size)⟩
          case measure=>simp[intOf];omega
        · obtain rfl : k = 3 := by omega
          rw[show(((3:Nat)):Int)=(3:Int) from rfl]
          go_wp2_with fail
          obtain⟨w8,hw8⟩:∃W,W=wo:=⟨_,rfl⟩
          go_loopw [8] (fun i wr=>∃k:Nat,i=.int .i64 k∧k≤4∧Below a5.heap.size a5 wr) (fun i _=>4 - (intOf i).toNat)
          case atStart=>exact⟨0,rfl,Nat.zero_le _,HBR.out⟩
          case round=>
            clear HBR hw8;obtain⟨k,rfl,hk,hbr⟩:=hrel;have HBR:=hid hbr;obtain⟨wo,hwo⟩:∃W,W=wr:=⟨_,rfl⟩
            subst hwo;clear hbr;by_cases hlt:k<4
            · have hki : (k : Int) ≤ 3 := by omega
              have hki4:(k:Int)<4:=by omega
              obtain⟨⟨q0,q1,q2,q3,q4,q5,q6⟩,_⟩:=XC.out.seven;obtain⟨⟨p0,p1,p2,p3,p4,p5,p6⟩,_⟩:=XP.out.seven;have m3:=HCL.out 3 k (by omega) (by simpa[cnL]using hlt);have l3:=HCP.out 3 k (by omega) (by simpa[cnL]using hlt);simp only[Cn.l]at m3 l3;obtain⟨x3,hx3⟩:∃x,x=n.lt k:=⟨_,rfl⟩
              obtain⟨y3,hy3⟩:∃x,x=n2.lt k:=⟨_,rfl⟩
              rw[←hx3]at m3;rw[←hy3]at l3;have e3:decide (x3<y3)=false:=by have h:=HLE.out.lt k;rw[←hx3,←hy3]at h;simp;omega
              clear hx3 hy3;have m4:=HCL.out 4 k (by omega) (by simpa[cnL]using hlt);have l4:=HCP.out 4 k (by omega) (by simpa[cnL]using hlt);simp only[Cn.l]at m4 l4;obtain⟨x4,hx4⟩:∃x,x=n.done k:=⟨_,rfl⟩
              obtain⟨y4,hy4⟩:∃x,x=n2.done k:=⟨_,rfl⟩
              rw[←hx4]at m4;rw[←hy4]at l4;have e4:decide (x4<y4)=false:=by have h:=HLE.out.done k;rw[←hx4,←hy4]at h;simp;omega
              clear hx4 hy4;have m5:=HCL.out 5 k (by omega) (by simpa[cnL]using hlt);have l5:=HCP.out 5 k (by omega) (by simpa[cnL]using hlt);simp only[Cn.l]at m5 l5;obtain⟨x5,hx5⟩:∃x,x=n.busy k:=⟨_,rfl⟩
              obtain⟨y5,hy5⟩:∃x,x=n2.busy k:=⟨_,rfl⟩
              rw[←hx5]at m5;rw[←hy5]at l5;have e5:decide (x5<y5)=false:=by have h:=HLE.out.busy k;rw[←hx5,←hy5]at h;simp;omega
              clear hx5 hy5;replace m3:=HK.out wo HBR.out m3;replace l3:=HK.out wo HBR.out l3;replace q4:=HK.out wo HBR.out q4;replace p4:=HK.out wo HBR.out p4;replace m4:=HK.out wo HBR.out m4;replace l4:=HK.out wo HBR.out l4;replace q5:=HK.out wo HBR.out q5;replace p5:=HK.out wo HBR.out p5;replace m5:=HK.out wo HBR.out m5;replace l5:=HK.out wo HBR.out l5;replace q6:=HK.out wo HBR.out q6;replace p6:=HK.out wo HBR.out p6
              go_upto_region 16 with fail
              obtain⟨CC,hCC⟩:∃CC:List Value→World→Prop,CC=fun us W=>Below wo.heap.size wo W:=⟨_,rfl⟩
              have hC0:CC [] wo.drew:=by rw[hCC];exact(Below.refl _ _).drew
              have hTC:∀us W,CC us W→Below wo.heap.size wo W:=by rw[hCC];exact fun us W h=>h
              have HTC:=hid hTC;have hne:Nonempty (Ph CC):=⟨⟨([],wo.drew),hC0⟩⟩
              have pc:∀{p:Addr} {v:Value},wo.cell? p=some v→∀x:Ph CC,x.1.2.cell? p=some v:=fun hc x=>((hTC _ _ x.2).cell (World.block_lt_of_cell? wo _ hc)).trans hc
              replace m3:=pc m3;replace l3:=pc l3;replace q4:=pc q4;replace p4:=pc p4;replace m4:=pc m4;replace l4:=pc l4;replace q5:=pc q5;replace p5:=pc p5;replace m5:=pc m5;replace l5:=pc l5;replace q6:=pc q6;replace p6:=pc p6;clear hCC hTC pc;refine zB8 CC [] [] (by kernel_rfl) (by kernel_rfl) hC0 ?_
              try simp only[List.append_eq,List.cons_append,List.nil_append]
              repeat (
                (with_reducible refine wq1_q ⟨rfl,rfl⟩ (fun K hK=>?_))
                go_simp
                first
                  |((with_reducible refine hK _ ?_);clear hK K)
                  |((with_reducible refine zB1 (by simp[undef]) (hK _ ?_));clear hK K)
                  | (apply Exists.intro
                     (with_reducible refine⟨fun _=>?_,hK _ ?_⟩)
                     (fail)
                     clear hK K))
              refine zH2 ?_;refine zH9 ?_;intro wz hwz;have HBZ:=hid (HTC.out _ _ hwz);clear hwz hC0 HTC hne m3 l3 q4 p4 m4 l4 q5 p5 m5 l5 q6 p6
              go_wp2_with fail
              go_roundw
              case rel=>exact⟨k+1,by go_num,by omega,HBR.out.trans (HBZ.out.mono HBR.out.size)⟩
              case measure=>simp[intOf];omega
            · obtain rfl : k = 4 := by omega
              rw[show(((4:Nat)):Int)=(4:Int) from rfl]
              go_wp2_with fail
              go_ret
              exact⟨rfl,(((HB1.out.trans (HB19.out.mono HB1.out.size)).trans (HA5.out.mono (Nat.le_trans HB1.out.size HB19.out.size))).trans (HBR.out.mono (Nat.le_trans HB1.out.size (Nat.le_trans HB19.out.size HA5.out.size))))⟩
end Go.Proofs.YthnlalffjepdaaaGreat
namespace Go.Proofs.YthnlalffjepdaaaGreat
open Go.RowKit
open Go.ChangeShapes Go.WideShapes Go.ChangeAt
theorem cntpart_holds:Rows.FnCntPartSaid :=
 OpenClaim.holds_of_wide 3 Tryz.f3 rfl rfl rfl rfl rfl rfl rfl ⟨rfl, rfl, rfl, rfl, rfl⟩ rfl rfl rfl rfl rfl (by kernel_rfl) Tryz.func3 (by kernel_rfl)
  (of_decide_eq_true (by kernel_rfl)) (by unfold Func.isWrapper;first|(rw[if_pos (by decide +kernel)];kernel_rfl)|(rw[if_neg (by decide +kernel)];exact⟨rfl,rfl⟩))
  (fun os started H enc _ => code_lifted started enc 3 Tryz.f3 Rows.fnCntPartSpec rfl (by kernel_rfl) Tryz.func3
   (ChangeSpec.witness6 (enc:=enc) (C:=Tryz.checked) false ⟨#[],#[.slice none 0 0],[]⟩ 8 (by kernel_rfl) (by kernel_rfl) (by kernel_rfl) (by kernel_rfl)) Tryz.params3 rfl (fun _=>⟨rfl,rfl,rfl⟩) (cntpart_any drawPlay_any))
#print axioms cntpart_holds
end Go.Proofs.YthnlalffjepdaaaGreat
