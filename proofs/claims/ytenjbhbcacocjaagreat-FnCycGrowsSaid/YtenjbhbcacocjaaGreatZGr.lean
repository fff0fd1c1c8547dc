/- For every code the law FnCycGrows returns true, and its argument reads behind the call as it read before. -/
import Derived.Test.YtenjbhbcacocjaaGreatGGp
import Derived.Test.YtenjbhbcacocjaaGreatGLb
import Derived.Test.YtenjbhbcacocjaaGreatGRow
import Derived.Deep.RegionWith
import Derived.Deep.Cut
import Derived.Deep.CutRange
set_option linter.unusedVariables false
set_option linter.unusedSimpArgs false
namespace Go.Proofs.YtenjbhbcacocjaaGreat
open Go.RowKit
set_option maxRecDepth 8000 in
set_option maxHeartbeats 16000000 in
theorem grows_any (hdraw:DrawPl) (v:Value) (bs:List Nat) (B:Nat) (w:World) (h:Bytes w B v bs) (hB:B ≤ w.heap.size) :
    Calls Tryz.prog 3 #[v] w fun e w' => e = .returned (.bool true) ∧ Below w.heap.size w w':=by
  obtain ⟨ao,cap,rfl,hlc,hcap,hln,hni,hr⟩:=h.opened
  clear hr
  by_cases hbig:(1048576:Int) < (bs.length:Int)
  · go_enter Tryz.func3,Tryz.ntmps3
    go_wp2_with fail
    go_ret
    exact ⟨rfl,Below.refl _ _⟩
  · go_enter Tryz.func3,Tryz.ntmps3
    go_wp2_with fail
    refine (hdraw _ bs B w h hB).mono ?_
    rintro e w1 ⟨u,iv,c,ins,rfl,hbus,hbv,hins,hil,hb1⟩
    obtain ⟨mv,lb,lo,lc,pb,po,pc,QQ,K,rfl,⟨ma,mn,mk,rfl⟩,_,_,_,_,_,_⟩:=hbv.opened hbus
    obtain ⟨ia,ic,rfl,ic1,ic2,ic3,_,hcell⟩:=hins.opened
    have HBV:=hid hbv;have HCELL:=hid hcell;have HB1:=hid hb1
    obtain ⟨il,hil2⟩:∃ x,x = ins.length:=⟨_,rfl⟩
    rw [← hil2] at HCELL ic1 ic3 hil ⊢
    have HIL:=hid hil2
    clear hbv hins hcell hb1 hil2 h
    go_upto_region 4 with fail
    obtain ⟨w2,hw2⟩:∃ W,W = w1.alloc (.cells #[.slice ma mn mk,.slice (some ⟨lb,lo,none⟩) 4 lc,.slice (some ⟨pb,po,none⟩) 3 pc] 27):=⟨_,rfl⟩
    obtain ⟨gb,hgb⟩:∃ g,g = w1.heap.size:=⟨_,rfl⟩
    have X0:=hid (show Bx w2 gb [.slice ma mn mk,.slice (some ⟨lb,lo,none⟩) 4 lc,.slice (some ⟨pb,po,none⟩) 3 pc] by rw [hw2,hgb];exact Bx.new w1 #[.slice ma mn mk,.slice (some ⟨lb,lo,none⟩) 4 lc,.slice (some ⟨pb,po,none⟩) 3 pc] 27 (by simp))
    have HB2:=hid (show Below w1.heap.size w1 w2 by rw [hw2];exact (Below.refl _ _).alloc (Nat.le_refl _) _)
    rw [← hw2,← hgb]
    have HGB:=hid hgb
    clear hw2 hgb
    go_upto_region 5 with (go_at_call 16;go_loud ((with_reducible refine (cycNew_any _).mono ?_));rintro e w3 hcop;obtain ⟨V,N,C,D,y0,y1,y2,y3,y4,m0,m1,m2,m3,m4,j0,j1,j2,j3,j4,hE,rfl,hr,hb3⟩:=hcop.sl;have HE:=hid hE;have HR:=hid hr;have HB3:=hid hb3;clear hcop hE hr hb3)
    obtain ⟨w4,hw4⟩:∃ W,W = w3.alloc (.cells #[.slice y0 m0 j0,.slice y1 m1 j1,.slice y2 m2 j2,.slice y3 m3 j3,.slice y4 m4 j4] 39):=⟨_,rfl⟩
    obtain ⟨gs,hgs⟩:∃ g,g = w3.heap.size:=⟨_,rfl⟩
    have hb4:Below w3.heap.size w3 w4:=by rw [hw4];exact (Below.refl _ _).alloc (Nat.le_refl _) _
    have HS:=hid (show CyBox w4 gs cy0 from CyBox.new HR.out hb4 (by omega) (by
      obtain ⟨e0,e1,e2,e3,e4⟩:=HE.out
      rw [e0,e1,e2,e3,e4,hw4,hgs];exact Bx.new w3 #[.slice y0 m0 j0,.slice y1 m1 j1,.slice y2 m2 j2,.slice y3 m3 j3,.slice y4 m4 j4] 39 (by simp)))
    have X04:=hid ((X0.out.below HB3.out X0.out.lt).below hb4 (by have:=X0.out.lt;have:=HB3.out.size;omega))
    have HB4:=hid ((HB2.out.trans (HB3.out.mono HB2.out.size)).trans (hb4.mono (Nat.le_trans HB2.out.size HB3.out.size)))
    have hgg:gb < gs:=by have:=X0.out.lt;have:=HB3.out.size;omega
    have h1s:w1.heap.size ≤ gs:=by have:=HB2.out.size;have:=HB3.out.size;omega
    rw [← hw4,← hgs]
    clear hw4 hgs hb4
    go_wp2_with fail
    go_loopw [6] (fun i wr => ∃ k:Nat,i = .int .i64 k ∧ k ≤ il ∧ CyBox wr gs (runC c (ins.take k) cy0) ∧ Bx wr gb [.slice ma mn mk,.slice (some ⟨lb,lo,none⟩) 4 lc,.slice (some ⟨pb,po,none⟩) 3 pc] ∧ Below w1.heap.size w1 wr) (fun i _ => il - (intOf i).toNat)
    case atStart => exact ⟨0,rfl,Nat.zero_le _,by simpa [runC] using HS.out,X04.out,HB4.out⟩
    case round =>
      clear HS X04 HB4 HE HR
      obtain ⟨k,rfl,hk,hs,hx0,hbr⟩:=hrel
      have HS:=hid hs;have X:=hid hx0;have HBR:=hid hbr
      have HG:=hid (show Good c (runC c (ins.take k) cy0) from good_run hbus _ (good_zero c))
      obtain ⟨wo,hwo⟩:∃ W,W = wr:=⟨_,rfl⟩
      subst hwo
      clear hs hx0 hbr
      by_cases hlt:k < il
      · have hki:(k:Int) < (il:Int):=by omega
        obtain ⟨b,off,rfl,hbB,hrow⟩:=HCELL.out (by omega)
        obtain ⟨ra,rc,ta,tc,sa,sc,hiv,c0,c1,c2⟩:=hrow k hlt
        obtain ⟨st,hst⟩:∃ s,s = runC c (ins.take k) cy0:=⟨_,rfl⟩
        have HSN:=hid (show runC c (ins.take (k + 1)) cy0 = cyc c (ins.getD k default) st by rw [hst];exact runC_snoc c ins k (by rw [← HIL.out];exact hlt) cy0)
        rw [← hst] at HS HG
        obtain ⟨z0,z1,z2,z3,z4,n0,n1,n2,n3,n4,k0,k1,k2,k3,k4,P,Q,hx,hv⟩:=HS.out.view hbus HG.out
        obtain ⟨t0,t1,t2,t3,t4⟩:=hx.five.1
        obtain ⟨b0,b1,b2⟩:=X.out.three.1
        rw [← HBR.out.cell (p:=⟨b,_,none⟩) hbB] at c0 c1 c2
        have hgb:gb < wo.heap.size:=X.out.lt
        have hgs:gs < wo.heap.size:=HS.out.lt
        have hbo:b < wo.heap.size:=Nat.lt_of_lt_of_le hbB HBR.out.size
        have HIV:=hid ((hiv.below HBR.out).mono HBR.out.size)
        have HST:=hid (show ∀ W,Below wo.heap.size wo W → Calls Tryz.prog 17 #[.agg #[.slice ma mn mk,.slice (some ⟨lb,lo,none⟩) 4 lc,.slice (some ⟨pb,po,none⟩) 3 pc],.agg #[.slice z0 n0 k0,.slice z1 n1 k1,.slice z2 n2 k2,.slice z3 n3 k3,.slice z4 n4 k4],.agg #[.slice ra 3 rc,.slice ta 4 tc,.slice sa 3 sc]] W (CopP (cyc c (ins.getD k default) st) W) from fun W hb9 =>
          cycStep_any hbus (B:=wo.heap.size) (((HBV.out.below HBR.out).mono HBR.out.size).below hb9) (hv.below hb9) (HIV.out.below hb9) hb9.size HG.out)
        obtain ⟨Z,hZ⟩:∃ Z:Obj,Z = .cells #[.slice none 0 0,.slice none 0 0,.slice none 0 0,.slice none 0 0,.slice none 0 0] 39:=⟨_,rfl⟩
        have HD1:=hid (show Below wo.heap.size wo wo.drew from (Below.refl _ _).drew)
        have HD2:=hid (show Below wo.heap.size wo (wo.alloc (.cells #[.slice none 0 0,.slice none 0 0,.slice none 0 0,.slice none 0 0,.slice none 0 0] 39)).drew from ((Below.refl _ _).alloc (Nat.le_refl _) _).drew)
        have HX2:=hid (show Bx (wo.alloc (.cells #[.slice none 0 0,.slice none 0 0,.slice none 0 0,.slice none 0 0,.slice none 0 0] 39)).drew wo.heap.size [vnil,vnil,vnil,vnil,vnil] from
          (Bx.new wo #[vnil,vnil,vnil,vnil,vnil] 39 (by simp)).below (Below.refl (wo.heap.size + 1) _).drew (Nat.lt_succ_self _))
        clear hx hv hiv hrow hZ
        obtain ⟨st2,hst2⟩:∃ s,s = cyc c (ins.getD k default) st:=⟨_,rfl⟩
        have HS2:=hid hst2
        rw [← hst2] at HST HSN
        clear hst2
        go_upto_region 8 with fail
        go_cut [7] from 26 to 32 (fun s7 w9 => Stepped wo gs st2 s7 w9)
        case first =>
          go_region_with (first
            | (go_at_call 17;(with_reducible refine (HST.out wo.drew HD1.out).mono ?_);rintro e wa hcop;obtain ⟨V,N,C,D,y0,y1,y2,y3,y4,m0,m1,m2,m3,m4,j0,j1,j2,j3,j4,hE,rfl,hr,hba⟩:=hcop.sl;have HE:=hid hE;have HR:=hid hr;have HBA:=hid hba;clear hcop hE hr hba)
            | (go_at_call 17;(with_reducible refine (HST.out _ HD2.out).mono ?_);rintro e wa hcop;obtain ⟨V,N,C,D,y0,y1,y2,y3,y4,m0,m1,m2,m3,m4,j0,j1,j2,j3,j4,hE,rfl,hr,hba⟩:=hcop.sl;have HE:=hid hE;have HR:=hid hr;have HBA:=hid hba;have HX3:=hid (HX2.out.below hba HX2.out.lt);obtain ⟨⟨q0,q1,q2,q3,q4⟩,f0,f1,f2,f3,f4⟩:=HX3.out.five;clear hcop hE hr hba))
          all_goals
            go_wp2_with fail
            go_meet
            first
              | exact stepped_b HE.out HR.out HBA.out HX3.out hgs
              | exact stepped_a HE.out HR.out HBA.out hgs
        case rest =>
          obtain ⟨base,gx,V,N,C,D,y0,y1,y2,y3,y4,m0,m1,m2,m3,m4,j0,j1,j2,j3,j4,rfl,hE,hr,hgb2,hx9,hgx,hb9⟩:=hcut
          have HE:=hid hE;have HR:=hid hr;have X9:=hid hx9;have HB9:=hid hb9
          have HG2:=hid (show Good c st2 by rw [HS2.out];exact good_step hbus (inp:=ins.getD k default) HG.out)
          have HGW:=hid (show Grow (ins.getD k default) st st2 by rw [HS2.out];exact grow_step)
          clear hr hb9 HST
          obtain ⟨w9,hw9⟩:∃ W,W = wc:=⟨_,rfl⟩
          subst hw9
          obtain ⟨s0,s1,s2,s3,s4,r0,r1,r2,r3,r4,g0,g1,g2,g3,g4,P1,Q1,hx,hv⟩:=(HS.out.below HB9.out).view hbus HG.out
          obtain ⟨d0,d1,d4,c0', c1', c4', pg,po2,pc2,tg,tp,tc2,e0,e1,e2,e3,e4,hpg,_,hp,_⟩:=hv.rows
          rw [e0,e1,e2,e3,e4] at hx hv
          obtain ⟨P2,Q2,hu⟩:=HR.out.toV hbus HG2.out
          obtain ⟨f0,f1,f4,l0,l1,l4,qg,qo,qc,ug,up,uc,e0', e1', e2', e3', e4', hqg,_,hq,_⟩:=hu.rows
          rw [← hE.1,← hE.2.1,← hE.2.2.1,← hE.2.2.2.1,← hE.2.2.2.2,e0', e1', e2', e3', e4'] at hx9
          rw [e4'] at hu
          have HV:=hid hv.told;have HU:=hid hu.told;have HX:=hid hx;have HX9:=hid hx9;have HP:=hid hp;have HQ:=hid hq
          have HE2:=hid (show V 0 = .slice f0 st2.ws.length l0 ∧ V 1 = .slice f1 st2.hs.length l1 ∧ V 2 = .slice (some ⟨qg,qo,none⟩) 3 qc ∧ V 3 = .slice (some ⟨ug,up,none⟩) 4 uc ∧ V 4 = .slice f4 st2.told.length l4 from ⟨e0', e1', e2', e3', e4'⟩)
          have hcap:st2.told.length ≤ l4:=by
            obtain ⟨_,_,hcp,hcap,_⟩:=hu.told.cells
            simp only [Value.slice.injEq,true_and] at hcp
            rw [hcp.2];exact hcap
          clear hx hv hx9 hu hp hq hE e0 e1 e2 e3 e4 e0' e1' e2' e3' e4'
          obtain ⟨tA,tB,⟨tt,htt⟩⟩:∃ a b:Nat,(∃ t,st2.told = st.told ++ t):=⟨0,0,HGW.out.pre⟩
          have HTT:=hid htt
          obtain ⟨sl1,hsl1⟩:∃ x,x = st.told.length:=⟨_,rfl⟩
          obtain ⟨sl2,hsl2⟩:∃ x,x = st2.told.length:=⟨_,rfl⟩
          have hle:sl1 ≤ sl2:=by rw [hsl1,hsl2,htt,List.length_append];omega
          have HTK:=hid (show JobsV w9 w9.heap.size (.slice f4 sl1 l4) st.told by
            have:=HU.out.take (m:=sl1) (by rw [← hsl2];exact hle)
            rwa [show st2.told.take sl1 = st.told by rw [HTT.out,hsl1,List.take_left]] at this)
          have HS1:=hid hsl1;have HS2':=hid hsl2
          rw [← hsl1] at HV HX;rw [← hsl2] at HU HX9 HE2 hcap
          have hcap1:(sl1:Int) ≤ (l4:Int):=by omega
          have q1:decide (sl2 < sl1) = false:=by simp;omega
          clear htt hsl1 hsl2
          have t4:=HX.out.five.1.2.2.2.2
          have x4:=HX9.out.five.1.2.2.2.2
          obtain ⟨CC,hCC⟩:∃ CC:List Value → World → Prop,CC = fun us W => Below w9.heap.size w9 W:=⟨_,rfl⟩
          have hC0:CC [] w9.drew:=by rw [hCC];exact (Below.refl _ _).drew
          have hTC:∀ us W,CC us W → Below w9.heap.size w9 W:=by rw [hCC];exact fun us W h => h
          have HTC:=hid hTC
          have HCC:=hid hCC
          have hne:Nonempty (Ph CC):=⟨⟨([],w9.drew),hC0⟩⟩
          have pc:∀ {p:Addr} {v:Value},w9.cell? p = some v → ∀ x:Ph CC,x.1.2.cell? p = some v:=fun hc x => ((hTC _ _ x.2).cell (World.block_lt_of_cell? w9 _ hc)).trans hc
          replace t4:=pc t4;replace x4:=pc x4
          clear hCC hTC pc
          go_upto_region 9 with fail
          refine wp_region_flow CC [(16,true)] [] (by kernel_rfl) (by kernel_rfl) hC0 ?_
          repeat (
            (with_reducible refine wq1_q ⟨rfl,rfl⟩ (fun K hK => ?_))
            go_simp
            first
              | ((with_reducible refine hK _ ?_);clear hK K)
              | ((with_reducible refine of_ite_neg (by simp [undef]) (hK _ ?_));clear hK K)
              | (apply Exists.intro
                 (with_reducible refine ⟨fun _ => ?_,hK _ ?_⟩)
                 (fail)
                 clear hK K))
          refine wq1_x rfl (.bool true) (fun KA hKA => ?_)
          go_simp
          refine hKA _ ?_
          clear hKA KA
          repeat (
            (with_reducible refine wq1_q ⟨rfl,rfl⟩ (fun K hK => ?_))
            go_simp
            first
              | ((with_reducible refine hK _ ?_);clear hK K)
              | ((with_reducible refine of_ite_neg (by simp [undef]) (hK _ ?_));clear hK K)
              | (apply Exists.intro
                 (with_reducible refine ⟨fun _ => ?_,hK _ ?_⟩)
                 (fail)
                 clear hK K))
          refine wq1_nil ?_
          clear t4 x4 hne
          refine wq2_x _ rfl rfl ?_ ?_
          · intro W hW KA hKA
            have h1:=HTC.out _ _ hW
            go_simp
            (with_reducible refine (crJobs_same st.told _ _ w9.heap.size W (HTK.out.below h1) (HV.out.below h1) h1.size).mono ?_)
            rintro e w'' ⟨rfl,h2⟩
            go_simp
            exact hKA (.bool true) _ _ (by rw [HCC.out];exact h1.trans (h2.mono h1.size)) rfl rfl
          intro _
          refine wq2_nil ?_
          intro wd hwd
          have HBD:=hid (HTC.out _ _ hwd)
          clear hwd hC0 HCC HTC
          have HC0:=hid c0;have HC2:=hid c2
          have HIN:=hid HIV.out.bits
          clear q1 c0 c1 c2 t0 t1 t2 t3 b0 b1 b2
          have K9:=hid (show ∀ W,Below w9.heap.size w9 W → ∀ {p:Addr} {v:Value},w9.cell? p = some v → W.cell? p = some v from fun W hW {_ _} h => (hW.cell (World.block_lt_of_cell? w9 _ h)).trans h)
          have KO:=hid (show ∀ W,Below wo.heap.size wo W → ∀ {p:Addr} {v:Value},wo.cell? p = some v → W.cell? p = some v from fun W hW {_ _} h => (hW.cell (World.block_lt_of_cell? wo _ h)).trans h)
          have HSM:=hid (smallC_of hbus HG.out).told;have HSM2:=hid (smallC_of hbus HG2.out).told
          go_wp2_with fail
          go_loopw [8] (fun i wr => ∃ j:Nat,i = .int .i64 j ∧ j ≤ 3 ∧ Below wd.heap.size wd wr) (fun i _ => 3 - (intOf i).toNat)
          case atStart => exact ⟨0,by go_num,Nat.zero_le _,Below.refl _ _⟩
          case round =>
            obtain ⟨j,rfl,hj,hbr2⟩:=hrel
            have HBL:=hid hbr2
            have HB10:=hid (HBD.out.trans (hbr2.mono HBD.out.size))
            clear hbr2
            by_cases hlt2:j < 3
            · have hji:(j:Int) < 3:=by omega
              obtain ⟨rb,ro,sb,so,rfl,rfl,hrb,hsb,hrd,hsn⟩:=HIN.out
              obtain ⟨_,_,_,_,p0,_,_,_,_,_⟩:=HP.out j hlt2
              obtain ⟨_,_,_,_,y0,_,_,_,_,_⟩:=HQ.out j hlt2
              have u4:=K9.out _ HB10.out HX.out.five.1.2.2.2.2
              obtain ⟨a,ha⟩:∃ a,a = cntW j st.told:=⟨_,rfl⟩
              obtain ⟨d,hd⟩:∃ a,a = cntW j st2.told:=⟨_,rfl⟩
              obtain ⟨nx,hnx⟩:∃ a,a = (st.ports j).next:=⟨_,rfl⟩
              obtain ⟨ny,hny⟩:∃ a,a = (st2.ports j).next:=⟨_,rfl⟩
              have k1:=HGW.out.cnt j;have k2:=HGW.out.rdy j;have k3:=HGW.out.lo j;have k4:=HGW.out.hi j;have k5:=HGW.out.snd j
              rw [← ha,← hd] at k1 k2
              rw [← hnx,← hny] at k3 k4 k5
              have hab:a ≤ 1000:=by rw [ha];exact Nat.le_trans (List.length_filter_le _ _) HSM.out.1
              have hnxb:nx ≤ 12:=by rw [hnx];exact Nat.le_trans (HG.out.p j hlt2).nx (hbus.twelve hlt2)
              have HT1:=hid (show Calls Tryz.prog 19 #[.slice d4 sl1 c4', .int .i64 j] wr (fun e w' => ∃ x cp,e = .returned (.slice x a cp) ∧ Below wr.heap.size wr w') by
                rw [ha];exact toldOf_any (HV.out.below HB10.out) HB10.out.size HSM.out.1 HSM.out.2)
              have HT2:=hid (show ∀ W,Below w9.heap.size w9 W → Calls Tryz.prog 19 #[.slice f4 sl2 l4,.int .i64 j] W (fun e w' => ∃ x cp,e = .returned (.slice x d cp) ∧ Below W.heap.size W w') from fun W hW => by
                rw [hd];exact toldOf_any (HU.out.below hW) hW.size HSM2.out.1 HSM2.out.2)
              have hrj:=hrd j hlt2;have hsj:=hsn j hlt2
              obtain ⟨rv,hrv⟩:∃ v,v = (ins.getD k default).ready.getD j false:=⟨_,rfl⟩
              obtain ⟨sv,hsv⟩:∃ v,v = (ins.getD k default).send.getD j false:=⟨_,rfl⟩
              rw [← hrv] at k2 hrj;rw [← hsv] at k5 hsj
              rw [← hnx] at p0;rw [← hny] at y0
              obtain ⟨a1,ha1⟩:∃ x,x = a + 1:=⟨_,rfl⟩
              obtain ⟨nx1,hnx1⟩:∃ x,x = nx + 1:=⟨_,rfl⟩
              have ew1:IntKind.i64.wrap ((a:Int) + 1) = (a1:Int):=by rw [IntKind.wrap_i64];omega
              have ew2:IntKind.i64.wrap ((nx:Int) + 1) = (nx1:Int):=by rw [IntKind.wrap_i64];omega
              have e1:decide (a1 < d) = false:=by simp;omega
              have e2:decide (ny < nx) = false:=by simp;omega
              have e3:decide (nx1 < ny) = false:=by simp;omega
              obtain ⟨v4,e4⟩:∃ v,decide (a < d) = v:=⟨_,rfl⟩
              obtain ⟨v5,e5⟩:∃ v,decide (nx < ny) = v:=⟨_,rfl⟩
              have h4:v4 = true → rv = true:=fun h => k2 (by rw [h] at e4;simpa using e4)
              have h5:v5 = true → sv = true:=fun h => k5 (by rw [h] at e5;simpa using e5)
              have HP0:=hid p0;have HY0:=hid y0;have HRJ:=hid hrj;have HSJ:=hid hsj
              clear ha hd hnx hny k1 k2 k3 k4 k5 hab hnxb hrd hsn hrv hsv ha1 hnx1 p0 y0 hrj hsj
              cases v4 <;> cases v5 <;> (try (have h:=h4 rfl;subst h)) <;> (try (have h:=h5 rfl;subst h)) <;> clear h4 h5
              all_goals
                go_upto_region 16 with (first
                  | (go_at_call 19;(with_reducible refine (HT1.out).mono ?_);rintro e w10 ⟨xa,xc,rfl,hb10⟩;have HBA:=hid hb10;have HB11:=hid (HB10.out.trans (hb10.mono HB10.out.size));have x4:=K9.out _ HB11.out HX9.out.five.1.2.2.2.2;clear u4 hb10)
                  | (go_at_call 19;(with_reducible refine (HT2.out _ HB11.out).mono ?_);rintro e w11 ⟨xb,xd,rfl,hb11⟩;have HB12:=hid (HB11.out.trans (hb11.mono HB11.out.size));have HB13:=hid (HB9.out.trans (HB12.out.mono HB9.out.size));have x2:=K9.out _ HB12.out HX9.out.five.1.2.2.1;have u2:=K9.out _ HB12.out HX.out.five.1.2.2.1;have p0:=K9.out _ HB12.out HP0.out;have y0:=K9.out _ HB12.out HY0.out;have hrj:=KO.out _ HB13.out HRJ.out;have hsj:=KO.out _ HB13.out HSJ.out;have c0:=KO.out _ HB13.out HC0.out;have c2:=KO.out _ HB13.out HC2.out;have HB14:=hid (HBA.out.trans (hb11.mono HBA.out.size));clear x4 hb11))
                obtain ⟨CC,hCC⟩:∃ CC:List Value → World → Prop,CC = fun us W => Below w11.heap.size w11 W:=⟨_,rfl⟩
                have hC0:CC [] w11.drew:=by rw [hCC];exact (Below.refl _ _).drew
                have hTC:∀ us W,CC us W → Below w11.heap.size w11 W:=by rw [hCC];exact fun us W h => h
                have HTC:=hid hTC
                have hne:Nonempty (Ph CC):=⟨⟨([],w11.drew),hC0⟩⟩
                have pc:∀ {p:Addr} {v:Value},w11.cell? p = some v → ∀ x:Ph CC,x.1.2.cell? p = some v:=fun hc x => ((hTC _ _ x.2).cell (World.block_lt_of_cell? w11 _ hc)).trans hc
                replace x2:=pc x2;replace u2:=pc u2;replace p0:=pc p0;replace y0:=pc y0;replace hrj:=pc hrj;replace hsj:=pc hsj;replace c0:=pc c0;replace c2:=pc c2
                clear hCC hTC pc
                refine wp_region_flow CC [] [] (by kernel_rfl) (by kernel_rfl) hC0 ?_
                simp only [List.append_eq,List.cons_append,List.nil_append]
                repeat (
                  (with_reducible refine wq1_q ⟨rfl,rfl⟩ (fun K hK => ?_))
                  go_simp
                  first
                    | ((with_reducible refine hK _ ?_);clear hK K)
                    | ((with_reducible refine of_ite_neg (by simp [undef]) (hK _ ?_));clear hK K)
                    | (apply Exists.intro
                       (with_reducible refine ⟨fun _ => ?_,hK _ ?_⟩)
                       (fail)
                       clear hK K))
                refine wq1_nil ?_
                refine wq2_nil ?_
                intro wz hwz
                have HBZ:=hid (HTC.out _ _ hwz)
                clear hwz hC0 HTC hne x2 u2 p0 y0 hrj hsj c0 c2
                go_wp2_with fail
                go_roundw
                case rel => exact ⟨j + 1,by go_num,by omega,HBL.out.trans ((HB14.out.trans (HBZ.out.mono HB14.out.size)).mono HBL.out.size)⟩
                case measure => simp [intOf];omega
            · obtain rfl:j = 3:=by omega
              rw [show (((3:Nat)):Int) = (3:Int) from rfl]
              have HXW:=hid (HX.out.below HB10.out HX.out.lt)
              obtain ⟨x0,x1,x2,x3,x4⟩:=(HX9.out.below HB10.out HX9.out.lt).five.1
              obtain ⟨⟨q0,q1,q2,q3,q4⟩,z0,z1,z2,z3,z4⟩:=HXW.out.five
              have hrl:=HXW.out.lt
              go_upto_region 7 with fail
              clear x0 x1 x2 x3 x4 q0 q1 q2 q3 q4 z0 z1 z2 z3 z4 hrl
              obtain ⟨wz,hwz⟩:∃ W,W = ((((wr.setCell ⟨gs,0,none⟩ (.slice f0 st2.ws.length l0)).setCell ⟨gs,1,none⟩ (.slice f1 st2.hs.length l1)).setCell ⟨gs,2,none⟩ (.slice (some ⟨qg,qo,none⟩) 3 qc)).setCell ⟨gs,3,none⟩ (.slice (some ⟨ug,up,none⟩) 4 uc)).setCell ⟨gs,4,none⟩ (.slice f4 sl2 l4):=⟨_,rfl⟩
              have HSB:=hid (show CyBox wz gs st2 by
                rw [hwz]
                refine CyBox.set (HR.out.kept (fun b _ hb => HB10.out.block b hb) HB10.out.size) put5_other (by simp) hgb2 ?_
                obtain ⟨e0,e1,e2,e3,e4⟩:=HE2.out
                rw [e0,e1,e2,e3,e4]
                exact HXW.out.put5 _ _ _ _ _)
              have HB15:=hid (HB9.out.trans (HB10.out.mono HB9.out.size))
              have XB:=hid (show Bx wz gb [.slice ma mn mk,.slice (some ⟨lb,lo,none⟩) 4 lc,.slice (some ⟨pb,po,none⟩) 3 pc] from (X.out.below HB15.out X.out.lt).kept (by rw [hwz];exact put5_other _ (by omega)))
              have HBB:=hid (show Below w1.heap.size w1 wz by
                have h9:=HBR.out.trans (HB15.out.mono HBR.out.size)
                rw [hwz];exact ((((h9.setCell (p:=⟨gs,_,none⟩) h1s _).setCell (p:=⟨gs,_,none⟩) h1s _).setCell (p:=⟨gs,_,none⟩) h1s _).setCell (p:=⟨gs,_,none⟩) h1s _).setCell (p:=⟨gs,_,none⟩) h1s _)
              rw [← hwz]
              clear hwz
              go_wp2_with fail
              go_roundw
              case rel => exact ⟨k + 1,by go_num,by omega,by rw [HSN.out];exact HSB.out,XB.out,HBB.out⟩
              case measure => simp [intOf];omega
      · obtain rfl:k = il:=by omega
        have hki2:decide ((k:Int) < (k:Int)) = false:=by simp
        rw [show ins.take k = ins from List.take_of_length_le (by rw [HIL.out];exact Nat.le_refl _)] at HS HG
        obtain ⟨z0,z1,z2,z3,z4,n0,n1,n2,n3,n4,k0,k1,k2,k3,k4,P,Q,hx,hv⟩:=HS.out.view hbus HG.out
        obtain ⟨t0,t1,t2,t3,t4⟩:=hx.five.1
        obtain ⟨b0,b1,b2⟩:=X.out.three.1
        have HOK:=hid (cycOk_any hbus ((HBV.out.below HBR.out).mono HBR.out.size) hv (Nat.le_refl _) HG.out)
        clear hx hv
        go_wp2_with (first
          | (go_at_call 20;go_loud ((with_reducible refine (HOK.out).mono ?_));rintro e w8 ⟨rfl,hb8⟩;have HB8:=hid hb8;clear hb8 t0 t1 t2 t3 t4 b0 b1 b2)
          | (go_at_call 21;refine (crOk_any _).mono ?_;rintro e w9 ⟨rfl,rfl⟩))
        go_ret
        exact ⟨rfl,(HB1.out.trans (HBR.out.mono HB1.out.size)).trans (HB8.out.mono (Nat.le_trans HB1.out.size HBR.out.size))⟩
end Go.Proofs.YtenjbhbcacocjaaGreat
namespace Go.Proofs.YtenjbhbcacocjaaGreat
open Go.RowKit
open Go.ChangeShapes Go.WideShapes Go.ChangeAt
theorem grows_holds:Rows.FnCycGrowsSaid :=
 OpenClaim.holds_of_wide 3 Tryz.f3 rfl rfl rfl rfl rfl rfl rfl ⟨rfl,rfl,rfl,rfl,rfl⟩ rfl rfl rfl rfl rfl (by kernel_rfl) Tryz.func3 (by kernel_rfl)
  (of_decide_eq_true (by kernel_rfl)) (by unfold Func.isWrapper;first | (rw [if_pos (by decide +kernel)];kernel_rfl) | (rw [if_neg (by decide +kernel)];exact ⟨rfl,rfl⟩))
  (fun os started H enc _ => code_lifted started enc 3 Tryz.f3 Rows.fnCycGrowsSpec rfl (by kernel_rfl) Tryz.func3
   (ChangeSpec.witness6 (enc:=enc) (C:=Tryz.checked) false ⟨#[],#[.slice none 0 0],[]⟩ 8 (by kernel_rfl) (by kernel_rfl) (by kernel_rfl) (by kernel_rfl)) Tryz.params3 rfl (fun _ => ⟨rfl,rfl,rfl⟩) (grows_any drawPlay_any))
#print axioms grows_holds
end Go.Proofs.YtenjbhbcacocjaaGreat
