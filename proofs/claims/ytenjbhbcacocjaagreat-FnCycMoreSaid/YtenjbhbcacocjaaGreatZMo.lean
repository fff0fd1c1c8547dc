/- For every code the law FnCycMore returns true, and its argument reads behind the call as it read before. -/
import Derived.Test.YtenjbhbcacocjaaGreatGCw
import Derived.Test.YtenjbhbcacocjaaGreatGGp
import Derived.Test.YtenjbhbcacocjaaGreatGLb
import Derived.Test.YtenjbhbcacocjaaGreatGRow
set_option linter.unusedVariables false
set_option linter.unusedSimpArgs false
namespace Go.Proofs.YtenjbhbcacocjaaGreat
open Go.RowKit
set_option maxRecDepth 8000 in
set_option maxHeartbeats 16000000 in
theorem more_any (hdraw:DrawPl) (v:Value) (bs:List Nat) (B:Nat) (w:World) (h:Bytes w B v bs) (hB:B ≤ w.heap.size) :
    Calls Tryz.prog 5 #[v] w fun e w' => e = .returned (.bool true) ∧ Below w.heap.size w w':=by
  obtain ⟨ao,cap,rfl,hlc,hcap,hln,hni,hr⟩:=h.opened
  clear hr
  by_cases hbig:(1048576:Int) < (bs.length:Int)
  · go_enter Tryz.func5,Tryz.ntmps5
    go_wp2_with fail
    go_ret
    exact ⟨rfl,Below.refl _ _⟩
  · go_enter Tryz.func5,Tryz.ntmps5
    go_wp2_with fail
    refine (hdraw _ bs B w h hB).mono ?_
    rintro e w1 ⟨u,iv,c,ins,rfl,hbus,hbv,hins,hil,hb1⟩
    obtain ⟨mv,lb,lo,lc,pb,po,pc,QQ,K,rfl,⟨ma,mn,mk,rfl⟩,_,_,_,_,_,_⟩:=hbv.opened hbus
    obtain ⟨ia,ic,rfl,ic1,ic2,ic3,_,_⟩:=hins.opened
    have HBV:=hid hbv;have HB1:=hid hb1
    clear hbv hins hb1 h hil
    go_upto_region 4 with fail
    obtain ⟨w2,hw2⟩:∃ W,W = w1.alloc (.cells #[.slice ma mn mk,.slice (some ⟨lb,lo,none⟩) 4 lc,.slice (some ⟨pb,po,none⟩) 3 pc] 27):=⟨_,rfl⟩
    obtain ⟨gb,hgb⟩:∃ g,g = w1.heap.size:=⟨_,rfl⟩
    have X0:=hid (show Bx w2 gb [.slice ma mn mk,.slice (some ⟨lb,lo,none⟩) 4 lc,.slice (some ⟨pb,po,none⟩) 3 pc] by rw [hw2,hgb];exact Bx.new w1 #[.slice ma mn mk,.slice (some ⟨lb,lo,none⟩) 4 lc,.slice (some ⟨pb,po,none⟩) 3 pc] 27 (by simp))
    have HB2:=hid (show Below w1.heap.size w1 w2 by rw [hw2];exact (Below.refl _ _).alloc (Nat.le_refl _) _)
    rw [← hw2,← hgb]
    clear hw2 hgb
    obtain ⟨n,hn⟩:∃ n,n = bs.length % 60:=⟨_,rfl⟩
    obtain ⟨m,hm⟩:∃ m,m = n + 7:=⟨_,rfl⟩
    have hmod:(bs.length:Int) % 60 = (n:Int):=by omega
    have hw7:IntKind.i64.wrap ((n:Int) + 7) = (m:Int):=by rw [IntKind.wrap_i64];omega
    have HN:=hid (show n < 60 by omega);have HM:=hid hm
    obtain ⟨b0,b1,b2⟩:=X0.out.three.1
    have HMOD:=hid hmod
    clear hn hm hmod
    go_upto_region 5 with fail
    rw [HMOD.out]
    have hgbl:=X0.out.lt
    have HFL:=hid (fun (W:World) (hW:Below w2.heap.size w2 W) {v:Value} (hv:CyX cy0 W v) => cycFlowX hbus HBV.out (HB2.out.trans (hW.mono HB2.out.size)) hv (n:=n) (by have:=HN.out;omega))
    go_cut [6] from 19 to 22 (fun s9 w9 => Flowed w2 (flow c n cy0) s9 w9)
    case first =>
      go_region_with (first
        | (go_at_call 16;(with_reducible refine (cycNewX hbus _).mono ?_);rintro e wn ⟨zv,rfl,hv,hbn⟩;have HBN:=hid (show Below w2.heap.size w2 wn from bT (by repeat (first | exact Below.refl _ _ | refine bA ?_ | refine bD ?_)) hbn);have HVN:=hid hv;clear hgbl;have hgbl:=Nat.lt_of_lt_of_le X0.out.lt HBN.out.size;have HXN:=hid ((nilBoxD w2).below hbn (nilBoxD w2).lt);have b0:=(HBN.out.cell (p:=⟨gb,0,none⟩) X0.out.lt).trans b0;have b1:=(HBN.out.cell (p:=⟨gb,1,none⟩) X0.out.lt).trans b1;have b2:=(HBN.out.cell (p:=⟨gb,2,none⟩) X0.out.lt).trans b2;clear hv hbn)
        | (go_at_call 16;(with_reducible refine (cycNewX hbus _).mono ?_);rintro e wn ⟨zv,rfl,hv,hbn⟩;have HBN:=hid (show Below w2.heap.size w2 wn from bT (by repeat (first | exact Below.refl _ _ | refine bA ?_ | refine bD ?_)) hbn);have HVN:=hid hv;clear hgbl;have hgbl:=Nat.lt_of_lt_of_le X0.out.lt HBN.out.size;have b0:=(HBN.out.cell (p:=⟨gb,0,none⟩) X0.out.lt).trans b0;have b1:=(HBN.out.cell (p:=⟨gb,1,none⟩) X0.out.lt).trans b1;have b2:=(HBN.out.cell (p:=⟨gb,2,none⟩) X0.out.lt).trans b2;clear hv hbn)
        | (go_at_call 24;have _hh:=HXN.out;clear _hh;(with_reducible refine (HFL.out wn HBN.out HVN.out).mono ?_);rintro e wf hcop;obtain ⟨V,N,C,D,y0,y1,y2,y3,y4,m0,m1,m2,m3,m4,j0,j1,j2,j3,j4,hE,rfl,hr,hbf⟩:=hcop.sl;have HE:=hid hE;have HR:=hid hr;have HBF:=hid (bT HBN.out hbf);have HXF:=hid (HXN.out.below hbf HXN.out.lt);have HGX:=hid HXN.out.lt;have HWX:=hid (Nat.le_refl w2.heap.size);obtain ⟨⟨q0,q1,q2,q3,q4⟩,f0,f1,f2,f3,f4⟩:=HXF.out.five;have hxl:=HXF.out.lt;clear hcop hE hr hbf b0 b1 b2 hgbl)
        | (go_at_call 24;(with_reducible refine (HFL.out (wn.alloc _) (bA HBN.out) (HVN.out.below ((Below.refl _ _).alloc (Nat.le_refl _) _))).mono ?_);rintro e wf hcop;obtain ⟨V,N,C,D,y0,y1,y2,y3,y4,m0,m1,m2,m3,m4,j0,j1,j2,j3,j4,hE,rfl,hr,hbf⟩:=hcop.sl;have HE:=hid hE;have HR:=hid hr;have HBF:=hid (bT (bA HBN.out) hbf);have HXF:=hid ((nilBox wn).below hbf (nilBox wn).lt);have HGX:=hid (nilBox wn).lt;have HWX:=hid HBN.out.size;obtain ⟨⟨q0,q1,q2,q3,q4⟩,f0,f1,f2,f3,f4⟩:=HXF.out.five;have hxl:=HXF.out.lt;clear hcop hE hr hbf b0 b1 b2 hgbl)
        | (go_at_call 24;(with_reducible refine (HFL.out wn HBN.out HVN.out).mono ?_);rintro e wf hcop;obtain ⟨V,N,C,D,y0,y1,y2,y3,y4,m0,m1,m2,m3,m4,j0,j1,j2,j3,j4,hE,rfl,hr,hbf⟩:=hcop.sl;have HE:=hid hE;have HR:=hid hr;have HBF:=hid (bT HBN.out hbf);clear hcop hE hr hbf b0 b1 b2 hgbl))
      all_goals
        go_wp2_with fail
        go_meet
        first
          | with_reducible exact flowed_b HE.out HR.out HBF.out HXF.out HGX.out HWX.out
          | with_reducible exact flowed_a HE.out HR.out HBF.out
          | trace_state
    case rest =>
      obtain ⟨gs,rfl,hs,hgs,hb3⟩:=hcut
      obtain ⟨w3,hw3⟩:∃ W,W = wc:=⟨_,rfl⟩
      subst hw3
      have HS0:=hid hs;have HB23:=hid hb3
      have HB3:=hid (HB2.out.trans (hb3.mono HB2.out.size))
      have X3:=hid (X0.out.below hb3 X0.out.lt)
      clear hs hgs hb3 b0 b1 b2 HFL
      obtain ⟨b0,b1,b2⟩:=X3.out.three.1
      go_upto_region 6 with fail
      have hgbl:=X3.out.lt
      have HFL:=hid (fun (W:World) (hW:Below w3.heap.size w3 W) {v:Value} (hv:CyX cy0 W v) => cycFlowX hbus HBV.out (HB3.out.trans (hW.mono HB3.out.size)) hv (n:=m) (by have:=HN.out;have:=HM.out;omega))
      go_cut [7] from 23 to 27 (fun s9 w9 => Flowed w3 (flow c m cy0) s9 w9)
      case first =>
        go_region_with (first
          | (go_at_call 16;(with_reducible refine (cycNewX hbus _).mono ?_);rintro e wn ⟨zv,rfl,hv,hbn⟩;have HBN:=hid (show Below w3.heap.size w3 wn from bT (by repeat (first | exact Below.refl _ _ | refine bA ?_ | refine bD ?_)) hbn);have HVN:=hid hv;clear hgbl;have hgbl:=Nat.lt_of_lt_of_le X3.out.lt HBN.out.size;have HXN:=hid ((nilBoxD w3).below hbn (nilBoxD w3).lt);have b0:=(HBN.out.cell (p:=⟨gb,0,none⟩) X3.out.lt).trans b0;have b1:=(HBN.out.cell (p:=⟨gb,1,none⟩) X3.out.lt).trans b1;have b2:=(HBN.out.cell (p:=⟨gb,2,none⟩) X3.out.lt).trans b2;clear hv hbn)
          | (go_at_call 16;(with_reducible refine (cycNewX hbus _).mono ?_);rintro e wn ⟨zv,rfl,hv,hbn⟩;have HBN:=hid (show Below w3.heap.size w3 wn from bT (by repeat (first | exact Below.refl _ _ | refine bA ?_ | refine bD ?_)) hbn);have HVN:=hid hv;clear hgbl;have hgbl:=Nat.lt_of_lt_of_le X3.out.lt HBN.out.size;have b0:=(HBN.out.cell (p:=⟨gb,0,none⟩) X3.out.lt).trans b0;have b1:=(HBN.out.cell (p:=⟨gb,1,none⟩) X3.out.lt).trans b1;have b2:=(HBN.out.cell (p:=⟨gb,2,none⟩) X3.out.lt).trans b2;clear hv hbn)
          | (go_at_call 24;have _hh:=HXN.out;clear _hh;(with_reducible refine (HFL.out wn HBN.out HVN.out).mono ?_);rintro e wf hcop;obtain ⟨V,N,C,D,y0,y1,y2,y3,y4,m0,m1,m2,m3,m4,j0,j1,j2,j3,j4,hE,rfl,hr,hbf⟩:=hcop.sl;have HE:=hid hE;have HR:=hid hr;have HBF:=hid (bT HBN.out hbf);have HXF:=hid (HXN.out.below hbf HXN.out.lt);have HGX:=hid HXN.out.lt;have HWX:=hid (Nat.le_refl w3.heap.size);obtain ⟨⟨q0,q1,q2,q3,q4⟩,f0,f1,f2,f3,f4⟩:=HXF.out.five;have hxl:=HXF.out.lt;clear hcop hE hr hbf b0 b1 b2 hgbl)
          | (go_at_call 24;(with_reducible refine (HFL.out (wn.alloc _) (bA HBN.out) (HVN.out.below ((Below.refl _ _).alloc (Nat.le_refl _) _))).mono ?_);rintro e wf hcop;obtain ⟨V,N,C,D,y0,y1,y2,y3,y4,m0,m1,m2,m3,m4,j0,j1,j2,j3,j4,hE,rfl,hr,hbf⟩:=hcop.sl;have HE:=hid hE;have HR:=hid hr;have HBF:=hid (bT (bA HBN.out) hbf);have HXF:=hid ((nilBox wn).below hbf (nilBox wn).lt);have HGX:=hid (nilBox wn).lt;have HWX:=hid HBN.out.size;obtain ⟨⟨q0,q1,q2,q3,q4⟩,f0,f1,f2,f3,f4⟩:=HXF.out.five;have hxl:=HXF.out.lt;clear hcop hE hr hbf b0 b1 b2 hgbl)
          | (go_at_call 24;(with_reducible refine (HFL.out wn HBN.out HVN.out).mono ?_);rintro e wf hcop;obtain ⟨V,N,C,D,y0,y1,y2,y3,y4,m0,m1,m2,m3,m4,j0,j1,j2,j3,j4,hE,rfl,hr,hbf⟩:=hcop.sl;have HE:=hid hE;have HR:=hid hr;have HBF:=hid (bT HBN.out hbf);clear hcop hE hr hbf b0 b1 b2 hgbl))
        all_goals
          go_wp2_with fail
          go_meet
          first
            | with_reducible exact flowed_b HE.out HR.out HBF.out HXF.out HGX.out HWX.out
            | with_reducible exact flowed_a HE.out HR.out HBF.out
            | trace_state
      case rest =>
        obtain ⟨gt,rfl,ht,hgt,hb4⟩:=hcut
        clear hw7
        obtain ⟨w4,hw4⟩:∃ W,W = wc:=⟨_,rfl⟩
        subst hw4
        have HB4:=hid (HB3.out.trans (hb4.mono HB3.out.size))
        have X4:=hid (X3.out.below hb4 X3.out.lt)
        have hs4:=HS0.out.below hb4
        obtain ⟨st,hst⟩:∃ s,s = flow c n cy0:=⟨_,rfl⟩
        obtain ⟨st2,hst2⟩:∃ s,s = flow c m cy0:=⟨_,rfl⟩
        have HG:=hid (show Good c st by rw [hst];exact good_run hbus _ (good_zero c))
        have HG2:=hid (show Good c st2 by rw [hst2];exact good_run hbus _ (good_zero c))
        have HEQ:=hid (show flow c 7 st = st2 by rw [hst,hst2,flow_add,HM.out])
        obtain ⟨tt,htt⟩:∃ t,st2.told = st.told ++ t:=by rw [hst,hst2,HM.out];exact told_flow c n 7 cy0
        rw [← hst] at hs4;rw [← hst2] at ht
        clear hst hst2 hgt hb4 b0 b1 b2 HFL
        obtain ⟨s0,s1,s2,s3,s4,r0,r1,r2,r3,r4,g0,g1,g2,g3,g4,P1,Q1,hx,hv⟩:=hs4.view hbus HG.out
        obtain ⟨u0,u1,u2,u3,u4,i0,i1,i2,i3,i4,x0,x1,x2,x3,x4,P2,Q2,hy,hu⟩:=ht.view hbus HG2.out
        obtain ⟨_,_,hcp,hcap,_⟩:=hu.told.cells
        simp only [Value.slice.injEq] at hcp
        obtain ⟨-,rfl,rfl⟩:=hcp
        obtain rfl:=hv.told.len
        have HV:=hid hv;have HU:=hid hu
        obtain ⟨t0,t1,t2,t3,t4⟩:=hx.five.1
        obtain ⟨v0,v1,v2,v3,v4⟩:=hy.five.1
        obtain ⟨b0,b1,b2⟩:=X4.out.three.1
        obtain ⟨sl1,hsl1⟩:∃ x,x = st.told.length:=⟨_,rfl⟩
        obtain ⟨sl2,hsl2⟩:∃ x,x = st2.told.length:=⟨_,rfl⟩
        have hle:sl1 ≤ sl2:=by rw [hsl1,hsl2,htt,List.length_append];omega
        have HTK:=hid (show JobsV w4 w4.heap.size (.slice u4 sl1 x4) st.told by
          have:=hu.told.take (m:=sl1) (by rw [← hsl2];exact hle)
          rwa [show st2.told.take sl1 = st.told by rw [htt,hsl1,List.take_left]] at this)
        have HVT:=hid hv.told
        have hcap1:(sl1:Int) ≤ (x4:Int):=by omega
        rw [← hsl1] at t4 HV HVT;rw [← hsl2] at v4 HU
        clear htt hsl1 hsl2 hcap hx hy hv hu hs4 ht
        have hbv4:=(HBV.out.below HB4.out).mono HB4.out.size
        have HBV4:=hid hbv4
        clear hbv4
        obtain ⟨CC,hCC⟩:∃ CC:List Value → World → Prop,CC = fun us W => Below w4.heap.size w4 W ∧ (∀ v,us[10]? = some v → ∃ b0 b1 b2 b3 b4 n0 n1 n2 n3 n4 k0 k1 k2 k3 k4 P Q,v = .agg #[.slice b0 n0 k0,.slice b1 n1 k1,.slice b2 n2 k2,.slice b3 n3 k3,.slice b4 n4 k4] ∧ CyV W W.heap.size (.slice b0 n0 k0) (.slice b1 n1 k1) (.slice b2 n2 k2) (.slice b3 n3 k3) (.slice b4 n4 k4) st2 P Q):=⟨_,rfl⟩
        have hC0:CC [] w4.drew:=by rw [hCC];exact ⟨(Below.refl _ _).drew,by simp⟩
        have hTC:∀ us W,CC us W → Below w4.heap.size w4 W:=by rw [hCC];exact fun us W h => h.1
        have HTC:=hid hTC
        have HCC:=hid hCC
        have hne:Nonempty (Ph CC):=⟨⟨([],w4.drew),hC0⟩⟩
        have pc:∀ {p:Addr} {v:Value},w4.cell? p = some v → ∀ x:Ph CC,x.1.2.cell? p = some v:=fun hc x => ((hTC _ _ x.2).cell (World.block_lt_of_cell? w4 _ hc)).trans hc
        replace t0:=pc t0;replace t1:=pc t1;replace t2:=pc t2;replace t3:=pc t3;replace t4:=pc t4;replace v0:=pc v0;replace v1:=pc v1;replace v2:=pc v2;replace v3:=pc v3;replace v4:=pc v4;replace b0:=pc b0;replace b1:=pc b1;replace b2:=pc b2
        clear hCC hTC pc
        go_upto_region 7 with fail
        refine wp_region_flow CC [(2,true),(3,true),(6,true),(7,true),(8,true),(16,true),(17,true),(26,true),(27,true),(28,true),(31,false),(33,true)] [] (by kernel_rfl) (by kernel_rfl) hC0 ?_
        repeat (
          (with_reducible refine wq1_q ⟨rfl,rfl⟩ (fun K hK => ?_))
          go_simp
          first
            | ((with_reducible refine hK _ ?_);clear hK K)
            | ((with_reducible refine of_ite_neg (by simp [undef]) (hK _ ?_));clear hK K)
            | (apply Exists.intro
               (with_reducible refine ⟨fun _ => ?_,hK _ ?_⟩)
               (fail)
               clear hK K))
        refine wq1_x rfl (.bool true) (fun KA hKA => ?_)
        go_simp
        refine hKA _ ?_
        clear hKA KA
        refine wq1_x rfl (.bool true) (fun KA hKA => ?_)
        go_simp
        refine hKA _ ?_
        clear hKA KA
        repeat (
          (with_reducible refine wq1_q ⟨rfl,rfl⟩ (fun K hK => ?_))
          go_simp
          first
            | ((with_reducible refine hK _ ?_);clear hK K)
            | ((with_reducible refine of_ite_neg (by simp [undef]) (hK _ ?_));clear hK K)
            | (apply Exists.intro
               (with_reducible refine ⟨fun _ => ?_,hK _ ?_⟩)
               (fail)
               clear hK K))
        refine wq1_x rfl (.bool true) (fun KA hKA => ?_)
        go_simp
        refine hKA _ ?_
        clear hKA KA
        refine wq1_x rfl (.bool true) (fun KA hKA => ?_)
        go_simp
        refine hKA _ ?_
        clear hKA KA
        refine wq1_x rfl (.bool true) (fun KA hKA => ?_)
        go_simp
        refine hKA _ ?_
        clear hKA KA
        repeat (
          (with_reducible refine wq1_q ⟨rfl,rfl⟩ (fun K hK => ?_))
          go_simp
          first
            | ((with_reducible refine hK _ ?_);clear hK K)
            | ((with_reducible refine of_ite_neg (by simp [undef]) (hK _ ?_));clear hK K)
            | (apply Exists.intro
               (with_reducible refine ⟨fun _ => ?_,hK _ ?_⟩)
               (fail)
               clear hK K))
        refine wq1_x rfl (.bool true) (fun KA hKA => ?_)
        go_simp
        refine hKA _ ?_
        clear hKA KA
        refine wq1_x rfl (.bool true) (fun KA hKA => ?_)
        go_simp
        refine hKA _ ?_
        clear hKA KA
        repeat (
          (with_reducible refine wq1_q ⟨rfl,rfl⟩ (fun K hK => ?_))
          go_simp
          first
            | ((with_reducible refine hK _ ?_);clear hK K)
            | ((with_reducible refine of_ite_neg (by simp [undef]) (hK _ ?_));clear hK K)
            | (apply Exists.intro
               (with_reducible refine ⟨fun _ => ?_,hK _ ?_⟩)
               (fail)
               clear hK K))
        refine wq1_x rfl (.bool true) (fun KA hKA => ?_)
        go_simp
        refine hKA _ ?_
        clear hKA KA
        refine wq1_x rfl (.bool true) (fun KA hKA => ?_)
        go_simp
        refine hKA _ ?_
        clear hKA KA
        refine wq1_x rfl (.bool true) (fun KA hKA => ?_)
        go_simp
        refine hKA _ ?_
        clear hKA KA
        repeat (
          (with_reducible refine wq1_q ⟨rfl,rfl⟩ (fun K hK => ?_))
          go_simp
          first
            | ((with_reducible refine hK _ ?_);clear hK K)
            | ((with_reducible refine of_ite_neg (by simp [undef]) (hK _ ?_));clear hK K)
            | (apply Exists.intro
               (with_reducible refine ⟨fun _ => ?_,hK _ ?_⟩)
               (fail)
               clear hK K))
        refine wq1_v rfl ?_
        repeat (
          (with_reducible refine wq1_q ⟨rfl,rfl⟩ (fun K hK => ?_))
          go_simp
          first
            | ((with_reducible refine hK _ ?_);clear hK K)
            | ((with_reducible refine of_ite_neg (by simp [undef]) (hK _ ?_));clear hK K)
            | (apply Exists.intro
               (with_reducible refine ⟨fun _ => ?_,hK _ ?_⟩)
               (fail)
               clear hK K))
        refine wq1_x rfl (.bool true) (fun KA hKA => ?_)
        go_simp
        refine hKA _ ?_
        clear hKA KA
        repeat (
          (with_reducible refine wq1_q ⟨rfl,rfl⟩ (fun K hK => ?_))
          go_simp
          first
            | ((with_reducible refine hK _ ?_);clear hK K)
            | ((with_reducible refine of_ite_neg (by simp [undef]) (hK _ ?_));clear hK K)
            | (apply Exists.intro
               (with_reducible refine ⟨fun _ => ?_,hK _ ?_⟩)
               (fail)
               clear hK K))
        refine wq1_nil ?_
        clear t0 t1 t2 t3 t4 v0 v1 v2 v3 v4 b0 b1 b2 hne
        refine wq2_x _ rfl rfl ?_ ?_
        · intro W hW KA hKA
          have h1:=HTC.out _ _ hW
          go_simp
          (with_reducible refine (cycOk_any hbus ((HBV4.out.below h1).mono (Nat.le_refl _)) (HV.out.below h1) h1.size HG.out).mono ?_)
          rintro e w'' ⟨rfl,h2⟩
          go_simp
          exact hKA (.bool true) _ _ (by rw [HCC.out];exact ⟨h1.trans (h2.mono h1.size),by simp⟩) rfl rfl
        intro _
        refine wq2_x _ rfl rfl ?_ ?_
        · intro W hW KA hKA
          go_simp
          exact hKA (.bool true) _ _ (by rw [HCC.out] at hW ⊢;exact ⟨hW.1,by simp⟩) rfl rfl
        intro _
        refine wq2_x _ rfl rfl ?_ ?_
        · intro W hW KA hKA
          have h1:=HTC.out _ _ hW
          go_simp
          (with_reducible refine (cycOk_any hbus ((HBV4.out.below h1).mono (Nat.le_refl _)) (HU.out.below h1) h1.size HG2.out).mono ?_)
          rintro e w'' ⟨rfl,h2⟩
          go_simp
          exact hKA (.bool true) _ _ (by rw [HCC.out];exact ⟨h1.trans (h2.mono h1.size),by simp⟩) rfl rfl
        intro _
        refine wq2_x _ rfl rfl ?_ ?_
        · intro W hW KA hKA
          go_simp
          exact hKA (.bool true) _ _ (by rw [HCC.out] at hW ⊢;exact ⟨hW.1,by simp⟩) rfl rfl
        intro _
        refine wq2_x _ rfl rfl ?_ ?_
        · intro W hW KA hKA
          go_simp
          exact hKA (.bool true) _ _ (by rw [HCC.out] at hW ⊢;exact ⟨hW.1,by simp⟩) rfl rfl
        intro _
        refine wq2_x _ rfl rfl ?_ ?_
        · intro W hW KA hKA
          go_simp
          exact hKA (.bool true) _ _ (by rw [HCC.out] at hW ⊢;exact ⟨hW.1,by simp⟩) rfl rfl
        intro _
        refine wq2_x _ rfl rfl ?_ ?_
        · intro W hW KA hKA
          go_simp
          exact hKA (.bool true) _ _ (by rw [HCC.out] at hW ⊢;exact ⟨hW.1,by simp⟩) rfl rfl
        intro _
        refine wq2_x _ rfl rfl ?_ ?_
        · intro W hW KA hKA
          have h1:=HTC.out _ _ hW
          go_simp
          (with_reducible refine (crJobs_same st.told _ _ w4.heap.size W (HTK.out.below h1) (HVT.out.below h1) h1.size).mono ?_)
          rintro e w'' ⟨rfl,h2⟩
          go_simp
          exact hKA (.bool true) _ _ (by rw [HCC.out];exact ⟨h1.trans (h2.mono h1.size),by simp⟩) rfl rfl
        intro _
        refine wq2_x _ rfl rfl ?_ ?_
        · intro W hW KA hKA
          go_simp
          exact hKA (.bool true) _ _ (by rw [HCC.out] at hW ⊢;exact ⟨hW.1,by simp⟩) rfl rfl
        intro _
        refine wq2_x _ rfl rfl ?_ ?_
        · intro W hW KA hKA
          go_simp
          exact hKA (.bool true) _ _ (by rw [HCC.out] at hW ⊢;exact ⟨hW.1,by simp⟩) rfl rfl
        intro _
        refine wq2_v _ rfl rfl ?_ ?_
        · intro W hW KA hKA
          have h1:=HTC.out _ _ hW
          go_simp
          (with_reducible refine (cycFlow7_any hbus ((HBV4.out.below h1).mono h1.size) ((HV.out.below h1).mono h1.size) (Nat.le_refl _) HG.out).mono ?_)
          rintro e w'' hcop
          rw [HEQ.out] at hcop
          obtain ⟨b0,b1,b2,b3,b4,n0,n1,n2,n3,n4,k0,k1,k2,k3,k4,P3,Q3,rfl,hcv,h2⟩:=CopP.view hbus HG2.out hcop
          go_simp
          exact hKA _ _ _ (by
            rw [HCC.out]
            refine ⟨h1.trans (h2.mono h1.size),?_⟩
            rintro v hv
            simp only [List.nil_append,List.cons_append,List.getElem?_cons_zero,List.getElem?_cons_succ,Option.some.injEq] at hv
            subst hv
            exact ⟨_,_,_,_,_,_,_,_,_,_,_,_,_,_,_,_,_,rfl,hcv⟩) rfl
        intro s1 KA hKA
        go_simp
        refine hKA _ ?_
        clear hKA KA
        refine wq2_x _ rfl rfl ?_ ?_
        · intro W hW KA hKA
          have h1:=HTC.out _ _ hW
          rw [HCC.out] at hW
          obtain ⟨b0,b1,b2,b3,b4,n0,n1,n2,n3,n4,k0,k1,k2,k3,k4,P3,Q3,rfl,hcv⟩:=hW.2 s1 (by simp)
          go_simp
          (with_reducible refine (crCyc_same hcv ((HU.out.below h1).mono h1.size) (Nat.le_refl _) HG2.out hbus).mono ?_)
          rintro e w'' ⟨rfl,h2⟩
          go_simp
          exact hKA (.bool true) _ _ (by rw [HCC.out];exact ⟨h1.trans (h2.mono h1.size),by
            intro v hv
            obtain ⟨b0,b1,b2,b3,b4,n0,n1,n2,n3,n4,k0,k1,k2,k3,k4,P4,Q4,e,hi⟩:=hW.2 v (by simpa using hv)
            exact ⟨_,_,_,_,_,_,_,_,_,_,_,_,_,_,_,_,_,e,(hi.below h2).mono h2.size⟩⟩) rfl rfl
        intro _
        refine wq2_nil ?_
        intro wd hwd
        have HBE:=hid (HTC.out _ _ hwd)
        clear hwd hC0
        go_wp2_with fail
        go_ret
        exact ⟨rfl,HB1.out.trans ((HB4.out.trans (HBE.out.mono HB4.out.size)).mono HB1.out.size)⟩
end Go.Proofs.YtenjbhbcacocjaaGreat
namespace Go.Proofs.YtenjbhbcacocjaaGreat
open Go.RowKit
open Go.ChangeShapes Go.WideShapes Go.ChangeAt
theorem more_holds:Rows.FnCycMoreSaid :=
 OpenClaim.holds_of_wide 5 Tryz.f5 rfl rfl rfl rfl rfl rfl rfl ⟨rfl,rfl,rfl,rfl,rfl⟩ rfl rfl rfl rfl rfl (by kernel_rfl) Tryz.func5 (by kernel_rfl)
  (of_decide_eq_true (by kernel_rfl)) (by unfold Func.isWrapper;first | (rw [if_pos (by decide +kernel)];kernel_rfl) | (rw [if_neg (by decide +kernel)];exact ⟨rfl,rfl⟩))
  (fun os started H enc _ => code_lifted started enc 5 Tryz.f5 Rows.fnCycMoreSpec rfl (by kernel_rfl) Tryz.func5
   (ChangeSpec.witness6 (enc:=enc) (C:=Tryz.checked) false ⟨#[],#[.slice none 0 0],[]⟩ 8 (by kernel_rfl) (by kernel_rfl) (by kernel_rfl) (by kernel_rfl)) Tryz.params5 rfl (fun _ => ⟨rfl,rfl,rfl⟩) (more_any drawPlay_any))
#print axioms more_holds
end Go.Proofs.YtenjbhbcacocjaaGreat
