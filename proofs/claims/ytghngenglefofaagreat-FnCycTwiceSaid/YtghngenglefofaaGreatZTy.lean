/- For every code the law FnCycTwice returns true, and its argument reads behind the call as it read before. -/
import Derived.Test.YtghngenglefofaaGreatGCw
import Derived.Test.YtghngenglefofaaGreatGFl
import Derived.Test.YtghngenglefofaaGreatGLb
import Derived.Test.YtghngenglefofaaGreatGRow
set_option linter.unusedVariables false
set_option linter.unusedSimpArgs false
namespace Go.Proofs.YtghngenglefofaaGreat
open Go.RowKit
theorem emptyIns (w:World) (B:Nat) (b:Nat) (o:Nat):Ins w B (.slice (some ⟨b,o,none⟩) 0 0) [] :=
 ⟨[],⟨_,0,rfl,by simp,by omega,by simp,fun _ => rfl,fun h => absurd rfl h⟩,by simp⟩
set_option maxRecDepth 8000 in
set_option maxHeartbeats 16000000 in
theorem ctwice_any (hdraw:DrawPl) (v:Value) (bs:List Nat) (B:Nat) (w:World) (h:Bytes w B v bs) (hB:B ≤ w.heap.size) :
    Calls Tryz.prog 14 #[v] w fun e w' => e = .returned (.bool true) ∧ Below w.heap.size w w':=by
  obtain ⟨ao,cap,rfl,hlc,hcap,hln,hni,hr⟩:=h.opened
  clear hr
  by_cases hbig:(1048576:Int) < (bs.length:Int)
  · go_enter Tryz.func14,Tryz.ntmps14
    go_wp2_with fail
    go_ret
    exact ⟨rfl,Below.refl _ _⟩
  · go_enter Tryz.func14,Tryz.ntmps14
    go_wp2_with fail
    refine (hdraw _ bs B w h hB).mono ?_
    rintro e w1 ⟨u,iv,c,ins,rfl,hbus,hbv,hins,hil,hb1⟩
    obtain ⟨mv,lb,lo,lc,pb,po,pc,QQ,K,rfl,⟨ma,mn,mk,rfl⟩,_,_,_,_,_,_⟩:=hbv.opened hbus
    obtain ⟨ia,ic,rfl,ic1,ic2,ic3,_,_⟩:=hins.opened
    have HBV:=hid hbv;have HINS:=hid hins;have HB1:=hid hb1
    clear hbv hins hb1 h
    go_upto_region 4 with fail
    obtain ⟨w2,hw2⟩:∃ W,W = w1.alloc (.cells #[.slice ma mn mk,.slice (some ⟨lb,lo,none⟩) 4 lc,.slice (some ⟨pb,po,none⟩) 3 pc] 27):=⟨_,rfl⟩
    obtain ⟨gb,hgb⟩:∃ g,g = w1.heap.size:=⟨_,rfl⟩
    have X0:=hid (show Bx w2 gb [.slice ma mn mk,.slice (some ⟨lb,lo,none⟩) 4 lc,.slice (some ⟨pb,po,none⟩) 3 pc] by rw [hw2,hgb];exact Bx.new w1 #[.slice ma mn mk,.slice (some ⟨lb,lo,none⟩) 4 lc,.slice (some ⟨pb,po,none⟩) 3 pc] 27 (by simp))
    have HB2:=hid (show Below w1.heap.size w1 w2 by rw [hw2];exact (Below.refl _ _).alloc (Nat.le_refl _) _)
    have HPL:=hid (crPlay_any hbus ((HBV.out.below HB2.out).mono HB2.out.size) ((HINS.out.below HB2.out).mono HB2.out.size) (Nat.le_refl _) (by omega))
    rw [← hw2,← hgb]
    have HGB:=hid hgb
    clear hw2 hgb
    obtain ⟨b0,b1,b2⟩:=X0.out.three.1
    go_upto_region 5 with (go_at_call 22;go_loud ((with_reducible refine (HPL.out).mono ?_));rintro e w3 hcop;obtain ⟨V,N,C,D,y0,y1,y2,y3,y4,m0,m1,m2,m3,m4,j0,j1,j2,j3,j4,hE,rfl,hr,hb3⟩:=hcop.sl;have HE:=hid hE;have HR:=hid hr;have HB3:=hid hb3;clear hcop hE hr hb3 b0 b1 b2)
    obtain ⟨w4,hw4⟩:∃ W,W = w3.alloc (.cells #[.slice y0 m0 j0,.slice y1 m1 j1,.slice y2 m2 j2,.slice y3 m3 j3,.slice y4 m4 j4] 39):=⟨_,rfl⟩
    obtain ⟨gs,hgs⟩:∃ g,g = w3.heap.size:=⟨_,rfl⟩
    have hb4:Below w3.heap.size w3 w4:=by rw [hw4];exact (Below.refl _ _).alloc (Nat.le_refl _) _
    have HS0:=hid (show CyBox w4 gs (runC c ins cy0) from CyBox.new HR.out hb4 (by omega) (by
      obtain ⟨e0,e1,e2,e3,e4⟩:=HE.out
      rw [e0,e1,e2,e3,e4,hw4,hgs];exact Bx.new w3 #[.slice y0 m0 j0,.slice y1 m1 j1,.slice y2 m2 j2,.slice y3 m3 j3,.slice y4 m4 j4] 39 (by simp)))
    have X4:=hid ((X0.out.below HB3.out X0.out.lt).below hb4 (by have:=X0.out.lt;have:=HB3.out.size;omega))
    have HB4:=hid ((HB2.out.trans (HB3.out.mono HB2.out.size)).trans (hb4.mono (Nat.le_trans HB2.out.size HB3.out.size)))
    have HG:=hid (show Good c (runC c ins cy0) from good_run hbus _ (good_zero c))
    have HPL2:=hid (crPlay_any hbus ((HBV.out.below HB4.out).mono HB4.out.size) ((HINS.out.below HB4.out).mono HB4.out.size) (Nat.le_refl _) (show ins.length ≤ 300 by omega))
    rw [← hw4,← hgs]
    clear hw4 hgs hb4 HE HR HB3 HPL
    obtain ⟨b0,b1,b2⟩:=X4.out.three.1
    go_upto_region 6 with (go_at_call 22;go_loud ((with_reducible refine (HPL2.out).mono ?_));rintro e w5 hcop;obtain ⟨V2,N2,C2,D2,p0,p1,p2,p3,p4,l0,l1,l2,l3,l4,i0,i1,i2,i3,i4,hE,rfl,hr,hb5⟩:=hcop.sl;have HE:=hid hE;have HR:=hid hr;have HB5:=hid hb5;clear hcop hE hr hb5 b0 b1 b2)
    obtain ⟨w6,hw6⟩:∃ W,W = w5.alloc (.cells #[.slice p0 l0 i0,.slice p1 l1 i1,.slice p2 l2 i2,.slice p3 l3 i3,.slice p4 l4 i4] 39):=⟨_,rfl⟩
    obtain ⟨gt,hgt⟩:∃ g,g = w5.heap.size:=⟨_,rfl⟩
    have hb6:Below w5.heap.size w5 w6:=by rw [hw6];exact (Below.refl _ _).alloc (Nat.le_refl _) _
    have HT:=hid (show CyBox w6 gt (runC c ins cy0) from CyBox.new HR.out hb6 (by omega) (by
      obtain ⟨e0,e1,e2,e3,e4⟩:=HE.out
      rw [e0,e1,e2,e3,e4,hw6,hgt];exact Bx.new w5 #[.slice p0 l0 i0,.slice p1 l1 i1,.slice p2 l2 i2,.slice p3 l3 i3,.slice p4 l4 i4] 39 (by simp)))
    have HB46:=hid (HB5.out.trans (hb6.mono HB5.out.size))
    have HS:=hid (HS0.out.below HB46.out)
    have X6:=hid (X4.out.below HB46.out X4.out.lt)
    have HB6:=hid (HB4.out.trans (HB46.out.mono HB4.out.size))
    rw [← hw6,← hgt]
    clear hw6 hgt hb6 HE HR HPL2 HS0 X4 HB4 HB46 HB5
    obtain ⟨st,hst⟩:∃ s,s = runC c ins cy0:=⟨_,rfl⟩
    rw [← hst] at HS HG HT
    obtain ⟨z0,z1,z2,z3,z4,n0,n1,n2,n3,n4,k0,k1,k2,k3,k4,P,Q,hx,hv⟩:=HS.out.view hbus HG.out
    obtain ⟨v0,v1,v2,v3,v4,r0,r1,r2,r3,r4,f0,f1,f2,f3,f4,P', Q', hy,hu⟩:=HT.out.view hbus HG.out
    obtain ⟨t0,t1,t2,t3,t4⟩:=hx.five.1
    obtain ⟨u0,u1,u2,u3,u4⟩:=hy.five.1
    obtain ⟨b0,b1,b2⟩:=X6.out.three.1
    have hbv6:=(HBV.out.below HB6.out).mono HB6.out.size
    have HV:=hid hv;have HU:=hid hu;have HBV6:=hid hbv6
    clear hx hy hv hu hbv6 hst HS HT
    obtain ⟨CC,hCC⟩:∃ CC:List Value → World → Prop,CC = fun us W => Below w6.heap.size w6 W ∧ (∀ v,us[5]? = some v → ∃ ao cap,v = .slice ao 0 cap ∧ Ins W W.heap.size v []) ∧ (∀ v,us[6]? = some v → ∃ b0 b1 b2 b3 b4 n0 n1 n2 n3 n4 k0 k1 k2 k3 k4 P Q,v = .agg #[.slice b0 n0 k0,.slice b1 n1 k1,.slice b2 n2 k2,.slice b3 n3 k3,.slice b4 n4 k4] ∧ CyV W W.heap.size (.slice b0 n0 k0) (.slice b1 n1 k1) (.slice b2 n2 k2) (.slice b3 n3 k3) (.slice b4 n4 k4) st P Q):=⟨_,rfl⟩
    have hC0:CC [] w6.drew:=by rw [hCC];exact ⟨(Below.refl _ _).drew,by simp,by simp⟩
    have hTC:∀ us W,CC us W → Below w6.heap.size w6 W:=by rw [hCC];exact fun us W h => h.1
    have HTC:=hid hTC
    have HCC:=hid hCC
    have hne:Nonempty (Ph CC):=⟨⟨([],w6.drew),hC0⟩⟩
    have pc:∀ {p:Addr} {v:Value},w6.cell? p = some v → ∀ x:Ph CC,x.1.2.cell? p = some v:=fun hc x => ((hTC _ _ x.2).cell (World.block_lt_of_cell? w6 _ hc)).trans hc
    replace t0:=pc t0;replace t1:=pc t1;replace t2:=pc t2;replace t3:=pc t3;replace t4:=pc t4;replace u0:=pc u0;replace u1:=pc u1;replace u2:=pc u2;replace u3:=pc u3;replace u4:=pc u4;replace b0:=pc b0;replace b1:=pc b1;replace b2:=pc b2
    clear hCC hTC pc
    refine wp_region_flow CC [(2,true),(3,true),(6,true),(7,true),(8,true),(11,false),(12,false),(14,true)] [] (by kernel_rfl) (by kernel_rfl) hC0 ?_
    repeat (
      (with_reducible refine wq1_q ⟨rfl,rfl⟩ (fun K hK => ?_))
      go_simp
      first
        | ((with_reducible refine hK _ ?_);clear hK K)
        | ((with_reducible refine of_ite_neg (by simp [undef]) (hK _ ?_));clear hK K)
        | (apply Exists.intro
           (with_reducible refine ⟨fun _ => ?_,hK _ ?_⟩)
           (fail)
           clear hK K))
    refine wq1_x rfl (.bool true) (fun KA hKA => ?_)
    go_simp
    refine hKA _ ?_
    clear hKA KA
    refine wq1_x rfl (.bool true) (fun KA hKA => ?_)
    go_simp
    refine hKA _ ?_
    clear hKA KA
    repeat (
      (with_reducible refine wq1_q ⟨rfl,rfl⟩ (fun K hK => ?_))
      go_simp
      first
        | ((with_reducible refine hK _ ?_);clear hK K)
        | ((with_reducible refine of_ite_neg (by simp [undef]) (hK _ ?_));clear hK K)
        | (apply Exists.intro
           (with_reducible refine ⟨fun _ => ?_,hK _ ?_⟩)
           (fail)
           clear hK K))
    refine wq1_x rfl (.bool true) (fun KA hKA => ?_)
    go_simp
    refine hKA _ ?_
    clear hKA KA
    refine wq1_x rfl (.bool true) (fun KA hKA => ?_)
    go_simp
    refine hKA _ ?_
    clear hKA KA
    refine wq1_x rfl (.bool true) (fun KA hKA => ?_)
    go_simp
    refine hKA _ ?_
    clear hKA KA
    repeat (
      (with_reducible refine wq1_q ⟨rfl,rfl⟩ (fun K hK => ?_))
      go_simp
      first
        | ((with_reducible refine hK _ ?_);clear hK K)
        | ((with_reducible refine of_ite_neg (by simp [undef]) (hK _ ?_));clear hK K)
        | (apply Exists.intro
           (with_reducible refine ⟨fun _ => ?_,hK _ ?_⟩)
           (fail)
           clear hK K))
    iterate 2 refine wq1_v rfl ?_
    repeat (
      (with_reducible refine wq1_q ⟨rfl,rfl⟩ (fun K hK => ?_))
      go_simp
      first
        | ((with_reducible refine hK _ ?_);clear hK K)
        | ((with_reducible refine of_ite_neg (by simp [undef]) (hK _ ?_));clear hK K)
        | (apply Exists.intro
           (with_reducible refine ⟨fun _ => ?_,hK _ ?_⟩)
           (fail)
           clear hK K))
    refine wq1_x rfl (.bool true) (fun KA hKA => ?_)
    go_simp
    refine hKA _ ?_
    clear hKA KA
    repeat (
      (with_reducible refine wq1_q ⟨rfl,rfl⟩ (fun K hK => ?_))
      go_simp
      first
        | ((with_reducible refine hK _ ?_);clear hK K)
        | ((with_reducible refine of_ite_neg (by simp [undef]) (hK _ ?_));clear hK K)
        | (apply Exists.intro
           (with_reducible refine ⟨fun _ => ?_,hK _ ?_⟩)
           (fail)
           clear hK K))
    refine wq1_nil ?_
    clear t0 t1 t2 t3 t4 u0 u1 u2 u3 u4 b0 b1 b2 hne
    refine wq2_x _ rfl rfl ?_ ?_
    · intro W hW KA hKA
      have h1:=HTC.out _ _ hW
      go_simp
      (with_reducible refine (cycOk_any hbus ((HBV6.out.below h1).mono (Nat.le_refl _)) (HV.out.below h1) h1.size HG.out).mono ?_)
      rintro e w'' ⟨rfl,h2⟩
      go_simp
      exact hKA (.bool true) _ _ (by rw [HCC.out];exact ⟨h1.trans (h2.mono h1.size),by simp,by simp⟩) rfl rfl
    intro _
    refine wq2_x _ rfl rfl ?_ ?_
    · intro W hW KA hKA
      go_simp
      exact hKA (.bool true) _ _ (by rw [HCC.out] at hW ⊢;exact ⟨hW.1,by simp,by simp⟩) rfl rfl
    intro _
    refine wq2_x _ rfl rfl ?_ ?_
    · intro W hW KA hKA
      have h1:=HTC.out _ _ hW
      go_simp
      (with_reducible refine (crCyc_same (HV.out.below h1) (HU.out.below h1) h1.size HG.out hbus).mono ?_)
      rintro e w'' ⟨rfl,h2⟩
      go_simp
      exact hKA (.bool true) _ _ (by rw [HCC.out];exact ⟨h1.trans (h2.mono h1.size),by simp,by simp⟩) rfl rfl
    intro _
    refine wq2_x _ rfl rfl ?_ ?_
    · intro W hW KA hKA
      go_simp
      exact hKA (.bool true) _ _ (by rw [HCC.out] at hW ⊢;exact ⟨hW.1,by simp,by simp⟩) rfl rfl
    intro _
    refine wq2_x _ rfl rfl ?_ ?_
    · intro W hW KA hKA
      go_simp
      exact hKA (.bool true) _ _ (by rw [HCC.out] at hW ⊢;exact ⟨hW.1,by simp,by simp⟩) rfl rfl
    intro _
    refine wq2_v _ rfl rfl ?_ ?_
    · intro W hW KA hKA
      have h1:=HTC.out _ _ hW
      go_simp
      exact hKA _ _ _ (by
        rw [HCC.out]
        refine ⟨h1.alloc h1.size _,?_,by simp⟩
        rintro v hv
        simp only [List.nil_append,List.cons_append,List.getElem?_cons_zero,List.getElem?_cons_succ,Option.some.injEq] at hv
        subst hv
        exact ⟨_,_,rfl,emptyIns _ _ _ _⟩) rfl
    intro s0 KA hKA
    go_simp
    refine hKA _ ?_
    clear hKA KA
    refine wq2_v _ rfl rfl ?_ ?_
    · intro W hW KA hKA
      have h1:=HTC.out _ _ hW
      rw [HCC.out] at hW
      obtain ⟨sa,sk,rfl,hs0⟩:=hW.2.1 s0 (by simp)
      go_simp
      (with_reducible refine (cycRun_any hbus ((HBV6.out.below h1).mono h1.size) ((HV.out.below h1).mono h1.size) hs0 (Nat.le_refl _) HG.out (by simp)).mono ?_)
      rintro e w'' hcop
      obtain ⟨b0,b1,b2,b3,b4,n0,n1,n2,n3,n4,k0,k1,k2,k3,k4,P3,Q3,rfl,hcv,h2⟩:=CopP.view hbus (by exact HG.out) hcop
      go_simp
      exact hKA _ _ _ (by
        rw [HCC.out]
        refine ⟨h1.trans (h2.mono h1.size),?_,?_⟩
        · rintro v hv
          simp only [List.nil_append,List.cons_append,List.getElem?_cons_zero,List.getElem?_cons_succ,Option.some.injEq] at hv
          subst hv
          exact ⟨_,_,rfl,(hs0.below h2).mono h2.size⟩
        · rintro v hv
          simp only [List.nil_append,List.cons_append,List.getElem?_cons_zero,List.getElem?_cons_succ,Option.some.injEq] at hv
          subst hv
          exact ⟨_,_,_,_,_,_,_,_,_,_,_,_,_,_,_,_,_,rfl,hcv⟩) rfl
    intro s1 KA hKA
    go_simp
    refine hKA _ ?_
    clear hKA KA
    refine wq2_x _ rfl rfl ?_ ?_
    · intro W hW KA hKA
      have h1:=HTC.out _ _ hW
      rw [HCC.out] at hW
      obtain ⟨b0,b1,b2,b3,b4,n0,n1,n2,n3,n4,k0,k1,k2,k3,k4,P3,Q3,rfl,hcv⟩:=hW.2.2 s1 (by simp)
      go_simp
      (with_reducible refine (crCyc_same hcv ((HV.out.below h1).mono h1.size) (Nat.le_refl _) HG.out hbus).mono ?_)
      rintro e w'' ⟨rfl,h2⟩
      go_simp
      exact hKA (.bool true) _ _ (by rw [HCC.out];exact ⟨h1.trans (h2.mono h1.size),by
        intro v hv
        obtain ⟨ao,cap,e,hi⟩:=hW.2.1 v (by simpa using hv)
        exact ⟨ao,cap,e,(hi.below h2).mono h2.size⟩,by
        intro v hv
        obtain ⟨b0,b1,b2,b3,b4,n0,n1,n2,n3,n4,k0,k1,k2,k3,k4,P4,Q4,e,hi⟩:=hW.2.2 v (by simpa using hv)
        exact ⟨_,_,_,_,_,_,_,_,_,_,_,_,_,_,_,_,_,e,(hi.below h2).mono h2.size⟩⟩) rfl rfl
    intro _
    refine wq2_nil ?_
    intro wd hwd
    have HBE:=hid (HTC.out _ _ hwd)
    clear hwd hC0
    go_wp2_with fail
    go_ret
    exact ⟨rfl,HB1.out.trans ((HB6.out.trans (HBE.out.mono HB6.out.size)).mono HB1.out.size)⟩
end Go.Proofs.YtghngenglefofaaGreat
namespace Go.Proofs.YtghngenglefofaaGreat
open Go.RowKit
open Go.ChangeShapes Go.WideShapes Go.ChangeAt
theorem ctwice_holds:Rows.FnCycTwiceSaid :=
 OpenClaim.holds_of_wide 14 Tryz.f14 rfl rfl rfl rfl rfl rfl rfl ⟨rfl,rfl,rfl,rfl,rfl⟩ rfl rfl rfl rfl rfl (by kernel_rfl) Tryz.func14 (by kernel_rfl)
  (of_decide_eq_true (by kernel_rfl)) (by unfold Func.isWrapper;first | (rw [if_pos (by decide +kernel)];kernel_rfl) | (rw [if_neg (by decide +kernel)];exact ⟨rfl,rfl⟩))
  (fun os started H enc _ => code_lifted started enc 14 Tryz.f14 Rows.fnCycTwiceSpec rfl (by kernel_rfl) Tryz.func14
   (ChangeSpec.witness6 (enc:=enc) (C:=Tryz.checked) false ⟨#[],#[.slice none 0 0],[]⟩ 8 (by kernel_rfl) (by kernel_rfl) (by kernel_rfl) (by kernel_rfl)) Tryz.params14 rfl (fun _ => ⟨rfl,rfl,rfl⟩) (ctwice_any drawPlay_any))
#print axioms ctwice_holds
end Go.Proofs.YtghngenglefofaaGreat
