/- For every code the law FnCycOrder returns true, and its argument reads behind the call as it read before. -/
import Derived.Test.YtghngenglefofaaGreatGOr1
import Derived.Test.YtghngenglefofaaGreatGLb
import Derived.Test.YtghngenglefofaaGreatGRow
set_option linter.unusedVariables false
set_option linter.unusedSimpArgs false
namespace Go.Proofs.YtghngenglefofaaGreat
open Go.RowKit
set_option maxRecDepth 8000 in
set_option maxHeartbeats 16000000 in
theorem order_any (hdraw:DrawPl) (v:Value) (bs:List Nat) (B:Nat) (w:World) (h:Bytes w B v bs) (hB:B ≤ w.heap.size) :
  Calls Tryz.prog 8 #[v] w fun e w' => e = .returned (.bool true) ∧ Below w.heap.size w w':=by
 obtain ⟨ao,cap,rfl,hlc,hcap,hln,hni,hr⟩:=h.opened
 clear hr
 by_cases hbig:(1048576:Int) < (bs.length:Int)
 ·go_enter Tryz.func8,Tryz.ntmps8
  go_wp2_with fail
  go_ret
  exact ⟨rfl,Below.refl _ _⟩
 ·go_enter Tryz.func8,Tryz.ntmps8
  go_wp2_with fail
  refine (hdraw _ bs B w h hB).mono ?_
  rintro e w1 ⟨u,iv,c,ins,rfl,hbus,hbv,hins,hil,hb1⟩
  obtain ⟨mv,lb,lo,lc,pb,po,pc,QQ,K,rfl,⟨ma,mn,mk,rfl⟩,_,_,_,_,_,_⟩:=hbv.opened hbus
  obtain ⟨ia,ic,rfl,ic1,ic2,ic3,_,_⟩:=hins.opened
  have HBV:=hid hbv;have HINS:=hid hins;have HB1:=hid hb1
  clear hbv hins hb1 h
  go_upto_region 4 with fail
  obtain ⟨w2,hw2⟩:∃ W,W = w1.alloc (.cells #[.slice ma mn mk,.slice (some ⟨lb,lo,none⟩) 4 lc,.slice (some ⟨pb,po,none⟩) 3 pc] 27):=⟨_,rfl⟩
  obtain ⟨gb,hgb⟩:∃ g,g = w1.heap.size:=⟨_,rfl⟩
  have X0:=hid (show Bx w2 gb [.slice ma mn mk,.slice (some ⟨lb,lo,none⟩) 4 lc,.slice (some ⟨pb,po,none⟩) 3 pc] by rw [hw2,hgb];exact Bx.new w1 #[.slice ma mn mk,.slice (some ⟨lb,lo,none⟩) 4 lc,.slice (some ⟨pb,po,none⟩) 3 pc] 27 (by simp))
  have HB2:=hid (show Below w1.heap.size w1 w2 by rw [hw2];exact (Below.refl _ _).alloc (Nat.le_refl _) _)
  have HPL:=hid (crPlay_any hbus ((HBV.out.below HB2.out).mono HB2.out.size) ((HINS.out.below HB2.out).mono HB2.out.size) (Nat.le_refl _) (by omega))
  rw [← hw2,← hgb]
  have HGB:=hid hgb
  clear hw2 hgb
  obtain ⟨b0,b1,b2⟩:=X0.out.three.1
  go_upto_region 5 with (go_at_call 22;go_loud ((with_reducible refine (HPL.out).mono ?_));rintro e w3 hcop;obtain ⟨V,N,C,D,y0,y1,y2,y3,y4,m0,m1,m2,m3,m4,j0,j1,j2,j3,j4,hE,rfl,hr,hb3⟩:=hcop.sl;have HE:=hid hE;have HR:=hid hr;have HB3:=hid hb3;clear hcop hE hr hb3 b0 b1 b2)
  obtain ⟨w4,hw4⟩:∃ W,W = w3.alloc (.cells #[.slice y0 m0 j0,.slice y1 m1 j1,.slice y2 m2 j2,.slice y3 m3 j3,.slice y4 m4 j4] 39):=⟨_,rfl⟩
  obtain ⟨gs,hgs⟩:∃ g,g = w3.heap.size:=⟨_,rfl⟩
  have hb4:Below w3.heap.size w3 w4:=by rw [hw4];exact (Below.refl _ _).alloc (Nat.le_refl _) _
  have HS:=hid (show CyBox w4 gs (runC c ins cy0) from CyBox.new HR.out hb4 (by omega) (by
   obtain ⟨e0,e1,e2,e3,e4⟩:=HE.out
   rw [e0,e1,e2,e3,e4,hw4,hgs];exact Bx.new w3 #[.slice y0 m0 j0,.slice y1 m1 j1,.slice y2 m2 j2,.slice y3 m3 j3,.slice y4 m4 j4] 39 (by simp)))
  have X4:=hid ((X0.out.below HB3.out X0.out.lt).below hb4 (by have:=X0.out.lt;have:=HB3.out.size;omega))
  have HB4:=hid ((HB2.out.trans (HB3.out.mono HB2.out.size)).trans (hb4.mono (Nat.le_trans HB2.out.size HB3.out.size)))
  have HG:=hid (show Good c (runC c ins cy0) from good_run hbus _ (good_zero c))
  have HO:=hid (show OGood c (runC c ins cy0) from ogood_run hbus _ (good_zero c) (ogood_zero c))
  rw [← hw4,← hgs]
  clear hw4 hgs hb4 HE HR
  obtain ⟨st,hst⟩:∃ s,s = runC c ins cy0:=⟨_,rfl⟩
  rw [← hst] at HS HG HO
  obtain ⟨z0,z1,z2,z3,z4,n0,n1,n2,n3,n4,k0,k1,k2,k3,k4,P,Q,hx,hv⟩:=HS.out.view hbus HG.out
  obtain ⟨t0,t1,t2,t3,t4⟩:=hx.five.1
  obtain ⟨b0,b1,b2⟩:=X4.out.three.1
  have hbv4:=(HBV.out.below HB4.out).mono HB4.out.size
  have HOK:=hid (cycOk_any hbus hbv4 hv (Nat.le_refl _) HG.out)
  have HT:=hid hv.told;have HX:=hid hx;have HBV4:=hid hbv4
  clear hx hv hbv4 hst
  go_wp2_with (first
   | (go_at_call 18;go_loud ((with_reducible refine (HOK.out).mono ?_));rintro e w8 ⟨rfl,hb8⟩;have HB8:=hid hb8;have t4:=(HX.out.below hb8 HX.out.lt).five.1.2.2.2.2;obtain ⟨b0,b1,b2⟩:=(X4.out.below hb8 X4.out.lt).three.1;clear hb8)
   | (go_at_call 23;go_loud ((with_reducible refine (crOrder_any hbus (HBV4.out.below HB8.out) (HT.out.below HB8.out) HB8.out.size (fun t ht => ⟨(HG.out.t _ (getD_mem ht)).1,HG.out.toldN (getD_mem ht)⟩) (fun i k hi hk => HO.out.at hi hk)).mono ?_));rintro e w9 ⟨rfl,hb9⟩;have HB9:=hid hb9;clear hb9)
   | (go_at_call 19;refine (crOk_any _).mono ?_;rintro e w9 ⟨rfl,rfl⟩))
  go_ret
  exact ⟨rfl,((HB1.out.trans (HB4.out.mono HB1.out.size)).trans (HB8.out.mono (Nat.le_trans HB1.out.size HB4.out.size))).trans (HB9.out.mono (Nat.le_trans HB1.out.size (Nat.le_trans HB4.out.size HB8.out.size)))⟩
end Go.Proofs.YtghngenglefofaaGreat
namespace Go.Proofs.YtghngenglefofaaGreat
open Go.RowKit
open Go.ChangeShapes Go.WideShapes Go.ChangeAt
theorem order_holds:Rows.FnCycOrderSaid :=
 OpenClaim.holds_of_wide 8 Tryz.f8 rfl rfl rfl rfl rfl rfl rfl ⟨rfl,rfl,rfl,rfl,rfl⟩ rfl rfl rfl rfl rfl (by kernel_rfl) Tryz.func8 (by kernel_rfl)
  (of_decide_eq_true (by kernel_rfl)) (by unfold Func.isWrapper;first | (rw [if_pos (by decide +kernel)];kernel_rfl) | (rw [if_neg (by decide +kernel)];exact ⟨rfl,rfl⟩))
  (fun os started H enc _ => code_lifted started enc 8 Tryz.f8 Rows.fnCycOrderSpec rfl (by kernel_rfl) Tryz.func8
   (ChangeSpec.witness6 (enc:=enc) (C:=Tryz.checked) false ⟨#[],#[.slice none 0 0],[]⟩ 8 (by kernel_rfl) (by kernel_rfl) (by kernel_rfl) (by kernel_rfl)) Tryz.params8 rfl (fun _ => ⟨rfl,rfl,rfl⟩) (order_any drawPlay_any))
#print axioms order_holds
end Go.Proofs.YtghngenglefofaaGreat
