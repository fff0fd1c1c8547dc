/- For every code the law FnCycOnce returns true, and its argument reads behind the call as it read before. -/
import Derived.Test.YthnlalffjepdaaaGreatGCo1
import Derived.Test.YthnlalffjepdaaaGreatGTh
import Derived.Test.YthnlalffjepdaaaGreatGNw
import Derived.Test.YthnlalffjepdaaaGreatGFl
import Derived.Test.YthnlalffjepdaaaGreatGDp
set_option linter.unusedVariables false
set_option linter.unusedSimpArgs false
namespace Go.Proofs.YthnlalffjepdaaaGreat
open Go.RowKit
set_option maxRecDepth 8000 in
set_option maxHeartbeats 16000000 in
theorem conce_any (hdraw : DrawPl) (v : Value) (bs : List Nat) (B : Nat) (w : World) (h : Bytes w B v bs) (hB : B ≤ w.heap.size) :
  Calls Tryz.prog 5 #[v] w fun e w' => e=.returned (.bool true)∧Below w.heap.size w w':=by
 obtain⟨ao,cap,rfl,hlc,hcap,hln,hni,hr⟩:=h.opened;clear hr;by_cases hbig:(1048576:Int)<(bs.length:Int)
 ·go_enter Tryz.func5,Tryz.ntmps5
  go_wp2_with fail
  go_ret
  exact⟨rfl,Below.refl _ _⟩
 ·go_enter Tryz.func5,Tryz.ntmps5
  go_wp2_with fail
  refine(hdraw _ bs B w h hB).mono ?_;rintro e w1 ⟨u,iv,c,ins,rfl,hbus,hbv,hins,hil,hb1⟩;obtain⟨mv,lb,lo,lc,pb,po,pc,QQ,K,rfl,⟨ma,mn,mk,rfl⟩,_,_,_,_,_,_⟩:=hbv.opened hbus;obtain⟨ia,ic,rfl,ic1,ic2,ic3,_,_⟩:=hins.opened;have HBV:=hid hbv;have HINS:=hid hins;have HB1:=hid hb1;clear hbv hins hb1 h
  go_upto_region 4 with fail
  obtain⟨w2,hw2⟩:∃W,W=w1.alloc (.cells #[.slice ma mn mk,.slice (some ⟨lb,lo,none⟩) 4 lc,.slice (some ⟨pb,po,none⟩) 3 pc] 27):=⟨_,rfl⟩
  obtain⟨gb,hgb⟩:∃g,g=w1.heap.size:=⟨_,rfl⟩
  have X0:=hid (show Bx w2 gb [.slice ma mn mk,.slice (some ⟨lb,lo,none⟩) 4 lc,.slice (some ⟨pb,po,none⟩) 3 pc] by rw[hw2,hgb];exact Bx.new w1 #[.slice ma mn mk,.slice (some ⟨lb,lo,none⟩) 4 lc,.slice (some ⟨pb,po,none⟩) 3 pc] 27 (by simp));have HB2:=hid (show Below w1.heap.size w1 w2 by rw[hw2];exact(Below.refl _ _).alloc (Nat.le_refl _) _);rw[←hw2,←hgb];clear hw2 hgb;obtain⟨b0,b1,b2⟩:=X0.out.three.1;have hgbl:=X0.out.lt;have hil3:ins.length≤300:=by omega
  have HIL:=hid hil3;clear hil3;have HTR:=hid (fun(W:World) (hW:Below w2.heap.size w2 W) {a0 a1 a2 a3 a4:Value} {P:List PS} {Q:List SS} (hv:CyV W W.heap.size a0 a1 a2 a3 a4 cy0 P Q)=>cycTrace_any hbus ((HBV.out.below (HB2.out.trans (hW.mono HB2.out.size))).mono (Nat.le_trans HB2.out.size hW.size)) hv ((HINS.out.below (HB2.out.trans (hW.mono HB2.out.size))).mono (Nat.le_trans HB2.out.size hW.size)) (Nat.le_refl _) (good_zero c) HIL.out)
  go_upto_region 4 with fail
  go_region_with (first
   |(go_at_call 23;(with_reducible refine(cycNew_any _).mono ?_);rintro e wn hcop;obtain⟨z0,z1,z2,z3,z4,n0,n1,n2,n3,n4,k0,k1,k2,k3,k4,P,Q,rfl,hv,hbn⟩:=hcop.view hbus (good_zero c);have HBN:=hid ((show Below w2.heap.size w2 w2.drew from(Below.refl _ _).drew).trans hbn);have HVN:=hid hv;have b0:=(HBN.out.cell (p:=⟨gb,0,none⟩) X0.out.lt).trans b0;have b1:=(HBN.out.cell (p:=⟨gb,1,none⟩) X0.out.lt).trans b1;have b2:=(HBN.out.cell (p:=⟨gb,2,none⟩) X0.out.lt).trans b2;clear hgbl;have hgbl:=Nat.lt_of_lt_of_le X0.out.lt HBN.out.size;clear hcop hv hbn)
   |(go_at_call 22;(with_reducible refine(HTR.out wn HBN.out HVN.out).mono ?_);rintro e wt ⟨ta,tn,tk,rfl,harr,hbt⟩;have HAR:=hid harr;have HBT:=hid (HBN.out.trans (hbt.mono HBN.out.size));clear harr hbt b0 b1 b2 hgbl))
  all_goals
   have HLAW:=hid (once_law hbus ins);have HLEN:=hid (show(trace c ins cy0).length≤5000 from trace_len hbus ins HIL.out);have HCR:=hid (fun(W:World) (hW:Below wt.heap.size wt W)=>crOnce_any HLAW.out.nd HLAW.out.ah (fun e he=>(HLAW.out.kd e he).1) HLEN.out (HAR.out.below hW) hW.size);obtain⟨b0,b1,b2⟩:=(X0.out.below HBT.out X0.out.lt).three.1;have hbv:=(HBV.out.below (HB2.out.trans (HBT.out.mono HB2.out.size))).mono (Nat.le_trans HB2.out.size HBT.out.size);have HBV2:=hid hbv;clear hbv;clear b0 b1 b2
   go_wp2_with (first
    |(go_at_call 24;go_loud ((with_reducible refine(HCR.out wt (Below.refl _ _)).mono ?_));rintro e w6 ⟨rfl,hb6⟩;have HB6:=hid hb6;obtain⟨b0,b1,b2⟩:=(X0.out.below (HBT.out.trans (hb6.mono HBT.out.size)) X0.out.lt).three.1;clear hb6)
    |(go_at_call 25;go_loud ((with_reducible refine(busOk_good hbus (HBV2.out.below HB6.out) HB6.out.size).mono ?_));rintro e w7 ⟨rfl,hb7⟩;have HB7:=hid (HB6.out.trans (hb7.mono HB6.out.size));clear hb7 b0 b1 b2)
    |(go_at_call 26;refine(crOk_any _).mono ?_;rintro e w9 ⟨rfl,rfl⟩))
   go_ret
   exact⟨rfl,HB1.out.trans ((HB2.out.trans ((HBT.out.trans (HB7.out.mono HBT.out.size)).mono HB2.out.size)).mono HB1.out.size)⟩
end Go.Proofs.YthnlalffjepdaaaGreat
namespace Go.Proofs.YthnlalffjepdaaaGreat
open Go.RowKit
open Go.ChangeShapes Go.WideShapes Go.ChangeAt
theorem conce_holds:Rows.FnCycOnceSaid :=
 OpenClaim.holds_of_wide 5 Tryz.f5 rfl rfl rfl rfl rfl rfl rfl ⟨rfl, rfl, rfl, rfl, rfl⟩ rfl rfl rfl rfl rfl (by kernel_rfl) Tryz.func5 (by kernel_rfl)
  (of_decide_eq_true (by kernel_rfl)) (by unfold Func.isWrapper;first|(rw[if_pos (by decide +kernel)];kernel_rfl)|(rw[if_neg (by decide +kernel)];exact⟨rfl,rfl⟩))
  (fun os started H enc _ => code_lifted started enc 5 Tryz.f5 Rows.fnCycOnceSpec rfl (by kernel_rfl) Tryz.func5
   (ChangeSpec.witness6 (enc:=enc) (C:=Tryz.checked) false ⟨#[],#[.slice none 0 0],[]⟩ 8 (by kernel_rfl) (by kernel_rfl) (by kernel_rfl) (by kernel_rfl)) Tryz.params5 rfl (fun _=>⟨rfl,rfl,rfl⟩) (conce_any drawPlay_any))
#print axioms conce_holds
end Go.Proofs.YthnlalffjepdaaaGreat
