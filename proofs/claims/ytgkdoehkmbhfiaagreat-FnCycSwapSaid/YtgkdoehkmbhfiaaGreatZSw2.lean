/- For every code the law FnCycSwap returns true, and its argument reads behind the call as it read before. -/
import Derived.Test.YtgkdoehkmbhfiaaGreatRSwb
import Derived.Test.YtgkdoehkmbhfiaaGreatRCf
import Derived.Test.YtgkdoehkmbhfiaaGreatRD1
import Derived.Test.YtgkdoehkmbhfiaaGreatRDo4
import Derived.Test.YtgkdoehkmbhfiaaGreatRQr
import Derived.Test.YtgkdoehkmbhfiaaGreatRTg
import Derived.Test.YtgkdoehkmbhfiaaGreatRY1
import Derived.Test.YtgkdoehkmbhfiaaGreatRLb
import Derived.Outline
set_option linter.unusedVariables false
set_option linter.unusedSimpArgs false
set_option maxHeartbeats 16000000
namespace Go.Proofs.YtgkdoehkmbhfiaaGreat
open Go.RowKit
set_option maxRecDepth 8000 in
theorem cswap_any (hdraw : DrawPl) (v : Value) (bs : List Nat) (B : Nat) (w : World) (h : Bytes w B v bs) (hB : B ≤ w.heap.size) :
    Calls Tryz.prog 4 #[v] w fun e w' => e=.returned (.bool true)∧Below w.heap.size w w':=by
  obtain⟨ao,cap,rfl,hlc,hcap,hln,hni,hr⟩:=h.opened;clear hr;by_cases hbig:(1048576:Int)<(bs.length:Int)
  · go_enter Tryz.func4, Tryz.ntmps4
    go_wp2_with fail
    go_ret
    exact⟨rfl,Below.refl _ _⟩
  · go_enter Tryz.func4, Tryz.ntmps4
    go_wp2_with fail
    refine(hdraw _ bs B w h hB).mono ?_;rintro e w1 ⟨u,iv,c,ins,rfl,hbus,hbv,hins,hil,hb1⟩;obtain⟨mv,lb,lo,lc,pb,po,pc,QQ,K,rfl,⟨ma,mn,mk,rfl⟩,_,_,hpb,_,hpc,_⟩:=hbv.opened hbus;have HPB:=hid hpb;have HPC:=hid hpc;clear hpb hpc;obtain⟨ia,ic,rfl,ic1,ic2,ic3,_,_⟩:=hins.opened;have HBV:=hid hbv;have HB1:=hid hb1;clear hbv hins hb1 h hil
    go_upto_region 4 with fail
    obtain⟨w2,hw2⟩:∃W,W=w1.alloc (.cells #[.slice ma mn mk,.slice (some ⟨lb,lo,none⟩) 4 lc,.slice (some ⟨pb,po,none⟩) 3 pc] 27):=⟨_,rfl⟩
    obtain⟨gb,hgb⟩:∃g,g=w1.heap.size:=⟨_,rfl⟩
    have X0:=hid (show Bx w2 gb [.slice ma mn mk,.slice (some ⟨lb,lo,none⟩) 4 lc,.slice (some ⟨pb,po,none⟩) 3 pc] by rw[hw2,hgb];exact Bx.new w1 #[.slice ma mn mk,.slice (some ⟨lb,lo,none⟩) 4 lc,.slice (some ⟨pb,po,none⟩) 3 pc] 27 (by simp));have HB2:=hid (show Below w1.heap.size w1 w2 by rw[hw2];exact(Below.refl _ _).alloc (Nat.le_refl _) _);rw[←hw2,←hgb];clear hw2 hgb;obtain⟨who,hwh⟩:∃n,n=bs.length % 3:=⟨_,rfl⟩
    have hmod:(bs.length:Int) % 3=(who:Int):=by omega
    have hwho:who<3:=by omega
    have HMOD:=hid hmod;have HW:=hid hwho;have hwi:(who:Int)<3:=by omega
    clear hwh hmod hwho
    go_upto_region 5 with fail
    rw[HMOD.out];obtain⟨wp,hwp⟩:∃x,x=who+1:=⟨_,rfl⟩
    obtain⟨oth,hoth⟩:∃x,x=wp % 3:=⟨_,rfl⟩
    have ew:IntKind.i64.wrap ((who:Int)+1)=(wp:Int):=by rw[IntKind.wrap_i64];have:=HW.out;omega
    have em:(wp:Int) % 3=(oth:Int):=by omega
    have HO:=hid (show oth<3∧oth≠who by have:=HW.out;omega);clear hwp hoth
    go_upto_region 6 with fail
    try rw[em]
    clear ew em;obtain⟨b0,b1,b2⟩:=X0.out.three.1;have HAL:=hid (zN2 hbus ((HBV.out.below HB2.out).mono HB2.out.size) (Nat.le_refl w2.heap.size) HW.out)
    go_upto_region 7 with(go_at_call 18;go_loud ((with_reducible refine(HAL.out).mono ?_));rintro e wa hcop;obtain⟨mx,my,lx,ly,lz,px,us,L,rfl,haf,hba⟩:=hcop.fact;have HAF:=hid haf;have HBA:=hid hba;clear hcop haf hba b0 b1 b2)
    obtain⟨w3,hw3⟩:∃W,W=wa.alloc (.cells #[.slice mx c.ms.length my,.slice (some ⟨lx,ly,none⟩) 4 lz,.slice (some ⟨px,0,none⟩) 3 3] 27):=⟨_,rfl⟩
    obtain⟨gx,hgx⟩:∃g,g=wa.heap.size:=⟨_,rfl⟩
    have hba3:Below wa.heap.size wa w3:=by rw[hw3];exact(Below.refl _ _).alloc (Nat.le_refl _) _
    have XC:=hid (show Bx w3 gx [.slice mx c.ms.length my,.slice (some ⟨lx,ly,none⟩) 4 lz,.slice (some ⟨px,0,none⟩) 3 3] by rw[hw3,hgx];exact Bx.new wa #[.slice mx c.ms.length my,.slice (some ⟨lx,ly,none⟩) 4 lz,.slice (some ⟨px,0,none⟩) 3 3] 27 (by simp));have HBD:=hid (show BusV w3 w3.heap.size (.agg #[.slice mx c.ms.length my,.slice (some ⟨lx,ly,none⟩) 4 lz,.slice (some ⟨px,0,none⟩) 3 3]) (aloneC c who) from((AloneP.bus hbus HAF.out.m HAF.out.l HAF.out.p).below hba3).mono hba3.size);have HB3:=hid (show Below w2.heap.size w2 w3 from HBA.out.trans (hba3.mono HBA.out.size));have HDB:=hid (hbus.alone who);have HLO:=hid (aloneC_lone hbus HW.out);obtain⟨cm,hcm⟩:∃x,x=c.ms.length:=⟨_,rfl⟩
    rw[←hw3,←hgx];rw[←hcm]at XC HBD;rw[←hcm];have HCM:=hid hcm;obtain⟨d,hd⟩:∃x,x=aloneC c who:=⟨_,rfl⟩
    rw[←hd]at HBD HDB HLO;have HD:=hid hd;clear hw3 hgx hba3 hcm hd HAL HAF HBA;have HB13:=hid (HB2.out.trans (HB3.out.mono HB2.out.size));obtain⟨b0,b1,b2⟩:=(X0.out.below HB3.out X0.out.lt).three.1;have HAL:=hid (zN2 hbus ((HBV.out.below HB13.out).mono HB13.out.size) (Nat.le_refl w3.heap.size) HW.out)
    go_upto_region 8 with(go_at_call 18;go_loud ((with_reducible refine(HAL.out).mono ?_));rintro e wb hcop;obtain⟨nx,ny,kx,ky,kz,qx,vs,M,rfl,haf,hba⟩:=hcop.fact;have HAF:=hid haf;have HBA:=hid hba;clear hcop haf hba b0 b1 b2)
    obtain⟨w4,hw4⟩:∃W,W=wb.alloc (.cells #[.slice nx c.ms.length ny,.slice (some ⟨kx,ky,none⟩) 4 kz,.slice (some ⟨qx,0,none⟩) 3 3] 27):=⟨_,rfl⟩
    obtain⟨gy,hgy⟩:∃g,g=wb.heap.size:=⟨_,rfl⟩
    have hba4:Below wb.heap.size wb w4:=by rw[hw4];exact(Below.refl _ _).alloc (Nat.le_refl _) _
    have haf4:=HAF.out.below hba4;have XD:=hid (show Bx w4 gy [.slice nx c.ms.length ny,.slice (some ⟨kx,ky,none⟩) 4 kz,.slice (some ⟨qx,0,none⟩) 3 3] by rw[hw4,hgy];exact Bx.new wb #[.slice nx c.ms.length ny,.slice (some ⟨kx,ky,none⟩) 4 kz,.slice (some ⟨qx,0,none⟩) 3 3] 27 (by simp));have HGY:=hid (show gy≠qx from by have:=HAF.out.p.pb.2;omega);have HB34:=hid (show Below w3.heap.size w3 w4 from HBA.out.trans (hba4.mono HBA.out.size));rw[←hw4,←hgy];obtain⟨a9,cp9,x9,pw,po9,pf,hsw⟩:=swap_bus hbus HW.out HO.out.1 haf4.m (fun k hk=>(haf4.mo k hk).1) haf4.l haf4.lp haf4.p;have HSW:=hid hsw;rw[←HCM.out]at XD HSW;rw[←HCM.out];obtain⟨pl,hpl⟩:∃x,x=(c.prog who).length:=⟨_,rfl⟩
    rw[←hpl]at pw HSW;have hqx:qx<w4.heap.size:=World.block_lt_of_cell? w4 _ pw;have HQX:=hid hqx;have pf0:=pf who;have pf1:=pf oth;obtain⟨d0,d1,d2⟩:=XD.out.three.1;have hwi:(who:Int)<3:=by have:=HW.out;omega
    have hoi:(oth:Int)<3:=by have:=HO.out.1;omega
    have hne9:¬who=oth:=fun e=>HO.out.2 e.symm
    have HNE9:=hid hne9;clear hw4 hgy hba4 haf4 hsw HAL HAF HBA pf hqx hpl;have kc:∀{p:Addr} {v:Value},w4.cell? p=some v→w4.drew.cell? p=some v:=fun h=>h
    have pf2:w4.drew.frozen? ⟨qx,oth,none⟩=false:=pf1;replace d0:=kc d0;replace d1:=kc d1;replace d2:=kc d2;have pw':=kc pw;have po':=kc po9;refine wp_region_still_tail 9 (by kernel_rfl) (by kernel_rfl) ?_;change wpStill Tryz.prog _ w4.drew (fun a' => wpList Tryz.prog _ _ _ a' w4.drew) _ _;clear kc;simp only[List.take_succ_cons,List.take_zero,List.drop_succ_cons,List.drop_zero]
    repeat still_step
    refine wpStill_nil ?_
    go_upto_region 9 with fail
    obtain⟨wx,hwx⟩:∃W,W=(w4.setCell ⟨qx,oth,none⟩ (.slice a9 pl cp9)).drew:=⟨_,rfl⟩
    have hkx:∀b,b≠qx→wx.heap[b]? = w4.heap[b]?:=fun b hb=>by rw[hwx];exact Below.heap_setCell w4 ⟨qx,oth,none⟩ _ b hb
    have hzx:wx.heap.size=w4.heap.size:=by rw[hwx];simp[World.setCell]
    obtain⟨d0,d1,d2⟩:=(XD.out.kept (hkx gy HGY.out)).three.1;have q0:wx.cell? ⟨qx,who,none⟩=some (.slice a9 pl cp9):=by
      have:(w4.setCell ⟨qx,oth,none⟩ (.slice a9 pl cp9)).cell? ⟨qx,who,none⟩=w4.cell? ⟨qx,who,none⟩:=World.cell?_setCell_other _ _ _ _ (by intro e;injection e;omega);rw[hwx];exact this.trans pw
    have q1:wx.frozen? ⟨qx,who,none⟩=false:=by
      rw[hwx];simpa using pf0
    rw[←hwx];have hqx9:qx<wx.heap.size:=by rw[hzx];exact HQX.out
    have HWX:=hid hwx;have HKX:=hid hkx;have HZX:=hid hzx;clear hwx hkx hzx pw' po' pf0 pf1 pf2 pw po9
    go_upto_region 10 with fail
    obtain⟨w5,hw5⟩:∃W,W=(wx.setCell ⟨qx,who,none⟩ (.slice (some ⟨wx.heap.size,0,none⟩) 0 0)).alloc (.cells #[] 52):=⟨_,rfl⟩
    obtain ⟨hbd2, hb45, hk45⟩ := HSW.out w5 (by
      have h9:(wx.alloc (.cells #[] 52)).setCell ⟨qx,who,none⟩ (.slice (some ⟨wx.heap.size,0,none⟩) 0 0)=(wx.setCell ⟨qx,who,none⟩ (.slice (some ⟨wx.heap.size,0,none⟩) 0 0)).alloc (.cells #[] 52):=by simp[World.setCell_alloc_past,hqx9]
      rw[hw5,←h9,HZX.out,HWX.out])
    rw[←hw5];have HB35:=hid (show Below w3.heap.size w3 w5 from HB34.out.trans hb45);have HBE:=hid hbd2;have XD5:=hid (XD.out.kept (hk45 gy HGY.out XD.out.lt));have XC5:=hid (XC.out.below HB35.out XC.out.lt);have HBD5:=hid ((HBD.out.below HB35.out).mono HB35.out.size);have HTW:=hid (swap_twin hbus HW.out HO.out.1 HO.out.2);have HEB:=hid (hbus.swap HW.out HO.out.1);rw[←HD.out]at HTW;obtain⟨e,he⟩:∃x,x=swapC c who oth:=⟨_,rfl⟩
    rw[←he]at HBE HTW HEB;clear hw5 hbd2 hb45 hk45 d0 d1 d2 q0 q1 hqx9 he HWX HKX HZX HSW hne9;obtain⟨n,hn⟩:∃n,n=bs.length % 50:=⟨_,rfl⟩
    have hn50:(bs.length:Int) % 50=(n:Int):=by omega
    have HN50:=hid hn50;have HNL:=hid (show n<50 by omega);clear hn hn50;obtain⟨b0,b1,b2⟩:=XC5.out.three.1
    go_upto_region 11 with fail
    rw[HN50.out];have hgbl:=XC5.out.lt;have HFL:=hid (fun(W:World) (hW:Below w5.heap.size w5 W) {v:Value} (hv:CyX cy0 W v)=>cycFlowX HDB.out HBD5.out hW hv (n:=n) (by have:=HNL.out;omega))
    go_cut [10] from 50 to 53 (fun s9 w9=>Flowed w5 (flow d n cy0) s9 w9)
    case first=>
      go_region_with (first
        |(go_at_call 10;(with_reducible refine(cycNewX HDB.out _).mono ?_);rintro e wn ⟨zv,rfl,hv,hbn⟩;have HBN:=hid (show Below w5.heap.size w5 wn from bT (by repeat(first|exact Below.refl _ _|refine bA ?_|refine bD ?_)) hbn);have HVN:=hid hv;clear hgbl;have hgbl:=Nat.lt_of_lt_of_le XC5.out.lt HBN.out.size;have HXN:=hid ((nilBoxD w5).below hbn (nilBoxD w5).lt);have b0:=(HBN.out.cell (p:=⟨gx,0,none⟩) XC5.out.lt).trans b0;have b1:=(HBN.out.cell (p:=⟨gx,1,none⟩) XC5.out.lt).trans b1;have b2:=(HBN.out.cell (p:=⟨gx,2,none⟩) XC5.out.lt).trans b2;clear hv hbn)
        |(go_at_call 10;(with_reducible refine(cycNewX HDB.out _).mono ?_);rintro e wn ⟨zv,rfl,hv,hbn⟩;have HBN:=hid (show Below w5.heap.size w5 wn from bT (by repeat(first|exact Below.refl _ _|refine bA ?_|refine bD ?_)) hbn);have HVN:=hid hv;clear hgbl;have hgbl:=Nat.lt_of_lt_of_le XC5.out.lt HBN.out.size;have b0:=(HBN.out.cell (p:=⟨gx,0,none⟩) XC5.out.lt).trans b0;have b1:=(HBN.out.cell (p:=⟨gx,1,none⟩) XC5.out.lt).trans b1;have b2:=(HBN.out.cell (p:=⟨gx,2,none⟩) XC5.out.lt).trans b2;clear hv hbn)
        |(go_at_call 19;have _hh:=HXN.out;clear _hh;(with_reducible refine(HFL.out wn HBN.out HVN.out).mono ?_);rintro e wf hcop;obtain⟨V,N,C,D,y0,y1,y2,y3,y4,m0,m1,m2,m3,m4,j0,j1,j2,j3,j4,hE,rfl,hr,hbf⟩:=hcop.sl;have HE:=hid hE;have HR:=hid hr;have HBF:=hid (bT HBN.out hbf);have HXF:=hid (HXN.out.below hbf HXN.out.lt);have HGX:=hid HXN.out.lt;have HWX:=hid (Nat.le_refl w5.heap.size);obtain⟨⟨q0,q1,q2,q3,q4⟩,f0,f1,f2,f3,f4⟩:=HXF.out.five;have hxl:=HXF.out.lt;clear hcop hE hr hbf b0 b1 b2 hgbl)
        |(go_at_call 19;(with_reducible refine(HFL.out (wn.alloc _) (bA HBN.out) (HVN.out.below ((Below.refl _ _).alloc (Nat.le_refl _) _))).mono ?_);rintro e wf hcop;obtain⟨V,N,C,D,y0,y1,y2,y3,y4,m0,m1,m2,m3,m4,j0,j1,j2,j3,j4,hE,rfl,hr,hbf⟩:=hcop.sl;have HE:=hid hE;have HR:=hid hr;have HBF:=hid (bT (bA HBN.out) hbf);have HXF:=hid ((nilBox wn).below hbf (nilBox wn).lt);have HGX:=hid (nilBox wn).lt;have HWX:=hid HBN.out.size;obtain⟨⟨q0,q1,q2,q3,q4⟩,f0,f1,f2,f3,f4⟩:=HXF.out.five;have hxl:=HXF.out.lt;clear hcop hE hr hbf b0 b1 b2 hgbl)
        |(go_at_call 19;(with_reducible refine(HFL.out wn HBN.out HVN.out).mono ?_);rintro e wf hcop;obtain⟨V,N,C,D,y0,y1,y2,y3,y4,m0,m1,m2,m3,m4,j0,j1,j2,j3,j4,hE,rfl,hr,hbf⟩:=hcop.sl;have HE:=hid hE;have HR:=hid hr;have HBF:=hid (bT HBN.out hbf);clear hcop hE hr hbf b0 b1 b2 hgbl))
      all_goals
        go_wp2_with fail
        go_meet
        first
          |with_reducible exact flowed_b HE.out HR.out HBF.out HXF.out HGX.out HWX.out
          |with_reducible exact flowed_a HE.out HR.out HBF.out
          |trace_state
    case rest=>
      obtain⟨gs,rfl,hs,hgs,hb6⟩:=hcut;obtain⟨w6,hw6⟩:∃W,W=wc:=⟨_,rfl⟩
      subst hw6;have HB56:=hid hb6;have HS6:=hid hs;have XD6:=hid (XD5.out.below hb6 XD5.out.lt);have HBE6:=hid ((HBE.out.below hb6).mono hb6.size);clear hb6 hgs hs HFL b0 b1 b2;obtain⟨b0,b1,b2⟩:=XD6.out.three.1
      go_upto_region 12 with fail
      have hgbl:=XD6.out.lt;have HFL:=hid (fun(W:World) (hW:Below w6.heap.size w6 W) {v:Value} (hv:CyX cy0 W v)=>cycFlowX HEB.out HBE6.out hW hv (n:=n) (by have:=HNL.out;omega))
      go_cut [11] from 54 to 57 (fun s9 w9=>Flowed w6 (flow e n cy0) s9 w9)
      case first=>
        go_region_with (first
          |(go_at_call 10;(with_reducible refine(cycNewX HEB.out _).mono ?_);rintro e wn ⟨zv,rfl,hv,hbn⟩;have HBN:=hid (show Below w6.heap.size w6 wn from bT (by repeat(first|exact Below.refl _ _|refine bA ?_|refine bD ?_)) hbn);have HVN:=hid hv;clear hgbl;have hgbl:=Nat.lt_of_lt_of_le XD6.out.lt HBN.out.size;have HXN:=hid ((nilBoxD w6).below hbn (nilBoxD w6).lt);have b0:=(HBN.out.cell (p:=⟨gy,0,none⟩) XD6.out.lt).trans b0;have b1:=(HBN.out.cell (p:=⟨gy,1,none⟩) XD6.out.lt).trans b1;have b2:=(HBN.out.cell (p:=⟨gy,2,none⟩) XD6.out.lt).trans b2;clear hv hbn)
          |(go_at_call 10;(with_reducible refine(cycNewX HEB.out _).mono ?_);rintro e wn ⟨zv,rfl,hv,hbn⟩;have HBN:=hid (show Below w6.heap.size w6 wn from bT (by repeat(first|exact Below.refl _ _|refine bA ?_|refine bD ?_)) hbn);have HVN:=hid hv;clear hgbl;have hgbl:=Nat.lt_of_lt_of_le XD6.out.lt HBN.out.size;have b0:=(HBN.out.cell (p:=⟨gy,0,none⟩) XD6.out.lt).trans b0;have b1:=(HBN.out.cell (p:=⟨gy,1,none⟩) XD6.out.lt).trans b1;have b2:=(HBN.out.cell (p:=⟨gy,2,none⟩) XD6.out.lt).trans b2;clear hv hbn)
          |(go_at_call 19;have _hh:=HXN.out;clear _hh;(with_reducible refine(HFL.out wn HBN.out HVN.out).mono ?_);rintro e wf hcop;obtain⟨V,N,C,D,y0,y1,y2,y3,y4,m0,m1,m2,m3,m4,j0,j1,j2,j3,j4,hE,rfl,hr,hbf⟩:=hcop.sl;have HE:=hid hE;have HR:=hid hr;have HBF:=hid (bT HBN.out hbf);have HXF:=hid (HXN.out.below hbf HXN.out.lt);have HGX:=hid HXN.out.lt;have HWX:=hid (Nat.le_refl w6.heap.size);obtain⟨⟨q0,q1,q2,q3,q4⟩,f0,f1,f2,f3,f4⟩:=HXF.out.five;have hxl:=HXF.out.lt;clear hcop hE hr hbf b0 b1 b2 hgbl)
          |(go_at_call 19;(with_reducible refine(HFL.out (wn.alloc _) (bA HBN.out) (HVN.out.below ((Below.refl _ _).alloc (Nat.le_refl _) _))).mono ?_);rintro e wf hcop;obtain⟨V,N,C,D,y0,y1,y2,y3,y4,m0,m1,m2,m3,m4,j0,j1,j2,j3,j4,hE,rfl,hr,hbf⟩:=hcop.sl;have HE:=hid hE;have HR:=hid hr;have HBF:=hid (bT (bA HBN.out) hbf);have HXF:=hid ((nilBox wn).below hbf (nilBox wn).lt);have HGX:=hid (nilBox wn).lt;have HWX:=hid HBN.out.size;obtain⟨⟨q0,q1,q2,q3,q4⟩,f0,f1,f2,f3,f4⟩:=HXF.out.five;have hxl:=HXF.out.lt;clear hcop hE hr hbf b0 b1 b2 hgbl)
          |(go_at_call 19;(with_reducible refine(HFL.out wn HBN.out HVN.out).mono ?_);rintro e wf hcop;obtain⟨V,N,C,D,y0,y1,y2,y3,y4,m0,m1,m2,m3,m4,j0,j1,j2,j3,j4,hE,rfl,hr,hbf⟩:=hcop.sl;have HE:=hid hE;have HR:=hid hr;have HBF:=hid (bT HBN.out hbf);clear hcop hE hr hbf b0 b1 b2 hgbl))
        all_goals
          go_wp2_with fail
          go_meet
          first
            |with_reducible exact flowed_b HE.out HR.out HBF.out HXF.out HGX.out HWX.out
            |with_reducible exact flowed_a HE.out HR.out HBF.out
            |trace_state
      case rest=>
        obtain⟨gt,rfl,ht,hgt,hb7⟩:=hcut;obtain⟨w7,hw7⟩:∃W,W=wc:=⟨_,rfl⟩
        subst hw7;have HB67:=hid hb7;have hb57:Below w5.heap.size w5 w7:=HB56.out.trans (hb7.mono HB56.out.size);have XC7:=hid (XC5.out.below hb57 XC5.out.lt);have XD7:=hid (XD6.out.below hb7 XD6.out.lt);have HBD7:=hid ((HBD5.out.below hb57).mono hb57.size);have HBE7:=hid ((HBE6.out.below hb7).mono hb7.size);have HS7:=hid (HS6.out.below hb7);have HB37:=hid (HB35.out.trans (hb57.mono HB35.out.size));have HGS:=hid (show Good d (flow d n cy0) from good_run HDB.out _ (zG0 d));have HGT:=hid (show Good e (flow e n cy0) from good_run HEB.out _ (zG0 e));obtain⟨hws,htn⟩:=swap_flow HDB.out HEB.out HTW.out n;obtain⟨st,hst⟩:∃s,s=flow d n cy0:=⟨_,rfl⟩
        obtain⟨su,hsu⟩:∃s,s=flow e n cy0:=⟨_,rfl⟩
        rw[←hst]at hws htn HS7 HGS;rw[←hsu]at hws htn ht HGT;have HWS:=hid hws;have HTN:=hid htn;obtain⟨v0,v1,v4,l0,l1,c0,c1,c4,pg,po2,pc2,tg,tp,tc,P,Q,hx2,hv2,_,_,_,_⟩:=HS7.out.rows HDB.out HGS.out;obtain⟨z0,z1,z4,m0,m1,k0,k1,k4,rg,ro2,rc2,sg,sp,sc,P', Q', hy2,hu2,_,_,_,_⟩:=ht.rows HEB.out HGT.out;have HX:=hid hx2;have HV:=hid hv2;have HT:=hid hv2.told.cells;have HY:=hid hy2;have HU:=hid hu2;have HR:=hid hu2.told.cells;obtain⟨tl,htl⟩:∃x,x=st.told.length:=⟨_,rfl⟩
        have htl2:su.told.length=tl:=by rw[htl];exact(tN_len htn).symm
        rw[←htl]at HX HT HV;rw[htl2]at HY HR HU;have HTL:=hid htl;have HTL2:=hid htl2;have htl36:tl≤36:=by rw[htl];exact HGS.out.told36 HDB.out
        have HT36:=hid htl36;have HK1:=hid (show ∀W,Below w7.heap.size w7 W→Calls Tryz.prog 16 #[.agg #[.slice mx cm my,.slice (some ⟨lx,ly,none⟩) 4 lz,.slice (some ⟨px,0,none⟩) 3 3],.agg #[.slice v0 l0 c0,.slice v1 l1 c1,.slice (some ⟨pg,po2,none⟩) 3 pc2,.slice (some ⟨tg,tp,none⟩) 4 tc,.slice v4 tl c4]] W fun e w' => e=.returned (.bool true)∧Below W.heap.size W w' from fun W hW=>cycOk_any HDB.out (HBD7.out.below hW) (HV.out.below hW) hW.size HGS.out);have HK2:=hid (show ∀W,Below w7.heap.size w7 W→Calls Tryz.prog 16 #[.agg #[.slice nx cm ny,.slice (some ⟨kx,ky,none⟩) 4 kz,.slice (some ⟨qx,0,none⟩) 3 3],.agg #[.slice z0 m0 k0,.slice z1 m1 k1,.slice (some ⟨rg,ro2,none⟩) 3 rc2,.slice (some ⟨sg,sp,none⟩) 4 sc,.slice z4 tl k4]] W fun e w' => e=.returned (.bool true)∧Below W.heap.size W w' from fun W hW=>cycOk_any HEB.out (HBE7.out.below hW) (HU.out.below hW) hW.size HGT.out)
        have HK3 := hid (show ∀ W, Below w7.heap.size w7 W → Calls Tryz.prog 20 #[.slice v0 l0 c0, .slice z0 m0 k0] W fun e w' => e = .returned (.bool true) ∧ Drew W w' from fun W hW => by
          have h:=HU.out.ws;rw[←HWS.out]at h;exact crInts_same _ _ st.ws w7.heap.size w7.heap.size W (HV.out.ws.below hW) (h.below hW))
        have hqe:((tl:Int) != (tl:Int))=false:=by simp
        clear hb7 hgt ht hb57 hws htn hst hsu hx2 hv2 hy2 hu2 htl htl2 HFL b0 b1 b2;have hh7:Below w7.heap.size w7 w7:=Below.refl _ _;obtain⟨b0,b1,b2⟩:=(XC7.out.below hh7 XC7.out.lt).three.1;obtain⟨d0,d1,d2⟩:=(XD7.out.below hh7 XD7.out.lt).three.1;obtain⟨t0,t1,t2,t3,t4⟩:=(HX.out.below hh7 HX.out.lt).five.1;obtain⟨u0,u1,u2,u3,u4⟩:=(HY.out.below hh7 HY.out.lt).five.1;clear hh7
        go_upto_region 15 with (first
          |(go_at_call 16;(with_reducible refine(HK1.out w7 (Below.refl _ _)).mono ?_);rintro e9 w8 ⟨rfl,hb8⟩;have HB8:=hid hb8;clear hb8 b0 b1 b2 d0 d1 d2 t0 t1 t2 t3 t4 u0 u1 u2 u3 u4;obtain⟨b0,b1,b2⟩:=(XC7.out.below HB8.out XC7.out.lt).three.1;obtain⟨d0,d1,d2⟩:=(XD7.out.below HB8.out XD7.out.lt).three.1;obtain⟨t0,t1,t2,t3,t4⟩:=(HX.out.below HB8.out HX.out.lt).five.1;obtain⟨u0,u1,u2,u3,u4⟩:=(HY.out.below HB8.out HY.out.lt).five.1)
          |(go_at_call 16;(with_reducible refine(HK2.out w8 HB8.out).mono ?_);rintro e9 w9 ⟨rfl,hb9⟩;have HB9:=hid (HB8.out.trans (hb9.mono HB8.out.size));clear hb9 b0 b1 b2 d0 d1 d2 t0 t1 t2 t3 t4 u0 u1 u2 u3 u4;obtain⟨b0,b1,b2⟩:=(XC7.out.below HB9.out XC7.out.lt).three.1;obtain⟨d0,d1,d2⟩:=(XD7.out.below HB9.out XD7.out.lt).three.1;obtain⟨t0,t1,t2,t3,t4⟩:=(HX.out.below HB9.out HX.out.lt).five.1;obtain⟨u0,u1,u2,u3,u4⟩:=(HY.out.below HB9.out HY.out.lt).five.1)
          |(go_at_call 20;(with_reducible refine(HK3.out w9 HB9.out).mono ?_);rintro e9 wd ⟨rfl,nd,rfl⟩))
        clear b0 b1 b2 d0 d1 d2 t0 t1 t2 t3 t4 u0 u1 u2 u3 u4 hqe;have HBE:=hid (show Below w7.heap.size w7 (w9.drewN nd) from Below.draws HB9.out _);obtain⟨w10,hw10⟩:∃W,W=w9.drewN nd:=⟨_,rfl⟩
        rw[←hw10]at HBE ⊢;clear hw10
        go_wp2_with fail
        go_loopw [12] (fun i wr=>∃m:Nat,i=.int .i64 m∧m≤tl∧Below w7.heap.size w7 wr) (fun i _=>tl - (intOf i).toNat)
        case atStart=>exact⟨0,by go_num,Nat.zero_le _,HBE.out⟩
        case round=>
          clear HBE;obtain⟨m,rfl,hm,hbr⟩:=hrel;have HBR:=hid hbr;obtain⟨wo,hwo⟩:∃W,W=wr:=⟨_,rfl⟩
          subst hwo;have kc:∀{p:Addr} {v:Value},w7.cell? p=some v→wo.cell? p=some v:=fun hc=>(hbr.cell (World.block_lt_of_cell? w7 _ hc)).trans hc
          obtain⟨t0,t1,t2,t3,t4⟩:=HX.out.five.1;obtain⟨u0,u1,u2,u3,u4⟩:=HY.out.five.1;obtain⟨ja,jc,hje,_,_,_,hjc⟩:=HT.out;obtain⟨ra,rc,hre,_,_,_,hrc⟩:=HR.out;simp only[Value.slice.injEq]at hje hre;obtain⟨rfl,-,rfl⟩:=hje;obtain⟨rfl,-,rfl⟩:=hre;replace t4:=kc t4;replace u4:=kc u4;have h36:=HT36.out;by_cases hlt:m<tl
          · have hmi : (m : Int) < (tl : Int) := by omega
            obtain⟨jb,jo,rfl,_,hjr⟩:=hjc (by omega);obtain⟨rb,ro,rfl,_,hrr⟩:=hrc (by omega);obtain⟨da,dn,dc,_,j1,j2,j3,j4,hji⟩:=hjr m hlt;obtain⟨ea,en,ec,_,r1,r2,r3,r4,hri⟩:=hrr m hlt;obtain⟨hn1,hn2⟩:=tN_get HTN.out m;rw[←hn1]at r1;rw[←hn2]at r2 r3 hri;obtain⟨jn,hjn⟩:∃x,x=(st.told.getD m default).n:=⟨_,rfl⟩
            obtain⟨r,hr⟩:∃r,r=(st.told.getD m default).rsp:=⟨_,rfl⟩
            rw[←hjn]at j1 r1;rw[←hr]at j2 j3 hji r2 r3 hri;obtain rfl:dn=r.data.length:=by
              obtain⟨_,_,e,_⟩:=hji.opened;simp only[Value.slice.injEq]at e;exact e.2.1
            obtain rfl:en=r.data.length:=by
              obtain⟨_,_,e,_⟩:=hri.opened;simp only[Value.slice.injEq]at e;exact e.2.1
            replace j1:=kc j1;replace j2:=kc j2;replace j3:=kc j3;replace j4:=kc j4;replace r1:=kc r1;replace r2:=kc r2;replace r3:=kc r3;replace r4:=kc r4;have HSV:=hid (fun(W:World) (hW:Below wo.heap.size wo W)=>crRsp_same r da ea dc ec wo.heap.size W (((hji.below hbr).mono hbr.size).below hW) (((hri.below hbr).mono hbr.size).below hW) hW.size);have hne:((jn:Int) != (jn:Int))=false:=by simp
            clear kc hjr hjc hrr hrc hjn hr hji hri hbr hn1 hn2 t0 t1 t2 t3 u0 u1 u2 u3
            go_upto_region 18 with fail
            obtain⟨CC,hCC⟩:∃CC:List Value→World→Prop,CC=fun us W=>Below wo.heap.size wo W:=⟨_,rfl⟩
            have hC0:CC [] wo.drew:=by rw[hCC];exact(Below.refl _ _).drew
            have hTC:∀us W,CC us W→Below wo.heap.size wo W:=by rw[hCC];exact fun us W h=>h
            have HTC:=hid hTC;have HCL:=hid (show ∀us W W', CC us W→Below W.heap.size W W' → CC us W' by rw[hCC];exact fun us W W' h h2=>h.trans (h2.mono h.size));have hne:Nonempty (Ph CC):=⟨⟨([],wo.drew),hC0⟩⟩
            have pc:∀{p:Addr} {v:Value},wo.cell? p=some v→∀x:Ph CC,x.1.2.cell? p=some v:=fun hc x=>((hTC _ _ x.2).cell (World.block_lt_of_cell? wo _ hc)).trans hc
            replace t4:=pc t4;replace u4:=pc u4;replace j1:=pc j1;replace j2:=pc j2;replace j3:=pc j3;replace j4:=pc j4;replace r1:=pc r1;replace r2:=pc r2;replace r3:=pc r3;replace r4:=pc r4;clear hCC hTC pc;refine zA8 CC [] [] (by kernel_rfl) (by kernel_rfl) hC0 ?_
            try simp only[List.append_eq,List.cons_append,List.nil_append]
            repeat (
              (with_reducible refine wq1_q ⟨rfl,rfl⟩ (fun K hK=>?_))
              go_simp
              first
                |((with_reducible refine hK _ ?_);clear hK K)
                |((with_reducible refine zA6 (by simp[undef]) (hK _ ?_));clear hK K)
                | (apply Exists.intro
                   (with_reducible refine⟨fun _=>?_,hK _ ?_⟩)
                   (go_at_call 21;rename_i x;exact(HSV.out _ (HTC.out _ _ x.2)).mono fun _ _ ⟨he,hb⟩=>⟨he,HCL.out _ _ _ x.2 hb⟩)
                   clear hK K))
            refine zE0 ?_;refine zD9 ?_;intro wz hwz;have HBZ:=hid (HTC.out _ _ hwz);clear hwz hC0 HTC HCL hne t4 u4 j1 j2 j3 j4 r1 r2 r3 r4
            go_wp2_with fail
            go_roundw
            case rel=>exact⟨m+1,by go_num,by omega,HBR.out.trans (HBZ.out.mono HBR.out.size)⟩
            case measure=>simp[intOf];omega
          · obtain rfl : m = tl := by omega
            have hmm:decide ((m:Int)<(m:Int))=false:=by simp
            clear kc hjc hrc hbr
            go_wp2_with fail
            go_ret
            exact⟨rfl,HB1.out.trans ((HB2.out.trans ((HB3.out.trans ((HB37.out.trans (HBR.out.mono HB37.out.size)).mono HB3.out.size)).mono HB2.out.size)).mono HB1.out.size)⟩
end Go.Proofs.YtgkdoehkmbhfiaaGreat
namespace Go.Proofs.YtgkdoehkmbhfiaaGreat
open Go.RowKit
open Go.ChangeShapes Go.WideShapes Go.ChangeAt
theorem cswap_holds:Rows.FnCycSwapSaid :=
 OpenClaim.holds_of_wide 4 Tryz.f4 rfl rfl rfl rfl rfl rfl rfl ⟨rfl, rfl, rfl, rfl, rfl⟩ rfl rfl rfl rfl rfl (by kernel_rfl) Tryz.func4 (by kernel_rfl)
  (of_decide_eq_true (by kernel_rfl)) (by unfold Func.isWrapper;first|(rw[if_pos (by decide +kernel)];kernel_rfl)|(rw[if_neg (by decide +kernel)];exact⟨rfl,rfl⟩))
  (fun os started H enc _ => code_lifted started enc 4 Tryz.f4 Rows.fnCycSwapSpec rfl (by kernel_rfl) Tryz.func4
   (ChangeSpec.witness6 (enc:=enc) (C:=Tryz.checked) false ⟨#[],#[.slice none 0 0],[]⟩ 8 (by kernel_rfl) (by kernel_rfl) (by kernel_rfl) (by kernel_rfl)) Tryz.params4 rfl (fun _=>⟨rfl,rfl,rfl⟩) (cswap_any drawPlay_any))
#print axioms cswap_holds
end Go.Proofs.YtgkdoehkmbhfiaaGreat
