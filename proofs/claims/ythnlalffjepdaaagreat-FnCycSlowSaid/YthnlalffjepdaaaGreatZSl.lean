/- For every code the law FnCycSlow returns true, and its argument reads behind the call as it read before. -/
import Derived.Test.YthnlalffjepdaaaGreatGIa
import Derived.Test.YthnlalffjepdaaaGreatGLb
set_option linter.unusedVariables false
set_option linter.unusedSimpArgs false
set_option maxHeartbeats 16000000
namespace Go.Proofs.YthnlalffjepdaaaGreat
open Go.RowKit
set_option maxRecDepth 8000 in
theorem slow_any (hdraw : DrawPl) (v : Value) (bs : List Nat) (B : Nat) (w : World) (h : Bytes w B v bs) (hB : B ≤ w.heap.size) :
    Calls Tryz.prog 9 #[v] w fun e w' => e=.returned (.bool true)∧Below w.heap.size w w':=by
  obtain⟨ao,cap,rfl,hlc,hcap,hln,hni,hr⟩:=h.opened;clear hr;by_cases hbig:(1048576:Int)<(bs.length:Int)
  · go_enter Tryz.func9, Tryz.ntmps9
    go_wp2_with fail
    go_ret
    exact⟨rfl,Below.refl _ _⟩
  · go_enter Tryz.func9, Tryz.ntmps9
    go_wp2_with fail
    refine(hdraw _ bs B w h hB).mono ?_;rintro e w1 ⟨u,iv,c,ins,rfl,hbus,hbv,hins,hil,hb1⟩;obtain⟨mv,lb,lo,lc,pb,po,pc,QQ,K,rfl,⟨ma,mn,mk,rfl⟩,_,_,hpb,_,hpc,_⟩:=hbv.opened hbus;have HPB:=hid hpb;have HPC:=hid hpc;clear hpb hpc;obtain⟨ia,ic,rfl,ic1,ic2,ic3,_,_⟩:=hins.opened;have HBV:=hid hbv;have HB1:=hid hb1;clear hbv hins hb1 h hil
    go_upto_region 4 with fail
    obtain⟨w2,hw2⟩:∃W,W=w1.alloc (.cells #[.slice ma mn mk,.slice (some ⟨lb,lo,none⟩) 4 lc,.slice (some ⟨pb,po,none⟩) 3 pc] 27):=⟨_,rfl⟩
    obtain⟨gb,hgb⟩:∃g,g=w1.heap.size:=⟨_,rfl⟩
    have X0:=hid (show Bx w2 gb [.slice ma mn mk,.slice (some ⟨lb,lo,none⟩) 4 lc,.slice (some ⟨pb,po,none⟩) 3 pc] by rw[hw2,hgb];exact Bx.new w1 #[.slice ma mn mk,.slice (some ⟨lb,lo,none⟩) 4 lc,.slice (some ⟨pb,po,none⟩) 3 pc] 27 (by simp));have HB2:=hid (show Below w1.heap.size w1 w2 by rw[hw2];exact(Below.refl _ _).alloc (Nat.le_refl _) _);rw[←hw2,←hgb];clear hw2 hgb;obtain⟨who,hwh⟩:∃n,n=bs.length % 3:=⟨_,rfl⟩
    have hmod:(bs.length:Int) % 3=(who:Int):=by omega
    have hwho:who<3:=by omega
    have HMOD:=hid hmod;have HW:=hid hwho;have hwi:(who:Int)<3:=by omega
    clear hwh hmod hwho
    go_upto_region 5 with fail
    rw[HMOD.out];obtain⟨b0,b1,b2⟩:=X0.out.three.1;have hgbl:=X0.out.lt;have p0:=(HB2.out.cell (p:=⟨pb,po+who,none⟩) HPB.out).trans (HPC.out who HW.out);have h12:=hbus.twelve HW.out;obtain⟨pl,hpl⟩:∃x,x=(c.prog who).length:=⟨_,rfl⟩
    rw[←hpl]at p0 h12;have HPL:=hid hpl;clear hpl;by_cases hz:pl=0
    · subst hz
      go_wp2_with (go_at_call 26;refine(crOk_any _).mono ?_;rintro e w9 ⟨rfl,rfl⟩)
      go_ret
      exact⟨rfl,HB1.out.trans (HB2.out.mono HB1.out.size)⟩
    · have e0 : ((pl : Int) == 0) = false := by simp; omega
      have HNZ:=hid (show(c.prog who).length≠0 by rw[←HPL.out];exact hz);have HAL:=hid (busAlone_good hbus ((HBV.out.below HB2.out).mono HB2.out.size) (Nat.le_refl w2.heap.size) HW.out)
      go_upto_region 8 with(go_at_call 34;go_loud ((with_reducible refine(HAL.out).mono ?_));rintro e wa hcop;obtain⟨mx,my,lx,ly,lz,px,us,L,rfl,haf,hba⟩:=hcop.fact;have HAF:=hid haf;have HBA:=hid hba;clear hcop haf hba b0 b1 b2 hgbl)
      clear e0 p0;obtain⟨w3,hw3⟩:∃W,W=wa.alloc (.cells #[.slice mx c.ms.length my,.slice (some ⟨lx,ly,none⟩) 4 lz,.slice (some ⟨px,0,none⟩) 3 3] 27):=⟨_,rfl⟩
      obtain⟨gx,hgx⟩:∃g,g=wa.heap.size:=⟨_,rfl⟩
      have hba3:Below wa.heap.size wa w3:=by rw[hw3];exact(Below.refl _ _).alloc (Nat.le_refl _) _
      have haf:=HAF.out.below hba3;have hxb:Bx w3 gx [.slice mx c.ms.length my,.slice (some ⟨lx,ly,none⟩) 4 lz,.slice (some ⟨px,0,none⟩) 3 3]:=by rw[hw3,hgx];exact Bx.new wa #[.slice mx c.ms.length my,.slice (some ⟨lx,ly,none⟩) 4 lz,.slice (some ⟨px,0,none⟩) 3 3] 27 (by simp)
      have hgp:gx≠px:=by have:=HAF.out.p.pb.2;omega
      have hpw:w2.heap.size≤px:=HAF.out.p.pb.1;have hb3:Below w2.heap.size w2 w3:=HBA.out.trans (hba3.mono HBA.out.size);rw[←hw3,←hgx];clear hw3 hgx hba3;obtain⟨a,cp,u0,f0,hcp,hbc⟩:=cut_bus hbus HW.out haf.m (fun k hk=>(haf.mo k hk).1) haf.l haf.lp haf.p HNZ.out;obtain⟨cm,hcm⟩:∃x,x=c.ms.length:=⟨_,rfl⟩
      rw[←hcm]at hxb hbc;rw[←HPL.out]at u0 hcp;have XC:=hid hxb;have HB3:=hid hb3;have HBC:=hid hbc;have HGP:=hid hgp;have HPW:=hid hpw;have hcp1:(1:Int)≤(cp:Int):=by omega
      obtain⟨x0,x1,x2⟩:=XC.out.three.1;clear hxb haf hgp hpw hb3 hbc hcm hcp HAL HAF HBA;have kc:∀{p:Addr} {v:Value},w3.cell? p=some v→w3.drew.cell? p=some v:=fun h=>h
      have f0:w3.drew.frozen? ⟨px,who,none⟩=false:=f0;replace x0:=kc x0;replace x1:=kc x1;replace x2:=kc x2;replace u0:=kc u0;have hpl1:(1:Int)≤(pl:Int):=by omega
      have hpxl:px<w3.heap.size:=World.block_lt_of_cell? w3.drew _ u0;have HPX:=hid hpxl;refine wp_region_still_tail 10 (by kernel_rfl) (by kernel_rfl) ?_;change wpStill Tryz.prog _ w3.drew (fun a' => wpList Tryz.prog _ _ _ a' w3.drew) _ _;clear kc;simp only[List.take_succ_cons,List.take_zero,List.drop_succ_cons,List.drop_zero]
      repeat still_step
      refine wpStill_nil ?_
      go_upto_region 9 with fail
      obtain⟨w4,hw4⟩:∃W,W=(w3.setCell ⟨px,who,none⟩ (.slice a 1 cp)).drew:=⟨_,rfl⟩
      have hz4:w4.heap.size=w3.heap.size:=by rw[hw4];simp[World.setCell]
      have HBD4 := hid (show BusV w4 w4.heap.size (.agg #[.slice mx cm my, .slice (some ⟨lx, ly, none⟩) 4 lz, .slice (some ⟨px, 0, none⟩) 3 3]) (oneC c who) by
        rw[hz4,hw4];exact HBC.out.below (Below.refl _ _).drew)
      have HB4:=hid (show Below w2.heap.size w2 w4 by rw[hw4];exact(HB3.out.setCell (p:=⟨px,_,none⟩) HPW.out _).drew);have XC4:=hid (show Bx w4 gx [.slice mx cm my,.slice (some ⟨lx,ly,none⟩) 4 lz,.slice (some ⟨px,0,none⟩) 3 3] from XC.out.kept (by rw[hw4];exact Below.heap_setCell w3 ⟨px,who,none⟩ _ gx HGP.out));rw[←hw4];clear hw4 hz4 x0 x1 x2 u0 f0 hpl1 hpxl hcp1;have HDB:=hid (hbus.one HW.out);have HSO:=hid (oneC_solo hbus HW.out HNZ.out);obtain⟨mv', lb', lo', lc', pb', po', pc', QQ', K', hE,_,hmaps,hlb', _,hlat,hprc,hrq⟩:=HBD4.out.opened HDB.out;simp only[Value.agg.injEq,Array.mk.injEq,List.cons.injEq,Value.slice.injEq,Option.some.injEq,Addr.mk.injEq,and_true,true_and]at hE;obtain⟨rfl,⟨⟨rfl,rfl⟩,rfl⟩,⟨rfl,rfl⟩,rfl⟩:=hE;have hpc:=hprc who HW.out;have hrq:=hrq who HW.out;obtain⟨qa,qc,he,_,_,_,_,hq⟩:=hrq.opened;obtain⟨qb,qo,rfl,hqB,hqr⟩:=hq (by rw[HSO.out.one];omega);simp only[Value.slice.injEq]at he;obtain⟨he1,_,he3⟩:=he;rw[he1,he3,HSO.out.one]at hpc;rw[Nat.zero_add]at hpc;obtain⟨da,dc,la,lc2,hrv,r0,r1,r2,r3,r4,r5,r6⟩:=hqr 0 (by rw[HSO.out.one];omega);have HRS:=hid (fun(W:World) (hW:Below w4.heap.size w4 W)=>reqSlave_nat HDB.out (who:=who) (n:=0) HW.out (by rw[HSO.out.one];omega) (implReqSlave_any _ _ (oneC c who).ms (((oneC c who).prog who).getD 0 default) _ W (hmaps.below hW) (hrv.below hW) hW.size));obtain⟨rqv,hrqe⟩:∃x,x=((oneC c who).prog who).getD 0 default:=⟨_,rfl⟩
      rw[←hrqe]at HRS r0 r1 r2 r3 r4 r5 r6;obtain⟨s,hs⟩:∃s,s=(oneC c who).slv who 0:=⟨_,rfl⟩
      rw[←hs]at HRS HSO;have hs4:s<4:=HSO.out.s4;have l0:=hlat s hs4;obtain⟨nl,hnl⟩:∃x,x=(oneC c who).lt s:=⟨_,rfl⟩
      rw[←hnl]at l0;have HNL:=hid hnl;have hnl3:nl≤3:=by rw[hnl];exact HDB.out.lt3 hs4
      obtain⟨n,hn⟩:∃n,n=nl+4:=⟨_,rfl⟩
      obtain⟨m,hm⟩:∃m,m=nl+3:=⟨_,rfl⟩
      have HNM:=hid (show n=nl+4∧m=nl+3∧nl≤3 from⟨hn,hm,hnl3⟩);have ew1:IntKind.i64.wrap ((nl:Int)+4)=(n:Int):=by rw[IntKind.wrap_i64];omega
      have ew2:IntKind.i64.wrap ((n:Int) - 1)=(m:Int):=by rw[IntKind.wrap_i64];omega
      have EW2:=hid ew2;have is4:(s:Int)<4:=by omega
      obtain⟨x0,x1,x2⟩:=XC4.out.three.1;simp only[Nat.zero_mul,Nat.add_zero]at r0 r1 r2 r3 r4 r5 r6;clear hprc hrq hq hqr he1 he3 hrv hrqe hs hlat hnl hn hm ew2 hmaps hqB hs4 hnl3;obtain⟨CC,hCC⟩:∃CC:List Value→World→Prop,CC=fun us W=>Below w4.heap.size w4 W:=⟨_,rfl⟩
      have hC0:CC [] w4.drew:=by rw[hCC];exact(Below.refl _ _).drew
      have hTC:∀us W,CC us W→Below w4.heap.size w4 W:=by rw[hCC];exact fun us W h=>h
      have HTC:=hid hTC;have HCC:=hid hCC;have hne:Nonempty (Ph CC):=⟨⟨([],w4.drew),hC0⟩⟩
      have pc:∀{p:Addr} {v:Value},w4.cell? p=some v→∀x:Ph CC,x.1.2.cell? p=some v:=fun hc x=>((hTC _ _ x.2).cell (World.block_lt_of_cell? w4 _ hc)).trans hc
      replace x0:=pc x0;replace x1:=pc x1;replace x2:=pc x2;replace hpc:=pc hpc;replace r0:=pc r0;replace r1:=pc r1;replace r2:=pc r2;replace r3:=pc r3;replace r4:=pc r4;replace r5:=pc r5;replace r6:=pc r6;replace l0:=pc l0;clear hCC hTC pc;refine zB3 CC [(11,true)] [] (by kernel_rfl) (by kernel_rfl) hC0 ?_
      repeat (
        (with_reducible refine wq1_q ⟨rfl,rfl⟩ (fun K hK=>?_))
        go_simp
        first
          |((with_reducible refine hK _ ?_);clear hK K)
          |((with_reducible refine zA9 (by simp[undef]) (hK _ ?_));clear hK K)
          | (apply Exists.intro
             (with_reducible refine⟨fun _=>?_,hK _ ?_⟩)
             (fail)
             clear hK K))
      refine wq1_x rfl (.int .i64 (s:Nat)) (fun KA hKA=>?_);go_simp;refine hKA _ ?_;clear hKA KA
      repeat (
        (with_reducible refine wq1_q ⟨rfl,rfl⟩ (fun K hK=>?_))
        go_simp
        first
          |((with_reducible refine hK _ ?_);clear hK K)
          |((with_reducible refine zA9 (by simp[undef]) (hK _ ?_));clear hK K)
          | (apply Exists.intro
             (with_reducible refine⟨fun _=>?_,hK _ ?_⟩)
             (fail)
             clear hK K))
      refine zI6 ?_;clear x0 x1 x2 hpc r0 r1 r2 r3 r4 r5 r6 l0 hne;refine wq2_x _ rfl rfl ?_ ?_
      · intro W hW KA hKA
        have h1:=HTC.out _ _ hW;go_simp
        (with_reducible refine(HRS.out W h1).mono ?_)
        rintro e w'' ⟨rfl,h2⟩;go_simp;exact hKA (.int .i64 (s:Nat)) _ _ (by rw[HCC.out];exact h1.trans (h2.mono h1.size)) rfl rfl
      intro _;refine zI5 ?_;intro w5 hw5;have hb5:=HTC.out _ _ hw5;have HB5:=hid (HB4.out.trans (hb5.mono HB4.out.size));have HBD:=hid ((HBD4.out.below hb5).mono hb5.size);obtain⟨x0,x1,x2⟩:=(XC4.out.below hb5 XC4.out.lt).three.1;have ew2:=EW2.out;clear hw5 hC0 hb5 ew1 is4 HTC HCC CC;obtain⟨stm,hstm⟩:∃x,x=flow (oneC c who) m cy0:=⟨_,rfl⟩
      obtain⟨stn,hstn⟩:∃x,x=flow (oneC c who) n cy0:=⟨_,rfl⟩
      have HM:=hid hstm;have HN:=hid hstn;have HMG:=hid (show Good (oneC c who) stm by rw[hstm];exact good_run HDB.out _ (zL3 _));have HNG:=hid (show Good (oneC c who) stn by rw[hstn];exact good_run HDB.out _ (zL3 _));have hlaw:=solo_law HSO.out;have hpl:=oneC_plen hbus HW.out HNZ.out
      have HDM := hid (show decide (stm.told.length = plen (oneC c who) 3) = false by
        rw[hstm,hpl,HNM.out.2.1,HNL.out,hlaw.1];rfl)
      have HDN := hid (show decide (stn.told.length = plen (oneC c who) 3) = true by
        rw[hstn,hpl,HNM.out.1,HNL.out,hlaw.2];rfl)
      clear hstm hstn hlaw hpl
      go_upto_region 10 with fail
      obtain⟨CC,hCC⟩:∃CC:List Value→World→Prop,CC=fun us W=>Below w5.heap.size w5 W∧NC cy0 [0,5] us W∧NC stm [1] us W∧NC stn [6] us W:=⟨_,rfl⟩
      have hC0:CC [] w5.drew:=by rw[hCC];exact⟨(Below.refl _ _).drew,NC.nil _ _ _,NC.nil _ _ _,NC.nil _ _ _⟩
      have hTC:∀us W,CC us W→Below w5.heap.size w5 W:=by rw[hCC];exact fun us W h=>h.1
      have HCC:=hid hCC;have hne:Nonempty (Ph CC):=⟨⟨([],w5.drew),hC0⟩⟩
      have pc:∀{p:Addr} {v:Value},w5.cell? p=some v→∀x:Ph CC,x.1.2.cell? p=some v:=fun hc x=>((hTC _ _ x.2).cell (World.block_lt_of_cell? w5 _ hc)).trans hc
      replace x0:=pc x0;replace x1:=pc x1;replace x2:=pc x2;clear hCC hTC pc;refine zB3 CC [(2,false),(5,false),(6,true),(7,true),(8,true),(11,false),(13,false),(14,true)] [] (by kernel_rfl) (by kernel_rfl) hC0 ?_
      repeat (
        (with_reducible refine wq1_q ⟨rfl,rfl⟩ (fun K hK=>?_))
        go_simp
        first
          |((with_reducible refine hK _ ?_);clear hK K)
          |((with_reducible refine zA9 (by simp[undef]) (hK _ ?_));clear hK K)
          | (apply Exists.intro
             (with_reducible refine⟨fun _=>?_,hK _ ?_⟩)
             (fail)
             clear hK K))
      refine wq1_v rfl ?_
      repeat (
        (with_reducible refine wq1_q ⟨rfl,rfl⟩ (fun K hK=>?_))
        go_simp
        first
          |((with_reducible refine hK _ ?_);clear hK K)
          |((with_reducible refine zA9 (by simp[undef]) (hK _ ?_));clear hK K)
          | (apply Exists.intro
             (with_reducible refine⟨fun _=>?_,hK _ ?_⟩)
             (fail)
             clear hK K))
      refine wq1_v rfl ?_;refine wq1_x rfl (.bool false) (fun KA hKA=>?_);go_simp;refine hKA _ ?_;clear hKA KA;refine wq1_x rfl (.bool true) (fun KA hKA=>?_);go_simp;refine hKA _ ?_;clear hKA KA;refine wq1_x rfl (.bool true) (fun KA hKA=>?_);go_simp;refine hKA _ ?_;clear hKA KA
      repeat (
        (with_reducible refine wq1_q ⟨rfl,rfl⟩ (fun K hK=>?_))
        go_simp
        first
          |((with_reducible refine hK _ ?_);clear hK K)
          |((with_reducible refine zA9 (by simp[undef]) (hK _ ?_));clear hK K)
          | (apply Exists.intro
             (with_reducible refine⟨fun _=>?_,hK _ ?_⟩)
             (fail)
             clear hK K))
      refine wq1_v rfl ?_
      repeat (
        (with_reducible refine wq1_q ⟨rfl,rfl⟩ (fun K hK=>?_))
        go_simp
        first
          |((with_reducible refine hK _ ?_);clear hK K)
          |((with_reducible refine zA9 (by simp[undef]) (hK _ ?_));clear hK K)
          | (apply Exists.intro
             (with_reducible refine⟨fun _=>?_,hK _ ?_⟩)
             (fail)
             clear hK K))
      refine wq1_v rfl ?_;refine wq1_x rfl (.bool true) (fun KA hKA=>?_);go_simp;refine hKA _ ?_;clear hKA KA
      repeat (
        (with_reducible refine wq1_q ⟨rfl,rfl⟩ (fun K hK=>?_))
        go_simp
        first
          |((with_reducible refine hK _ ?_);clear hK K)
          |((with_reducible refine zA9 (by simp[undef]) (hK _ ?_));clear hK K)
          | (apply Exists.intro
             (with_reducible refine⟨fun _=>?_,hK _ ?_⟩)
             (fail)
             clear hK K))
      refine zI6 ?_;clear x0 x1 x2 hne;refine wq2_v _ rfl rfl ?_ ?_
      · intro W hW KA hKA
        rw[HCC.out]at hW hKA;go_simp
        (with_reducible refine(cycNew_any W).mono ?_)
        rintro e w'' hcop;obtain⟨d0,d1,d2,d3,d4,m0,m1,m2,m3,m4,j0,j1,j2,j3,j4,P', Q', rfl,hcv2,h2⟩:=CopP.view hbus (zL3 _) hcop;go_simp;exact hKA _ _ _ ⟨hW.1.trans (h2.mono hW.1.size),(hW.2.1.below h2).snoc (fun _=>⟨_,_,_,_,_,_,_,_,_,_,_,_,_,_,_,_,_,rfl,hcv2⟩),(hW.2.2.1.below h2).snoc (fun h=>by simp at h),(hW.2.2.2.below h2).snoc (fun h=>by simp at h)⟩ rfl
      intro sv KA hKA;go_simp;refine hKA _ ?_;clear hKA KA;refine wq2_v _ rfl rfl ?_ ?_
      · intro W hW KA hKA
        rw[HCC.out]at hW hKA;obtain⟨b0,b1,b2,b3,b4,n0,n1,n2,n3,n4,k0,k1,k2,k3,k4,P,Q,rfl,hcv⟩:=hW.2.1 0 _ rfl (by simp);go_simp
        (with_reducible refine(cycFlow_any HDB.out ((HBD.out.below hW.1).mono hW.1.size) hcv (Nat.le_refl _) (zL3 _) (n:=m) (by have:=HNM.out;omega)).mono ?_)
        rintro e w'' hcop;rw[←HM.out]at hcop;obtain⟨d0,d1,d2,d3,d4,m0,m1,m2,m3,m4,j0,j1,j2,j3,j4,P', Q', rfl,hcv2,h2⟩:=CopP.view HDB.out HMG.out hcop;go_simp;exact hKA _ _ _ ⟨hW.1.trans (h2.mono hW.1.size),(hW.2.1.below h2).snoc (fun h=>by simp at h),(hW.2.2.1.below h2).snoc (fun _=>⟨_,_,_,_,_,_,_,_,_,_,_,_,_,_,_,_,_,rfl,hcv2⟩),(hW.2.2.2.below h2).snoc (fun h=>by simp at h)⟩ rfl
      intro sv KA hKA;go_simp;refine hKA _ ?_;clear hKA KA;refine wq2_x _ rfl rfl ?_ ?_
      · intro W hW KA hKA
        rw[HCC.out]at hW hKA;obtain⟨b0,b1,b2,b3,b4,n0,n1,n2,n3,n4,k0,k1,k2,k3,k4,P,Q,rfl,hcv⟩:=hW.2.2.1 1 _ rfl (by simp);go_simp
        (with_reducible refine(cycDone_any HDB.out ((HBD.out.below hW.1).mono hW.1.size) hcv (Nat.le_refl _) HMG.out).mono ?_)
        rw[HDM.out];rintro e w'' ⟨rfl,h2⟩;go_simp;exact hKA (.bool false) _ _ ⟨hW.1.trans (h2.mono hW.1.size),(hW.2.1.below h2).snoc (fun h=>by simp at h),(hW.2.2.1.below h2).snoc (fun h=>by simp at h),(hW.2.2.2.below h2).snoc (fun h=>by simp at h)⟩ rfl rfl
      intro _;refine wq2_x _ rfl rfl ?_ ?_
      · intro W hW KA hKA
        rw[HCC.out]at hW hKA;go_simp;exact hKA (.bool true) _ _ ⟨hW.1,hW.2.1.snoc (fun h=>by simp at h),hW.2.2.1.snoc (fun h=>by simp at h),hW.2.2.2.snoc (fun h=>by simp at h)⟩ rfl rfl
      intro _;refine wq2_x _ rfl rfl ?_ ?_
      · intro W hW KA hKA
        rw[HCC.out]at hW hKA;go_simp;exact hKA (.bool true) _ _ ⟨hW.1,hW.2.1.snoc (fun h=>by simp at h),hW.2.2.1.snoc (fun h=>by simp at h),hW.2.2.2.snoc (fun h=>by simp at h)⟩ rfl rfl
      intro _;refine wq2_v _ rfl rfl ?_ ?_
      · intro W hW KA hKA
        rw[HCC.out]at hW hKA;go_simp
        (with_reducible refine(cycNew_any W).mono ?_)
        rintro e w'' hcop;obtain⟨d0,d1,d2,d3,d4,m0,m1,m2,m3,m4,j0,j1,j2,j3,j4,P', Q', rfl,hcv2,h2⟩:=CopP.view hbus (zL3 _) hcop;go_simp;exact hKA _ _ _ ⟨hW.1.trans (h2.mono hW.1.size),(hW.2.1.below h2).snoc (fun _=>⟨_,_,_,_,_,_,_,_,_,_,_,_,_,_,_,_,_,rfl,hcv2⟩),(hW.2.2.1.below h2).snoc (fun h=>by simp at h),(hW.2.2.2.below h2).snoc (fun h=>by simp at h)⟩ rfl
      intro sv KA hKA;go_simp;refine hKA _ ?_;clear hKA KA;refine wq2_v _ rfl rfl ?_ ?_
      · intro W hW KA hKA
        rw[HCC.out]at hW hKA;obtain⟨b0,b1,b2,b3,b4,n0,n1,n2,n3,n4,k0,k1,k2,k3,k4,P,Q,rfl,hcv⟩:=hW.2.1 5 _ rfl (by simp);go_simp
        (with_reducible refine(cycFlow_any HDB.out ((HBD.out.below hW.1).mono hW.1.size) hcv (Nat.le_refl _) (zL3 _) (n:=n) (by have:=HNM.out;omega)).mono ?_)
        rintro e w'' hcop;rw[←HN.out]at hcop;obtain⟨d0,d1,d2,d3,d4,m0,m1,m2,m3,m4,j0,j1,j2,j3,j4,P', Q', rfl,hcv2,h2⟩:=CopP.view HDB.out HNG.out hcop;go_simp;exact hKA _ _ _ ⟨hW.1.trans (h2.mono hW.1.size),(hW.2.1.below h2).snoc (fun h=>by simp at h),(hW.2.2.1.below h2).snoc (fun h=>by simp at h),(hW.2.2.2.below h2).snoc (fun _=>⟨_,_,_,_,_,_,_,_,_,_,_,_,_,_,_,_,_,rfl,hcv2⟩)⟩ rfl
      intro sv KA hKA;go_simp;refine hKA _ ?_;clear hKA KA;refine wq2_x _ rfl rfl ?_ ?_
      · intro W hW KA hKA
        rw[HCC.out]at hW hKA;obtain⟨b0,b1,b2,b3,b4,n0,n1,n2,n3,n4,k0,k1,k2,k3,k4,P,Q,rfl,hcv⟩:=hW.2.2.2 6 _ rfl (by simp);go_simp
        (with_reducible refine(cycDone_any HDB.out ((HBD.out.below hW.1).mono hW.1.size) hcv (Nat.le_refl _) HNG.out).mono ?_)
        rw[HDN.out];rintro e w'' ⟨rfl,h2⟩;go_simp;exact hKA (.bool true) _ _ ⟨hW.1.trans (h2.mono hW.1.size),(hW.2.1.below h2).snoc (fun h=>by simp at h),(hW.2.2.1.below h2).snoc (fun h=>by simp at h),(hW.2.2.2.below h2).snoc (fun h=>by simp at h)⟩ rfl rfl
      intro _;refine zI5 ?_;intro wd hwd;rw[HCC.out]at hwd;have HBE:=hid hwd.1;clear hwd hC0
      go_wp2_with fail
      go_ret
      exact⟨rfl,HB1.out.trans ((HB2.out.trans ((HB5.out.trans (HBE.out.mono HB5.out.size)).mono HB2.out.size)).mono HB1.out.size)⟩
end Go.Proofs.YthnlalffjepdaaaGreat
namespace Go.Proofs.YthnlalffjepdaaaGreat
open Go.RowKit
open Go.ChangeShapes Go.WideShapes Go.ChangeAt
theorem slow_holds:Rows.FnCycSlowSaid :=
 OpenClaim.holds_of_wide 9 Tryz.f9 rfl rfl rfl rfl rfl rfl rfl ⟨rfl, rfl, rfl, rfl, rfl⟩ rfl rfl rfl rfl rfl (by kernel_rfl) Tryz.func9 (by kernel_rfl)
  (of_decide_eq_true (by kernel_rfl)) (by unfold Func.isWrapper;first|(rw[if_pos (by decide +kernel)];kernel_rfl)|(rw[if_neg (by decide +kernel)];exact⟨rfl,rfl⟩))
  (fun os started H enc _ => code_lifted started enc 9 Tryz.f9 Rows.fnCycSlowSpec rfl (by kernel_rfl) Tryz.func9
   (ChangeSpec.witness6 (enc:=enc) (C:=Tryz.checked) false ⟨#[],#[.slice none 0 0],[]⟩ 8 (by kernel_rfl) (by kernel_rfl) (by kernel_rfl) (by kernel_rfl)) Tryz.params9 rfl (fun _=>⟨rfl,rfl,rfl⟩) (slow_any drawPlay_any))
#print axioms slow_holds
end Go.Proofs.YthnlalffjepdaaaGreat
