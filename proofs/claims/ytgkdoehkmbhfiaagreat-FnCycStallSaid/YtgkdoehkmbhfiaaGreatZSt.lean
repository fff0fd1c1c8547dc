/- For every code the law FnCycStall returns true, and its argument reads behind the call as it read before. -/
import Derived.Test.YtgkdoehkmbhfiaaGreatRCf
import Derived.Test.YtgkdoehkmbhfiaaGreatRLb
set_option linter.unusedVariables false
set_option linter.unusedSimpArgs false
set_option maxHeartbeats 16000000
namespace Go.Proofs.YtgkdoehkmbhfiaaGreat
open Go.RowKit
set_option maxRecDepth 8000 in
theorem stall_any (hdraw : DrawPl) (v : Value) (bs : List Nat) (B : Nat) (w : World) (h : Bytes w B v bs) (hB : B ≤ w.heap.size) :
    Calls Tryz.prog 5 #[v] w fun e w' => e=.returned (.bool true)∧Below w.heap.size w w':=by
  obtain⟨ao,cap,rfl,hlc,hcap,hln,hni,hr⟩:=h.opened;clear hr;by_cases hbig:(1048576:Int)<(bs.length:Int)
  · go_enter Tryz.func5, Tryz.ntmps5
    go_wp2_with fail
    go_ret
    exact⟨rfl,Below.refl _ _⟩
  · go_enter Tryz.func5, Tryz.ntmps5
    go_wp2_with fail
    refine(hdraw _ bs B w h hB).mono ?_;rintro e w1 ⟨u,iv,c,ins,rfl,hbus,hbv,hins,hil,hb1⟩;obtain⟨mv,lb,lo,lc,pb,po,pc,QQ,K,rfl,⟨ma,mn,mk,rfl⟩,_,_,hpb,_,hpc,_⟩:=hbv.opened hbus;have HPB:=hid hpb;have HPC:=hid hpc;clear hpb hpc;obtain⟨ia,ic,rfl,ic1,ic2,ic3,_,_⟩:=hins.opened;have HBV:=hid hbv;have HB1:=hid hb1;clear hbv hins hb1 h hil
    go_upto_region 4 with fail
    obtain⟨w2,hw2⟩:∃W,W=w1.alloc (.cells #[.slice ma mn mk,.slice (some ⟨lb,lo,none⟩) 4 lc,.slice (some ⟨pb,po,none⟩) 3 pc] 27):=⟨_,rfl⟩
    obtain⟨gb,hgb⟩:∃g,g=w1.heap.size:=⟨_,rfl⟩
    have X0:=hid (show Bx w2 gb [.slice ma mn mk,.slice (some ⟨lb,lo,none⟩) 4 lc,.slice (some ⟨pb,po,none⟩) 3 pc] by rw[hw2,hgb];exact Bx.new w1 #[.slice ma mn mk,.slice (some ⟨lb,lo,none⟩) 4 lc,.slice (some ⟨pb,po,none⟩) 3 pc] 27 (by simp));have HB2:=hid (show Below w1.heap.size w1 w2 by rw[hw2];exact(Below.refl _ _).alloc (Nat.le_refl _) _);rw[←hw2,←hgb];clear hw2 hgb;obtain⟨who,hwh⟩:∃n,n=bs.length % 3:=⟨_,rfl⟩
    have hmod:(bs.length:Int) % 3=(who:Int):=by omega
    have hwho:who<3:=by omega
    have HMOD:=hid hmod;have HW:=hid hwho;have hwi:(who:Int)<3:=by omega
    clear hwh hmod hwho;obtain⟨ad,had⟩:∃n,n=bs.length / 3 % 4:=⟨_,rfl⟩
    have hadi:(bs.length:Int) / 3 % 4=(ad:Int):=by omega
    have HAD4:=hid (show ad<4 by omega);have HADI:=hid hadi;clear had hadi
    go_upto_region 6 with fail
    rw[HMOD.out,HADI.out];obtain⟨b0,b1,b2⟩:=X0.out.three.1;have HAL:=hid (zN2 hbus ((HBV.out.below HB2.out).mono HB2.out.size) (Nat.le_refl w2.heap.size) HW.out)
    go_upto_region 7 with(go_at_call 18;go_loud ((with_reducible refine(HAL.out).mono ?_));rintro e wa hcop;obtain⟨mx,my,lx,ly,lz,px,us,L,rfl,haf,hba⟩:=hcop.fact;have HAF:=hid haf;have HBA:=hid hba;clear hcop haf hba b0 b1 b2)
    obtain⟨w3,hw3⟩:∃W,W=wa.alloc (.cells #[.slice mx c.ms.length my,.slice (some ⟨lx,ly,none⟩) 4 lz,.slice (some ⟨px,0,none⟩) 3 3] 27):=⟨_,rfl⟩
    obtain⟨gx,hgx⟩:∃g,g=wa.heap.size:=⟨_,rfl⟩
    have hba3:Below wa.heap.size wa w3:=by rw[hw3];exact(Below.refl _ _).alloc (Nat.le_refl _) _
    have XC:=hid (show Bx w3 gx [.slice mx c.ms.length my,.slice (some ⟨lx,ly,none⟩) 4 lz,.slice (some ⟨px,0,none⟩) 3 3] by rw[hw3,hgx];exact Bx.new wa #[.slice mx c.ms.length my,.slice (some ⟨lx,ly,none⟩) 4 lz,.slice (some ⟨px,0,none⟩) 3 3] 27 (by simp));have HBD:=hid (show BusV w3 w3.heap.size (.agg #[.slice mx c.ms.length my,.slice (some ⟨lx,ly,none⟩) 4 lz,.slice (some ⟨px,0,none⟩) 3 3]) (aloneC c who) from((AloneP.bus hbus HAF.out.m HAF.out.l HAF.out.p).below hba3).mono hba3.size);have HB3:=hid (show Below w2.heap.size w2 w3 from HBA.out.trans (hba3.mono HBA.out.size));have HDB:=hid (hbus.alone who);have HLO:=hid (aloneC_lone hbus HW.out);obtain⟨cm,hcm⟩:∃x,x=c.ms.length:=⟨_,rfl⟩
    rw[←hw3,←hgx];rw[←hcm]at XC HBD;rw[←hcm];have HCM:=hid hcm;obtain⟨d,hd⟩:∃x,x=aloneC c who:=⟨_,rfl⟩
    rw[←hd]at HBD HDB HLO;have HD:=hid hd;clear hw3 hgx hba3 hcm hd HAL HAF HBA
    go_upto_region 8 with(go_at_call 22;(with_reducible refine(implInAllG_any _).mono ?_);rintro e wi ⟨g1,g2,g3,rfl,hig,hfz,hbi⟩;have HIG:=hid hig;have HFZ:=hid hfz;have HBI:=hid hbi;clear hig hfz hbi)
    obtain⟨w4,hw4⟩:∃W,W=wi.alloc (.cells #[.slice (some ⟨g1,0,none⟩) 3 3,.slice (some ⟨g2,0,none⟩) 4 4,.slice (some ⟨g3,0,none⟩) 3 3] 45):=⟨_,rfl⟩
    obtain⟨gi,hgi⟩:∃g,g=wi.heap.size:=⟨_,rfl⟩
    have hb4:Below wi.heap.size wi w4:=by rw[hw4];exact(Below.refl _ _).alloc (Nat.le_refl _) _
    have XI:=hid (show Bx w4 gi [.slice (some ⟨g1,0,none⟩) 3 3,.slice (some ⟨g2,0,none⟩) 4 4,.slice (some ⟨g3,0,none⟩) 3 3] by rw[hw4,hgi];exact Bx.new wi #[.slice (some ⟨g1,0,none⟩) 3 3,.slice (some ⟨g2,0,none⟩) 4 4,.slice (some ⟨g3,0,none⟩) 3 3] 45 (by simp));have HG4:=hid (HIG.out.below hb4);have HGI:=hid (show gi≠g2 by have:=HIG.out.b2.2;omega);have HB4:=hid (show Below w3.heap.size w3 w4 from HBI.out.trans (hb4.mono HBI.out.size));have f2:w4.frozen? ⟨g2,ad,none⟩=false:=(hb4.frozen (p:=⟨g2,ad,none⟩) HIG.out.b2.2).trans (HFZ.out ad HAD4.out);have c2:=HG4.out.c2 ad HAD4.out;obtain⟨i0,i1,i2⟩:=XI.out.three.1;have hai:(ad:Int)<4:=by have:=HAD4.out;omega
    rw[←hw4,←hgi];clear hw4 hgi hb4
    go_upto_region 9 with fail
    obtain⟨w5,hw5⟩:∃W,W=w4.setCell ⟨g2,ad,none⟩ (.bool true):=⟨_,rfl⟩
    have hz5:w5.heap.size=w4.heap.size:=by rw[hw5];simp
    have HIV5:=hid (show InV w5 w5.heap.size (vX (zB9 ad,g1,g2,g3)) (zB9 ad) by rw[hz5,hw5];exact HG4.out.stall HAD4.out);have XI5:=hid (show Bx w5 gi [.slice (some ⟨g1,0,none⟩) 3 3,.slice (some ⟨g2,0,none⟩) 4 4,.slice (some ⟨g3,0,none⟩) 3 3] from XI.out.kept (by rw[hw5];exact Below.heap_setCell w4 ⟨g2,ad,none⟩ _ gi HGI.out));have HB5:=hid (show Below w3.heap.size w3 w5 by rw[hw5];exact HB4.out.setCell (p:=⟨g2,_,none⟩) HG4.out.b2.1 _);rw[←hw5];clear hw5 hz5 c2 f2 i0 i1 i2 hai
    go_upto_region 10 with fail
    obtain⟨w6,hw6⟩:∃W,W=w5.alloc (.cells #[] 45):=⟨_,rfl⟩
    have HO0:=hid (show Owns w6 w5.heap.size 45 3 rowX (.slice (some ⟨w5.heap.size,0,none⟩) 0 0) (List.replicate 0 ((zB9 ad,g1,g2,g3):InX)) by rw[hw6];exact Owns.lit (Nat.le_refl _));have HB56:=hid (show Below w5.heap.size w5 w6 by rw[hw6];exact(Below.refl _ _).alloc (Nat.le_refl _) _);rw[←hw6];clear hw6
    go_wp2_with fail
    go_loopw [9,10] (fun s i wr=>∃k:Nat,i=.int .i64 k∧k≤300∧Owns wr w5.heap.size 45 3 rowX s (List.replicate k ((zB9 ad,g1,g2,g3):InX))∧Below w5.heap.size w5 wr) (fun _ i _=>300 - (intOf i).toNat)
    case atStart=>exact⟨0,by go_num,by omega,HO0.out,HB56.out⟩
    case round=>
      clear HO0 HB56;obtain⟨k,rfl,hk,ho,hbr⟩:=hrel;have HO:=hid ho;have HBR:=hid hbr;clear ho hbr;by_cases hlt:k<300
      · have hki : (k : Int) < 300 := by omega
        obtain⟨i0,i1,i2⟩:=(XI5.out.below HBR.out XI5.out.lt).three.1;have HRL:=hid (show(List.replicate k ((zB9 ad,g1,g2,g3):InX)).length=k by simp);have h5r:w5.heap.size≤wr.heap.size:=HBR.out.size
        go_wp2_with (at_builtin;go_must (refine zC0 elem_in rowX rowX_len ((zB9 ad,g1,g2,g3):InX) (rowX_one _) wr rfl _ _ rfl w5.heap.size _ (List.replicate k ((zB9 ad,g1,g2,g3):InX)) (by rfl) HO.out _ (by rfl) (by rfl) (by rw[HRL.out];omega) (by rw[HRL.out];omega) (by omega) ?_);intro v' w7 ho7 hz7 hk7 hv7 hb7;have HO7:=hid ho7;have HB7:=hid hb7;clear ho7 hz7 hk7 hv7 hb7)
        go_roundw
        case rel=>exact⟨k+1,by go_num,by omega,by rw[←rep_snoc];exact HO7.out,HBR.out.trans HB7.out⟩
        case measure=>simp[intOf];omega
      · obtain rfl : k = 300 := by omega
        rw[show(((300:Nat)):Int)=(300:Int) from rfl];have HI:=hid (show Ins wr wr.heap.size u9 (List.replicate 300 (zB9 ad)) from ins_same HO.out (by omega) ((HIV5.out.below HBR.out).mono HBR.out.size));have hb3r:Below w3.heap.size w3 wr:=HB5.out.trans (HBR.out.mono HB5.out.size);have HB3R:=hid hb3r;have HBDR:=hid ((HBD.out.below hb3r).mono hb3r.size);have XCR:=hid (XC.out.below hb3r XC.out.lt);obtain⟨b0,b1,b2⟩:=XCR.out.three.1;have HLAW:=hid (stall_law HDB.out (fun w n=>slvC_lt4 HDB.out w n) HLO.out HAD4.out);have HG:=hid (show Good d (runC d (List.replicate 300 (zB9 ad)) cy0) from good_run HDB.out _ (zG0 d));clear hb3r HO
        go_upto_region 14 with fail
        have hgbl:=XCR.out.lt;have HFL:=hid (fun(W:World) (hW:Below wr.heap.size wr W) {v:Value} (hv:CyX cy0 W v)=>cycRunX HDB.out HBDR.out HI.out hW hv (by simp))
        go_cut [11] from 47 to 50 (fun s9 w9=>Flowed wr (runC d (List.replicate 300 (zB9 ad)) cy0) s9 w9)
        case first=>
          go_region_with (first
            |(go_at_call 10;(with_reducible refine(cycNewX HDB.out _).mono ?_);rintro e wn ⟨zv,rfl,hv,hbn⟩;have HBN:=hid (show Below wr.heap.size wr wn from bT (by repeat(first|exact Below.refl _ _|refine bA ?_|refine bD ?_)) hbn);have HVN:=hid hv;clear hgbl;have hgbl:=Nat.lt_of_lt_of_le XCR.out.lt HBN.out.size;have HXN:=hid ((nilBoxD wr).below hbn (nilBoxD wr).lt);have b0:=(HBN.out.cell (p:=⟨gx,0,none⟩) XCR.out.lt).trans b0;have b1:=(HBN.out.cell (p:=⟨gx,1,none⟩) XCR.out.lt).trans b1;have b2:=(HBN.out.cell (p:=⟨gx,2,none⟩) XCR.out.lt).trans b2;clear hv hbn)
            |(go_at_call 10;(with_reducible refine(cycNewX HDB.out _).mono ?_);rintro e wn ⟨zv,rfl,hv,hbn⟩;have HBN:=hid (show Below wr.heap.size wr wn from bT (by repeat(first|exact Below.refl _ _|refine bA ?_|refine bD ?_)) hbn);have HVN:=hid hv;clear hgbl;have hgbl:=Nat.lt_of_lt_of_le XCR.out.lt HBN.out.size;have b0:=(HBN.out.cell (p:=⟨gx,0,none⟩) XCR.out.lt).trans b0;have b1:=(HBN.out.cell (p:=⟨gx,1,none⟩) XCR.out.lt).trans b1;have b2:=(HBN.out.cell (p:=⟨gx,2,none⟩) XCR.out.lt).trans b2;clear hv hbn)
            |(go_at_call 23;have _hh:=HXN.out;clear _hh;(with_reducible refine(HFL.out wn HBN.out HVN.out).mono ?_);rintro e wf hcop;obtain⟨V,N,C,D,y0,y1,y2,y3,y4,m0,m1,m2,m3,m4,j0,j1,j2,j3,j4,hE,rfl,hr,hbf⟩:=hcop.sl;have HE:=hid hE;have HR:=hid hr;have HBF:=hid (bT HBN.out hbf);have HXF:=hid (HXN.out.below hbf HXN.out.lt);have HGX:=hid HXN.out.lt;have HWX:=hid (Nat.le_refl wr.heap.size);obtain⟨⟨q0,q1,q2,q3,q4⟩,f0,f1,f2,f3,f4⟩:=HXF.out.five;have hxl:=HXF.out.lt;clear hcop hE hr hbf b0 b1 b2 hgbl)
            |(go_at_call 23;(with_reducible refine(HFL.out (wn.alloc _) (bA HBN.out) (HVN.out.below ((Below.refl _ _).alloc (Nat.le_refl _) _))).mono ?_);rintro e wf hcop;obtain⟨V,N,C,D,y0,y1,y2,y3,y4,m0,m1,m2,m3,m4,j0,j1,j2,j3,j4,hE,rfl,hr,hbf⟩:=hcop.sl;have HE:=hid hE;have HR:=hid hr;have HBF:=hid (bT (bA HBN.out) hbf);have HXF:=hid ((nilBox wn).below hbf (nilBox wn).lt);have HGX:=hid (nilBox wn).lt;have HWX:=hid HBN.out.size;obtain⟨⟨q0,q1,q2,q3,q4⟩,f0,f1,f2,f3,f4⟩:=HXF.out.five;have hxl:=HXF.out.lt;clear hcop hE hr hbf b0 b1 b2 hgbl)
            |(go_at_call 23;(with_reducible refine(HFL.out wn HBN.out HVN.out).mono ?_);rintro e wf hcop;obtain⟨V,N,C,D,y0,y1,y2,y3,y4,m0,m1,m2,m3,m4,j0,j1,j2,j3,j4,hE,rfl,hr,hbf⟩:=hcop.sl;have HE:=hid hE;have HR:=hid hr;have HBF:=hid (bT HBN.out hbf);clear hcop hE hr hbf b0 b1 b2 hgbl))
          all_goals
            go_wp2_with fail
            go_meet
            first
              |with_reducible exact flowed_b HE.out HR.out HBF.out HXF.out HGX.out HWX.out
              |with_reducible exact flowed_a HE.out HR.out HBF.out
              |trace_state
        case rest=>
          obtain⟨gs,rfl,hs,hgs,hb9⟩:=hcut;obtain⟨w9,hw9⟩:∃W,W=wc:=⟨_,rfl⟩
          subst hw9;have HB9:=hid (HB3R.out.trans (hb9.mono HB3R.out.size));have HBD9:=hid ((HBDR.out.below hb9).mono hb9.size);have XC9:=hid (XCR.out.below hb9 XCR.out.lt);obtain⟨st,hst⟩:∃s,s=runC d (List.replicate 300 (zB9 ad)) cy0:=⟨_,rfl⟩
          rw[←hst]at hs HG HLAW;obtain⟨v0,v1,v4,l0,l1,c0,c1,c4,pg,po2,pc2,tg,tp,tc,P,Q,hx2,hv2,_,_,_,_⟩:=hs.rows HDB.out HG.out;have HX:=hid hx2;have HT:=hid hv2.told.cells;clear hb9 hgs hst hs hx2 hv2 HFL b0 b1 b2;obtain⟨mv', lb', lo', lc', pb', po', pc', QQ', K', hE,_,hmaps,_,_,_,hprc,hrq⟩:=HBD9.out.opened HDB.out;simp only[Value.agg.injEq,Array.mk.injEq,List.cons.injEq,Value.slice.injEq,Option.some.injEq,Addr.mk.injEq,and_true,true_and]at hE;obtain⟨rfl,⟨⟨rfl,rfl⟩,rfl⟩,⟨rfl,rfl⟩,rfl⟩:=hE;have hpc:=hprc who HW.out;have hrq:=hrq who HW.out;obtain⟨qa,qc,he,_,_,_,_,hq⟩:=hrq.opened;simp only[Value.slice.injEq]at he;obtain⟨he1,_,he3⟩:=he;rw[he1,he3,Nat.zero_add]at hpc;obtain⟨pl,hpl⟩:∃x,x=(d.prog who).length:=⟨_,rfl⟩
          have HPL:=hid hpl;have h12:pl≤12:=by rw[hpl];exact HDB.out.twelve HW.out
          have HP12:=hid h12;rw[←hpl]at hpc HLAW
          have HRS := hid (show ∀ n, n < pl → ∃ qb qo, qa = some ⟨qb, qo, none⟩ ∧ ∃ da dc la lc2, (∀ W, Below w9.heap.size w9 W → Calls Tryz.prog 13 #[.slice mx cm my, .agg #[.int .i64 (d.req who n).id, .int .i64 (d.req who n).kind, .int .i64 (d.req who n).addr, .int .i64 (d.req who n).many, .bool (d.req who n).wrap, .slice da (d.req who n).data.length dc, .slice la (d.req who n).lanes.length lc2]] W fun e w' => e = .returned (.int .i64 (d.slv who n : Nat)) ∧ Below W.heap.size W w') ∧
              w9.cell? ⟨qb,qo+n * 7,none⟩=some (.int .i64 (d.req who n).id)∧w9.cell? ⟨qb,qo+n * 7+1,none⟩=some (.int .i64 (d.req who n).kind)∧w9.cell? ⟨qb,qo+n * 7+2,none⟩=some (.int .i64 (d.req who n).addr)∧w9.cell? ⟨qb,qo+n * 7+3,none⟩=some (.int .i64 (d.req who n).many)∧w9.cell? ⟨qb,qo+n * 7+4,none⟩=some (.bool (d.req who n).wrap)∧w9.cell? ⟨qb,qo+n * 7+5,none⟩=some (.slice da (d.req who n).data.length dc)∧w9.cell? ⟨qb,qo+n * 7+6,none⟩=some (.slice la (d.req who n).lanes.length lc2) from fun n hn=>by
            rw[HPL.out]at hn;obtain⟨qb,qo,e,_,hqr⟩:=hq (by omega);obtain⟨da,dc,la,lc2,hrv,r0,r1,r2,r3,r4,r5,r6⟩:=hqr n hn;exact⟨qb,qo,e,da,dc,la,lc2,fun W hW=>reqSlave_nat HDB.out HW.out hn (implReqSlave_any _ _ d.ms ((d.prog who).getD n default) _ W (hmaps.below hW) (hrv.below hW) hW.size),r0,r1,r2,r3,r4,r5,r6⟩)
          have HPC:=hid hpc;clear hpl h12 hpc hq hrq hprc hmaps he1 he3;obtain⟨tl,htl⟩:∃x,x=st.told.length:=⟨_,rfl⟩
          rw[←htl]at HT HX HLAW;have HTL:=hid htl;have htl36:tl≤36:=by rw[htl];exact HG.out.told36 HDB.out
          have HT36:=hid htl36
          have HTN := hid (show ∀ t, t < tl → (st.told.getD t default).who = who ∧ (st.told.getD t default).n < pl ∧ d.slv who (st.told.getD t default).n ≠ ad from fun t ht => by
            have hm:st.told.getD t default∈st.told:=zB8 (by rw[←HTL.out];exact ht);obtain⟨h1,h2⟩:=HLO.out.told HG.out hm;have h3:=(HG.out.p who HW.out).nx;have h4:=HLAW.out.1 _ hm;rw[h1]at h4;rw[←HPL.out]at h3;exact⟨h1,by omega,h4⟩)
          clear htl htl36;obtain⟨t0,t1,t2,t3,t4⟩:=HX.out.five.1
          go_upto_region 18 with fail
          clear t0 t1 t2 t3 t4
          go_wp2_with fail
          go_loopw [12,13] (fun a i wr=>∃k:Nat,i=.int .i64 k∧k≤pl∧a=.bool ((List.range k).any fun j=>decide (d.slv who j=ad))∧Below w9.heap.size w9 wr) (fun _ i _=>pl - (intOf i).toNat)
          case atStart=>exact⟨0,by go_num,Nat.zero_le _,rfl,Below.refl _ _⟩
          case round=>
            obtain⟨k,rfl,hk,rfl,hbr⟩:=hrel;obtain⟨w8,hw8⟩:∃W,W=wr:=⟨_,rfl⟩
            subst hw8;have HBR:=hid hbr;have kc:∀{p:Addr} {v:Value},w9.cell? p=some v→w8.cell? p=some v:=fun hc=>(hbr.cell (World.block_lt_of_cell? w9 _ hc)).trans hc
            obtain⟨b0,b1,b2⟩:=XC9.out.three.1;have p0:=HPC.out;replace b0:=kc b0;replace b1:=kc b1;replace b2:=kc b2;replace p0:=kc p0;have h12:=HP12.out;have hwi:(who:Int)<3:=by have:=HW.out;omega
            have hai:(ad:Int)<4:=by have:=HAD4.out;omega
            obtain⟨av,hav⟩:∃x,x=(List.range k).any fun j=>decide (d.slv who j=ad):=⟨_,rfl⟩
            have HAV:=hid (show((List.range (k+1)).any fun j=>decide (d.slv who j=ad))=(av || decide (d.slv who k=ad)) by rw[List.range_succ,List.any_append,hav];simp);have HAE:=hid hav;rw[←hav];clear kc hbr hav;by_cases hlt:k<pl
            · have hki : (k : Int) < (pl : Int) := by omega
              go_upto_region 21 with fail
              obtain rfl|rfl:av=true∨av=false:=by cases av <;> simp
              · obtain ⟨CC, hCC⟩ : ∃ CC : List Value → World → Prop, CC = fun us W => Below w8.heap.size w8 W := ⟨_, rfl⟩
                have hC0:CC [] w8.drew:=by rw[hCC];exact(Below.refl _ _).drew
                have hTC:∀us W,CC us W→Below w8.heap.size w8 W:=by rw[hCC];exact fun us W h=>h
                have HTC:=hid hTC;have HCL:=hid (show ∀us W W', CC us W→Below W.heap.size W W' → CC us W' by rw[hCC];exact fun us W W' h h2=>h.trans (h2.mono h.size));have hne:Nonempty (Ph CC):=⟨⟨([],w8.drew),hC0⟩⟩
                have pc:∀{p:Addr} {v:Value},w8.cell? p=some v→∀x:Ph CC,x.1.2.cell? p=some v:=fun hc x=>((hTC _ _ x.2).cell (World.block_lt_of_cell? w8 _ hc)).trans hc
                replace b0:=pc b0;replace b1:=pc b1;replace b2:=pc b2;replace p0:=pc p0;clear hCC hTC pc;refine zA8 CC [] [] (by kernel_rfl) (by kernel_rfl) hC0 ?_
                try simp only[List.append_eq,List.cons_append,List.nil_append]
                repeat (
                  (with_reducible refine wq1_q ⟨rfl,rfl⟩ (fun K hK=>?_))
                  go_simp
                  first
                    |((with_reducible refine hK _ ?_);clear hK K)
                    |((with_reducible refine zA6 (by simp[undef]) (hK _ ?_));clear hK K)
                    | (apply Exists.intro
                       (with_reducible refine⟨fun _=>?_,hK _ ?_⟩)
                       (fail)
                       clear hK K))
                refine zE0 ?_;refine zD9 ?_;intro wz hwz;have HBZ:=hid (HTC.out _ _ hwz);clear hwz hC0 HTC HCL hne b0 b1 b2 p0
                go_wp2_with fail
                go_roundw
                case rel=>exact⟨k+1,by go_num,by omega,by rw[HAV.out];rfl,HBR.out.trans (HBZ.out.mono HBR.out.size)⟩
                case measure=>simp[intOf];omega
              · obtain ⟨qb, qo, rfl, da, dc, la, lc2, hsv, r0, r1, r2, r3, r4, r5, r6⟩ := HRS.out k hlt
                have kc:∀{p:Addr} {v:Value},w9.cell? p=some v→w8.cell? p=some v:=fun hc=>(HBR.out.cell (World.block_lt_of_cell? w9 _ hc)).trans hc
                replace r0:=kc r0;replace r1:=kc r1;replace r2:=kc r2;replace r3:=kc r3;replace r4:=kc r4;replace r5:=kc r5;replace r6:=kc r6;have HSV:=hid (fun(W:World) (hW:Below w8.heap.size w8 W)=>hsv W (HBR.out.trans (hW.mono HBR.out.size)));obtain⟨rqv,hrqe⟩:∃x,x=d.req who k:=⟨_,rfl⟩
                rw[←hrqe]at HSV r0 r1 r2 r3 r4 r5 r6;obtain⟨sv,hsve⟩:∃x,x=d.slv who k:=⟨_,rfl⟩
                rw[←hsve]at HSV;have HSE:=hid hsve;clear kc hsv hrqe hsve;obtain⟨bv,hbv⟩:∃x,x=decide (sv=ad):=⟨_,rfl⟩
                have heq:((sv:Int)==(ad:Int))=bv:=by rw[hbv,Bool.eq_iff_iff];simp;omega
                rw[←HSE.out,←hbv]at HAV;clear hbv;obtain⟨CC,hCC⟩:∃CC:List Value→World→Prop,CC=fun us W=>Below w8.heap.size w8 W:=⟨_,rfl⟩
                have hC0:CC [] w8.drew:=by rw[hCC];exact(Below.refl _ _).drew
                have hTC:∀us W,CC us W→Below w8.heap.size w8 W:=by rw[hCC];exact fun us W h=>h
                have HTC:=hid hTC;have HCL:=hid (show ∀us W W', CC us W→Below W.heap.size W W' → CC us W' by rw[hCC];exact fun us W W' h h2=>h.trans (h2.mono h.size));have hne:Nonempty (Ph CC):=⟨⟨([],w8.drew),hC0⟩⟩
                have pc:∀{p:Addr} {v:Value},w8.cell? p=some v→∀x:Ph CC,x.1.2.cell? p=some v:=fun hc x=>((hTC _ _ x.2).cell (World.block_lt_of_cell? w8 _ hc)).trans hc
                replace b0:=pc b0;replace b1:=pc b1;replace b2:=pc b2;replace p0:=pc p0;replace r0:=pc r0;replace r1:=pc r1;replace r2:=pc r2;replace r3:=pc r3;replace r4:=pc r4;replace r5:=pc r5;replace r6:=pc r6;clear hCC hTC pc;refine zA8 CC [] [] (by kernel_rfl) (by kernel_rfl) hC0 ?_
                try simp only[List.append_eq,List.cons_append,List.nil_append]
                repeat (
                  (with_reducible refine wq1_q ⟨rfl,rfl⟩ (fun K hK=>?_))
                  go_simp
                  first
                    |((with_reducible refine hK _ ?_);clear hK K)
                    |((with_reducible refine zA6 (by simp[undef]) (hK _ ?_));clear hK K)
                    | (apply Exists.intro
                       (with_reducible refine⟨fun _=>?_,hK _ ?_⟩)
                       (go_at_call 13;rename_i x;exact(HSV.out _ (HTC.out _ _ x.2)).mono fun _ _ ⟨he,hb⟩=>⟨he,HCL.out _ _ _ x.2 hb⟩)
                       clear hK K))
                refine zE0 ?_;refine zD9 ?_;intro wz hwz;have HBZ:=hid (HTC.out _ _ hwz);clear hwz hC0 HTC HCL hne b0 b1 b2 p0 r0 r1 r2 r3 r4 r5 r6
                go_wp2_with fail
                go_roundw
                case rel=>exact⟨k+1,by go_num,by omega,by rw[HAV.out];rfl,HBR.out.trans (HBZ.out.mono HBR.out.size)⟩
                case measure=>simp[intOf];omega
            · obtain rfl : k = pl := by omega
              have hkk:decide ((k:Int)<(k:Int))=false:=by simp
              go_wp2_with fail
              go_loopw [14] (fun i wr=>∃m:Nat,i=.int .i64 m∧m≤tl∧Below w9.heap.size w9 wr) (fun i _=>tl - (intOf i).toNat)
              case atStart=>exact⟨0,by go_num,Nat.zero_le _,HBR.out⟩
              case round=>
                clear HBR b0 b1 b2 p0;obtain⟨m,rfl,hm,hbr⟩:=hrel;have HBR:=hid hbr;obtain⟨w7,hw7⟩:∃W,W=wr:=⟨_,rfl⟩
                subst hw7;have kc:∀{p:Addr} {v:Value},w9.cell? p=some v→w7.cell? p=some v:=fun hc=>(hbr.cell (World.block_lt_of_cell? w9 _ hc)).trans hc
                obtain⟨b0,b1,b2⟩:=XC9.out.three.1;have p0:=HPC.out;obtain⟨t0,t1,t2,t3,t4⟩:=HX.out.five.1;obtain⟨ja,jc,hje,_,_,_,hjc⟩:=HT.out;simp only[Value.slice.injEq]at hje;obtain⟨rfl,_,rfl⟩:=hje;replace b0:=kc b0;replace b1:=kc b1;replace b2:=kc b2;replace p0:=kc p0;replace t4:=kc t4;have htl:=HT36.out;clear hbr hkk;by_cases hlt2:m<tl
                · have hmi : (m : Int) < (tl : Int) := by omega
                  obtain⟨jb,jo,rfl,_,hjr⟩:=hjc (by omega);obtain⟨_,_,_,_,j1,_⟩:=hjr m hlt2;obtain⟨_,hn1,hn2⟩:=HTN.out m hlt2;replace j1:=kc j1;obtain⟨jn,hjn⟩:∃x,x=(st.told.getD m default).n:=⟨_,rfl⟩
                  rw[←hjn]at j1 hn1 hn2;obtain⟨qb,qo,rfl,da,dc,la,lc2,hsv,r0,r1,r2,r3,r4,r5,r6⟩:=HRS.out jn hn1;have kc2:∀{p:Addr} {v:Value},w9.cell? p=some v→w7.cell? p=some v:=fun hc=>(HBR.out.cell (World.block_lt_of_cell? w9 _ hc)).trans hc
                  replace r0:=kc2 r0;replace r1:=kc2 r1;replace r2:=kc2 r2;replace r3:=kc2 r3;replace r4:=kc2 r4;replace r5:=kc2 r5;replace r6:=kc2 r6;have HSV:=hid (fun(W:World) (hW:Below w7.heap.size w7 W)=>hsv W (HBR.out.trans (hW.mono HBR.out.size)));obtain⟨rqv,hrqe⟩:∃x,x=d.req who jn:=⟨_,rfl⟩
                  rw[←hrqe]at HSV r0 r1 r2 r3 r4 r5 r6;obtain⟨sv,hsve⟩:∃x,x=d.slv who jn:=⟨_,rfl⟩
                  rw[←hsve]at HSV;have HSE:=hid hsve;clear kc2 hsv hrqe hsve;have hji:(jn:Int)<(k:Int):=by omega
                  have heq:((sv:Int)==(ad:Int))=false:=by rw[←HSE.out]at hn2;simp;omega
                  clear kc hjr hjc hjn hn1 hn2
                  go_upto_region 25 with fail
                  obtain⟨CC,hCC⟩:∃CC:List Value→World→Prop,CC=fun us W=>Below w7.heap.size w7 W:=⟨_,rfl⟩
                  have hC0:CC [] w7.drew:=by rw[hCC];exact(Below.refl _ _).drew
                  have hTC:∀us W,CC us W→Below w7.heap.size w7 W:=by rw[hCC];exact fun us W h=>h
                  have HTC:=hid hTC;have HCL:=hid (show ∀us W W', CC us W→Below W.heap.size W W' → CC us W' by rw[hCC];exact fun us W W' h h2=>h.trans (h2.mono h.size));have hne:Nonempty (Ph CC):=⟨⟨([],w7.drew),hC0⟩⟩
                  have pc:∀{p:Addr} {v:Value},w7.cell? p=some v→∀x:Ph CC,x.1.2.cell? p=some v:=fun hc x=>((hTC _ _ x.2).cell (World.block_lt_of_cell? w7 _ hc)).trans hc
                  replace b0:=pc b0;replace b1:=pc b1;replace b2:=pc b2;replace p0:=pc p0;replace t4:=pc t4;replace j1:=pc j1;replace r0:=pc r0;replace r1:=pc r1;replace r2:=pc r2;replace r3:=pc r3;replace r4:=pc r4;replace r5:=pc r5;replace r6:=pc r6;clear hCC hTC pc;refine zA8 CC [] [] (by kernel_rfl) (by kernel_rfl) hC0 ?_
                  try simp only[List.append_eq,List.cons_append,List.nil_append]
                  repeat (
                    (with_reducible refine wq1_q ⟨rfl,rfl⟩ (fun K hK=>?_))
                    go_simp
                    first
                      |((with_reducible refine hK _ ?_);clear hK K)
                      |((with_reducible refine zA6 (by simp[undef]) (hK _ ?_));clear hK K)
                      | (apply Exists.intro
                         (with_reducible refine⟨fun _=>?_,hK _ ?_⟩)
                         (go_at_call 13;rename_i x;exact(HSV.out _ (HTC.out _ _ x.2)).mono fun _ _ ⟨he,hb⟩=>⟨he,HCL.out _ _ _ x.2 hb⟩)
                         clear hK K))
                  refine zE0 ?_;refine zD9 ?_;intro wz hwz;have HBZ:=hid (HTC.out _ _ hwz);clear hwz hC0 HTC HCL hne b0 b1 b2 p0 t4 j1 r0 r1 r2 r3 r4 r5 r6
                  go_wp2_with fail
                  go_roundw
                  case rel=>exact⟨m+1,by go_num,by omega,HBR.out.trans (HBZ.out.mono HBR.out.size)⟩
                  case measure=>simp[intOf];omega
                · obtain rfl : m = tl := by omega
                  have hmm:decide ((m:Int)<(m:Int))=false:=by simp
                  clear kc hjc
                  go_upto_region 27 with fail
                  have HEND:=hid (show Below w.heap.size w w7 from HB1.out.trans (((HB2.out.trans (HB3.out.mono HB2.out.size)).trans ((HB9.out.trans (HBR.out.mono HB9.out.size)).mono (Nat.le_trans HB2.out.size HB3.out.size))).mono HB1.out.size));obtain rfl|rfl:av=true∨av=false:=by cases av <;> simp
                  · obtain ⟨CC, hCC⟩ : ∃ CC : List Value → World → Prop, CC = fun us W => Below w7.heap.size w7 W := ⟨_, rfl⟩
                    have hC0:CC [] w7.drew:=by rw[hCC];exact(Below.refl _ _).drew
                    have hTC:∀us W,CC us W→Below w7.heap.size w7 W:=by rw[hCC];exact fun us W h=>h
                    have HTC:=hid hTC;have HCL:=hid (show ∀us W W', CC us W→Below W.heap.size W W' → CC us W' by rw[hCC];exact fun us W W' h h2=>h.trans (h2.mono h.size));have hne:Nonempty (Ph CC):=⟨⟨([],w7.drew),hC0⟩⟩
                    have pc:∀{p:Addr} {v:Value},w7.cell? p=some v→∀x:Ph CC,x.1.2.cell? p=some v:=fun hc x=>((hTC _ _ x.2).cell (World.block_lt_of_cell? w7 _ hc)).trans hc
                    replace b0:=pc b0;replace b1:=pc b1;replace b2:=pc b2;replace p0:=pc p0;replace t4:=pc t4;clear hCC hTC pc;refine zA8 CC [] [] (by kernel_rfl) (by kernel_rfl) hC0 ?_
                    try simp only[List.append_eq,List.cons_append,List.nil_append]
                    repeat (
                      (with_reducible refine wq1_q ⟨rfl,rfl⟩ (fun K hK=>?_))
                      go_simp
                      first
                        |((with_reducible refine hK _ ?_);clear hK K)
                        |((with_reducible refine zA6 (by simp[undef]) (hK _ ?_));clear hK K)
                        | (apply Exists.intro
                           (with_reducible refine⟨fun _=>?_,hK _ ?_⟩)
                           (fail)
                           clear hK K))
                    refine zE0 ?_;refine zD9 ?_;intro wz hwz;have HBZ:=hid (HTC.out _ _ hwz);clear hwz hC0 HTC HCL hne b0 b1 b2 p0 t4
                    go_wp2_with fail
                    go_ret
                    exact⟨rfl,HEND.out.trans (HBZ.out.mono HEND.out.size)⟩
                  · have hmk:m=k:=HLAW.out.2 fun j hj e=>by
                      have h:=HAE.out;rw[eq_comm,List.any_eq_false]at h;exact absurd e (by simpa using h j (List.mem_range.2 hj))
                    have heq:((m:Int)==(k:Int))=true:=by simp;omega
                    clear hmk;obtain⟨CC,hCC⟩:∃CC:List Value→World→Prop,CC=fun us W=>Below w7.heap.size w7 W:=⟨_,rfl⟩
                    have hC0:CC [] w7.drew:=by rw[hCC];exact(Below.refl _ _).drew
                    have hTC:∀us W,CC us W→Below w7.heap.size w7 W:=by rw[hCC];exact fun us W h=>h
                    have HTC:=hid hTC;have HCL:=hid (show ∀us W W', CC us W→Below W.heap.size W W' → CC us W' by rw[hCC];exact fun us W W' h h2=>h.trans (h2.mono h.size));have hne:Nonempty (Ph CC):=⟨⟨([],w7.drew),hC0⟩⟩
                    have pc:∀{p:Addr} {v:Value},w7.cell? p=some v→∀x:Ph CC,x.1.2.cell? p=some v:=fun hc x=>((hTC _ _ x.2).cell (World.block_lt_of_cell? w7 _ hc)).trans hc
                    replace b0:=pc b0;replace b1:=pc b1;replace b2:=pc b2;replace p0:=pc p0;replace t4:=pc t4;clear hCC hTC pc;refine zA8 CC [] [] (by kernel_rfl) (by kernel_rfl) hC0 ?_
                    try simp only[List.append_eq,List.cons_append,List.nil_append]
                    repeat (
                      (with_reducible refine wq1_q ⟨rfl,rfl⟩ (fun K hK=>?_))
                      go_simp
                      first
                        |((with_reducible refine hK _ ?_);clear hK K)
                        |((with_reducible refine zA6 (by simp[undef]) (hK _ ?_));clear hK K)
                        | (apply Exists.intro
                           (with_reducible refine⟨fun _=>?_,hK _ ?_⟩)
                           (fail)
                           clear hK K))
                    refine zE0 ?_;refine zD9 ?_;intro wz hwz;have HBZ:=hid (HTC.out _ _ hwz);clear hwz hC0 HTC HCL hne b0 b1 b2 p0 t4
                    go_wp2_with fail
                    go_ret
                    exact⟨rfl,HEND.out.trans (HBZ.out.mono HEND.out.size)⟩
end Go.Proofs.YtgkdoehkmbhfiaaGreat
namespace Go.Proofs.YtgkdoehkmbhfiaaGreat
open Go.RowKit
open Go.ChangeShapes Go.WideShapes Go.ChangeAt
theorem stall_holds:Rows.FnCycStallSaid :=
 OpenClaim.holds_of_wide 5 Tryz.f5 rfl rfl rfl rfl rfl rfl rfl ⟨rfl, rfl, rfl, rfl, rfl⟩ rfl rfl rfl rfl rfl (by kernel_rfl) Tryz.func5 (by kernel_rfl)
  (of_decide_eq_true (by kernel_rfl)) (by unfold Func.isWrapper;first|(rw[if_pos (by decide +kernel)];kernel_rfl)|(rw[if_neg (by decide +kernel)];exact⟨rfl,rfl⟩))
  (fun os started H enc _ => code_lifted started enc 5 Tryz.f5 Rows.fnCycStallSpec rfl (by kernel_rfl) Tryz.func5
   (ChangeSpec.witness6 (enc:=enc) (C:=Tryz.checked) false ⟨#[],#[.slice none 0 0],[]⟩ 8 (by kernel_rfl) (by kernel_rfl) (by kernel_rfl) (by kernel_rfl)) Tryz.params5 rfl (fun _=>⟨rfl,rfl,rfl⟩) (stall_any drawPlay_any))
#print axioms stall_holds
end Go.Proofs.YtgkdoehkmbhfiaaGreat
