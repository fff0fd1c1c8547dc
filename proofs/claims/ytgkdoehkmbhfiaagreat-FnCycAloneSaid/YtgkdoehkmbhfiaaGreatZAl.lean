/- For every code the law FnCycAlone returns true, and its argument reads behind the call as it read before. -/
import Derived.Test.YtgkdoehkmbhfiaaGreatQSi
import Derived.Test.YtgkdoehkmbhfiaaGreatQLb
set_option linter.unusedVariables false
set_option linter.unusedSimpArgs false
set_option maxHeartbeats 16000000
namespace Go.Proofs.YtgkdoehkmbhfiaaGreat
open Go.RowKit
set_option maxRecDepth 8000 in
theorem alone_any (hdraw : DrawPl) (v : Value) (bs : List Nat) (B : Nat) (w : World) (h : Bytes w B v bs) (hB : B ≤ w.heap.size) :
    Calls Tryz.prog 8 #[v] w fun e w' => e=.returned (.bool true)∧Below w.heap.size w w':=by
  obtain⟨ao,cap,rfl,hlc,hcap,hln,hni,hr⟩:=h.opened;clear hr;by_cases hbig:(1048576:Int)<(bs.length:Int)
  · go_enter Tryz.func8, Tryz.ntmps8
    go_wp2_with fail
    go_ret
    exact⟨rfl,Below.refl _ _⟩
  · go_enter Tryz.func8, Tryz.ntmps8
    go_wp2_with fail
    refine(hdraw _ bs B w h hB).mono ?_;rintro e w1 ⟨u,iv,c,ins,rfl,hbus,hbv,hins,hil,hb1⟩;obtain⟨mv,lb,lo,lc,pb,po,pc,QQ,K,rfl,⟨ma,mn,mk,rfl⟩,_,_,hpb,_,hpc,_⟩:=hbv.opened hbus;have HPB:=hid hpb;have HPC:=hid hpc;clear hpb hpc;obtain⟨ia,ic,rfl,ic1,ic2,ic3,_,_⟩:=hins.opened;have HBV:=hid hbv;have HINS:=hid hins;have HIL:=hid hil;have HB1:=hid hb1;clear hbv hins hb1 h hil
    go_upto_region 4 with fail
    obtain⟨w2,hw2⟩:∃W,W=w1.alloc (.cells #[.slice ma mn mk,.slice (some ⟨lb,lo,none⟩) 4 lc,.slice (some ⟨pb,po,none⟩) 3 pc] 27):=⟨_,rfl⟩
    obtain⟨gb,hgb⟩:∃g,g=w1.heap.size:=⟨_,rfl⟩
    have X0:=hid (show Bx w2 gb [.slice ma mn mk,.slice (some ⟨lb,lo,none⟩) 4 lc,.slice (some ⟨pb,po,none⟩) 3 pc] by rw[hw2,hgb];exact Bx.new w1 #[.slice ma mn mk,.slice (some ⟨lb,lo,none⟩) 4 lc,.slice (some ⟨pb,po,none⟩) 3 pc] 27 (by simp));have HB2:=hid (show Below w1.heap.size w1 w2 by rw[hw2];exact(Below.refl _ _).alloc (Nat.le_refl _) _);rw[←hw2,←hgb];clear hw2 hgb;obtain⟨who,hwh⟩:∃n,n=bs.length % 3:=⟨_,rfl⟩
    have hmod:(bs.length:Int) % 3=(who:Int):=by omega
    have hwho:who<3:=by omega
    have HMOD:=hid hmod;have HW:=hid hwho;have hwi:(who:Int)<3:=by omega
    clear hwh hmod hwho
    go_upto_region 5 with fail
    rw[HMOD.out];obtain⟨b0,b1,b2⟩:=X0.out.three.1;have HAL:=hid (busAlone_good hbus ((HBV.out.below HB2.out).mono HB2.out.size) (Nat.le_refl w2.heap.size) HW.out)
    go_upto_region 6 with(go_at_call 18;go_loud ((with_reducible refine(HAL.out).mono ?_));rintro e wa hcop;obtain⟨mx,my,lx,ly,lz,px,us,L,rfl,haf,hba⟩:=hcop.fact;have HAF:=hid haf;have HBA:=hid hba;clear hcop haf hba b0 b1 b2)
    obtain⟨w3,hw3⟩:∃W,W=wa.alloc (.cells #[.slice mx c.ms.length my,.slice (some ⟨lx,ly,none⟩) 4 lz,.slice (some ⟨px,0,none⟩) 3 3] 27):=⟨_,rfl⟩
    obtain⟨gx,hgx⟩:∃g,g=wa.heap.size:=⟨_,rfl⟩
    have hba3:Below wa.heap.size wa w3:=by rw[hw3];exact(Below.refl _ _).alloc (Nat.le_refl _) _
    have XC:=hid (show Bx w3 gx [.slice mx c.ms.length my,.slice (some ⟨lx,ly,none⟩) 4 lz,.slice (some ⟨px,0,none⟩) 3 3] by rw[hw3,hgx];exact Bx.new wa #[.slice mx c.ms.length my,.slice (some ⟨lx,ly,none⟩) 4 lz,.slice (some ⟨px,0,none⟩) 3 3] 27 (by simp));have HBD:=hid (show BusV w3 w3.heap.size (.agg #[.slice mx c.ms.length my,.slice (some ⟨lx,ly,none⟩) 4 lz,.slice (some ⟨px,0,none⟩) 3 3]) (aloneC c who) from((AloneP.bus hbus HAF.out.m HAF.out.l HAF.out.p).below hba3).mono hba3.size);have HB3:=hid (show Below w2.heap.size w2 w3 from HBA.out.trans (hba3.mono HBA.out.size));have HDB:=hid (hbus.alone who);have HLO:=hid (aloneC_lone hbus HW.out);obtain⟨cm,hcm⟩:∃x,x=c.ms.length:=⟨_,rfl⟩
    rw[←hw3,←hgx];rw[←hcm]at XC HBD;rw[←hcm];have HCM:=hid hcm;obtain⟨d,hd⟩:∃x,x=aloneC c who:=⟨_,rfl⟩
    rw[←hd]at HBD HDB HLO;have HD:=hid hd;clear hw3 hgx hba3 hcm hd HAL HAF HBA;have HB13:=hid (HB2.out.trans (HB3.out.mono HB2.out.size));obtain⟨il,hil⟩:∃x,x=ins.length:=⟨_,rfl⟩
    have HCP:=hid (fun(W:World) (hW:Below w3.heap.size w3 W)=>crPlayX HDB.out HBD.out ((HINS.out.below HB13.out).mono HB13.out.size) (by have:=HIL.out;omega) hW);rw[←hil]at HCP ⊢;have HG0:=hid (show Good d (runC d ins cy0) from zM8 HDB.out _ (zJ4 d));have HLAW:=hid (alone_flow HDB.out HLO.out ins);obtain⟨st0,hst0⟩:∃s,s=runC d ins cy0:=⟨_,rfl⟩
    rw[←hst0]at HCP HG0 HLAW;have HG:=hid (show Good d (flow d 300 st0) from zM8 HDB.out _ HG0.out);obtain⟨b0,b1,b2⟩:=XC.out.three.1;clear hst0 hil ic1 ic2 ic3;have hgbl:=XC.out.lt;have HFL:=hid (fun(W:World) (hW:Below w3.heap.size w3 W) {v:Value} (hv:CyX st0 W v)=>cycFlow300 HDB.out HBD.out hW hv HG0.out)
    go_cut [7] from 25 to 29 (fun s9 w9=>Flowed w3 (flow d 300 st0) s9 w9)
    case first=>
      go_region_with (first
        |(go_at_call 39;(with_reducible refine(HCP.out _ (by repeat(first|exact Below.refl _ _|refine bA ?_|refine bD ?_))).mono ?_);rintro e wn ⟨zv,rfl,hv,hbn⟩;have HBN:=hid (show Below w3.heap.size w3 wn from bT (by repeat(first|exact Below.refl _ _|refine bA ?_|refine bD ?_)) hbn);have HVN:=hid hv;clear hgbl;have hgbl:=Nat.lt_of_lt_of_le XC.out.lt HBN.out.size;have HXN:=hid ((nilBoxD w3).below hbn (nilBoxD w3).lt);have b0:=(HBN.out.cell (p:=⟨gx,0,none⟩) XC.out.lt).trans b0;have b1:=(HBN.out.cell (p:=⟨gx,1,none⟩) XC.out.lt).trans b1;have b2:=(HBN.out.cell (p:=⟨gx,2,none⟩) XC.out.lt).trans b2;clear hv hbn)
        |(go_at_call 39;(with_reducible refine(HCP.out _ (by repeat(first|exact Below.refl _ _|refine bA ?_|refine bD ?_))).mono ?_);rintro e wn ⟨zv,rfl,hv,hbn⟩;have HBN:=hid (show Below w3.heap.size w3 wn from bT (by repeat(first|exact Below.refl _ _|refine bA ?_|refine bD ?_)) hbn);have HVN:=hid hv;clear hgbl;have hgbl:=Nat.lt_of_lt_of_le XC.out.lt HBN.out.size;have b0:=(HBN.out.cell (p:=⟨gx,0,none⟩) XC.out.lt).trans b0;have b1:=(HBN.out.cell (p:=⟨gx,1,none⟩) XC.out.lt).trans b1;have b2:=(HBN.out.cell (p:=⟨gx,2,none⟩) XC.out.lt).trans b2;clear hv hbn)
        |(go_at_call 19;have _hh:=HXN.out;clear _hh;(with_reducible refine(HFL.out wn HBN.out HVN.out).mono ?_);rintro e wf hcop;obtain⟨V,N,C,D,y0,y1,y2,y3,y4,m0,m1,m2,m3,m4,j0,j1,j2,j3,j4,hE,rfl,hr,hbf⟩:=hcop.sl;have HE:=hid hE;have HR:=hid hr;have HBF:=hid (bT HBN.out hbf);have HXF:=hid (HXN.out.below hbf HXN.out.lt);have HGX:=hid HXN.out.lt;have HWX:=hid (Nat.le_refl w3.heap.size);obtain⟨⟨q0,q1,q2,q3,q4⟩,f0,f1,f2,f3,f4⟩:=HXF.out.five;have hxl:=HXF.out.lt;clear hcop hE hr hbf b0 b1 b2 hgbl)
        |(go_at_call 19;(with_reducible refine(HFL.out (wn.alloc _) (bA HBN.out) (HVN.out.below ((Below.refl _ _).alloc (Nat.le_refl _) _))).mono ?_);rintro e wf hcop;obtain⟨V,N,C,D,y0,y1,y2,y3,y4,m0,m1,m2,m3,m4,j0,j1,j2,j3,j4,hE,rfl,hr,hbf⟩:=hcop.sl;have HE:=hid hE;have HR:=hid hr;have HBF:=hid (bT (bA HBN.out) hbf);have HXF:=hid ((nilBox wn).below hbf (nilBox wn).lt);have HGX:=hid (nilBox wn).lt;have HWX:=hid HBN.out.size;obtain⟨⟨q0,q1,q2,q3,q4⟩,f0,f1,f2,f3,f4⟩:=HXF.out.five;have hxl:=HXF.out.lt;clear hcop hE hr hbf b0 b1 b2 hgbl)
        |(go_at_call 19;(with_reducible refine(HFL.out wn HBN.out HVN.out).mono ?_);rintro e wf hcop;obtain⟨V,N,C,D,y0,y1,y2,y3,y4,m0,m1,m2,m3,m4,j0,j1,j2,j3,j4,hE,rfl,hr,hbf⟩:=hcop.sl;have HE:=hid hE;have HR:=hid hr;have HBF:=hid (bT HBN.out hbf);clear hcop hE hr hbf b0 b1 b2 hgbl))
      all_goals
        go_wp2_with fail
        go_meet
        first
          |with_reducible exact flowed_b HE.out HR.out HBF.out HXF.out HGX.out HWX.out
          |with_reducible exact flowed_a HE.out HR.out HBF.out
          |trace_state
    case rest=>
      obtain⟨gs,rfl,hs,hgs,hb9⟩:=hcut;obtain⟨w9,hw9⟩:∃W,W=wc:=⟨_,rfl⟩
      subst hw9;have HB9:=hid (HB3.out.trans (hb9.mono HB3.out.size));have HBD9:=hid ((HBD.out.below hb9).mono hb9.size);have XC9:=hid (XC.out.below hb9 XC.out.lt);obtain⟨st,hst⟩:∃s,s=flow d 300 st0:=⟨_,rfl⟩
      rw[←hst]at hs HG HLAW;obtain⟨v0,v1,v4,l0,l1,c0,c1,c4,pg,po2,pc2,tg,tp,tc,P,Q,hx2,hv2,_,_,_,_⟩:=hs.rows HDB.out HG.out;have HX:=hid hx2;have HV:=hid hv2;have HT:=hid hv2.told.cells
      have HCD := hid (show ∀ W, Below w9.heap.size w9 W → Calls Tryz.prog 40 #[.agg #[.slice mx cm my, .slice (some ⟨lx, ly, none⟩) 4 lz, .slice (some ⟨px, 0, none⟩) 3 3], .agg #[.slice v0 l0 c0, .slice v1 l1 c1, .slice (some ⟨pg, po2, none⟩) 3 pc2, .slice (some ⟨tg, tp, none⟩) 4 tc, .slice v4 st.told.length c4]] W fun e w' => e = .returned (.bool true) ∧ Below W.heap.size W w' from fun W hW => by
        have h:=cycDone_any HDB.out (HBD9.out.below hW) (hv2.below hW) hW.size HG.out
        rwa [show decide (st.told.length=plen d 3)=true from by rw[plen_lone HLO.out];simpa using HLAW.out.2.2.1]at h)
      clear hb9 hgs hst hs hx2 hv2 HFL b0 b1 b2 HCP;obtain⟨pl,hpl⟩:∃x,x=(d.prog who).length:=⟨_,rfl⟩
      have HPL:=hid hpl;have h12:pl≤12:=by rw[hpl];exact HDB.out.twelve HW.out
      have HP12:=hid h12;obtain⟨tl,htl⟩:∃x,x=st.told.length:=⟨_,rfl⟩
      have htl2:tl=pl:=by rw[htl,hpl];exact HLAW.out.2.2.1
      subst htl2;rw[←htl]at HT HX HCD HV;have HTL:=hid htl;obtain⟨x,hx⟩:∃x,x=atmRun d.ms cy0.ws cy0.hs (who:Nat) (d.prog who):=⟨_,rfl⟩
      have HXE:=hid hx;have HXS:=hid (show SmallR x by rw[hx];exact atmRun_small ..);rw[←hx]at HLAW
      have HTN := hid (show ∀ t, t < tl → (st.told.getD t default).who = who ∧ (st.told.getD t default).n < tl ∧ (st.told.getD t default).rsp = x.2.2.getD (st.told.getD t default).n default from fun t ht => by
        have hm:st.told.getD t default∈st.told:=zB5 (by rw[←HTL.out];exact ht);have h:=HLAW.out.2.2.2.2 _ hm;rw[←HPL.out]at h;exact h)
      have HXL:=hid (show x.2.2.length=tl from by rw[HLAW.out.2.2.2.1,HPL.out]);clear hpl h12 htl hx;obtain⟨b0,b1,b2⟩:=XC9.out.three.1;obtain⟨t0,t1,t2,t3,t4⟩:=HX.out.five.1
      go_upto_region 9 with(go_at_call 40;go_loud ((with_reducible refine(HCD.out w9 (Below.refl _ _)).mono ?_));rintro e w10 ⟨rfl,hb10⟩;have HB10:=hid hb10;clear hb10 b0 b1 b2 t0 t1 t2 t3 t4)
      have hb10:=HB10.out;have XC10:=hid (XC9.out.below hb10 XC9.out.lt);have HBD10:=hid ((HBD9.out.below hb10).mono hb10.size);clear hb10
      go_cut [8,9] from 34 to 46 (fun p q wd=>RrP p q x w10 wd)
      case first=>
        rename_i J K' hJ hK;obtain⟨mv', lb', lo', lc', pb', po', pc', QQ', K9,hE,_,hmaps,_,hpbl,_,hprc,hrq⟩:=HBD10.out.opened HDB.out;simp only[Value.agg.injEq,Array.mk.injEq,List.cons.injEq,Value.slice.injEq,Option.some.injEq,Addr.mk.injEq,and_true,true_and]at hE;obtain⟨rfl,⟨⟨rfl,rfl⟩,rfl⟩,⟨rfl,rfl⟩,rfl⟩:=hE;have hpc:=hprc who HW.out;rw[Nat.zero_add]at hpc;have hwi:(who:Int)<3:=by have:=HW.out;omega
        exact al_region _ _ _ _ _ _ _ _ _ _ _ _ _ _ _ _ _ _ _ _ _ _ _ _ _ _ _ _ _ _ _ _ _ _ _ _ _ _ _ _ _ _ _ _ _ _ _ _ _ _ _ _ _ _ _ _ _ _ _ _ _ _ _ _ _ _ _ _ _ _ _ _ _ _ _ _ _ _ _ _ _ _ _ _ _ _ _ _ _ _ _ _ _ _ _ _ _ _ _ _ _ _ _ (.slice mx cm my) who px _ _ _ gx _ x w10 d.ms (d.prog who) HXE XC10.out hwi hpc hpbl hmaps (hrq who HW.out) (fun u8 u9 u34 u35 u36 u37 u38 u39 u40 u41 u42 u43 u44 u45 u46 wd h=>hK _ _ (Met.intro (hJ _ _ ⟨u8,u9,u34,u35,u36,u37,u38,u39,u40,u41,u42,u43,u44,u45,u46,h,rfl⟩)))
      case rest=>
        obtain⟨w11,hw11⟩:∃W,W=wc:=⟨_,rfl⟩
        subst hw11;obtain⟨ga,a,b,ds,rfl,hga,hA,o1,o2,o3,hdl,o5,hb11⟩:=hcut;obtain⟨qa,qc,rfl,_,_⟩:=o1.shape;obtain⟨ra,rc,rfl,_,_⟩:=o2.shape;have HR:=hid (rsps_of o3 hdl o5 HXS.out.d (by have:=HXS.out.ld;omega));have HA:=hid hA;have HI1:=hid (o1.ints (by have:=HXS.out.lw;omega) HXS.out.w);have HI2:=hid (o2.ints (by have:=HXS.out.lh;omega) HXS.out.h);obtain⟨aa,ac,rfl,_,_,_,_,hac⟩:=HR.out.opened;have HAC:=hid hac;rw[HXL.out]at HAC HR ⊢;have HB911:=hid (show Below w9.heap.size w9 w11 from HB10.out.trans (hb11.mono HB10.out.size));clear o1 o2 o3 o5 hdl hA hga hb11 hac
        go_wp2_with fail
        go_loopw [10] (fun i wr=>∃m:Nat,i=.int .i64 m∧m≤tl∧Below w11.heap.size w11 wr) (fun i _=>tl - (intOf i).toNat)
        case atStart=>exact⟨0,by go_num,Nat.zero_le _,Below.refl _ _⟩
        case round=>
          obtain⟨m,rfl,hm,hbr⟩:=hrel;have HBR:=hid hbr;obtain⟨w7,hw7⟩:∃W,W=wr:=⟨_,rfl⟩
          subst hw7;have HB97:=hid (HB911.out.trans (hbr.mono HB911.out.size));have kc:∀{p:Addr} {v:Value},w9.cell? p=some v→w7.cell? p=some v:=fun hc=>(HB97.out.cell (World.block_lt_of_cell? w9 _ hc)).trans hc
          have ka:∀{p:Addr} {v:Value},w11.cell? p=some v→w7.cell? p=some v:=fun hc=>(hbr.cell (World.block_lt_of_cell? w11 _ hc)).trans hc
          obtain⟨t0,t1,t2,t3,t4⟩:=HX.out.five.1;obtain⟨ja,jc,hje,_,_,_,hjc⟩:=HT.out;simp only[Value.slice.injEq]at hje;obtain⟨rfl,-,rfl⟩:=hje;replace t0:=kc t0;replace t1:=kc t1;replace t4:=kc t4;have h12:=HP12.out;by_cases hlt:m<tl
          · have hmi : (m : Int) < (tl : Int) := by omega
            obtain⟨jb,jo,rfl,_,hjr⟩:=hjc (by omega);obtain⟨da,dn,dc,j0,j1,j2,j3,j4,hji⟩:=hjr m hlt;obtain⟨hn0,hn1,hn2⟩:=HTN.out m hlt;obtain⟨jn,hjn⟩:∃x,x=(st.told.getD m default).n:=⟨_,rfl⟩
            rw[←hjn]at j1 hn1 hn2;rw[hn0]at j0;rw[hn2]at j2 j3 hji;obtain⟨ab,af,rfl,habl,har⟩:=HAC.out (by omega);obtain⟨ea,ec,he,_,_,a0,a1,a2⟩:=har jn hn1;obtain⟨r,hr⟩:∃r,r=x.2.2.getD jn default:=⟨_,rfl⟩
            rw[←hr]at j2 j3 hji he a0 a1 a2;obtain rfl:dn=r.data.length:=by
              obtain⟨_,_,e,_⟩:=hji.opened;simp only[Value.slice.injEq]at e;exact e.2.1
            replace j0:=kc j0;replace j1:=kc j1;replace j2:=kc j2;replace j3:=kc j3;replace j4:=kc j4;replace a0:=ka a0;replace a1:=ka a1;replace a2:=ka a2;have HSV:=hid (fun(W:World) (hW:Below w7.heap.size w7 W)=>crRsp_same r da ea dc ec w7.heap.size W (((hji.below HB97.out).mono HB97.out.size).below hW) (((he.below hbr).mono hbr.size).below hW) hW.size);have hji9:(jn:Int)<(tl:Int):=by omega
            have hne:((who:Int) != (who:Int))=false:=by simp
            clear kc ka hjr hjc hn0 hn1 hn2 hjn har he hji hr hbr habl
            go_upto_region 13 with fail
            obtain⟨CC,hCC⟩:∃CC:List Value→World→Prop,CC=fun us W=>Below w7.heap.size w7 W:=⟨_,rfl⟩
            have hC0:CC [] w7.drew:=by rw[hCC];exact(Below.refl _ _).drew
            have hTC:∀us W,CC us W→Below w7.heap.size w7 W:=by rw[hCC];exact fun us W h=>h
            have HTC:=hid hTC;have HCL:=hid (show ∀us W W', CC us W→Below W.heap.size W W' → CC us W' by rw[hCC];exact fun us W W' h h2=>h.trans (h2.mono h.size));have hne:Nonempty (Ph CC):=⟨⟨([],w7.drew),hC0⟩⟩
            have pc:∀{p:Addr} {v:Value},w7.cell? p=some v→∀x:Ph CC,x.1.2.cell? p=some v:=fun hc x=>((hTC _ _ x.2).cell (World.block_lt_of_cell? w7 _ hc)).trans hc
            replace t4:=pc t4;replace j0:=pc j0;replace j1:=pc j1;replace j2:=pc j2;replace j3:=pc j3;replace j4:=pc j4;replace a0:=pc a0;replace a1:=pc a1;replace a2:=pc a2;clear hCC hTC pc;refine zA9 CC [] [] (by kernel_rfl) (by kernel_rfl) hC0 ?_
            try simp only[List.append_eq,List.cons_append,List.nil_append]
            repeat (
              (with_reducible refine wq1_q ⟨rfl,rfl⟩ (fun K hK=>?_))
              go_simp
              first
                |((with_reducible refine hK _ ?_);clear hK K)
                |((with_reducible refine zA7 (by simp[undef]) (hK _ ?_));clear hK K)
                | (apply Exists.intro
                   (with_reducible refine⟨fun _=>?_,hK _ ?_⟩)
                   (go_at_call 21;rename_i x;exact(HSV.out _ (HTC.out _ _ x.2)).mono fun _ _ ⟨he,hb⟩=>⟨he,HCL.out _ _ _ x.2 hb⟩)
                   clear hK K))
            refine zF4 ?_;refine zF3 ?_;intro wz hwz;have HBZ:=hid (HTC.out _ _ hwz);clear hwz hC0 HTC HCL hne t4 j0 j1 j2 j3 j4 a0 a1 a2
            go_wp2_with fail
            go_roundw
            case rel=>exact⟨m+1,by go_num,by omega,HBR.out.trans (HBZ.out.mono HBR.out.size)⟩
            case measure=>simp[intOf];omega
          · obtain rfl : m = tl := by omega
            have hmm:decide ((m:Int)<(m:Int))=false:=by simp
            have heq:((m:Int)==(m:Int))=true:=by simp
            obtain⟨k0,k1,_,_⟩:=HA.out.cells;replace k0:=ka k0;replace k1:=ka k1;have HEND:=hid (show Below w.heap.size w w7 from HB1.out.trans ((HB2.out.trans ((HB9.out.trans (HB97.out.mono HB9.out.size)).mono HB2.out.size)).mono HB1.out.size))
            have HW1 := hid (show ∀ W, Below w7.heap.size w7 W → Calls Tryz.prog 20 #[.slice qa x.1.length qc, .slice v0 l0 c0] W fun e w' => e = .returned (.bool true) ∧ Drew W w' from fun W hW => crInts_same _ _ x.1 w7.heap.size w7.heap.size W (((HI1.out.below hbr).mono hbr.size).below hW) (by
              have h:=HV.out.ws;rw[HLAW.out.1]at h;exact((h.below HB97.out).mono HB97.out.size).below hW))
            have HW2 := hid (show ∀ W, Below w7.heap.size w7 W → Calls Tryz.prog 20 #[.slice ra x.2.1.length rc, .slice v1 l1 c1] W fun e w' => e = .returned (.bool true) ∧ Drew W w' from fun W hW => crInts_same _ _ x.2.1 w7.heap.size w7.heap.size W (((HI2.out.below hbr).mono hbr.size).below hW) (by
              have h:=HV.out.hs;rw[HLAW.out.2.1]at h;exact((h.below HB97.out).mono HB97.out.size).below hW))
            clear kc ka hjc hbr t2 t3
            go_wp2_with (first
              |(go_at_call 20;(with_reducible refine(HW1.out _ ?_).mono ?_);(first|exact Below.refl _ _|exact Below.draws (Below.refl _ _) _);rintro e wc ⟨rfl,nd,rfl⟩)
              |(go_at_call 20;(with_reducible refine(HW2.out _ ?_).mono ?_);(first|exact Below.refl _ _|exact Below.draws (Below.refl _ _) _);rintro e wc ⟨rfl,nd,rfl⟩))
            go_ret
            exact⟨rfl,Below.draws HEND.out _⟩
end Go.Proofs.YtgkdoehkmbhfiaaGreat
namespace Go.Proofs.YtgkdoehkmbhfiaaGreat
open Go.RowKit
open Go.ChangeShapes Go.WideShapes Go.ChangeAt
theorem alone_holds:Rows.FnCycAloneSaid :=
 OpenClaim.holds_of_wide 8 Tryz.f8 rfl rfl rfl rfl rfl rfl rfl ⟨rfl, rfl, rfl, rfl, rfl⟩ rfl rfl rfl rfl rfl (by kernel_rfl) Tryz.func8 (by kernel_rfl)
  (of_decide_eq_true (by kernel_rfl)) (by unfold Func.isWrapper;first|(rw[if_pos (by decide +kernel)];kernel_rfl)|(rw[if_neg (by decide +kernel)];exact⟨rfl,rfl⟩))
  (fun os started H enc _ => code_lifted started enc 8 Tryz.f8 Rows.fnCycAloneSpec rfl (by kernel_rfl) Tryz.func8
   (ChangeSpec.witness6 (enc:=enc) (C:=Tryz.checked) false ⟨#[],#[.slice none 0 0],[]⟩ 8 (by kernel_rfl) (by kernel_rfl) (by kernel_rfl) (by kernel_rfl)) Tryz.params8 rfl (fun _=>⟨rfl,rfl,rfl⟩) (alone_any drawPlay_any))
#print axioms alone_holds
end Go.Proofs.YtgkdoehkmbhfiaaGreat
