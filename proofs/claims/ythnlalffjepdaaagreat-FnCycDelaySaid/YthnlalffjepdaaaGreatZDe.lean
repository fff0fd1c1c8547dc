/- For every code the law FnCycDelay returns true, and its argument reads behind the call as it read before. -/
import Derived.Test.YthnlalffjepdaaaGreatGDy
import Derived.Test.YthnlalffjepdaaaGreatGAb0
import Derived.Test.YthnlalffjepdaaaGreatGDp
import Derived.StillTail
import Derived.StillTailTactics
set_option linter.unusedVariables false
set_option linter.unusedSimpArgs false
namespace Go.Proofs.YthnlalffjepdaaaGreat
open Go.RowKit
set_option maxRecDepth 8000 in
set_option maxHeartbeats 16000000 in
theorem delay_any (hdraw : DrawPl) (v : Value) (bs : List Nat) (B : Nat) (w : World) (h : Bytes w B v bs) (hB : B ≤ w.heap.size) :
    Calls Tryz.prog 6 #[v] w fun e w' => e=.returned (.bool true)∧Below w.heap.size w w':=by
  obtain⟨ao,cap,rfl,hlc,hcap,hln,hni,hr⟩:=h.opened;clear hr;by_cases hbig:(1048576:Int)<(bs.length:Int)
  · go_enter Tryz.func6, Tryz.ntmps6
    go_wp2_with fail
    go_ret
    exact⟨rfl,Below.refl _ _⟩
  · go_enter Tryz.func6, Tryz.ntmps6
    go_wp2_with fail
    refine(hdraw _ bs B w h hB).mono ?_;rintro e w1 ⟨u,iv,c,ins,rfl,hbus,hbv,hins,hil,hb1⟩;obtain⟨mv,lb,lo,lc,pb,po,pc,QQ,K,rfl,⟨ma,mn,mk,rfl⟩,_,hlb,_,hlat,_,_⟩:=hbv.opened hbus;have HLB:=hid hlb;have HLAT:=hid hlat
    clear hlb hlat
    obtain⟨ia,ic,rfl,ic1,ic2,ic3,_,hcell⟩:=hins.opened;have HBV:=hid hbv;have HCELL:=hid hcell;have HB1:=hid hb1;obtain⟨il,hil2⟩:∃x,x=ins.length:=⟨_,rfl⟩
    rw[←hil2]at HCELL ic1 ic3 hil ⊢;have HIL:=hid hil2;clear hbv hins hcell hb1 hil2 h
    go_upto_region 4 with fail
    obtain⟨w2,hw2⟩:∃W,W=w1.alloc (.cells #[.slice ma mn mk,.slice (some ⟨lb,lo,none⟩) 4 lc,.slice (some ⟨pb,po,none⟩) 3 pc] 27):=⟨_,rfl⟩
    obtain⟨gb,hgb⟩:∃g,g=w1.heap.size:=⟨_,rfl⟩
    have X0:=hid (show Bx w2 gb [.slice ma mn mk,.slice (some ⟨lb,lo,none⟩) 4 lc,.slice (some ⟨pb,po,none⟩) 3 pc] by rw[hw2,hgb];exact Bx.new w1 #[.slice ma mn mk,.slice (some ⟨lb,lo,none⟩) 4 lc,.slice (some ⟨pb,po,none⟩) 3 pc] 27 (by simp));have HB2:=hid (show Below w1.heap.size w1 w2 by rw[hw2];exact(Below.refl _ _).alloc (Nat.le_refl _) _);rw[←hw2,←hgb];have HGB:=hid hgb;clear hw2 hgb
    go_upto_region 5 with(go_at_call 23;go_loud ((with_reducible refine(cycNew_any _).mono ?_));rintro e w3 hcop;obtain⟨V,N,C,D,y0,y1,y2,y3,y4,m0,m1,m2,m3,m4,j0,j1,j2,j3,j4,hE,rfl,hr,hb3⟩:=hcop.sl;have HE:=hid hE;have HR:=hid hr;have HB3:=hid hb3;clear hcop hE hr hb3)
    obtain⟨w4,hw4⟩:∃W,W=w3.alloc (.cells #[.slice y0 m0 j0,.slice y1 m1 j1,.slice y2 m2 j2,.slice y3 m3 j3,.slice y4 m4 j4] 46):=⟨_,rfl⟩
    obtain⟨gs,hgs⟩:∃g,g=w3.heap.size:=⟨_,rfl⟩
    have hb4:Below w3.heap.size w3 w4:=by rw[hw4];exact(Below.refl _ _).alloc (Nat.le_refl _) _
    have HS := hid (show CyBox w4 gs cy0 from CyBox.new HR.out hb4 (by omega) (by
      obtain⟨e0,e1,e2,e3,e4⟩:=HE.out;rw[e0,e1,e2,e3,e4,hw4,hgs];exact Bx.new w3 #[.slice y0 m0 j0,.slice y1 m1 j1,.slice y2 m2 j2,.slice y3 m3 j3,.slice y4 m4 j4] 46 (by simp)))
    have X04:=hid ((X0.out.below HB3.out X0.out.lt).below hb4 (by have:=X0.out.lt;have:=HB3.out.size;omega));have HB4:=hid ((HB2.out.trans (HB3.out.mono HB2.out.size)).trans (hb4.mono (Nat.le_trans HB2.out.size HB3.out.size)));have hgg:gb<gs:=by have:=X0.out.lt;have:=HB3.out.size;omega
    have h1s:w1.heap.size≤gs:=by have:=HB2.out.size;have:=HB3.out.size;omega
    rw[←hw4,←hgs];clear hw4 hgs hb4;obtain⟨g4,hg4⟩:∃g,g=w4.heap.size:=⟨_,rfl⟩
    have HG4:=hid (show w1.heap.size≤g4∧gs<g4∧gb<g4 by rw[hg4];exact⟨HB4.out.size,HS.out.lt,X04.out.lt⟩)
    go_upto_region 6 with fail
    obtain⟨w5,hw5⟩:∃W,W=((((w4.alloc (.cells #[] 3)).alloc (.cells #[] 3)).alloc (.cells #[] 3)).alloc (.cells #[.slice (some ⟨w4.heap.size,0,none⟩) 0 0,.slice (some ⟨w4.heap.size+1,0,none⟩) 0 0,.slice (some ⟨w4.heap.size+1+1,0,none⟩) 0 0] 24)):=⟨_,rfl⟩
    obtain⟨ga,hga⟩:∃g,g=w4.heap.size+1+1+1:=⟨_,rfl⟩
    have hask:AskD w4 (.slice (some ⟨ga,0,none⟩) 3 3) w5:=by rw[hw5,hga];exact ask_lit (by omega) (by omega) (by omega) (by omega) (by omega) (by omega)
    rw[←hw5,←hga];clear hw5 hga;by_cases hT:True
    case neg=>exact absurd trivial hT
    case pos=>
      clear hT;obtain⟨V0,ga', hga,hbl,hb5⟩:=hask;simp only[Value.slice.injEq,Option.some.injEq,Addr.mk.injEq,and_true]at hga;obtain rfl:=hga;rw[←hg4]at hbl;have HL0:=hid hbl;have HS5:=hid (HS.out.apart hb5 (X:=InL ga 3 V0) fun b hb=>by rw[←hg4];exact(hbl.lt hb).1);have X05:=hid (X04.out.below hb5 X04.out.lt);have HB5:=hid (HB4.out.trans (hb5.mono HB4.out.size));clear hbl hb5 hg4
      go_wp2_with fail
      go_loopw [7] (fun i wr=>∃(k:Nat) (V:Nat→Value),i=.int .i64 k∧k≤il∧CyBoxX wr gs (InL ga 3 V) (runC c (ins.take k) cy0)∧BoxL wr g4 3 1 rowN ga 3 V (asks c (ins.take k) cy0 (fun _=>[]) 0)∧Bx wr gb [.slice ma mn mk,.slice (some ⟨lb,lo,none⟩) 4 lc,.slice (some ⟨pb,po,none⟩) 3 pc]∧Below w1.heap.size w1 wr) (fun i _=>il - (intOf i).toNat)
      case atStart=>exact⟨0,V0,by go_num,Nat.zero_le _,by simpa[runC]using HS5.out,HL0.out,X05.out,HB5.out⟩
      case round=>
        clear HS X04 HB4 HE HR HL0 HS5 X05 HB5;obtain⟨k,V,rfl,hk,hs,hl,hx0,hbr⟩:=hrel;have HS:=hid hs;have HL:=hid hl;have X:=hid hx0;have HBR:=hid hbr;have HG:=hid (show Good c (runC c (ins.take k) cy0) from good_run hbus _ (good_zero c))
        have HDI := hid (show DelayI c (asks c (ins.take k) cy0 (fun _ => []) 0) k (runC c (ins.take k) cy0) from by
          have h:=delay_law hbus (ins.take k)
          rwa [List.length_take_of_le (by rw[←HIL.out];exact hk)]at h)
        obtain⟨wo,hwo⟩:∃W,W=wr:=⟨_,rfl⟩
        subst hwo;clear hs hl hx0 hbr;by_cases hlt:k<il
        · have hki : (k : Int) < (il : Int) := by omega
          obtain⟨A,hA⟩:∃A,A=asks c (ins.take k) cy0 (fun _=>[]) 0:=⟨_,rfl⟩
          have HAN:=hid (asks_snoc c ins k (by rw[←HIL.out];exact hlt));rw[←hA]at HL HDI HAN;clear hA;obtain⟨b,off,rfl,hbB,hrow⟩:=HCELL.out (by omega);obtain⟨ra,rc,ta,tc,sa,sc,hiv,c0,c1,c2⟩:=hrow k hlt;obtain⟨st,hst⟩:∃s,s=runC c (ins.take k) cy0:=⟨_,rfl⟩
          have HSN:=hid (show runC c (ins.take (k+1)) cy0=cyc c (ins.getD k default) st by rw[hst];exact runC_snoc c ins k (by rw[←HIL.out];exact hlt) cy0);rw[←hst]at HS HG HDI;obtain⟨z0,z1,z2,z3,z4,n0,n1,n2,n3,n4,k0,k1,k2,k3,k4,P,Q,hx,hv⟩:=HS.out.box.view hbus HG.out;obtain⟨t0,t1,t2,t3,t4⟩:=hx.five.1;obtain⟨b0,b1,b2⟩:=X.out.three.1;rw[←HBR.out.cell (p:=⟨b,_,none⟩) hbB]at c0 c1 c2;have HSTQ:=hid hst;obtain⟨es,hes⟩:∃l,l=evs c (ins.getD k default) st:=⟨_,rfl⟩
          have HES:=hid hes;clear hst
          go_upto_region 9 with fail
          obtain⟨w9,hw9⟩:∃w9,w9=wo.drew:=⟨_,rfl⟩
          have hb9:Below wo.heap.size wo w9:=by rw[hw9];exact(Below.refl _ _).drew
          have hz9:w9.heap.size=wo.heap.size:=by rw[hw9];rfl
          have HST := hid (show Calls Tryz.prog 27 #[.agg #[.slice ma mn mk, .slice (some ⟨lb, lo, none⟩) 4 lc, .slice (some ⟨pb, po, none⟩) 3 pc], .agg #[.slice z0 n0 k0, .slice z1 n1 k1, .slice z2 n2 k2, .slice z3 n3 k3, .slice z4 n4 k4], .agg #[.slice ra 3 rc, .slice ta 4 tc, .slice sa 3 sc]] w9 (EvP es w9) from by
            rw[hes];exact cycEvents_any hbus (B:=wo.heap.size) (((HBV.out.below HBR.out).mono HBR.out.size).below hb9) (hv.below hb9) (((hiv.below HBR.out).mono HBR.out.size).below hb9) (by omega) HG.out)
          have HS9:=hid (HS.out.keep (KeptX.of hb9) (fun b h=>.inl h));have HL9:=hid (HL.out.below hb9);have HB9:=hid hb9;have HZ9:=hid hz9;have HIV:=hid ((hiv.below HBR.out).mono HBR.out.size);have HC0:=hid c0;have HC1:=hid c1;have HC2:=hid c2;have HBO:=hid (Nat.lt_of_lt_of_le hbB HBR.out.size);have KO:=hid (show ∀W,Below wo.heap.size wo W→∀{p:Addr} {v:Value},wo.cell? p=some v→W.cell? p=some v from fun W hW {_ _} h=>(hW.cell (World.block_lt_of_cell? wo _ h)).trans h);have X9:=hid (X.out.below hb9 X.out.lt);refine wp_region_still_tail 6 (by kernel_rfl) (by kernel_rfl) ?_;change wpStill Tryz.prog _ wo.drew (fun a' => wpList Tryz.prog _ _ _ a' wo.drew) _ _;rw[←hw9];have kc:∀{p:Addr} {v:Value},wo.cell? p=some v→w9.cell? p=some v:=fun h=>by rw[hw9];exact h
          replace t0:=kc t0;replace t1:=kc t1;replace t2:=kc t2;replace t3:=kc t3;replace t4:=kc t4;replace b0:=kc b0;replace b1:=kc b1;replace b2:=kc b2;replace c0:=kc c0;replace c1:=kc c1;replace c2:=kc c2;clear hes hw9 kc hb9 hx hv hiv hz9 hrow;simp only[List.take_succ_cons,List.take_zero,List.drop_succ_cons,List.drop_zero]
          repeat still_step
          refine wpStill_nil ?_;clear t0 t1 t2 t3 t4 b0 b1 b2 c0 c1 c2
          go_upto_region 10 with(go_at_call 27;go_loud ((with_reducible refine(HST.out).mono ?_));rintro e wa ⟨ve,rfl,hev,hba⟩;obtain⟨ea,ec,rfl,_⟩:=hev.shape;have HEV:=hid hev;have HBA:=hid hba;clear hev hba)
          have HAE:=hid (show asks c (ins.take (k+1)) cy0 (fun _=>[]) 0=askB A k es by rw[HAN.out,HES.out,HSTQ.out]);have HTO:=hid (show ∀e∈es,e.kind=3→TellOk c A k e from by rw[HES.out];exact(delay_step hbus HG.out HDI.out).2);have HWH:=hid (show ∀e∈es,e.kind=1→e.who<3 from by rw[HES.out];exact fun e he hk=>evs_who he hk);have HEN:=hid (show es.length≤10 from by rw[HES.out];exact evs_len _ _ _);obtain⟨el,hel⟩:∃x,x=es.length:=⟨_,rfl⟩
          have HEL:=hid hel;have hel10:el≤10:=by rw[hel];exact HEN.out
          rw[←hel];clear hel HAN;have HLA:=hid (HL9.out.below HBA.out);have HSA:=hid (HS9.out.keep (KeptX.of HBA.out) (fun b h=>.inl h))
          have HED := hid (show ArrD wa (fun b => b < wa.heap.size ∧ ¬ InL ga 3 V b) 3 (.slice ea el ec) (es.map evRow) from by
            have h:=HEV.out.arrD (P:=fun b=>b<wa.heap.size∧¬InL ga 3 V b) (fun b hb=>⟨(OwnR.lt HEV.out b hb).2,fun e=>by have:=(HL9.out.lt e).2;have:=(OwnR.lt HEV.out b hb).1;omega⟩) (fun _=>rfl) (by have:=HEN.out;omega)
            rwa [←HEL.out]at h)
          have HXA:=hid (X9.out.below HBA.out X9.out.lt);have HBWA:=hid ((HBR.out.trans (HB9.out.mono HBR.out.size)).trans (HBA.out.mono (by have:=HBR.out.size;have:=HZ9.out;omega)));clear HS9 HL9 X9 HEV HS HL
          go_wp2_with fail
          go_loopw [9] (fun i wr=>∃(m:Nat) (V:Nat→Value),i=.int .i64 m∧m≤el∧CyBoxX wr gs (InL ga 3 V) st∧BoxL wr g4 3 1 rowN ga 3 V (askB A k (es.take m))∧Bx wr gb [.slice ma mn mk,.slice (some ⟨lb,lo,none⟩) 4 lc,.slice (some ⟨pb,po,none⟩) 3 pc]∧Below w1.heap.size w1 wr∧ArrD wr (fun b=>b<wr.heap.size∧¬InL ga 3 V b) 3 (.slice ea el ec) (es.map evRow)) (fun i _=>el - (intOf i).toNat)
          case atStart=>exact⟨0,V,by go_num,Nat.zero_le _,HSA.out,by rw[List.take_zero,askB_nil];exact HLA.out,HXA.out,HBWA.out,HED.out⟩
          case round=>
            clear HSA HLA HXA HBWA HED V;obtain⟨m,V,rfl,hm,hs,hl,hx0,hbr,hed⟩:=hrel;have HS:=hid hs;have HL:=hid hl;have XR:=hid hx0;have HBW:=hid hbr;have HED:=hid hed;clear hs hl hx0 hbr;by_cases hlt2:m<el
            · have hmi : (m : Int) < (el : Int) := by omega
              have hml:m<es.length:=by rw[←HEL.out];exact hlt2
              obtain⟨eb,eo,ecap,he1,_,_,hebw,hec⟩:=(hed.to (B:=wr.heap.size) fun b h=>h.1).at (by omega)
              simp only[Value.slice.injEq]at he1;obtain⟨rfl,-,rfl⟩:=he1;have e0:=hec m default hml 0 (by omega);have e1:=hec m default hml 1 (by omega);have e2:=hec m default hml 2 (by omega);obtain⟨ev,hev⟩:∃e,e=es.getD m default:=⟨_,rfl⟩
              rw[←hev]at e0 e1 e2;simp only[evRow,List.getElem?_cons_zero,List.getElem?_cons_succ,Nat.add_zero]at e0 e1 e2;have HIN:=hid (show ev∈es from by rw[hev];simp[List.getD,hml])
              have HTS := hid (show es.take (m + 1) = es.take m ++ [ev] by
                rw[List.take_add_one,hev];have:es[m]?.toList=[es.getD m default]:=by simp[List.getD,hml]
                rw[this])
              have HE1:=hid (show(es.take m).length≤10 from by rw[List.length_take];have:=HEN.out;omega);obtain⟨kd,hkd⟩:∃x,x=ev.kind:=⟨_,rfl⟩
              obtain⟨eu,heu⟩:∃x,x=ev.who:=⟨_,rfl⟩
              obtain⟨en,hen⟩:∃x,x=ev.n:=⟨_,rfl⟩
              rw[←hkd]at e0;rw[←heu]at e1;rw[←hen]at e2;have HKD:=hid hkd;have HEU:=hid heu;have HENN:=hid hen;clear hec hev hed hkd heu hen
              go_upto_region 14 with fail
              obtain⟨wq,hwq⟩:∃W,W=wr.alloc (.cells #[.int .i64 kd,.int .i64 eu,.int .i64 en] 66):=⟨_,rfl⟩
              obtain⟨gE,hgE⟩:∃g,g=wr.heap.size:=⟨_,rfl⟩
              have HBQ:=hid (show Below wr.heap.size wr wq by rw[hwq];exact(Below.refl _ _).alloc (Nat.le_refl _) _);have XE:=hid (show Bx wq gE [.int .i64 kd,.int .i64 eu,.int .i64 en] by rw[hwq,hgE];exact Bx.new wr #[.int .i64 kd,.int .i64 eu,.int .i64 en] 66 (by simp));have HNE:=hid (show ¬InL ga 3 V gE from fun e=>by have:=(HL.out.lt e).2;omega);rw[←hwq,←hgE];have HLQ:=hid (HL.out.below HBQ.out);have HSQ:=hid (HS.out.keep (KeptX.of HBQ.out) (fun b h=>.inl h));have XRQ:=hid (XR.out.below HBQ.out XR.out.lt);have HBWQ:=hid (HBW.out.trans (HBQ.out.mono HBW.out.size));have HEDQ:=hid ((HED.out.kept (fun b hb=>HBQ.out.block b hb.1)).weak (Q:=fun b=>b<wq.heap.size∧¬InL ga 3 V b) fun b hb=>⟨Nat.lt_of_lt_of_le hb.1 HBQ.out.size,hb.2⟩);obtain⟨AB,hAB⟩:∃x,x=askB A k (es.take m):=⟨_,rfl⟩
              have HAB:=hid hAB;rw[←hAB]at HLQ;clear hwq hgE hAB HS HL XR HBW HED e0 e1 e2;obtain⟨e0,e1,e2⟩:=XE.out.three.1;by_cases hk1:kd=1
              · subst hk1
                go_upto_region 15 with fail
                have I3:=(show eu<3 by rw[HEU.out];exact HWH.out _ HIN.out HKD.out.symm)
                have i1:(eu:Int)<3:=by omega
                have HAL:=hid (show(AB eu).length≤22 from by rw[HAB.out];have:=askB_len hbus HG.out HDI.out (l:=es.take m) I3;have:=HE1.out;omega);obtain⟨CC,hCC⟩:∃CC:List Value→World→Prop,CC=pushC wq g4 3 1 rowN ga 3 V AB eu k:=⟨_,rfl⟩
                have hC0:CC [] wq.drew:=by rw[hCC];exact(Below.refl _ _).drew
                have hTC:∀us W,CC us W→KeptX (InL ga 3 V) wq W:=by rw[hCC];exact fun us W h=>pushC_kept I3 h
                have HCC:=hid hCC;have hne:Nonempty (Ph CC):=⟨⟨([],wq.drew),hC0⟩⟩
                have hne2:Nonempty (Ph (lims CC (some 2))):=⟨⟨([],wq.drew),hC0,by simp⟩⟩
                have pc:∀{p:Addr} {v:Value},¬InL ga 3 V p.block→wq.cell? p=some v→∀x:Ph CC,x.1.2.cell? p=some v:=fun hp hc x=>(hTC _ _ x.2).cell hp hc
                have hld:∀x:Ph (lims CC (some 2)),x.1.2.cell? ⟨ga,eu,none⟩=some (V eu):=by rw[hCC];exact fun x=>pushC_load HLQ.out I3 x.2.1 x.2.2
                replace e1:=pc HNE.out e1;clear hCC hTC pc;refine wp_region_flow CC [(9,false),(10,false),(12,false)] [(7,2)] (by kernel_rfl) (by kernel_rfl) hC0 ?_
                repeat (
                  (with_reducible refine wq1_q ⟨rfl,rfl⟩ (fun K hK=>?_))
                  go_simp
                  first
                    |((with_reducible refine hK _ ?_);clear hK K)
                    |((with_reducible refine of_ite_neg (by simp[undef]) (hK _ ?_));clear hK K)
                    | (apply Exists.intro
                       (with_reducible refine⟨fun _=>?_,hK _ ?_⟩)
                       (fail)
                       clear hK K))
                refine wq1_b ⟨rfl,rfl⟩ (fun KA hKA=>?_);go_simp;refine hKA _ ?_;clear hKA KA
                repeat (
                  (with_reducible refine wq1_q ⟨rfl,rfl⟩ (fun K hK=>?_))
                  go_simp
                  first
                    |((with_reducible refine hK _ ?_);clear hK K)
                    |((with_reducible refine of_ite_neg (by simp[undef]) (hK _ ?_));clear hK K)
                    | (apply Exists.intro
                       (with_reducible refine⟨fun _=>?_,hK _ ?_⟩)
                       (fail)
                       clear hK K))
                iterate 2 refine wq1_v rfl ?_
                repeat (
                  (with_reducible refine wq1_q ⟨rfl,rfl⟩ (fun K hK=>?_))
                  go_simp
                  first
                    |((with_reducible refine hK _ ?_);clear hK K)
                    |((with_reducible refine of_ite_neg (by simp[undef]) (hK _ ?_));clear hK K)
                    | (apply Exists.intro
                       (with_reducible refine⟨fun _=>?_,hK _ ?_⟩)
                       (fail)
                       clear hK K))
                refine wq1_v rfl ?_;refine wq1_nil ?_;clear hne hne2 hld e1;refine wq2_v _ rfl rfl ?_ ?_
                · intro W hW KA hKA
                  rw[HCC.out]at hW hKA;have hbW:Below wq.heap.size wq W:=hW;go_simp
                  exact hKA _ _ _ ⟨hbW.alloc hbW.size _, W.heap.size, rfl, fun j u hj => by cases j with
                    |zero=>simp only[rowN,List.getElem?_cons_zero,Option.some.injEq]at hj;subst hj;simp[go_sem]
                    |succ j=>simp[rowN]at hj⟩ rfl
                intro v0 KA hKA;go_simp;refine hKA _ ?_;clear hKA KA;refine wq2_v _ rfl rfl ?_ ?_
                · intro W hW KA hKA
                  rw[HCC.out]at hW hKA;obtain⟨hb,h,rfl,hnew⟩:=hW;refine wp_pushH elem_int rowN (fun _=>rfl) k (rowN_one1 k) W _ _ rfl g4 _ (AB eu) rfl ((HLQ.out.below hb).own eu I3) h 1 rfl hnew (by have:=HAL.out;omega) (by have:=HAL.out;omega) (Nat.le_trans HLQ.out.lb (Nat.le_of_lt (HLQ.out.below hb).bx.lt)) ?_;intro v' w' ho hkp hz hbb hv';exact hKA _ _ _ ⟨W,hb,ho,hkp,hz,hbb,hv'⟩ rfl
                intro v1 KA hKA;go_simp;refine hKA _ ?_;clear hKA KA;refine wq2_v _ rfl rfl ?_ ?_
                · intro W hW KA hKA
                  rw[HCC.out]at hW hKA;obtain⟨d0,d1⟩:=pushC_cell HLQ.out I3 hW;obtain⟨oa,on,oc,rfl⟩:=pushC_sl hW;go_simp;exact hKA undef _ _ (pushC_store HLQ.out I3 hW) rfl
                intro v2 KA hKA;go_simp;refine hKA _ ?_;clear hKA KA;refine wq2_nil ?_;intro wd hwd;rw[HCC.out]at hwd;obtain⟨V', hB', hK', hbd,hX'⟩:=(show PushD wq g4 3 1 rowN ga 3 V AB eu k wd from hwd)
                clear hwd hC0 HCC;have HAQ:=hid (show askB A k (es.take m++[ev])=upd AB eu (AB eu++[k]) from by rw[HAB.out,HEU.out];exact askB_ask HKD.out.symm);rw[←HAQ.out]at hB';have HLD:=hid hB';have HKX:=hid hK';have HSD:=hid (HSQ.out.keep HKX.out hX');have XRD:=hid (XRQ.out.kept (HKX.out.block gb XRQ.out.lt fun e=>by have:=(HLQ.out.lt e).1;have:=HG4.out.2.2;omega));have HBWD:=hid (HBWQ.out.trans (hbd.mono HG4.out.1));have HEDD:=hid ((HEDQ.out.kept (fun b hb=>HKX.out.block b hb.1 hb.2)).weak (Q:=fun b=>b<wd.heap.size∧¬InL ga 3 V' b) fun b hb=>⟨Nat.lt_of_lt_of_le hb.1 HKX.out.size,fun e=>(hX' b e).elim hb.2 fun h=>by have:=hb.1;omega⟩);have XED:=hid (XE.out.kept (HKX.out.block gE XE.out.lt HNE.out));clear hB' hK' hbd hX' HLQ HSQ XRQ HBWQ HEDQ;obtain⟨e0,e1,e2⟩:=XED.out.three.1
                go_upto_region 16 with fail
                obtain⟨CC,hCC⟩:∃CC:List Value→World→Prop,CC=fun us W=>Below wd.heap.size wd W:=⟨_,rfl⟩
                have hC0:CC [] wd.drew:=by rw[hCC];exact(Below.refl _ _).drew
                have hTC:∀us W,CC us W→Below wd.heap.size wd W:=by rw[hCC];exact fun us W h=>h
                have HTC:=hid hTC;have HCL:=hid (show ∀us W W', CC us W→Below W.heap.size W W' → CC us W' by rw[hCC];exact fun us W W' h h2=>h.trans (h2.mono h.size));have hne:Nonempty (Ph CC):=⟨⟨([],wd.drew),hC0⟩⟩
                have pc:∀{p:Addr} {v:Value},wd.cell? p=some v→∀x:Ph CC,x.1.2.cell? p=some v:=fun hc x=>((hTC _ _ x.2).cell (World.block_lt_of_cell? wd _ hc)).trans hc
                replace e0:=pc e0;replace e1:=pc e1;replace e2:=pc e2;clear hCC hTC pc;refine wp_region_flow CC [] [] (by kernel_rfl) (by kernel_rfl) hC0 ?_
                try simp only[List.append_eq,List.cons_append,List.nil_append]
                repeat (
                  (with_reducible refine wq1_q ⟨rfl,rfl⟩ (fun K hK=>?_))
                  go_simp
                  first
                    |((with_reducible refine hK _ ?_);clear hK K)
                    |((with_reducible refine of_ite_neg (by simp[undef]) (hK _ ?_));clear hK K)
                    | (apply Exists.intro
                       (with_reducible refine⟨fun _=>?_,hK _ ?_⟩)
                       (fail)
                       clear hK K))
                refine wq1_nil ?_;refine wq2_nil ?_;intro wz hwz;have HBZ:=hid (HTC.out _ _ hwz);clear hwz hC0 HTC HCL hne e0 e1 e2
                go_wp2_with fail
                go_roundw
                case rel=>exact⟨m+1,V', by go_num,by omega,HSD.out.keep (KeptX.of HBZ.out) (fun b h=>.inl h),by rw[HTS.out];exact HLD.out.below HBZ.out,XRD.out.below HBZ.out XRD.out.lt,HBWD.out.trans (HBZ.out.mono HBWD.out.size),(HEDD.out.kept (fun b hb=>HBZ.out.block b hb.1)).weak fun b hb=>⟨Nat.lt_of_lt_of_le hb.1 HBZ.out.size,hb.2⟩⟩
                case measure=>simp[intOf];omega
              · by_cases hk3 : kd = 3
                · subst hk3
                  obtain⟨hw3,hnl,a,hat,hle⟩:=HTO.out _ HIN.out HKD.out.symm;have hat2:=askB_at (k:=k) (l:=es.take m) hat
                  rw[←HAB.out]at hat2;rw[←HEU.out]at hw3 hat2;rw[←HEU.out,←HENN.out]at hnl hle;rw[←HENN.out]at hat2;obtain⟨va,vk,hve,hvc⟩:=HLQ.out.nats hw3 (by rw[HAB.out];have:=askB_len hbus HG.out HDI.out (l:=es.take m) hw3;have:=HE1.out;omega);obtain⟨vb,vo,rfl,q1,i3,_⟩:=hvc en a hat2;have q0:=HLQ.out.cell hw3;rw[hve]at q0;obtain⟨ll,hll⟩:∃x,x=(AB eu).length:=⟨_,rfl⟩
                  rw[←hll]at q0 i3;have hbv:=((HBV.out.below HBWQ.out).mono HBWQ.out.size)
                  obtain⟨b0,b1,b2⟩:=XRQ.out.three.1;obtain⟨mv', lb', lo', lc', pb', po', pc', QQ', K', hE,_,hmaps,_,_,_,hpc,hrq⟩:=hbv.opened hbus;simp only[Value.agg.injEq,Array.mk.injEq,List.cons.injEq,Value.slice.injEq,Option.some.injEq,Addr.mk.injEq,and_true,true_and]at hE;obtain⟨rfl,⟨⟨rfl,rfl⟩,rfl⟩,⟨rfl,rfl⟩,rfl⟩:=hE;have hpc:=hpc eu hw3;have hrq:=hrq eu hw3;obtain⟨qa,qc,he,_,_,_,_,hq⟩:=hrq.opened;obtain⟨qb,qo,rfl,hqB,hqr⟩:=hq (by omega);simp only[Value.slice.injEq]at he;obtain⟨he1,_,he3⟩:=he;rw[he1,he3]at hpc;obtain⟨da,dc,la,lc2,hrv,r0,r1,r2,r3,r4,r5,r6⟩:=hqr en hnl;have i1:(eu:Int)<3:=by omega
                  have i2:(en:Int)<((c.prog eu).length:Int):=by omega
                  obtain⟨s,hs⟩:∃s,s=c.slv eu en:=⟨_,rfl⟩
                  have HRS:=hid (fun(W:World) (hW:Below wq.heap.size wq W)=>reqSlave_nat hbus hw3 hnl (implReqSlave_any _ _ c.ms ((c.prog eu).getD en default) _ W (hmaps.below hW) (hrv.below hW) hW.size));rw[←hs]at HRS hle;have hs4:s<4:=by rw[hs];exact slv_lt4 hbus.ms _
                  have is4:(s:Int)<4:=by omega
                  have l0:=(HBWQ.out.cell (p:=⟨lb,lo+s,none⟩) HLB.out).trans (HLAT.out s hs4);obtain⟨lt,hlt9⟩:∃x,x=c.lt s:=⟨_,rfl⟩
                  rw[←hlt9]at l0 hle;have hlt3:lt≤3:=by rw[hlt9];exact hbus.lt3 hs4
                  obtain⟨rqv,hrqe⟩:∃x,x=(c.prog eu).getD en default:=⟨_,rfl⟩
                  rw[←hrqe]at HRS r0 r1 r2 r3 r4 r5 r6;have hge:decide (ll≤en)=false:=by simp;omega
                  obtain⟨d1,hd1⟩:∃d,d=k - a - 1:=⟨_,rfl⟩
                  obtain⟨d0,hd0⟩:∃d,d=d1+1:=⟨_,rfl⟩
                  obtain⟨l2,hl2⟩:∃d,d=lt+2:=⟨_,rfl⟩
                  have ew1:IntKind.i64.wrap ((k:Int) - (a:Int))=(d0:Int):=by rw[IntKind.wrap_i64];omega
                  have ew2:IntKind.i64.wrap ((d0:Int) - 1)=(d1:Int):=by rw[IntKind.wrap_i64];omega
                  have ew3:IntKind.i64.wrap ((lt:Int)+2)=(l2:Int):=by rw[IntKind.wrap_i64];omega
                  have hcm:decide (d1<l2)=false:=by simp;omega
                  clear hd1 hd0 hl2;clear hrv hrqe hvc hve hll hat hat2 hmaps he1 he3 hs hlt9 hqr hq
                  go_upto_region 16 with fail
                  obtain⟨CC,hCC⟩:∃CC:List Value→World→Prop,CC=fun us W=>Below wq.heap.size wq W:=⟨_,rfl⟩
                  have hC0:CC [] wq.drew:=by rw[hCC];exact(Below.refl _ _).drew
                  have hTC:∀us W,CC us W→Below wq.heap.size wq W:=by rw[hCC];exact fun us W h=>h
                  have HTC:=hid hTC;have HCL:=hid (show ∀us W W', CC us W→Below W.heap.size W W' → CC us W' by rw[hCC];exact fun us W W' h h2=>h.trans (h2.mono h.size));have hne:Nonempty (Ph CC):=⟨⟨([],wq.drew),hC0⟩⟩
                  have pc:∀{p:Addr} {v:Value},wq.cell? p=some v→∀x:Ph CC,x.1.2.cell? p=some v:=fun hc x=>((hTC _ _ x.2).cell (World.block_lt_of_cell? wq _ hc)).trans hc
                  replace e0:=pc e0;replace e1:=pc e1;replace e2:=pc e2;replace q0:=pc q0;replace q1:=pc q1;replace b0:=pc b0;replace b1:=pc b1;replace b2:=pc b2;replace hpc:=pc hpc;replace l0:=pc l0;replace r0:=pc r0;replace r1:=pc r1;replace r2:=pc r2;replace r3:=pc r3;replace r4:=pc r4;replace r5:=pc r5;replace r6:=pc r6;clear hCC hTC pc;refine wp_region_flow CC [] [] (by kernel_rfl) (by kernel_rfl) hC0 ?_
                  try simp only[List.append_eq,List.cons_append,List.nil_append]
                  repeat (
                    (with_reducible refine wq1_q ⟨rfl,rfl⟩ (fun K hK=>?_))
                    go_simp
                    first
                      |((with_reducible refine hK _ ?_);clear hK K)
                      |((with_reducible refine of_ite_neg (by simp[undef]) (hK _ ?_));clear hK K)
                      | (apply Exists.intro
                         (with_reducible refine⟨fun _=>?_,hK _ ?_⟩)
                         (go_at_call 28;rename_i x;exact(HRS.out _ (HTC.out _ _ x.2)).mono fun _ _ ⟨he,hb⟩=>⟨he,HCL.out _ _ _ x.2 hb⟩)
                         clear hK K))
                  refine wq1_nil ?_;refine wq2_nil ?_;intro wz hwz;have HBZ:=hid (HTC.out _ _ hwz);clear hwz hC0 HTC HCL hne e0 e1 e2 q0 q1 b0 b1 b2 hpc l0 r0 r1 r2 r3 r4 r5 r6
                  go_wp2_with fail
                  go_roundw
                  case rel=>exact⟨m+1,V,by go_num,by omega,HSQ.out.keep (KeptX.of HBZ.out) (fun b h=>.inl h),by rw[HTS.out,askB_other (by rw[←HKD.out];omega),←HAB.out];exact HLQ.out.below HBZ.out,XRQ.out.below HBZ.out XRQ.out.lt,HBWQ.out.trans (HBZ.out.mono HBWQ.out.size),(HEDQ.out.kept (fun b hb=>HBZ.out.block b hb.1)).weak fun b hb=>⟨Nat.lt_of_lt_of_le hb.1 HBZ.out.size,hb.2⟩⟩
                  case measure=>simp[intOf];omega
                · have q1 : ((kd : Int) == 1) = false := by simp; omega
                  have q3:((kd:Int)==3)=false:=by simp;omega
                  go_upto_region 16 with fail
                  obtain⟨CC,hCC⟩:∃CC:List Value→World→Prop,CC=fun us W=>Below wq.heap.size wq W:=⟨_,rfl⟩
                  have hC0:CC [] wq.drew:=by rw[hCC];exact(Below.refl _ _).drew
                  have hTC:∀us W,CC us W→Below wq.heap.size wq W:=by rw[hCC];exact fun us W h=>h
                  have HTC:=hid hTC;have HCL:=hid (show ∀us W W', CC us W→Below W.heap.size W W' → CC us W' by rw[hCC];exact fun us W W' h h2=>h.trans (h2.mono h.size));have hne:Nonempty (Ph CC):=⟨⟨([],wq.drew),hC0⟩⟩
                  have pc:∀{p:Addr} {v:Value},wq.cell? p=some v→∀x:Ph CC,x.1.2.cell? p=some v:=fun hc x=>((hTC _ _ x.2).cell (World.block_lt_of_cell? wq _ hc)).trans hc
                  replace e0:=pc e0;replace e1:=pc e1;replace e2:=pc e2;clear hCC hTC pc;refine wp_region_flow CC [] [] (by kernel_rfl) (by kernel_rfl) hC0 ?_
                  try simp only[List.append_eq,List.cons_append,List.nil_append]
                  repeat (
                    (with_reducible refine wq1_q ⟨rfl,rfl⟩ (fun K hK=>?_))
                    go_simp
                    first
                      |((with_reducible refine hK _ ?_);clear hK K)
                      |((with_reducible refine of_ite_neg (by simp[undef]) (hK _ ?_));clear hK K)
                      | (apply Exists.intro
                         (with_reducible refine⟨fun _=>?_,hK _ ?_⟩)
                         (fail)
                         clear hK K))
                  refine wq1_nil ?_;refine wq2_nil ?_;intro wz hwz;have HBZ:=hid (HTC.out _ _ hwz);clear hwz hC0 HTC HCL hne e0 e1 e2
                  go_wp2_with fail
                  go_roundw
                  case rel=>exact⟨m+1,V,by go_num,by omega,HSQ.out.keep (KeptX.of HBZ.out) (fun b h=>.inl h),by rw[HTS.out,askB_other (by rw[←HKD.out];exact hk1),←HAB.out];exact HLQ.out.below HBZ.out,XRQ.out.below HBZ.out XRQ.out.lt,HBWQ.out.trans (HBZ.out.mono HBWQ.out.size),(HEDQ.out.kept (fun b hb=>HBZ.out.block b hb.1)).weak fun b hb=>⟨Nat.lt_of_lt_of_le hb.1 HBZ.out.size,hb.2⟩⟩
                  case measure=>simp[intOf];omega
            · obtain rfl : m = el := by omega
              have hmm:decide ((m:Int)<(m:Int))=false:=by simp
              go_wp2_with fail
              obtain⟨b', off', hbe,hbB', hrow'⟩:=HCELL.out (by omega);simp only[Option.some.injEq,Addr.mk.injEq,and_true]at hbe;obtain⟨rfl,rfl⟩:=hbe;obtain⟨ra', rc', ta', tc', sa', sc', hiv', c0,c1,c2⟩:=hrow' k hlt;rw[←HBW.out.cell (p:=⟨b,_,none⟩) hbB']at c0 c1 c2;have hiv:=(hiv'.below HBW.out).mono HBW.out.size;obtain⟨z0,z1,z2,z3,z4,n0,n1,n2,n3,n4,k0,k1,k2,k3,k4,P,Q,hx,hv⟩:=HS.out.box.view hbus HG.out;obtain⟨t0,t1,t2,t3,t4⟩:=hx.five.1;obtain⟨b0,b1,b2⟩:=XR.out.three.1;clear hrow' hiv' hbB'
              go_upto_region 18 with fail
              obtain⟨v9,hv9⟩:∃v9,v9=wr.drew:=⟨_,rfl⟩
              have hd9:Below wr.heap.size wr v9:=by rw[hv9];exact(Below.refl _ _).drew
              have hy9:v9.heap.size=wr.heap.size:=by rw[hv9];rfl
              have HST2 := hid (show Calls Tryz.prog 29 #[.agg #[.slice ma mn mk, .slice (some ⟨lb, lo, none⟩) 4 lc, .slice (some ⟨pb, po, none⟩) 3 pc], .agg #[.slice z0 n0 k0, .slice z1 n1 k1, .slice z2 n2 k2, .slice z3 n3 k3, .slice z4 n4 k4], .agg #[.slice ra' 3 rc', .slice ta' 4 tc', .slice sa' 3 sc']] v9 (CopP (cyc c (ins.getD k default) st) v9) from
                cycStep_any hbus (B:=wr.heap.size) (((HBV.out.below HBW.out).mono HBW.out.size).below hd9) (hv.below hd9) (hiv.below hd9) (by omega) HG.out)
              have HT9:=hid (HS.out.keep (KeptX.of hd9) (fun b h=>.inl h));have HLT9:=hid (HL.out.below hd9);have HE9:=hid hd9;have HY9:=hid hy9;have XV9:=hid (XR.out.below hd9 XR.out.lt);refine wp_region_still_tail 6 (by kernel_rfl) (by kernel_rfl) ?_;change wpStill Tryz.prog _ wr.drew (fun a' => wpList Tryz.prog _ _ _ a' wr.drew) _ _;rw[←hv9];have kc:∀{p:Addr} {v:Value},wr.cell? p=some v→v9.cell? p=some v:=fun h=>by rw[hv9];exact h
              replace t0:=kc t0;replace t1:=kc t1;replace t2:=kc t2;replace t3:=kc t3;replace t4:=kc t4;replace b0:=kc b0;replace b1:=kc b1;replace b2:=kc b2;replace c0:=kc c0;replace c1:=kc c1;replace c2:=kc c2;clear hv9 kc hd9 hx hv hiv hy9;simp only[List.take_succ_cons,List.take_zero,List.drop_succ_cons,List.drop_zero]
              repeat still_step
              refine wpStill_nil ?_;clear t0 t1 t2 t3 t4 b0 b1 b2 c0 c1 c2
              go_upto_region 8 with(go_at_call 29;go_loud ((with_reducible refine(HST2.out).mono ?_));rintro e va hcop;obtain⟨z0,z1,z2,z3,z4,n0,n1,n2,n3,n4,k0,k1,k2,k3,k4,rfl,⟨_,_,_,_,_,hxa⟩,hbva,hsb⟩:=hcop.storeX HT9.out (fun b hb=>(HLT9.out.lt hb).2);obtain⟨⟨q0,q1,q2,q3,q4⟩,f0,f1,f2,f3,f4⟩:=hxa.five;have hrl:=hxa.lt;have HBVA:=hid hbva;have HSB:=hid hsb;clear hcop hxa hbva hsb)
              clear q0 q1 q2 q3 q4 f0 f1 f2 f3 f4 hrl;obtain⟨vb,hvb⟩:∃W,W=((((va.setCell ⟨gs,0,none⟩ (.slice z0 n0 k0)).setCell ⟨gs,1,none⟩ (.slice z1 n1 k1)).setCell ⟨gs,2,none⟩ (.slice z2 n2 k2)).setCell ⟨gs,3,none⟩ (.slice z3 n3 k3)).setCell ⟨gs,4,none⟩ (.slice z4 n4 k4):=⟨_,rfl⟩
              rw[←hvb]at HSB;rw[←hvb];have XB:=hid (show Bx vb gb [.slice ma mn mk,.slice (some ⟨lb,lo,none⟩) 4 lc,.slice (some ⟨pb,po,none⟩) 3 pc] from(XV9.out.below HBVA.out XV9.out.lt).kept (by rw[hvb];exact put5_other _ (by omega)));have HLB2:=hid (show BoxL vb g4 3 1 rowN ga 3 V (askB A k (es.take m)) from(HLT9.out.below HBVA.out).kept fun b hb=>by rw[hvb];exact put5_other _ (fun e=>HSB.out.ngs (e▸hb)))
              have HBB2 := hid (show Below w1.heap.size w1 vb by
                have h9:=(HBW.out.trans (HE9.out.mono HBW.out.size)).trans (HBVA.out.mono (by have:=HBW.out.size;have:=HY9.out;omega));rw[hvb];exact((((h9.setCell (p:=⟨gs,_,none⟩) h1s _).setCell (p:=⟨gs,_,none⟩) h1s _).setCell (p:=⟨gs,_,none⟩) h1s _).setCell (p:=⟨gs,_,none⟩) h1s _).setCell (p:=⟨gs,_,none⟩) h1s _)
              clear hvb HST2 HT9 HBVA HE9 HY9 XV9
              go_wp2_with fail
              go_roundw
              case rel=>exact⟨k+1,V,by go_num,by omega,by rw[HSN.out];exact HSB.out,by rw[HAE.out,←show es.take m=es from List.take_of_length_le (by rw[HEL.out];exact Nat.le_refl _)];exact HLB2.out,XB.out,HBB2.out⟩
              case measure=>simp[intOf];omega
        · obtain rfl : k = il := by omega
          have hki2:decide ((k:Int)<(k:Int))=false:=by simp
          rw[show ins.take k=ins from List.take_of_length_le (by rw[HIL.out];exact Nat.le_refl _)]at HS HG;obtain⟨z0,z1,z2,z3,z4,n0,n1,n2,n3,n4,k0,k1,k2,k3,k4,P,Q,hx,hv⟩:=HS.out.box.view hbus HG.out;obtain⟨t0,t1,t2,t3,t4⟩:=hx.five.1;obtain⟨b0,b1,b2⟩:=X.out.three.1;have HOK:=hid (cycOk_any hbus ((HBV.out.below HBR.out).mono HBR.out.size) hv (Nat.le_refl _) HG.out);clear hx hv
          go_wp2_with (first
            |(go_at_call 30;go_loud ((with_reducible refine(HOK.out).mono ?_));rintro e w8 ⟨rfl,hb8⟩;have HB8:=hid hb8;clear hb8 t0 t1 t2 t3 t4 b0 b1 b2)
            |(go_at_call 26;refine(crOk_any _).mono ?_;rintro e w9 ⟨rfl,rfl⟩))
          go_ret
          exact⟨rfl,(HB1.out.trans (HBR.out.mono HB1.out.size)).trans (HB8.out.mono (Nat.le_trans HB1.out.size HBR.out.size))⟩
  end Go.Proofs.YthnlalffjepdaaaGreat
namespace Go.Proofs.YthnlalffjepdaaaGreat
open Go.RowKit
open Go.ChangeShapes Go.WideShapes Go.ChangeAt
theorem delay_holds:Rows.FnCycDelaySaid :=
 OpenClaim.holds_of_wide 6 Tryz.f6 rfl rfl rfl rfl rfl rfl rfl ⟨rfl, rfl, rfl, rfl, rfl⟩ rfl rfl rfl rfl rfl (by kernel_rfl) Tryz.func6 (by kernel_rfl)
  (of_decide_eq_true (by kernel_rfl)) (by unfold Func.isWrapper;first|(rw[if_pos (by decide +kernel)];kernel_rfl)|(rw[if_neg (by decide +kernel)];exact⟨rfl,rfl⟩))
  (fun os started H enc _ => code_lifted started enc 6 Tryz.f6 Rows.fnCycDelaySpec rfl (by kernel_rfl) Tryz.func6
   (ChangeSpec.witness6 (enc:=enc) (C:=Tryz.checked) false ⟨#[],#[.slice none 0 0],[]⟩ 8 (by kernel_rfl) (by kernel_rfl) (by kernel_rfl) (by kernel_rfl)) Tryz.params6 rfl (fun _=>⟨rfl,rfl,rfl⟩) (delay_any drawPlay_any))
#print axioms delay_holds
end Go.Proofs.YthnlalffjepdaaaGreat
