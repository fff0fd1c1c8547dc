/- For every code the law FnCycOne returns true, and its argument reads behind the call as it read before. -/
import Derived.Test.YtenjbhbcacocjaaGreatGOr1
import Derived.Test.YtenjbhbcacocjaaGreatGLb
import Derived.Test.YtenjbhbcacocjaaGreatGRow
set_option linter.unusedVariables false
set_option linter.unusedSimpArgs false
namespace Go.Proofs.YtenjbhbcacocjaaGreat
open Go.RowKit
theorem mk4 (w:World):(Instr.makeSlice 24 (.int .i64 4) (.int .i64 4)).run Tryz.prog w = .ok (.slice (some ⟨w.heap.size,0,none⟩) 4 4) (w.alloc (.cells #[.int .i64 0,.int .i64 0,.int .i64 0,.int .i64 0] 3)):=by kernel_rfl
attribute [local go_sem] mk4
set_option maxRecDepth 8000 in
set_option maxHeartbeats 16000000 in
theorem one_any (hdraw:DrawPl) (v:Value) (bs:List Nat) (B:Nat) (w:World) (h:Bytes w B v bs) (hB:B ≤ w.heap.size) :
    Calls Tryz.prog 4 #[v] w fun e w' => e = .returned (.bool true) ∧ Below w.heap.size w w':=by
  obtain ⟨ao,cap,rfl,hlc,hcap,hln,hni,hr⟩:=h.opened
  clear hr
  by_cases hbig:(1048576:Int) < (bs.length:Int)
  · go_enter Tryz.func4,Tryz.ntmps4
    go_wp2_with fail
    go_ret
    exact ⟨rfl,Below.refl _ _⟩
  · go_enter Tryz.func4,Tryz.ntmps4
    go_wp2_with fail
    refine (hdraw _ bs B w h hB).mono ?_
    rintro e w1 ⟨u,iv,c,ins,rfl,hbus,hbv,hins,hil,hb1⟩
    obtain ⟨mv,lb,lo,lc,pb,po,pc,QQ,K,rfl,⟨ma,mn,mk,rfl⟩,_,hlb,_,hlat,_,_⟩:=hbv.opened hbus
    have HLB:=hid hlb;have HLAT:=hid hlat
    clear hlb hlat
    obtain ⟨ia,ic,rfl,ic1,ic2,ic3,_,hcell⟩:=hins.opened
    have HBV:=hid hbv;have HCELL:=hid hcell;have HB1:=hid hb1
    obtain ⟨il,hil2⟩:∃ x,x = ins.length:=⟨_,rfl⟩
    rw [← hil2] at HCELL ic1 ic3 hil ⊢
    have HIL:=hid hil2
    clear hbv hins hcell hb1 hil2 h
    go_upto_region 4 with fail
    obtain ⟨w2,hw2⟩:∃ W,W = w1.alloc (.cells #[.slice ma mn mk,.slice (some ⟨lb,lo,none⟩) 4 lc,.slice (some ⟨pb,po,none⟩) 3 pc] 27):=⟨_,rfl⟩
    obtain ⟨gb,hgb⟩:∃ g,g = w1.heap.size:=⟨_,rfl⟩
    have X0:=hid (show Bx w2 gb [.slice ma mn mk,.slice (some ⟨lb,lo,none⟩) 4 lc,.slice (some ⟨pb,po,none⟩) 3 pc] by rw [hw2,hgb];exact Bx.new w1 #[.slice ma mn mk,.slice (some ⟨lb,lo,none⟩) 4 lc,.slice (some ⟨pb,po,none⟩) 3 pc] 27 (by simp))
    have HB2:=hid (show Below w1.heap.size w1 w2 by rw [hw2];exact (Below.refl _ _).alloc (Nat.le_refl _) _)
    rw [← hw2,← hgb]
    have HGB:=hid hgb
    clear hw2 hgb
    go_upto_region 5 with (go_at_call 16;go_loud ((with_reducible refine (cycNew_any _).mono ?_));rintro e w3 hcop;obtain ⟨V,N,C,D,y0,y1,y2,y3,y4,m0,m1,m2,m3,m4,j0,j1,j2,j3,j4,hE,rfl,hr,hb3⟩:=hcop.sl;have HE:=hid hE;have HR:=hid hr;have HB3:=hid hb3;clear hcop hE hr hb3)
    obtain ⟨w4,hw4⟩:∃ W,W = w3.alloc (.cells #[.slice y0 m0 j0,.slice y1 m1 j1,.slice y2 m2 j2,.slice y3 m3 j3,.slice y4 m4 j4] 39):=⟨_,rfl⟩
    obtain ⟨gs,hgs⟩:∃ g,g = w3.heap.size:=⟨_,rfl⟩
    have hb4:Below w3.heap.size w3 w4:=by rw [hw4];exact (Below.refl _ _).alloc (Nat.le_refl _) _
    have HS:=hid (show CyBox w4 gs cy0 from CyBox.new HR.out hb4 (by omega) (by
      obtain ⟨e0,e1,e2,e3,e4⟩:=HE.out
      rw [e0,e1,e2,e3,e4,hw4,hgs];exact Bx.new w3 #[.slice y0 m0 j0,.slice y1 m1 j1,.slice y2 m2 j2,.slice y3 m3 j3,.slice y4 m4 j4] 39 (by simp)))
    have X04:=hid ((X0.out.below HB3.out X0.out.lt).below hb4 (by have:=X0.out.lt;have:=HB3.out.size;omega))
    have HB4:=hid ((HB2.out.trans (HB3.out.mono HB2.out.size)).trans (hb4.mono (Nat.le_trans HB2.out.size HB3.out.size)))
    have hgg:gb < gs:=by have:=X0.out.lt;have:=HB3.out.size;omega
    have h1s:w1.heap.size ≤ gs:=by have:=HB2.out.size;have:=HB3.out.size;omega
    rw [← hw4,← hgs]
    clear hw4 hgs hb4
    go_wp2_with fail
    go_loopw [6] (fun i wr => ∃ k:Nat,i = .int .i64 k ∧ k ≤ il ∧ CyBox wr gs (runC c (ins.take k) cy0) ∧ Bx wr gb [.slice ma mn mk,.slice (some ⟨lb,lo,none⟩) 4 lc,.slice (some ⟨pb,po,none⟩) 3 pc] ∧ Below w1.heap.size w1 wr) (fun i _ => il - (intOf i).toNat)
    case atStart => exact ⟨0,rfl,Nat.zero_le _,by simpa [runC] using HS.out,X04.out,HB4.out⟩
    case round =>
      clear HS X04 HB4 HE HR
      obtain ⟨k,rfl,hk,hs,hx0,hbr⟩:=hrel
      have HS:=hid hs;have X:=hid hx0;have HBR:=hid hbr
      have HG:=hid (show Good c (runC c (ins.take k) cy0) from good_run hbus _ (good_zero c))
      obtain ⟨wo,hwo⟩:∃ W,W = wr:=⟨_,rfl⟩
      subst hwo
      clear hs hx0 hbr
      by_cases hlt:k < il
      · have hki:(k:Int) < (il:Int):=by omega
        obtain ⟨b,off,rfl,hbB,hrow⟩:=HCELL.out (by omega)
        obtain ⟨ra,rc,ta,tc,sa,sc,hiv,c0,c1,c2⟩:=hrow k hlt
        obtain ⟨st,hst⟩:∃ s,s = runC c (ins.take k) cy0:=⟨_,rfl⟩
        have HSN:=hid (show runC c (ins.take (k + 1)) cy0 = cyc c (ins.getD k default) st by rw [hst];exact runC_snoc c ins k (by rw [← HIL.out];exact hlt) cy0)
        rw [← hst] at HS HG
        obtain ⟨z0,z1,z2,z3,z4,n0,n1,n2,n3,n4,k0,k1,k2,k3,k4,P,Q,hx,hv⟩:=HS.out.view hbus HG.out
        obtain ⟨t0,t1,t2,t3,t4⟩:=hx.five.1
        obtain ⟨b0,b1,b2⟩:=X.out.three.1
        rw [← HBR.out.cell (p:=⟨b,_,none⟩) hbB] at c0 c1 c2
        have HSTQ:=hid hst
        obtain ⟨es,hes⟩:∃ l,l = evs c (ins.getD k default) st:=⟨_,rfl⟩
        have HES:=hid hes
        clear hst
        go_upto_region 8 with fail
        obtain ⟨w9,hw9⟩:∃ w9,w9 = wo.drew:=⟨_,rfl⟩
        have hb9:Below wo.heap.size wo w9:=by rw [hw9];exact (Below.refl _ _).drew
        have hz9:w9.heap.size = wo.heap.size:=by rw [hw9];rfl
        have HST:=hid (show Calls Tryz.prog 22 #[.agg #[.slice ma mn mk,.slice (some ⟨lb,lo,none⟩) 4 lc,.slice (some ⟨pb,po,none⟩) 3 pc],.agg #[.slice z0 n0 k0,.slice z1 n1 k1,.slice z2 n2 k2,.slice z3 n3 k3,.slice z4 n4 k4],.agg #[.slice ra 3 rc,.slice ta 4 tc,.slice sa 3 sc]] w9 (EvP es w9) from by
          rw [hes]
          exact cycEvents_any hbus (B:=wo.heap.size) (((HBV.out.below HBR.out).mono HBR.out.size).below hb9) (hv.below hb9) (((hiv.below HBR.out).mono HBR.out.size).below hb9) (by omega) HG.out)
        have HS9:=hid (HS.out.below hb9)
        have HB9:=hid hb9;have HZ9:=hid hz9
        have HIV:=hid ((hiv.below HBR.out).mono HBR.out.size);have HC0:=hid c0;have HC1:=hid c1;have HC2:=hid c2;have HBO:=hid (Nat.lt_of_lt_of_le hbB HBR.out.size)
        have KO:=hid (show ∀ W,Below wo.heap.size wo W → ∀ {p:Addr} {v:Value},wo.cell? p = some v → W.cell? p = some v from fun W hW {_ _} h => (hW.cell (World.block_lt_of_cell? wo _ h)).trans h)
        have X9:=hid (X.out.below hb9 X.out.lt)
        refine wp_region_still_tail 6 (by kernel_rfl) (by kernel_rfl) ?_
        change wpStill Tryz.prog _ wo.drew (fun a' => wpList Tryz.prog _ _ _ a' wo.drew) _ _
        rw [← hw9]
        have kc:∀ {p:Addr} {v:Value},wo.cell? p = some v → w9.cell? p = some v:=fun h => by rw [hw9];exact h
        replace t0:=kc t0;replace t1:=kc t1;replace t2:=kc t2;replace t3:=kc t3;replace t4:=kc t4;replace b0:=kc b0;replace b1:=kc b1;replace b2:=kc b2;replace c0:=kc c0;replace c1:=kc c1;replace c2:=kc c2
        clear hes hw9 kc hb9 hx hv hiv hz9 hrow
        simp only [List.take_succ_cons,List.take_zero,List.drop_succ_cons,List.drop_zero]
        repeat still_step
        refine wpStill_nil ?_
        clear t0 t1 t2 t3 t4 b0 b1 b2 c0 c1 c2
        go_upto_region 9 with (go_at_call 22;go_loud ((with_reducible refine (HST.out).mono ?_));rintro e wa ⟨ve,rfl,hev,hba⟩;obtain ⟨ea,ec,rfl,_⟩:=hev.shape;have HEV:=hid hev;have HBA:=hid hba;clear hev hba)
        obtain ⟨el,hel⟩:∃ x,x = es.length:=⟨_,rfl⟩
        have HEL:=hid hel
        rw [← hel]
        clear hel
        go_upto_region 10 with fail
        obtain ⟨wb,hwb⟩:∃ W,W = wa.alloc (.cells #[.int .i64 0,.int .i64 0,.int .i64 0,.int .i64 0] 3):=⟨_,rfl⟩
        obtain ⟨gd,hgd⟩:∃ g,g = wa.heap.size:=⟨_,rfl⟩
        have XD:=hid (show Bx wb gd [.int .i64 0,.int .i64 0,.int .i64 0,.int .i64 0] by rw [hwb,hgd];exact Bx.new wa #[.int .i64 0,.int .i64 0,.int .i64 0,.int .i64 0] 3 (by simp))
        have HBB:=hid (show Below wa.heap.size wa wb by rw [hwb];exact (Below.refl _ _).alloc (Nat.le_refl _) _)
        rw [← hwb,← hgd]
        have HGD:=hid hgd
        clear hwb hgd
        go_wp2_with fail
        go_loopw [9] (fun i wr => ∃ m:Nat,i = .int .i64 m ∧ m ≤ el ∧ Below wa.heap.size wa wr ∧ Bx wr gd (dn4 c (es.take m))) (fun i _ => el - (intOf i).toNat)
        case atStart => exact ⟨0,by go_num,Nat.zero_le _,HBB.out,XD.out⟩
        case round =>
          clear XD HBB
          obtain ⟨m,rfl,hm,hbl,hxd⟩:=hrel
          have HBL:=hid hbl;have XD:=hid hxd
          clear hbl hxd
          by_cases hlt2:m < el
          · have hmi:(m:Int) < (el:Int):=by omega
            have hml:m < es.length:=by rw [← HEL.out];exact hlt2
            obtain ⟨eb,eo,ecap,he1,_,_,hebw,hec⟩:=(HEV.out.arr (fun _ => rfl) (by have:=evs_len c (ins.getD k default) st;rw [← HES.out] at this;omega)).at (by omega)
            simp only [Value.slice.injEq] at he1
            obtain ⟨rfl,_,rfl⟩:=he1
            have e0:=hec m default hml 0 (by omega);have e1:=hec m default hml 1 (by omega);have e2:=hec m default hml 2 (by omega)
            obtain ⟨ev,hev⟩:∃ e,e = es.getD m default:=⟨_,rfl⟩
            rw [← hev] at e0 e1 e2
            have hec2:∀ j v,j < 3 → (evRow ev)[j]? = some v → wa.cell? ⟨eb,eo + m * 3 + j,none⟩ = some v:=fun j v hj h => by rw [hev] at h;rw [hec m default hml j hj];exact h
            simp only [evRow,List.getElem?_cons_zero,List.getElem?_cons_succ,Nat.add_zero] at e0 e1 e2
            rw [← HBL.out.cell (p:=⟨eb,_,none⟩) hebw] at e0 e1 e2
            have HEC:=hid hev
            have HTS:=hid (show es.take (m + 1) = es.take m ++ [ev] by
              rw [List.take_add_one,hev]
              have:es[m]?.toList = [es.getD m default]:=by simp [List.getD,hml]
              rw [this])
            obtain ⟨kd,hkd⟩:∃ x,x = ev.kind:=⟨_,rfl⟩
            rw [← hkd] at e0
            clear hec hev
            have HE2:=hid hec2;clear hec2
            by_cases hk2:kd = 2
            · subst hk2
              have HWK:=hid (show WkOk c (ins.getD k default) st ev ∧ doneN c (c.slv ev.who ev.n) (es.take m) = 0 by
                have:=evs_at hbus (inp:=ins.getD k default) HG.out (m:=m) (by rw [← HES.out];exact hml) (by rw [← HES.out,← HEC.out];exact hkd.symm)
                rw [← HES.out,← HEC.out] at this
                exact this)
              obtain ⟨s,hs⟩:∃ s,s = c.slv ev.who ev.n:=⟨_,rfl⟩
              have HSE:=hid hs;have HKD:=hid hkd
              clear hkd hs
              go_upto_region 14 with fail
              have HBW:=hid (HB9.out.trans ((HBA.out.trans (HBL.out.mono HBA.out.size)).mono (Nat.le_of_eq HZ9.out.symm)))
              have hbv:=((HBV.out.below HBR.out).mono HBR.out.size).below HBW.out
              obtain ⟨b0,b1,b2⟩:=(X.out.below HBW.out X.out.lt).three.1
              obtain ⟨mv', lb', lo', lc', pb', po', pc', QQ', K', hE,_,hmaps,_,_,_,hpc,hrq⟩:=hbv.opened hbus
              simp only [Value.agg.injEq,Array.mk.injEq,List.cons.injEq,Value.slice.injEq,Option.some.injEq,Addr.mk.injEq,and_true,true_and] at hE
              obtain ⟨rfl,⟨⟨rfl,rfl⟩,rfl⟩,⟨rfl,rfl⟩,rfl⟩:=hE
              have hw3:=HWK.out.1.2.1
              have hnl:=HWK.out.1.2.2.1
              have hpc:=hpc ev.who hw3
              have hrq:=hrq ev.who hw3
              obtain ⟨qa,qc,he,_,_,_,_,hq⟩:=hrq.opened
              obtain ⟨qb,qo,rfl,hqB,hqr⟩:=hq (by omega)
              simp only [Value.slice.injEq] at he
              obtain ⟨he1,_,he3⟩:=he
              rw [he1,he3] at hpc
              obtain ⟨da,dc,la,lc2,hrv,r0,r1,r2,r3,r4,r5,r6⟩:=hqr ev.n hnl
              have i1:(ev.who:Int) < 3:=by omega
              have i2:(ev.n:Int) < ((c.prog ev.who).length:Int):=by omega
              have HRS:=hid (reqSlave_nat hbus hw3 hnl (implReqSlave_any _ _ c.ms ((c.prog ev.who).getD ev.n default) _ wr.drew (hmaps.below (Below.refl _ _).drew) (hrv.below (Below.refl _ _).drew) HBW.out.size))
              rw [← HSE.out] at HRS
              obtain ⟨rqv,hrqe⟩:∃ x,x = (c.prog ev.who).getD ev.n default:=⟨_,rfl⟩
              rw [← hrqe] at HRS r0 r1 r2 r3 r4 r5 r6
              clear hrv hrqe
              have kc:∀ {p:Addr} {v:Value},wr.cell? p = some v → wr.drew.cell? p = some v:=fun h => h
              replace b0:=kc b0;replace b1:=kc b1;replace b2:=kc b2;replace hpc:=kc hpc;replace r0:=kc r0;replace r1:=kc r1;replace r2:=kc r2;replace r3:=kc r3;replace r4:=kc r4;replace r5:=kc r5;replace r6:=kc r6;replace e0:=kc e0;replace e1:=kc e1;replace e2:=kc e2
              refine wp_region_still_tail 18 (by kernel_rfl) (by kernel_rfl) ?_
              change wpStill Tryz.prog _ wr.drew (fun a' => wpList Tryz.prog _ _ _ a' wr.drew) _ _
              simp only [List.take_succ_cons,List.take_zero,List.drop_succ_cons,List.drop_zero]
              repeat still_step
              refine wpStill_nil ?_
              go_upto_region 15 with (go_at_call 23;go_loud ((with_reducible refine (HRS.out).mono ?_));rintro e w12 ⟨rfl,hb12⟩;have HB12:=hid hb12;clear hb12)
              have hb12:=(show Below wr.heap.size wr wr.drew from (Below.refl _ _).drew).trans HB12.out
              have hs4:s < 4:=by rw [HSE.out];exact HWK.out.1.2.2.2.1
              have hz:doneN c s (es.take m) = 0:=by rw [HSE.out];exact HWK.out.2
              have X12:=hid (XD.out.below hb12 XD.out.lt)
              have d0:w12.cell? ⟨gd,s,none⟩ = some (.int .i64 0):=by
                have h:=(X12.out.c s (show s < 4 from hs4)).trans (dn4_at c (es.take m) hs4)
                rw [hz] at h;exact h
              have d1:w12.frozen? ⟨gd,s,none⟩ = false:=X12.out.f s (show s < 4 from hs4)
              have is4:(s:Int) < 4:=by omega
              have HS4:=hid hs4;have HZ:=hid hz
              have HGE:=hid (HBL.out.trans (hb12.mono HBL.out.size))
              clear hb12 hs4 hz b0 b1 b2 hpc r0 r1 r2 r3 r4 r5 r6 e0 e1 e2
              go_upto_region 16 with fail
              obtain ⟨w13,hw13⟩:∃ W,W = w12.setCell ⟨gd,s,none⟩ (.int .i64 1):=⟨_,rfl⟩
              have X13:=hid (show Bx w13 gd (dn4 c (es.take (m + 1))) by
                have h:=X12.out.set s (show s < 4 from HS4.out) (.int .i64 1)
                have h2:=dn4_set (c:=c) (l:=es.take m) (e:=ev) HKD.out.symm HSE.out.symm HS4.out
                rw [HZ.out] at h2
                rw [HTS.out,hw13,← h2];exact h)
              have HD13:=hid (show w13.cell? ⟨gd,s,none⟩ = some (.int .i64 1) by
                have h:=(X12.out.set s (show s < 4 from HS4.out) (.int .i64 1)).c s (by rw [List.length_set];exact HS4.out)
                rw [hw13,h,List.getElem?_set_self (show s < 4 from HS4.out)])
              have HBL13:=hid (show Below wa.heap.size wa w13 by rw [hw13];exact HGE.out.setCell (p:=⟨gd,_,none⟩) (by rw [HGD.out];exact Nat.le_refl _) _)
              have HBW13:=hid (HB9.out.trans ((HBA.out.trans (HBL13.out.mono HBA.out.size)).mono (Nat.le_of_eq HZ9.out.symm)))
              rw [← hw13]
              clear hw13 d0 d1
              have HS13:=(HS9.out.below HBA.out).below HBL13.out
              obtain ⟨y0,y1,y2,y3,y4,u0,u1,u2,u3,u4,v0,v1,v2,v3,v4,P', Q', hx3,hv3⟩:=HS13.view hbus HG.out
              obtain ⟨_,_,_,_,_,_,pg,pq,pc3,tg,tp,tc3,_,_,g2,g3,_,_,_,_,hrs⟩:=hv3.rows
              simp only [Value.slice.injEq] at g2 g3
              obtain ⟨rfl,rfl,rfl⟩:=g2
              obtain ⟨rfl,rfl,rfl⟩:=g3
              have x3:=hx3.five.1.2.2.2.1
              obtain ⟨qa,qc,_,_,r0,_,_,hj,_⟩:=hrs s HS4.out
              obtain ⟨_,_,_,_,hst,rest,hp⟩:=HWK.out.1
              rw [← HSE.out] at hp hst
              rw [hp] at hj r0
              obtain ⟨qb,qo,rfl,_,hqb,j0,j1,j2⟩:=hj.head
              simp only [List.length_cons] at r0
              obtain ⟨pl,hpl⟩:∃ x,x = rest.length + 1:=⟨_,rfl⟩
              rw [← hpl] at r0
              have h12:pl = 1 ∨ pl = 2:=by
                have:=(HG.out.s s HS4.out).p2
                rw [hp,List.length_cons] at this
                omega
              obtain ⟨tb,tq,rfl,htb,htc⟩:=HIV.out.stalls
              have st0:=KO.out _ HBW13.out (htc s HS4.out)
              rw [hst] at st0
              have c1:=KO.out _ HBW13.out HC1.out
              have e1:=HE2.out 1 _ (by omega) rfl;have e2:=HE2.out 2 _ (by omega) rfl
              rw [← HBL13.out.cell (p:=⟨eb,_,none⟩) hebw] at e1 e2
              have d13:=HD13.out
              clear hrs hp hst hj hpl htc hx3 hv3 HS13
              rcases h12 with rfl | rfl
              all_goals
                go_upto_region 17 with fail
                obtain ⟨CC,hCC⟩:∃ CC:List Value → World → Prop,CC = fun us W => Below w13.heap.size w13 W:=⟨_,rfl⟩
                have hC0:CC [] w13.drew:=by rw [hCC];exact (Below.refl _ _).drew
                have hTC:∀ us W,CC us W → Below w13.heap.size w13 W:=by rw [hCC];exact fun us W h => h
                have HTC:=hid hTC
                have hne:Nonempty (Ph CC):=⟨⟨([],w13.drew),hC0⟩⟩
                have pc:∀ {p:Addr} {v:Value},w13.cell? p = some v → ∀ x:Ph CC,x.1.2.cell? p = some v:=fun hc x => ((hTC _ _ x.2).cell (World.block_lt_of_cell? w13 _ hc)).trans hc
                replace j0:=pc j0;replace j1:=pc j1;replace j2:=pc j2;replace st0:=pc st0;replace c1:=pc c1;replace e1:=pc e1;replace e2:=pc e2;replace d13:=pc d13
                clear hCC hTC pc x3 r0
                refine wp_region_flow CC [] [] (by kernel_rfl) (by kernel_rfl) hC0 ?_
                try simp only [List.append_eq,List.cons_append,List.nil_append]
                repeat (
                  (with_reducible refine wq1_q ⟨rfl,rfl⟩ (fun K hK => ?_))
                  go_simp
                  first
                    | ((with_reducible refine hK _ ?_);clear hK K)
                    | ((with_reducible refine of_ite_neg (by simp [undef]) (hK _ ?_));clear hK K)
                    | (apply Exists.intro
                       (with_reducible refine ⟨fun _ => ?_,hK _ ?_⟩)
                       (fail)
                       clear hK K))
                refine wq1_nil ?_
                refine wq2_nil ?_
                intro wz hwz
                have HBZ:=hid (HTC.out _ _ hwz)
                clear hwz hC0 HTC hne j0 j1 j2 st0 c1 e1 e2 d13
                go_wp2_with fail
                go_roundw
                case rel => exact ⟨m + 1,by go_num,by omega,HBL13.out.trans (HBZ.out.mono HBL13.out.size),X13.out.below HBZ.out X13.out.lt⟩
                case measure => simp [intOf];omega
            · have q1:((kd:Int) != 2) = true:=by simp;omega
              have HDN:=hid (show dn4 c (es.take (m + 1)) = dn4 c (es.take m) by
                rw [HTS.out]
                exact dn4_other (by rw [← hkd];exact hk2))
              clear hk2 hkd
              go_wp2_with fail
              go_roundw
              case rel => exact ⟨m + 1,by go_num,by omega,HBL.out,by rw [HDN.out];exact XD.out⟩
              case measure => simp [intOf];omega
          · obtain rfl:m = el:=by omega
            have hmm:decide ((m:Int) < (m:Int)) = false:=by simp
            go_wp2_with fail
            have HBQ:=hid (HB9.out.trans ((HBA.out.trans (HBL.out.mono HBA.out.size)).mono (Nat.le_of_eq HZ9.out.symm)))
            have HBR2:=hid (HBR.out.trans (HBQ.out.mono HBR.out.size))
            have HS2:=hid ((HS9.out.below HBA.out).below HBL.out)
            have X2:=hid (X.out.below HBQ.out X.out.lt)
            obtain ⟨z0,z1,z2,z3,z4,n0,n1,n2,n3,n4,k0,k1,k2,k3,k4,P,Q,hx,hv⟩:=HS2.out.view hbus HG.out
            obtain ⟨t0,t1,t2,t3,t4⟩:=hx.five.1
            obtain ⟨b0,b1,b2⟩:=X2.out.three.1
            have c0:=KO.out _ HBQ.out HC0.out;have c1:=KO.out _ HBQ.out HC1.out;have c2:=KO.out _ HBQ.out HC2.out
            have hiv:=(HIV.out.below HBQ.out).mono HBQ.out.size
            go_upto_region 19 with fail
            obtain ⟨v9,hv9⟩:∃ v9,v9 = wr.drew:=⟨_,rfl⟩
            have hd9:Below wr.heap.size wr v9:=by rw [hv9];exact (Below.refl _ _).drew
            have hy9:v9.heap.size = wr.heap.size:=by rw [hv9];rfl
            have HST2:=hid (show Calls Tryz.prog 17 #[.agg #[.slice ma mn mk,.slice (some ⟨lb,lo,none⟩) 4 lc,.slice (some ⟨pb,po,none⟩) 3 pc],.agg #[.slice z0 n0 k0,.slice z1 n1 k1,.slice z2 n2 k2,.slice z3 n3 k3,.slice z4 n4 k4],.agg #[.slice ra 3 rc,.slice ta 4 tc,.slice sa 3 sc]] v9 (CopP (cyc c (ins.getD k default) st) v9) from
              cycStep_any hbus (B:=wr.heap.size) (((HBV.out.below HBR2.out).mono HBR2.out.size).below hd9) (hv.below hd9) (hiv.below hd9) (by omega) HG.out)
            have HT9:=hid (HS2.out.below hd9)
            have HE9:=hid hd9;have HY9:=hid hy9
            have XV9:=hid (X2.out.below hd9 X2.out.lt)
            refine wp_region_still_tail 6 (by kernel_rfl) (by kernel_rfl) ?_
            change wpStill Tryz.prog _ wr.drew (fun a' => wpList Tryz.prog _ _ _ a' wr.drew) _ _
            rw [← hv9]
            have kc:∀ {p:Addr} {v:Value},wr.cell? p = some v → v9.cell? p = some v:=fun h => by rw [hv9];exact h
            replace t0:=kc t0;replace t1:=kc t1;replace t2:=kc t2;replace t3:=kc t3;replace t4:=kc t4;replace b0:=kc b0;replace b1:=kc b1;replace b2:=kc b2;replace c0:=kc c0;replace c1:=kc c1;replace c2:=kc c2
            clear hv9 kc hd9 hx hv hiv hy9
            simp only [List.take_succ_cons,List.take_zero,List.drop_succ_cons,List.drop_zero]
            repeat still_step
            refine wpStill_nil ?_
            clear t0 t1 t2 t3 t4 b0 b1 b2 c0 c1 c2
            go_upto_region 20 with (go_at_call 17;go_loud ((with_reducible refine (HST2.out).mono ?_));rintro e va hcop;obtain ⟨z0,z1,z2,z3,z4,n0,n1,n2,n3,n4,k0,k1,k2,k3,k4,rfl,⟨_,_,_,_,_,hxa⟩,hbva,hsb⟩:=hcop.store HT9.out;obtain ⟨⟨q0,q1,q2,q3,q4⟩,f0,f1,f2,f3,f4⟩:=hxa.five;have hrl:=hxa.lt;have HBVA:=hid hbva;have HSB:=hid hsb;clear hcop hxa hbva hsb)
            clear q0 q1 q2 q3 q4 f0 f1 f2 f3 f4 hrl
            obtain ⟨vb,hvb⟩:∃ W,W = ((((va.setCell ⟨gs,0,none⟩ (.slice z0 n0 k0)).setCell ⟨gs,1,none⟩ (.slice z1 n1 k1)).setCell ⟨gs,2,none⟩ (.slice z2 n2 k2)).setCell ⟨gs,3,none⟩ (.slice z3 n3 k3)).setCell ⟨gs,4,none⟩ (.slice z4 n4 k4):=⟨_,rfl⟩
            rw [← hvb] at HSB
            rw [← hvb]
            have XB:=hid (show Bx vb gb [.slice ma mn mk,.slice (some ⟨lb,lo,none⟩) 4 lc,.slice (some ⟨pb,po,none⟩) 3 pc] from (XV9.out.below HBVA.out XV9.out.lt).kept (by rw [hvb];exact put5_other _ (by omega)))
            have HBB2:=hid (show Below w1.heap.size w1 vb by
              have h9:=(HBR2.out.trans (HE9.out.mono HBR2.out.size)).trans (HBVA.out.mono (by have:=HBR2.out.size;have:=HY9.out;omega))
              rw [hvb];exact ((((h9.setCell (p:=⟨gs,_,none⟩) h1s _).setCell (p:=⟨gs,_,none⟩) h1s _).setCell (p:=⟨gs,_,none⟩) h1s _).setCell (p:=⟨gs,_,none⟩) h1s _).setCell (p:=⟨gs,_,none⟩) h1s _)
            have HG2:=hid (good_step hbus (inp:=ins.getD k default) HG.out)
            obtain ⟨st2,hst2⟩:∃ s,s = cyc c (ins.getD k default) st:=⟨_,rfl⟩
            rw [← hst2] at HSB HG2 HSN
            clear hvb hst2 HS2 HST2 HT9 HBVA HE9 HY9 XV9
            obtain ⟨y0,y1,y2,y3,y4,u0,u1,u2,u3,u4,v0,v1,v2,v3,v4,P', Q', hx3,hv3⟩:=HSB.out.view hbus HG2.out
            obtain ⟨_,_,_,_,_,_,pg,pq,pc3,tg,tp,tc3,_,_,g2,g3,_,_,_,_,hrs⟩:=hv3.rows
            simp only [Value.slice.injEq] at g2 g3
            obtain ⟨rfl,rfl,rfl⟩:=g2
            obtain ⟨rfl,rfl,rfl⟩:=g3
            have HX3:=hid hx3;have HRS3:=hid hrs
            have KV:=hid (show ∀ W,Below vb.heap.size vb W → ∀ {p:Addr} {v:Value},vb.cell? p = some v → W.cell? p = some v from fun W hW {_ _} h => (hW.cell (World.block_lt_of_cell? vb _ h)).trans h)
            clear hx3 hv3 hrs
            go_wp2_with fail
            go_loopw [12] (fun i wr => ∃ j:Nat,i = .int .i64 j ∧ j ≤ 4 ∧ Below vb.heap.size vb wr) (fun i _ => 4 - (intOf i).toNat)
            case atStart => exact ⟨0,by go_num,Nat.zero_le _,Below.refl _ _⟩
            case round =>
              obtain ⟨j,rfl,hj,hbj⟩:=hrel
              have HBJ:=hid hbj
              clear hbj
              by_cases hlt3:j < 4
              · have hji:(j:Int) ≤ 3:=by omega
                have hji4:(j:Int) < 4:=by omega
                obtain ⟨qa,qc,_,_,r0,_,_,hjb,_⟩:=HRS3.out j hlt3
                obtain ⟨pn,hpn⟩:∃ x,x = (st2.slaves j).pipe.length:=⟨_,rfl⟩
                obtain ⟨lt,hlt⟩:∃ x,x = c.lt j:=⟨_,rfl⟩
                have l0:=(HBB2.out.cell (p:=⟨lb,lo + j,none⟩) HLB.out).trans (HLAT.out j hlt3)
                rw [← hlt] at l0
                rw [← hpn] at r0 hjb
                have HL0:=hid l0;have HR0:=hid r0;have HPN:=hid hpn;have HLT:=hid hlt;have HJB:=hid hjb
                have HLE:=hid (show ∀ i,i < pn → ((st2.slaves j).pipe.getD i default).left ≤ lt from fun i hi => by rw [HLT.out];exact left_le (HG2.out.s j hlt3) (by rw [← HPN.out];exact hi))
                have hlt3':=HLT.out ▸ hbus.lt3 hlt3
                have hpn2:pn ≤ 2:=by rw [HPN.out];exact (HG2.out.s j hlt3).p2
                clear l0 r0 hpn hlt hjb
                have x3:=KV.out _ HBJ.out HX3.out.five.1.2.2.2.1
                have r0:=KV.out _ HBJ.out HR0.out
                go_wp2_with fail
                clear x3 r0
                go_loopw [13] (fun i wr => ∃ m:Nat,i = .int .i64 m ∧ m ≤ pn ∧ Below vb.heap.size vb wr) (fun i _ => pn - (intOf i).toNat)
                case atStart => exact ⟨0,by go_num,Nat.zero_le _,HBJ.out⟩
                case round =>
                  obtain ⟨m,rfl,hm,hbm⟩:=hrel
                  have HBM:=hid hbm
                  clear hbm
                  have x3:=KV.out _ HBM.out HX3.out.five.1.2.2.2.1
                  have r0:=KV.out _ HBM.out HR0.out
                  by_cases hlt4:m < pn
                  · have hmi:(m:Int) < (pn:Int):=by omega
                    obtain ⟨qb,qo,qcap,he,_,_,_,hqc⟩:=Arr.at (f:=jbRow) HJB.out (by rw [← HPN.out];omega)
                    simp only [Value.slice.injEq] at he
                    obtain ⟨rfl,-,rfl⟩:=he
                    have j2:=hqc m default (by rw [← HPN.out];exact hlt4) 2 (by omega)
                    have hle:=HLE.out m hlt4
                    obtain ⟨le,hle2⟩:∃ x,x = ((st2.slaves j).pipe.getD m default).left:=⟨_,rfl⟩
                    simp only [jbRow,List.getElem?_cons_zero,List.getElem?_cons_succ] at j2
                    rw [← hle2] at j2 hle
                    have j2:=KV.out _ HBM.out j2
                    have l0:=KV.out _ HBM.out HL0.out
                    have b1:=KV.out _ HBM.out XB.out.three.1.2.1
                    have e1:decide (lt < le) = false:=by simp;omega
                    clear hqc hle2 hle
                    go_upto_region 26 with fail
                    obtain ⟨CC,hCC⟩:∃ CC:List Value → World → Prop,CC = fun us W => Below wr.heap.size wr W:=⟨_,rfl⟩
                    have hC0:CC [] wr.drew:=by rw [hCC];exact (Below.refl _ _).drew
                    have hTC:∀ us W,CC us W → Below wr.heap.size wr W:=by rw [hCC];exact fun us W h => h
                    have HTC:=hid hTC
                    have hne:Nonempty (Ph CC):=⟨⟨([],wr.drew),hC0⟩⟩
                    have pc:∀ {p:Addr} {v:Value},wr.cell? p = some v → ∀ x:Ph CC,x.1.2.cell? p = some v:=fun hc x => ((hTC _ _ x.2).cell (World.block_lt_of_cell? wr _ hc)).trans hc
                    replace x3:=pc x3;replace r0:=pc r0;replace j2:=pc j2;replace l0:=pc l0;replace b1:=pc b1
                    clear hCC hTC pc
                    refine wp_region_flow CC [] [] (by kernel_rfl) (by kernel_rfl) hC0 ?_
                    repeat (
                      (with_reducible refine wq1_q ⟨rfl,rfl⟩ (fun K hK => ?_))
                      go_simp
                      first
                        | ((with_reducible refine hK _ ?_);clear hK K)
                        | ((with_reducible refine of_ite_neg (by simp [undef]) (hK _ ?_));clear hK K)
                        | (apply Exists.intro
                           (with_reducible refine ⟨fun _ => ?_,hK _ ?_⟩)
                           (fail)
                           clear hK K))
                    refine wq1_nil ?_
                    refine wq2_nil ?_
                    intro wz hwz
                    have HBZ:=hid (HTC.out _ _ hwz)
                    clear hwz hC0 HTC hne x3 r0 j2 l0 b1
                    go_wp2_with fail
                    go_roundw
                    case rel => exact ⟨m + 1,by go_num,by omega,HBM.out.trans (HBZ.out.mono HBM.out.size)⟩
                    case measure => simp [intOf];omega
                  · obtain rfl:m = pn:=by omega
                    have hmm2:decide ((m:Int) < (m:Int)) = false:=by simp
                    go_wp2_with fail
                    go_roundw
                    case rel => exact ⟨j + 1,by go_num,by omega,by first | exact HBM.out | exact HBM.out.drew | exact HBM.out.drew.drew⟩
                    case measure => simp [intOf];omega
              · obtain rfl:j = 4:=by omega
                rw [show (((4:Nat)):Int) = (4:Int) from rfl]
                go_wp2_with fail
                go_roundw
                case rel => exact ⟨k + 1,by go_num,by omega,by rw [HSN.out];exact HSB.out.below HBJ.out,XB.out.below HBJ.out XB.out.lt,HBB2.out.trans (HBJ.out.mono HBB2.out.size)⟩
                case measure => simp [intOf];omega
      · obtain rfl:k = il:=by omega
        have hki2:decide ((k:Int) < (k:Int)) = false:=by simp
        rw [show ins.take k = ins from List.take_of_length_le (by rw [HIL.out];exact Nat.le_refl _)] at HS HG
        obtain ⟨z0,z1,z2,z3,z4,n0,n1,n2,n3,n4,k0,k1,k2,k3,k4,P,Q,hx,hv⟩:=HS.out.view hbus HG.out
        obtain ⟨t0,t1,t2,t3,t4⟩:=hx.five.1
        obtain ⟨b0,b1,b2⟩:=X.out.three.1
        have HOK:=hid (cycOk_any hbus ((HBV.out.below HBR.out).mono HBR.out.size) hv (Nat.le_refl _) HG.out)
        clear hx hv
        go_wp2_with (first
          | (go_at_call 20;go_loud ((with_reducible refine (HOK.out).mono ?_));rintro e w8 ⟨rfl,hb8⟩;have HB8:=hid hb8;clear hb8 t0 t1 t2 t3 t4 b0 b1 b2)
          | (go_at_call 21;refine (crOk_any _).mono ?_;rintro e w9 ⟨rfl,rfl⟩))
        go_ret
        exact ⟨rfl,(HB1.out.trans (HBR.out.mono HB1.out.size)).trans (HB8.out.mono (Nat.le_trans HB1.out.size HBR.out.size))⟩
end Go.Proofs.YtenjbhbcacocjaaGreat
namespace Go.Proofs.YtenjbhbcacocjaaGreat
open Go.RowKit
open Go.ChangeShapes Go.WideShapes Go.ChangeAt
theorem one_holds:Rows.FnCycOneSaid :=
 OpenClaim.holds_of_wide 4 Tryz.f4 rfl rfl rfl rfl rfl rfl rfl ⟨rfl,rfl,rfl,rfl,rfl⟩ rfl rfl rfl rfl rfl (by kernel_rfl) Tryz.func4 (by kernel_rfl)
  (of_decide_eq_true (by kernel_rfl)) (by unfold Func.isWrapper;first | (rw [if_pos (by decide +kernel)];kernel_rfl) | (rw [if_neg (by decide +kernel)];exact ⟨rfl,rfl⟩))
  (fun os started H enc _ => code_lifted started enc 4 Tryz.f4 Rows.fnCycOneSpec rfl (by kernel_rfl) Tryz.func4
   (ChangeSpec.witness6 (enc:=enc) (C:=Tryz.checked) false ⟨#[],#[.slice none 0 0],[]⟩ 8 (by kernel_rfl) (by kernel_rfl) (by kernel_rfl) (by kernel_rfl)) Tryz.params4 rfl (fun _ => ⟨rfl,rfl,rfl⟩) (one_any drawPlay_any))
#print axioms one_holds
end Go.Proofs.YtenjbhbcacocjaaGreat
