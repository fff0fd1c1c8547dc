/- For every code the law FnCycIds returns true, and its argument reads behind the call as it read before. -/
import Derived.Test.YtghngenglefofaaGreatGYw
import Derived.Test.YtghngenglefofaaGreatGLb
import Derived.Test.YtghngenglefofaaGreatGRow
set_option linter.unusedVariables false
set_option linter.unusedSimpArgs false
namespace Go.Proofs.YtghngenglefofaaGreat
open Go.RowKit
set_option maxRecDepth 8000 in
set_option maxHeartbeats 16000000 in
theorem ids_any (hdraw:DrawPl) (v:Value) (bs:List Nat) (B:Nat) (w:World) (h:Bytes w B v bs) (hB:B ≤ w.heap.size) :
  Calls Tryz.prog 3 #[v] w fun e w' => e = .returned (.bool true) ∧ Below w.heap.size w w':=by
 obtain ⟨ao,cap,rfl,hlc,hcap,hln,hni,hr⟩:=h.opened
 clear hr
 by_cases hbig:(1048576:Int) < (bs.length:Int)
 ·go_enter Tryz.func3,Tryz.ntmps3
  go_wp2_with fail
  go_ret
  exact ⟨rfl,Below.refl _ _⟩
 ·go_enter Tryz.func3,Tryz.ntmps3
  go_wp2_with fail
  refine (hdraw _ bs B w h hB).mono ?_
  rintro e w1 ⟨u,iv,c,ins,rfl,hbus,hbv,hins,hil,hb1⟩
  obtain ⟨mv,lb,lo,lc,pb,po,pc,QQ,K,rfl,⟨ma,mn,mk,rfl⟩,_,_,_,_,_,_⟩:=hbv.opened hbus
  obtain ⟨ia,ic,rfl,ic1,ic2,ic3,_,hcell⟩:=hins.opened
  have HBV:=hid hbv;have HCELL:=hid hcell;have HB1:=hid hb1
  obtain ⟨il,hil2⟩:∃ x,x = ins.length:=⟨_,rfl⟩
  rw [← hil2] at HCELL ic1 ic3 hil ⊢
  have HIL:=hid hil2
  clear hbv hins hcell hb1 hil2 h
  go_upto_region 4 with fail
  obtain ⟨w2,hw2⟩:∃ W,W = w1.alloc (.cells #[.slice ma mn mk,.slice (some ⟨lb,lo,none⟩) 4 lc,.slice (some ⟨pb,po,none⟩) 3 pc] 27):=⟨_,rfl⟩
  obtain ⟨gb,hgb⟩:∃ g,g = w1.heap.size:=⟨_,rfl⟩
  have X0:=hid (show Bx w2 gb [.slice ma mn mk,.slice (some ⟨lb,lo,none⟩) 4 lc,.slice (some ⟨pb,po,none⟩) 3 pc] by rw [hw2,hgb];exact Bx.new w1 #[.slice ma mn mk,.slice (some ⟨lb,lo,none⟩) 4 lc,.slice (some ⟨pb,po,none⟩) 3 pc] 27 (by simp))
  have HB2:=hid (show Below w1.heap.size w1 w2 by rw [hw2];exact (Below.refl _ _).alloc (Nat.le_refl _) _)
  rw [← hw2,← hgb]
  have HGB:=hid hgb
  clear hw2 hgb
  go_upto_region 5 with (go_at_call 16;go_loud ((with_reducible refine (cycNew_any _).mono ?_));rintro e w3 hcop;obtain ⟨V,N,C,D,y0,y1,y2,y3,y4,m0,m1,m2,m3,m4,j0,j1,j2,j3,j4,hE,rfl,hr,hb3⟩:=hcop.sl;have HE:=hid hE;have HR:=hid hr;have HB3:=hid hb3;clear hcop hE hr hb3)
  obtain ⟨w4,hw4⟩:∃ W,W = w3.alloc (.cells #[.slice y0 m0 j0,.slice y1 m1 j1,.slice y2 m2 j2,.slice y3 m3 j3,.slice y4 m4 j4] 39):=⟨_,rfl⟩
  obtain ⟨gs,hgs⟩:∃ g,g = w3.heap.size:=⟨_,rfl⟩
  have hb4:Below w3.heap.size w3 w4:=by rw [hw4];exact (Below.refl _ _).alloc (Nat.le_refl _) _
  have HS:=hid (show CyBox w4 gs cy0 from CyBox.new HR.out hb4 (by omega) (by
   obtain ⟨e0,e1,e2,e3,e4⟩:=HE.out
   rw [e0,e1,e2,e3,e4,hw4,hgs];exact Bx.new w3 #[.slice y0 m0 j0,.slice y1 m1 j1,.slice y2 m2 j2,.slice y3 m3 j3,.slice y4 m4 j4] 39 (by simp)))
  have X04:=hid ((X0.out.below HB3.out X0.out.lt).below hb4 (by have:=X0.out.lt;have:=HB3.out.size;omega))
  have HB4:=hid ((HB2.out.trans (HB3.out.mono HB2.out.size)).trans (hb4.mono (Nat.le_trans HB2.out.size HB3.out.size)))
  have hgg:gb < gs:=by have:=X0.out.lt;have:=HB3.out.size;omega
  have h1s:w1.heap.size ≤ gs:=by have:=HB2.out.size;have:=HB3.out.size;omega
  rw [← hw4,← hgs]
  clear hw4 hgs hb4
  go_wp2_with fail
  go_loopw [6] (fun i wr => ∃ k:Nat,i = .int .i64 k ∧ k ≤ il ∧ CyBox wr gs (runC c (ins.take k) cy0) ∧ Bx wr gb [.slice ma mn mk,.slice (some ⟨lb,lo,none⟩) 4 lc,.slice (some ⟨pb,po,none⟩) 3 pc] ∧ Below w1.heap.size w1 wr) (fun i _ => il - (intOf i).toNat)
  case atStart => exact ⟨0,rfl,Nat.zero_le _,by simpa [runC] using HS.out,X04.out,HB4.out⟩
  case round =>
   clear HS X04 HB4 HE HR
   obtain ⟨k,rfl,hk,hs,hx0,hbr⟩:=hrel
   have HS:=hid hs;have X:=hid hx0;have HBR:=hid hbr
   have HG:=hid (show Good c (runC c (ins.take k) cy0) from good_run hbus _ (good_zero c))
   obtain ⟨wo,hwo⟩:∃ W,W = wr:=⟨_,rfl⟩
   subst hwo
   clear hs hx0 hbr
   by_cases hlt:k < il
   ·have hki:(k:Int) < (il:Int):=by omega
    obtain ⟨b,off,rfl,hbB,hrow⟩:=HCELL.out (by omega)
    obtain ⟨ra,rc,ta,tc,sa,sc,hiv,c0,c1,c2⟩:=hrow k hlt
    obtain ⟨st,hst⟩:∃ s,s = runC c (ins.take k) cy0:=⟨_,rfl⟩
    have HSN:=hid (show runC c (ins.take (k + 1)) cy0 = cyc c (ins.getD k default) st by rw [hst];exact runC_snoc c ins k (by rw [← HIL.out];exact hlt) cy0)
    rw [← hst] at HS HG
    obtain ⟨z0,z1,z2,z3,z4,n0,n1,n2,n3,n4,k0,k1,k2,k3,k4,P,Q,hx,hv⟩:=HS.out.view hbus HG.out
    obtain ⟨t0,t1,t2,t3,t4⟩:=hx.five.1
    obtain ⟨b0,b1,b2⟩:=X.out.three.1
    rw [← HBR.out.cell (p:=⟨b,_,none⟩) hbB] at c0 c1 c2
    go_upto_region 8 with fail
    obtain ⟨w9,hw9⟩:∃ w9,w9 = wo.drew:=⟨_,rfl⟩
    have hb9:Below wo.heap.size wo w9:=by rw [hw9];exact (Below.refl _ _).drew
    have hz9:w9.heap.size = wo.heap.size:=by rw [hw9];rfl
    have HST:=hid (show Calls Tryz.prog 17 #[.agg #[.slice ma mn mk,.slice (some ⟨lb,lo,none⟩) 4 lc,.slice (some ⟨pb,po,none⟩) 3 pc],.agg #[.slice z0 n0 k0,.slice z1 n1 k1,.slice z2 n2 k2,.slice z3 n3 k3,.slice z4 n4 k4],.agg #[.slice ra 3 rc,.slice ta 4 tc,.slice sa 3 sc]] w9 (CopP (cyc c (ins.getD k default) st) w9) from
     cycStep_any hbus (B:=wo.heap.size) (((HBV.out.below HBR.out).mono HBR.out.size).below hb9) (hv.below hb9) (((hiv.below HBR.out).mono HBR.out.size).below hb9) (by omega) HG.out)
    have HS9:=hid (HS.out.below hb9)
    have HB9:=hid hb9;have HZ9:=hid hz9
    have X9:=hid (X.out.below hb9 X.out.lt)
    refine wp_region_still_tail 6 (by kernel_rfl) (by kernel_rfl) ?_
    change wpStill Tryz.prog _ wo.drew (fun a' => wpList Tryz.prog _ _ _ a' wo.drew) _ _
    rw [← hw9]
    have kc:∀ {p:Addr} {v:Value},wo.cell? p = some v → w9.cell? p = some v:=fun h => by rw [hw9];exact h
    replace t0:=kc t0;replace t1:=kc t1;replace t2:=kc t2;replace t3:=kc t3;replace t4:=kc t4;replace b0:=kc b0;replace b1:=kc b1;replace b2:=kc b2;replace c0:=kc c0;replace c1:=kc c1;replace c2:=kc c2
    clear hw9 kc hb9 hx hv hiv hz9 hrow
    simp only [List.take_succ_cons,List.take_zero,List.drop_succ_cons,List.drop_zero]
    repeat still_step
    refine wpStill_nil ?_
    clear t0 t1 t2 t3 t4 b0 b1 b2 c0 c1 c2
    go_upto_region 9 with (go_at_call 17;go_loud ((with_reducible refine (HST.out).mono ?_));rintro e wa hcop;obtain ⟨z0,z1,z2,z3,z4,n0,n1,n2,n3,n4,k0,k1,k2,k3,k4,rfl,⟨_,_,_,_,_,hxa⟩,hba,hsb⟩:=hcop.store HS9.out;obtain ⟨⟨q0,q1,q2,q3,q4⟩,f0,f1,f2,f3,f4⟩:=hxa.five;have hrl:=hxa.lt;have HBA:=hid hba;have HSB:=hid hsb;clear hcop hxa hba hsb)
    clear q0 q1 q2 q3 q4 f0 f1 f2 f3 f4 hrl
    obtain ⟨wb,hwb⟩:∃ W,W = ((((wa.setCell ⟨gs,0,none⟩ (.slice z0 n0 k0)).setCell ⟨gs,1,none⟩ (.slice z1 n1 k1)).setCell ⟨gs,2,none⟩ (.slice z2 n2 k2)).setCell ⟨gs,3,none⟩ (.slice z3 n3 k3)).setCell ⟨gs,4,none⟩ (.slice z4 n4 k4):=⟨_,rfl⟩
    rw [← hwb] at HSB
    rw [← hwb]
    have XB:=hid (show Bx wb gb [.slice ma mn mk,.slice (some ⟨lb,lo,none⟩) 4 lc,.slice (some ⟨pb,po,none⟩) 3 pc] from (X9.out.below HBA.out X9.out.lt).kept (by rw [hwb];exact put5_other _ (by omega)))
    have HBB:=hid (show Below w1.heap.size w1 wb by
     have h9:=(HBR.out.trans (HB9.out.mono HBR.out.size)).trans (HBA.out.mono (by have:=HBR.out.size;have:=HZ9.out;omega))
     rw [hwb];exact ((((h9.setCell (p:=⟨gs,_,none⟩) h1s _).setCell (p:=⟨gs,_,none⟩) h1s _).setCell (p:=⟨gs,_,none⟩) h1s _).setCell (p:=⟨gs,_,none⟩) h1s _).setCell (p:=⟨gs,_,none⟩) h1s _)
    have HG2:=hid (good_step hbus (inp:=ins.getD k default) HG.out)
    obtain ⟨st2,hst2⟩:∃ s,s = cyc c (ins.getD k default) st:=⟨_,rfl⟩
    rw [← hst2] at HSB HG2 HSN
    clear hwb hst2 HS HST HS9 HBA HB9 HZ9 X9
    obtain ⟨u0,u1,u4,v0,v1,l0,l1,l4,pg,po2,pc2,tg,tp,tc,P2,Q2,hx2,hcv,hpr,_,hpf,_⟩:=HSB.out.rows hbus HG2.out
    obtain ⟨t0,t1,t2,t3,t4⟩:=hx2.five.1
    have HPR:=hid hpr;have HPF:=hid hpf;have HCV:=hid hcv;have HT2:=hid t2
    obtain ⟨b0,b1,b2⟩:=XB.out.three.1
    have HPX:=hid b2
    have HBVB:=hid ((HBV.out.below HBB.out).mono HBB.out.size)
    have HK:=hid (show ∀ nd,∀ {p:Addr} {v:Value},wb.cell? p = some v → (wb.drewN nd).cell? p = some v from fun _ {_ _} h => h)
    clear hx2 hcv hpr hpf t0 t1 t3 t4 b0 b1 b2 t2
    go_wp2_with fail
    go_loopw [7] (fun i wr => ∃ m:Nat,i = .int .i64 m ∧ m ≤ 3 ∧ ∃ nd,wr = wb.drewN nd) (fun i _ => 3 - (intOf i).toNat)
    case atStart => exact ⟨0,by go_num,Nat.zero_le _,0,rfl⟩
    case round =>
     obtain ⟨m,rfl,hm,nd,hnd⟩:=hrel
     have t2:=HK.out nd HT2.out
     rw [← hnd] at t2
     have HND:=hid hnd
     clear hnd
     by_cases hlt2:m < 3
     ·have hmi:(m:Int) < 3:=by omega
      obtain ⟨qa,qc,oa,oc,he⟩:=HPF.out m hlt2
      have hp5:=HPR.out m hlt2
      have ho:=HCV.out.o m hlt2
      rw [he] at hp5 ho
      have p2:=hp5 2 (by omega)
      simp only [rowPS,sl,List.getElem?_cons_zero,List.getElem?_cons_succ] at p2 ho
      have p3:=HK.out nd p2
      rw [← HND.out] at p3
      obtain ⟨ol,hol⟩:∃ l,l = (st2.ports m).out:=⟨_,rfl⟩
      have HPG:=hid (HG2.out.p m hlt2)
      have HOL:=hid hol
      rw [← hol] at ho p3
      obtain ⟨oa2,oc2,he3,_,_,on2,_,hoc⟩:=ho.opened
      simp only [Value.slice.injEq,true_and] at he3
      obtain ⟨rfl,rfl⟩:=he3
      have HOC:=hid hoc
      obtain ⟨on,hon⟩:∃ x,x = ol.length:=⟨_,rfl⟩
      rw [← hon] at p3 on2 HOC
      have HON:=hid hon
      clear he hp5 ho p2 hoc hon hol
      go_wp2_with fail
      go_loopw [9] (fun i wr => ∃ x:Nat,i = .int .i64 x ∧ x ≤ on ∧ ∃ nd,wr = wb.drewN nd) (fun i _ => on - (intOf i).toNat)
      case atStart => exact ⟨0,by go_num,Nat.zero_le _,nd,HND.out⟩
      case round =>
       clear t2 p3 HND
       obtain ⟨x,rfl,hx,nd,hnd⟩:=hrel
       have HND:=hid hnd
       clear hnd
       by_cases hlt3:x < on
       ·have hxi:(x:Int) < (on:Int):=by omega
        go_wp2_with fail
        go_loopw [10] (fun i wr => ∃ y:Nat,i = .int .i64 y ∧ y ≤ x ∧ ∃ nd,wr = wb.drewN nd) (fun i _ => x - (intOf i).toNat)
        case atStart => exact ⟨0,by go_num,Nat.zero_le _,nd,HND.out⟩
        case round =>
         clear HND
         obtain ⟨y,rfl,hy,nd,hnd⟩:=hrel
         by_cases hlt4:y < x
         ·have hyi:(y:Int) < (x:Int):=by omega
          have hyi2:(y:Int) < (on:Int):=by omega
          have kd:∀ {p:Addr} {v:Value},wb.cell? p = some v → wr.cell? p = some v:=fun h => by rw [hnd];exact HK.out nd h
          have HWX:=hid hnd
          obtain ⟨ob,oo,rfl,_,hoc⟩:=HOC.out (by omega)
          obtain ⟨_,x1,x2⟩:=hoc x hlt3
          obtain ⟨_,y1,y2⟩:=hoc y (by omega)
          obtain ⟨jx,hjx⟩:∃ j,j = ol.getD x default:=⟨_,rfl⟩
          obtain ⟨jy,hjy⟩:∃ j,j = ol.getD y default:=⟨_,rfl⟩
          have mx:jx ∈ (st2.ports m).out:=by rw [hjx,← HOL.out];exact getD_mem (by rw [← HON.out];exact hlt3)
          have my:jy ∈ (st2.ports m).out:=by rw [hjy,← HOL.out];exact getD_mem (by rw [← HON.out];omega)
          rw [← hjx] at x1 x2
          rw [← hjy] at y1 y2
          have hnx:=HPG.out.nx
          have nx:=(HPG.out.o jx mx).2.2
          have ny:=(HPG.out.o jy my).2.2
          have hoi:=HPG.out.oi jx mx jy my
          obtain ⟨mv,lb,lo,lc,pb,po,pc,QQ,K,hE,_,_,_,_,_,hpc,hrq⟩:=HBVB.out.opened hbus
          simp only [Value.agg.injEq,Array.mk.injEq,List.cons.injEq,Value.slice.injEq,Option.some.injEq,Addr.mk.injEq,and_true,true_and] at hE
          obtain ⟨rfl,⟨⟨rfl,rfl⟩,rfl⟩,⟨rfl,rfl⟩,rfl⟩:=hE
          have hpc:=hpc m hlt2
          have hrq:=hrq m hlt2
          obtain ⟨qa,qc,he,_,_,_,_,hq⟩:=hrq.opened
          obtain ⟨qb,qo,rfl,hqB,hqr⟩:=hq (by omega)
          simp only [Value.slice.injEq] at he
          obtain ⟨he1,_,he3⟩:=he
          rw [he1,he3] at hpc
          obtain ⟨_,_,_,_,_,r0,_⟩:=hqr jx.n (by omega)
          obtain ⟨_,_,_,_,_,s0,_⟩:=hqr jy.n (by omega)
          obtain ⟨pl,hpl⟩:∃ x,x = (c.prog m).length:=⟨_,rfl⟩
          rw [← hpl] at hpc hnx
          have i2:(jx.n:Int) < (pl:Int):=by omega
          have i3:(jy.n:Int) < (pl:Int):=by omega
          obtain ⟨ia,hia⟩:∃ x,x = ((c.prog m).getD jx.n default).id:=⟨_,rfl⟩
          obtain ⟨ib,hib⟩:∃ x,x = ((c.prog m).getD jy.n default).id:=⟨_,rfl⟩
          replace hoi:ia = ib → jx.left = jy.left:=by rw [hia,hib];exact hoi
          rw [← hia] at r0;rw [← hib] at s0
          replace x1:=kd x1;replace x2:=kd x2;replace y1:=kd y1;replace y2:=kd y2;replace r0:=kd r0;replace s0:=kd s0;replace hpc:=kd hpc
          have b2:=kd HPX.out
          obtain ⟨lx,hlx⟩:∃ x,x = jx.left:=⟨_,rfl⟩
          obtain ⟨ly,hly⟩:∃ x,x = jy.left:=⟨_,rfl⟩
          obtain ⟨ax,hax⟩:∃ x,x = jx.n:=⟨_,rfl⟩
          obtain ⟨ay,hay⟩:∃ x,x = jy.n:=⟨_,rfl⟩
          rw [← hlx] at x2 hoi;rw [← hly] at y2 hoi;rw [← hax] at x1 r0 i2;rw [← hay] at y1 s0 i3
          clear hia hib hqr hrq hq hpl hjx hjy mx my hnx nx ny hoc kd hnd hlx hly hax hay
          go_upto_region 19 with fail
          by_cases hid3:ia = ib
          ·have q1:(ia == ib) = true:=by simp [hid3]
           have q2:((lx:Int) != (ly:Int)) = false:=by simp [hoi hid3]
           clear hoi hid3
           go_quiet (fail)
           go_wp2_with fail
           go_roundw
           case rel => exact ⟨y + 1,by go_num,by omega,by rw [HWX.out];first | exact ⟨_,rfl⟩ | exact ⟨nd + 1,rfl⟩ | exact ⟨_,World.drewN_drewN ..⟩ | exact ⟨_,by simp⟩⟩
           case measure => simp [intOf];omega
          ·have q1:(ia == ib) = false:=by simp [hid3]
           clear hoi hid3
           go_quiet (fail)
           go_wp2_with fail
           go_roundw
           case rel => exact ⟨y + 1,by go_num,by omega,by rw [HWX.out];first | exact ⟨_,rfl⟩ | exact ⟨nd + 1,rfl⟩ | exact ⟨_,World.drewN_drewN ..⟩ | exact ⟨_,by simp⟩⟩
           case measure => simp [intOf];omega
         ·obtain rfl:y = x:=by omega
          have hyy:decide ((y:Int) < (y:Int)) = false:=by simp
          have HND:=hid hnd
          clear hnd
          go_wp2_with fail
          go_roundw
          case rel => exact ⟨y + 1,by go_num,by omega,nd,HND.out⟩
          case measure => simp [intOf];omega
       ·obtain rfl:x = on:=by omega
        have hxx:decide ((x:Int) < (x:Int)) = false:=by simp
        go_wp2_with fail
        go_roundw
        case rel => exact ⟨m + 1,by go_num,by omega,nd,HND.out⟩
        case measure => simp [intOf];omega
     ·obtain rfl:m = 3:=by omega
      rw [show (((3:Nat)):Int) = (3:Int) from rfl]
      have HBN:=hid (show Below wb.heap.size wb (wb.drewN nd) from Below.draws (Below.refl _ _) nd)
      rw [← HND.out] at HBN
      go_wp2_with fail
      go_roundw
      case rel => exact ⟨k + 1,by go_num,by omega,by rw [HSN.out];exact HSB.out.below HBN.out,XB.out.below HBN.out XB.out.lt,HBB.out.trans (HBN.out.mono HBB.out.size)⟩
      case measure => simp [intOf];omega
   ·obtain rfl:k = il:=by omega
    have hki2:decide ((k:Int) < (k:Int)) = false:=by simp
    rw [show ins.take k = ins from List.take_of_length_le (by rw [HIL.out];exact Nat.le_refl _)] at HS HG
    obtain ⟨z0,z1,z2,z3,z4,n0,n1,n2,n3,n4,k0,k1,k2,k3,k4,P,Q,hx,hv⟩:=HS.out.view hbus HG.out
    obtain ⟨t0,t1,t2,t3,t4⟩:=hx.five.1
    obtain ⟨b0,b1,b2⟩:=X.out.three.1
    have HOK:=hid (cycOk_any hbus ((HBV.out.below HBR.out).mono HBR.out.size) hv (Nat.le_refl _) HG.out)
    clear hx hv
    go_wp2_with (first
     | (go_at_call 18;go_loud ((with_reducible refine (HOK.out).mono ?_));rintro e w8 ⟨rfl,hb8⟩;have HB8:=hid hb8;clear hb8 t0 t1 t2 t3 t4 b0 b1 b2)
     | (go_at_call 19;refine (crOk_any _).mono ?_;rintro e w9 ⟨rfl,rfl⟩))
    go_ret
    exact ⟨rfl,(HB1.out.trans (HBR.out.mono HB1.out.size)).trans (HB8.out.mono (Nat.le_trans HB1.out.size HBR.out.size))⟩
end Go.Proofs.YtghngenglefofaaGreat
namespace Go.Proofs.YtghngenglefofaaGreat
open Go.RowKit
open Go.ChangeShapes Go.WideShapes Go.ChangeAt
theorem ids_holds:Rows.FnCycIdsSaid :=
 OpenClaim.holds_of_wide 3 Tryz.f3 rfl rfl rfl rfl rfl rfl rfl ⟨rfl,rfl,rfl,rfl,rfl⟩ rfl rfl rfl rfl rfl (by kernel_rfl) Tryz.func3 (by kernel_rfl)
  (of_decide_eq_true (by kernel_rfl)) (by unfold Func.isWrapper;first | (rw [if_pos (by decide +kernel)];kernel_rfl) | (rw [if_neg (by decide +kernel)];exact ⟨rfl,rfl⟩))
  (fun os started H enc _ => code_lifted started enc 3 Tryz.f3 Rows.fnCycIdsSpec rfl (by kernel_rfl) Tryz.func3
   (ChangeSpec.witness6 (enc:=enc) (C:=Tryz.checked) false ⟨#[],#[.slice none 0 0],[]⟩ 8 (by kernel_rfl) (by kernel_rfl) (by kernel_rfl) (by kernel_rfl)) Tryz.params3 rfl (fun _ => ⟨rfl,rfl,rfl⟩) (ids_any drawPlay_any))
#print axioms ids_holds
end Go.Proofs.YtghngenglefofaaGreat
