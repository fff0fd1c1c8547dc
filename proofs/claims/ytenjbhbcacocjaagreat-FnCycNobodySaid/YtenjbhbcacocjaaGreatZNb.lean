/- For every code the law FnCycNobody returns true, and its argument reads behind the call as it read before. -/
import Derived.Test.YtenjbhbcacocjaaGreatGCw
import Derived.Test.YtenjbhbcacocjaaGreatGLb
import Derived.Test.YtenjbhbcacocjaaGreatGRow
set_option linter.unusedVariables false
set_option linter.unusedSimpArgs false
namespace Go.Proofs.YtenjbhbcacocjaaGreat
open Go.RowKit
attribute [local go_sem] mk3p mk3b
theorem nob_a {wo:World} {x y:Value}:NobD wo x y (.pointer (some ⟨wo.heap.size + 1,0,none⟩)) ((wo.alloc (.cells #[.slice none 0 0,.slice none 0 0,.slice none 0 0] 60)).alloc (.cells #[x,y,.slice (some ⟨wo.heap.size,0,none⟩) 3 3] 27)):=by
 have hb:=Bx.new wo #[.slice none 0 0,.slice none 0 0,.slice none 0 0] 60 (by simp)
 have h2:=Bx.new (wo.alloc (.cells #[.slice none 0 0,.slice none 0 0,.slice none 0 0] 60)) #[x,y,.slice (some ⟨wo.heap.size,0,none⟩) 3 3] 27 (by simp)
 have e:(wo.alloc (.cells #[.slice none 0 0,.slice none 0 0,.slice none 0 0] 60)).heap.size = wo.heap.size + 1:=by simp
 have h3:=hb.below ((Below.refl _ _).alloc (Nat.le_refl _) (.cells #[x,y,.slice (some ⟨wo.heap.size,0,none⟩) 3 3] 27)) hb.lt
 rw [e] at h2
 refine ⟨_,_,rfl,h2,by simp;omega,fun i hi => ?_,((Below.refl _ _).alloc (Nat.le_refl _) _).alloc (by simp) _⟩
 obtain ⟨⟨q0,q1,q2⟩,_⟩:=h3.three
 obtain rfl | rfl | rfl:i = 0 ∨ i = 1 ∨ i = 2:=by omega
 ·exact q0
 ·exact q1
 ·exact q2
theorem nob_b {wo:World} {x y:Value}:NobD wo x y (.pointer (some ⟨wo.heap.size,0,none⟩)) ((wo.alloc (.cells #[x,y,.slice (some ⟨wo.heap.size + 1,0,none⟩) 3 3] 27)).alloc (.cells #[.slice none 0 0,.slice none 0 0,.slice none 0 0] 60)):=by
 have hb:=Bx.new wo #[x,y,.slice (some ⟨wo.heap.size + 1,0,none⟩) 3 3] 27 (by simp)
 have h2:=Bx.new (wo.alloc (.cells #[x,y,.slice (some ⟨wo.heap.size + 1,0,none⟩) 3 3] 27)) #[.slice none 0 0,.slice none 0 0,.slice none 0 0] 60 (by simp)
 have e:(wo.alloc (.cells #[x,y,.slice (some ⟨wo.heap.size + 1,0,none⟩) 3 3] 27)).heap.size = wo.heap.size + 1:=by simp
 have h3:=hb.below ((Below.refl _ _).alloc (Nat.le_refl _) (.cells #[.slice none 0 0,.slice none 0 0,.slice none 0 0] 60)) hb.lt
 rw [e] at h2
 refine ⟨_,wo.heap.size + 1,rfl,h3,by simp,fun i hi => ?_,((Below.refl _ _).alloc (Nat.le_refl _) _).alloc (by simp) _⟩
 obtain ⟨⟨q0,q1,q2⟩,_⟩:=h2.three
 obtain rfl | rfl | rfl:i = 0 ∨ i = 1 ∨ i = 2:=by omega
 ·exact q0
 ·exact q1
 ·exact q2
theorem NobD.drew {wo w9:World} {x y s:Value} (h:NobD wo x y s w9):NobD wo x y s w9.drew:=by
 obtain ⟨gc,pq,e,hx,hl,hc,hb⟩:=h
 exact ⟨gc,pq,e,hx.below (Below.refl _ _).drew hx.lt,hl,hc,hb.drew⟩
set_option maxRecDepth 8000 in
set_option maxHeartbeats 16000000 in
theorem nobody_any (hdraw:DrawPl) (v:Value) (bs:List Nat) (B:Nat) (w:World) (h:Bytes w B v bs) (hB:B ≤ w.heap.size) :
    Calls Tryz.prog 6 #[v] w fun e w' => e = .returned (.bool true) ∧ Below w.heap.size w w':=by
  obtain ⟨ao,cap,rfl,hlc,hcap,hln,hni,hr⟩:=h.opened
  clear hr
  by_cases hbig:(1048576:Int) < (bs.length:Int)
  · go_enter Tryz.func6,Tryz.ntmps6
    go_wp2_with fail
    go_ret
    exact ⟨rfl,Below.refl _ _⟩
  · go_enter Tryz.func6,Tryz.ntmps6
    go_wp2_with fail
    refine (hdraw _ bs B w h hB).mono ?_
    rintro e w1 ⟨u,iv,c,ins,rfl,hbus,hbv,hins,hil,hb1⟩
    obtain ⟨mv,lb,lo,lc,pb,po,pc,QQ,K,rfl,⟨ma,mn,mk,rfl⟩,_,hlb,_,hlat,_,_⟩:=hbv.opened hbus
    have HLB:=hid hlb;have HLAT:=hid hlat
    clear hlb hlat
    obtain ⟨ia,ic,rfl,ic1,ic2,ic3,_,hcell⟩:=hins.opened
    have HBV:=hid hbv;have HINS:=hid hins;have HCELL:=hid hcell;have HB1:=hid hb1
    obtain ⟨il,hil2⟩:∃ x,x = ins.length:=⟨_,rfl⟩
    rw [← hil2] at HINS HCELL ic1 ic3 hil ⊢
    have HIL:=hid hil2
    clear hbv hins hcell hb1 hil2 h
    go_upto_region 4 with fail
    obtain ⟨w2,hw2⟩:∃ W,W = w1.alloc (.cells #[.slice ma mn mk,.slice (some ⟨lb,lo,none⟩) 4 lc,.slice (some ⟨pb,po,none⟩) 3 pc] 27):=⟨_,rfl⟩
    obtain ⟨gb,hgb⟩:∃ g,g = w1.heap.size:=⟨_,rfl⟩
    have X0:=hid (show Bx w2 gb [.slice ma mn mk,.slice (some ⟨lb,lo,none⟩) 4 lc,.slice (some ⟨pb,po,none⟩) 3 pc] by rw [hw2,hgb];exact Bx.new w1 #[.slice ma mn mk,.slice (some ⟨lb,lo,none⟩) 4 lc,.slice (some ⟨pb,po,none⟩) 3 pc] 27 (by simp))
    have HB2:=hid (show Below w1.heap.size w1 w2 by rw [hw2];exact (Below.refl _ _).alloc (Nat.le_refl _) _)
    rw [← hw2,← hgb]
    have HGB:=hid hgb
    clear hw2 hgb
    obtain ⟨b0,b1,b2⟩:=X0.out.three.1
    have hgbl:=X0.out.lt
    go_cut [5] from 16 to 21 (fun s9 w9 => NobD w2 (.slice ma mn mk) (.slice (some ⟨lb,lo,none⟩) 4 lc) s9 w9)
    case first =>
      go_region_with fail
      all_goals
        go_wp2_with fail
        go_meet
        first
          | with_reducible exact nob_a
          | with_reducible exact nob_b
          | with_reducible exact nob_a.drew
          | with_reducible exact nob_b.drew
          | trace_state
    case rest =>
      obtain ⟨gc,pq,rfl,hxc,hpq,hpc,hb3⟩:=hcut
      obtain ⟨w3,hw3⟩:∃ W,W = wc:=⟨_,rfl⟩
      subst hw3
      have XC:=hid hxc;have HPQ:=hid hpq;have HPC:=hid hpc
      have HB3:=hid (HB2.out.trans (hb3.mono HB2.out.size))
      have X3:=hid (X0.out.below hb3 X0.out.lt)
      clear hxc hpq hpc hb3 b0 b1 b2 hgbl
      go_upto_region 6 with fail
      obtain ⟨w4,hw4⟩:∃ W,W = w3.alloc (.cells #[] 44):=⟨_,rfl⟩
      have HQ0:=hid (show QI w1 ins w3.heap.size w4 (.slice (some ⟨w3.heap.size,0,none⟩) 0 0) 0 [] by rw [hw4];exact QI.zero (Owns.lit (Nat.le_refl _)))
      have HB34:=hid (show Below w3.heap.size w3 w4 by rw [hw4];exact (Below.refl _ _).alloc (Nat.le_refl _) _)
      rw [← hw4]
      clear hw4
      go_wp2_with fail
      go_loopw [6,7] (fun s i wr => ∃ k:Nat,i = .int .i64 k ∧ k ≤ il ∧ (∃ xs,QI w1 ins w3.heap.size wr s k xs) ∧ Below w3.heap.size w3 wr) (fun _ i _ => il - (intOf i).toNat)
      case atStart => exact ⟨0,by go_num,Nat.zero_le _,⟨[],HQ0.out⟩,HB34.out⟩
      case round =>
        clear HQ0 HB34
        obtain ⟨k,rfl,hk,⟨xs,hq⟩,hbr⟩:=hrel
        have HQ:=hid hq;have HBR:=hid hbr
        have HBW:=hid (HB3.out.trans (hbr.mono HB3.out.size))
        clear hq hbr
        by_cases hlt:k < il
        · have hki:(k:Int) < (il:Int):=by omega
          obtain ⟨b,off,rfl,hbB,hrow⟩:=HCELL.out (by omega)
          obtain ⟨ra,rc,ta,tc,sa,sc,hiv,c0,c1,_⟩:=hrow k hlt
          rw [← HBW.out.cell (p:=⟨b,_,none⟩) hbB] at c0 c1
          have HIV:=hid hiv
          have hb3:b < w3.heap.size:=Nat.lt_of_lt_of_le hbB HB3.out.size
          have h3r:w3.heap.size ≤ wr.heap.size:=HBR.out.size
          clear hrow hiv
          go_upto_region 9 with fail
          obtain ⟨CC,hCC⟩:∃ CC:List Value → World → Prop,CC = qiC wr w3.heap.size u6 xs (.slice ra 3 rc) (.slice ta 4 tc):=⟨_,rfl⟩
          have hC0:CC [] wr.drew:=by rw [hCC];exact (Below.refl _ _).drew
          have hTC:∀ us W,CC us W → Below w3.heap.size wr W:=by rw [hCC];exact fun us W h => qiC_below h3r h
          have HCC:=hid hCC
          have hne:Nonempty (Ph CC):=⟨⟨([],wr.drew),hC0⟩⟩
          have pc:∀ {o:Nat} {v:Value},wr.cell? ⟨b,o,none⟩ = some v → ∀ x:Ph CC,x.1.2.cell? ⟨b,o,none⟩ = some v:=fun hc x => ((hTC _ _ x.2).cell (p:=⟨b,_,none⟩) hb3).trans hc
          replace c0:=pc c0;replace c1:=pc c1
          have H3R:=hid h3r
          clear hCC hTC pc h3r hb3
          refine wp_region_flow CC [(11,false),(12,false),(13,false),(14,false),(15,false)] [] (by kernel_rfl) (by kernel_rfl) hC0 ?_
          repeat (
            (with_reducible refine wq1_q ⟨rfl,rfl⟩ (fun K hK => ?_))
            go_simp
            first
              | ((with_reducible refine hK _ ?_);clear hK K)
              | ((with_reducible refine of_ite_neg (by simp [undef]) (hK _ ?_));clear hK K)
              | (apply Exists.intro
                 (with_reducible refine ⟨fun _ => ?_,hK _ ?_⟩)
                 (fail)
                 clear hK K))
          iterate 5 refine wq1_v rfl ?_
          refine wq1_nil ?_
          clear c0 c1 hne
          refine wq2_v _ rfl rfl ?_ ?_
          · intro W hW KA hKA
            rw [HCC.out] at hW hKA
            have hbW:Below wr.heap.size wr W:=hW
            go_simp
            exact hKA _ _ _ ⟨hbW.alloc hbW.size _,W.heap.size,rfl,hbW.size,by simp,fun j hj => by
              obtain rfl | rfl | rfl:j = 0 ∨ j = 1 ∨ j = 2:=by omega
              all_goals simp [go_sem]⟩ rfl
          intro v0 KA hKA
          go_simp
          refine hKA _ ?_
          clear hKA KA
          refine wq2_v _ rfl rfl ?_ ?_
          · intro W hW KA hKA
            rw [HCC.out] at hW hKA
            obtain ⟨hb,g,rfl,hg1,hg2,hgc⟩:=hW
            go_simp
            exact hKA _ _ _ ⟨hb,g,rfl,hg1,hg2,hgc⟩ rfl
          intro v1 KA hKA
          go_simp
          refine hKA _ ?_
          clear hKA KA
          refine wq2_v _ rfl rfl ?_ ?_
          · intro W hW KA hKA
            rw [HCC.out] at hW hKA
            obtain ⟨hb,g,rfl,hg1,hg2,hgc⟩:=hW
            go_simp
            exact hKA _ _ _ ⟨hb.alloc hb.size _,g,W.heap.size,rfl,by simp [go_sem],by simp [go_sem],by simp [go_sem],hg1,by simp;omega,fun j hj => (World.cell?_alloc_lt _ _ _ hg2).trans (hgc j hj)⟩ rfl
          intro v2 KA hKA
          go_simp
          refine hKA _ ?_
          clear hKA KA
          refine wq2_v _ rfl rfl ?_ ?_
          · intro W hW KA hKA
            rw [HCC.out] at hW hKA
            obtain ⟨hb,g,bb,rfl,d0,d1,d2,hg1,hg2,hgc⟩:=hW
            have hq:=HQ.out.below hb
            have hxl:=hq.2.1
            have h3:=H3R.out
            refine wp_pushH elem_In inRowQ inRowQ_len (.slice ra 3 rc,.slice ta 4 tc,.slice (some ⟨g,0,none⟩) 3 3) (by simp [inRowQ,Value.oneCell']) W _ _ rfl w3.heap.size _ xs rfl hq.1 bb 1 rfl (fun j u hj => ?_) (by omega) (by omega) (Nat.le_trans h3 hb.size) ?_
            · match j,hj with
              | 0,hj => simp only [inRowQ,List.getElem?_cons_zero,Option.some.injEq] at hj;subst hj;exact d0
              | 1,hj => simp only [inRowQ,List.getElem?_cons_zero,List.getElem?_cons_succ,Option.some.injEq] at hj;subst hj;exact d1
              | 2,hj => simp only [inRowQ,List.getElem?_cons_zero,List.getElem?_cons_succ,Option.some.injEq] at hj;subst hj;exact d2
              | _ + 3,hj => simp [inRowQ] at hj
            · intro v' w' ho hkp hz hbb hv'
              exact hKA _ _ _ ⟨W,g,hb,⟨hg1,hg2,hgc⟩,ho,hkp,hz,hbb,hv'⟩ rfl
          intro v3 KA hKA
          go_simp
          refine hKA _ ?_
          clear hKA KA
          refine wq2_v _ rfl rfl ?_ ?_
          · intro W hW KA hKA
            rw [HCC.out] at hW hKA
            have hp:qiP wr w3.heap.size u6 xs (.slice ra 3 rc) (.slice ta 4 tc) v3 W:=hW
            go_simp
            exact hKA _ _ _ hp rfl
          intro v4 KA hKA
          go_simp
          refine hKA _ ?_
          clear hKA KA
          refine wq2_nil ?_
          intro wd hwd
          rw [HCC.out] at hwd
          obtain ⟨W0,g,hb0,⟨hg1,hg2,hgc⟩,ho,hkp,hz,hbb,hv'⟩:=(show qiP wr w3.heap.size u6 xs (.slice ra 3 rc) (.slice ta 4 tc) v4 wd from hwd)
          have HQ2:=hid (QI.snoc (HQ.out.below hb0) HIV.out ho hkp hz hv' hg2 (fun e => by have:=(OwnR.lt HQ.out.1 g e).2;omega) hgc)
          have HBD:=hid (HBR.out.trans ((hb0.mono H3R.out).trans hbb))
          clear hwd hC0 hb0 hg1 hg2 hgc ho hkp hz hbb hv'
          go_wp2_with fail
          go_roundw
          case rel => exact ⟨k + 1,by go_num,by omega,⟨_,HQ2.out⟩,HBD.out⟩
          case measure => simp [intOf];omega
        · obtain rfl:k = il:=by omega
          have hki2:decide ((k:Int) < (k:Int)) = false:=by simp
          have HDB:=hid (hbus.none)
          have hbv:=(HBV.out.below HBW.out).mono HBW.out.size
          have HBN:=hid (BusV.nobody hbv (Nat.lt_of_lt_of_le HPQ.out HBR.out.size) (fun i hi => (HBR.out.cell (p:=⟨pq,i,none⟩) HPQ.out).trans (HPC.out i hi)))
          have HBC:=hid hbv
          have HI1:=hid ((HINS.out.below HBW.out).mono HBW.out.size)
          have HI2:=hid (show Ins wr wr.heap.size u6 (ins.map qIn) from QI.ins (by rw [← HIL.out];exact HQ.out) (by rw [← HIL.out];omega) HBW.out)
          have HR1:=hid (show runC ⟨c.ms,c.lat,[[],[],[]]⟩ ins cy0 = cy0 from run_idle ins fun inp _ w hw _ => by
            obtain rfl | rfl | rfl:w = 0 ∨ w = 1 ∨ w = 2:=by omega
            all_goals rfl)
          have HR2:=hid (show runC c (ins.map qIn) cy0 = cy0 from run_idle _ fun inp hi w hw hs => by
            obtain ⟨i,_,rfl⟩:=List.mem_map.1 hi
            obtain rfl | rfl | rfl:w = 0 ∨ w = 1 ∨ w = 2:=by omega
            all_goals simp [qIn] at hs)
          obtain ⟨b0,b1,b2⟩:=(X3.out.below HBR.out X3.out.lt).three.1
          obtain ⟨e0,e1,e2⟩:=(XC.out.below HBR.out XC.out.lt).three.1
          have HL1:=hid (show ins.length ≤ 300 by rw [← HIL.out];omega)
          have HL2:=hid (show (ins.map qIn).length ≤ 300 by rw [List.length_map,← HIL.out];omega)
          clear hbv
          go_upto_region 10 with fail
          obtain ⟨CC,hCC⟩:∃ CC:List Value → World → Prop,CC = fun us W => Below wr.heap.size wr W ∧ NC cy0 [2,3,4,8,9,10] us W:=⟨_,rfl⟩
          have hC0:CC [] wr.drew:=by rw [hCC];exact ⟨(Below.refl _ _).drew,NC.nil _ _ _⟩
          have hTC:∀ us W,CC us W → Below wr.heap.size wr W:=by rw [hCC];exact fun us W h => h.1
          have HCC:=hid hCC
          have hne:Nonempty (Ph CC):=⟨⟨([],wr.drew),hC0⟩⟩
          have pc:∀ {p:Addr} {v:Value},wr.cell? p = some v → ∀ x:Ph CC,x.1.2.cell? p = some v:=fun hc x => ((hTC _ _ x.2).cell (World.block_lt_of_cell? wr _ hc)).trans hc
          replace b0:=pc b0;replace b1:=pc b1;replace b2:=pc b2;replace e0:=pc e0;replace e1:=pc e1;replace e2:=pc e2
          clear hCC hTC pc
          refine wp_region_flow CC [(1,true),(2,true),(4,false),(6,false),(7,false),(8,true),(9,true),(10,true),(12,false),(14,false),(15,false),(16,true)] [] (by kernel_rfl) (by kernel_rfl) hC0 ?_
          repeat (
            (with_reducible refine wq1_q ⟨rfl,rfl⟩ (fun K hK => ?_))
            go_simp
            first
              | ((with_reducible refine hK _ ?_);clear hK K)
              | ((with_reducible refine of_ite_neg (by simp [undef]) (hK _ ?_));clear hK K)
              | (apply Exists.intro
                 (with_reducible refine ⟨fun _ => ?_,hK _ ?_⟩)
                 (fail)
                 clear hK K))
          refine wq1_x rfl (.bool true) (fun KA hKA => ?_)
          go_simp
          refine hKA _ ?_
          clear hKA KA
          refine wq1_x rfl (.bool true) (fun KA hKA => ?_)
          go_simp
          refine hKA _ ?_
          clear hKA KA
          repeat (
            (with_reducible refine wq1_q ⟨rfl,rfl⟩ (fun K hK => ?_))
            go_simp
            first
              | ((with_reducible refine hK _ ?_);clear hK K)
              | ((with_reducible refine of_ite_neg (by simp [undef]) (hK _ ?_));clear hK K)
              | (apply Exists.intro
                 (with_reducible refine ⟨fun _ => ?_,hK _ ?_⟩)
                 (fail)
                 clear hK K))
          refine wq1_v rfl ?_
          repeat (
            (with_reducible refine wq1_q ⟨rfl,rfl⟩ (fun K hK => ?_))
            go_simp
            first
              | ((with_reducible refine hK _ ?_);clear hK K)
              | ((with_reducible refine of_ite_neg (by simp [undef]) (hK _ ?_));clear hK K)
              | (apply Exists.intro
                 (with_reducible refine ⟨fun _ => ?_,hK _ ?_⟩)
                 (fail)
                 clear hK K))
          iterate 2 refine wq1_v rfl ?_
          refine wq1_x rfl (.bool true) (fun KA hKA => ?_)
          go_simp
          refine hKA _ ?_
          clear hKA KA
          refine wq1_x rfl (.bool true) (fun KA hKA => ?_)
          go_simp
          refine hKA _ ?_
          clear hKA KA
          refine wq1_x rfl (.bool true) (fun KA hKA => ?_)
          go_simp
          refine hKA _ ?_
          clear hKA KA
          repeat (
            (with_reducible refine wq1_q ⟨rfl,rfl⟩ (fun K hK => ?_))
            go_simp
            first
              | ((with_reducible refine hK _ ?_);clear hK K)
              | ((with_reducible refine of_ite_neg (by simp [undef]) (hK _ ?_));clear hK K)
              | (apply Exists.intro
                 (with_reducible refine ⟨fun _ => ?_,hK _ ?_⟩)
                 (fail)
                 clear hK K))
          refine wq1_v rfl ?_
          repeat (
            (with_reducible refine wq1_q ⟨rfl,rfl⟩ (fun K hK => ?_))
            go_simp
            first
              | ((with_reducible refine hK _ ?_);clear hK K)
              | ((with_reducible refine of_ite_neg (by simp [undef]) (hK _ ?_));clear hK K)
              | (apply Exists.intro
                 (with_reducible refine ⟨fun _ => ?_,hK _ ?_⟩)
                 (fail)
                 clear hK K))
          iterate 2 refine wq1_v rfl ?_
          refine wq1_x rfl (.bool true) (fun KA hKA => ?_)
          go_simp
          refine hKA _ ?_
          clear hKA KA
          repeat (
            (with_reducible refine wq1_q ⟨rfl,rfl⟩ (fun K hK => ?_))
            go_simp
            first
              | ((with_reducible refine hK _ ?_);clear hK K)
              | ((with_reducible refine of_ite_neg (by simp [undef]) (hK _ ?_));clear hK K)
              | (apply Exists.intro
                 (with_reducible refine ⟨fun _ => ?_,hK _ ?_⟩)
                 (fail)
                 clear hK K))
          refine wq1_nil ?_
          clear b0 b1 b2 e0 e1 e2 hne
          refine wq2_x _ rfl rfl ?_ ?_
          · intro W hW KA hKA
            rw [HCC.out] at hW hKA
            go_simp
            (with_reducible refine (busOk_good HDB.out (HBN.out.below hW.1) hW.1.size).mono ?_)
            rintro e w'' ⟨rfl,h2⟩
            go_simp
            exact hKA (.bool true) _ _ ⟨hW.1.trans (h2.mono hW.1.size),(hW.2.below h2).snoc (fun h => by simp at h)⟩ rfl rfl
          intro _
          refine wq2_x _ rfl rfl ?_ ?_
          · intro W hW KA hKA
            rw [HCC.out] at hW hKA
            go_simp
            exact hKA (.bool true) _ _ ⟨hW.1,hW.2.snoc (fun h => by simp at h)⟩ rfl rfl
          intro _
          refine wq2_v _ rfl rfl ?_ ?_
          · intro W hW KA hKA
            rw [HCC.out] at hW hKA
            go_simp
            (with_reducible refine (cycNew_any W).mono ?_)
            rintro e w'' hcop
            obtain ⟨d0,d1,d2,d3,d4,m0,m1,m2,m3,m4,j0,j1,j2,j3,j4,P', Q', rfl,hcv2,h2⟩:=CopP.view hbus (good_zero _) hcop
            go_simp
            exact hKA _ _ _ ⟨hW.1.trans (h2.mono hW.1.size),(hW.2.below h2).snoc (fun _ => ⟨_,_,_,_,_,_,_,_,_,_,_,_,_,_,_,_,_,rfl,hcv2⟩)⟩ rfl
          intro sv KA hKA
          go_simp
          refine hKA _ ?_
          clear hKA KA
          refine wq2_v _ rfl rfl ?_ ?_
          · intro W hW KA hKA
            rw [HCC.out] at hW hKA
            obtain ⟨b0,b1,b2,b3,b4,n0,n1,n2,n3,n4,k0,k1,k2,k3,k4,P,Q,rfl,hcv⟩:=hW.2 2 _ rfl (by simp)
            go_simp
            (with_reducible refine (cycRun_any HDB.out ((HBN.out.below hW.1).mono hW.1.size) hcv ((HI1.out.below hW.1).mono hW.1.size) (Nat.le_refl _) (good_zero _) HL1.out).mono ?_)
            rintro e w'' hcop
            rw [HR1.out] at hcop
            obtain ⟨d0,d1,d2,d3,d4,m0,m1,m2,m3,m4,j0,j1,j2,j3,j4,P', Q', rfl,hcv2,h2⟩:=CopP.view HDB.out (good_zero _) hcop
            go_simp
            exact hKA _ _ _ ⟨hW.1.trans (h2.mono hW.1.size),(hW.2.below h2).snoc (fun _ => ⟨_,_,_,_,_,_,_,_,_,_,_,_,_,_,_,_,_,rfl,hcv2⟩)⟩ rfl
          intro sv KA hKA
          go_simp
          refine hKA _ ?_
          clear hKA KA
          refine wq2_v _ rfl rfl ?_ ?_
          · intro W hW KA hKA
            rw [HCC.out] at hW hKA
            go_simp
            (with_reducible refine (cycNew_any W).mono ?_)
            rintro e w'' hcop
            obtain ⟨d0,d1,d2,d3,d4,m0,m1,m2,m3,m4,j0,j1,j2,j3,j4,P', Q', rfl,hcv2,h2⟩:=CopP.view hbus (good_zero _) hcop
            go_simp
            exact hKA _ _ _ ⟨hW.1.trans (h2.mono hW.1.size),(hW.2.below h2).snoc (fun _ => ⟨_,_,_,_,_,_,_,_,_,_,_,_,_,_,_,_,_,rfl,hcv2⟩)⟩ rfl
          intro sv KA hKA
          go_simp
          refine hKA _ ?_
          clear hKA KA
          refine wq2_x _ rfl rfl ?_ ?_
          · intro W hW KA hKA
            rw [HCC.out] at hW hKA
            obtain ⟨b0,b1,b2,b3,b4,n0,n1,n2,n3,n4,k0,k1,k2,k3,k4,P,Q,rfl,hcv⟩:=hW.2 3 _ rfl (by simp)
            obtain ⟨d0,d1,d2,d3,d4,m0,m1,m2,m3,m4,j0,j1,j2,j3,j4,P', Q', rfl,hcv2⟩:=hW.2 4 _ rfl (by simp)
            go_simp
            (with_reducible refine (crCyc_same hcv hcv2 (Nat.le_refl _) (good_zero c) hbus).mono ?_)
            rintro e w'' ⟨rfl,h2⟩
            go_simp
            exact hKA (.bool true) _ _ ⟨hW.1.trans (h2.mono hW.1.size),(hW.2.below h2).snoc (fun h => by simp at h)⟩ rfl rfl
          intro _
          refine wq2_x _ rfl rfl ?_ ?_
          · intro W hW KA hKA
            rw [HCC.out] at hW hKA
            go_simp
            exact hKA (.bool true) _ _ ⟨hW.1,hW.2.snoc (fun h => by simp at h)⟩ rfl rfl
          intro _
          refine wq2_x _ rfl rfl ?_ ?_
          · intro W hW KA hKA
            rw [HCC.out] at hW hKA
            go_simp
            exact hKA (.bool true) _ _ ⟨hW.1,hW.2.snoc (fun h => by simp at h)⟩ rfl rfl
          intro _
          refine wq2_v _ rfl rfl ?_ ?_
          · intro W hW KA hKA
            rw [HCC.out] at hW hKA
            go_simp
            (with_reducible refine (cycNew_any W).mono ?_)
            rintro e w'' hcop
            obtain ⟨d0,d1,d2,d3,d4,m0,m1,m2,m3,m4,j0,j1,j2,j3,j4,P', Q', rfl,hcv2,h2⟩:=CopP.view hbus (good_zero _) hcop
            go_simp
            exact hKA _ _ _ ⟨hW.1.trans (h2.mono hW.1.size),(hW.2.below h2).snoc (fun _ => ⟨_,_,_,_,_,_,_,_,_,_,_,_,_,_,_,_,_,rfl,hcv2⟩)⟩ rfl
          intro sv KA hKA
          go_simp
          refine hKA _ ?_
          clear hKA KA
          refine wq2_v _ rfl rfl ?_ ?_
          · intro W hW KA hKA
            rw [HCC.out] at hW hKA
            obtain ⟨b0,b1,b2,b3,b4,n0,n1,n2,n3,n4,k0,k1,k2,k3,k4,P,Q,rfl,hcv⟩:=hW.2 8 _ rfl (by simp)
            go_simp
            (with_reducible refine (cycRun_any hbus ((HBC.out.below hW.1).mono hW.1.size) hcv ((HI2.out.below hW.1).mono hW.1.size) (Nat.le_refl _) (good_zero _) HL2.out).mono ?_)
            rintro e w'' hcop
            rw [HR2.out] at hcop
            obtain ⟨d0,d1,d2,d3,d4,m0,m1,m2,m3,m4,j0,j1,j2,j3,j4,P', Q', rfl,hcv2,h2⟩:=CopP.view hbus (good_zero _) hcop
            go_simp
            exact hKA _ _ _ ⟨hW.1.trans (h2.mono hW.1.size),(hW.2.below h2).snoc (fun _ => ⟨_,_,_,_,_,_,_,_,_,_,_,_,_,_,_,_,_,rfl,hcv2⟩)⟩ rfl
          intro sv KA hKA
          go_simp
          refine hKA _ ?_
          clear hKA KA
          refine wq2_v _ rfl rfl ?_ ?_
          · intro W hW KA hKA
            rw [HCC.out] at hW hKA
            go_simp
            (with_reducible refine (cycNew_any W).mono ?_)
            rintro e w'' hcop
            obtain ⟨d0,d1,d2,d3,d4,m0,m1,m2,m3,m4,j0,j1,j2,j3,j4,P', Q', rfl,hcv2,h2⟩:=CopP.view hbus (good_zero _) hcop
            go_simp
            exact hKA _ _ _ ⟨hW.1.trans (h2.mono hW.1.size),(hW.2.below h2).snoc (fun _ => ⟨_,_,_,_,_,_,_,_,_,_,_,_,_,_,_,_,_,rfl,hcv2⟩)⟩ rfl
          intro sv KA hKA
          go_simp
          refine hKA _ ?_
          clear hKA KA
          refine wq2_x _ rfl rfl ?_ ?_
          · intro W hW KA hKA
            rw [HCC.out] at hW hKA
            obtain ⟨b0,b1,b2,b3,b4,n0,n1,n2,n3,n4,k0,k1,k2,k3,k4,P,Q,rfl,hcv⟩:=hW.2 9 _ rfl (by simp)
            obtain ⟨d0,d1,d2,d3,d4,m0,m1,m2,m3,m4,j0,j1,j2,j3,j4,P', Q', rfl,hcv2⟩:=hW.2 10 _ rfl (by simp)
            go_simp
            (with_reducible refine (crCyc_same hcv hcv2 (Nat.le_refl _) (good_zero c) hbus).mono ?_)
            rintro e w'' ⟨rfl,h2⟩
            go_simp
            exact hKA (.bool true) _ _ ⟨hW.1.trans (h2.mono hW.1.size),(hW.2.below h2).snoc (fun h => by simp at h)⟩ rfl rfl
          intro _
          refine wq2_nil ?_
          intro wd hwd
          rw [HCC.out] at hwd
          have HBE:=hid hwd.1
          clear hwd hC0
          go_wp2_with fail
          go_ret
          exact ⟨rfl,HB1.out.trans ((HBW.out.trans (HBE.out.mono HBW.out.size)).mono HB1.out.size)⟩
end Go.Proofs.YtenjbhbcacocjaaGreat
namespace Go.Proofs.YtenjbhbcacocjaaGreat
open Go.RowKit
open Go.ChangeShapes Go.WideShapes Go.ChangeAt
theorem nobody_holds:Rows.FnCycNobodySaid :=
 OpenClaim.holds_of_wide 6 Tryz.f6 rfl rfl rfl rfl rfl rfl rfl ⟨rfl,rfl,rfl,rfl,rfl⟩ rfl rfl rfl rfl rfl (by kernel_rfl) Tryz.func6 (by kernel_rfl)
  (of_decide_eq_true (by kernel_rfl)) (by unfold Func.isWrapper;first | (rw [if_pos (by decide +kernel)];kernel_rfl) | (rw [if_neg (by decide +kernel)];exact ⟨rfl,rfl⟩))
  (fun os started H enc _ => code_lifted started enc 6 Tryz.f6 Rows.fnCycNobodySpec rfl (by kernel_rfl) Tryz.func6
   (ChangeSpec.witness6 (enc:=enc) (C:=Tryz.checked) false ⟨#[],#[.slice none 0 0],[]⟩ 8 (by kernel_rfl) (by kernel_rfl) (by kernel_rfl) (by kernel_rfl)) Tryz.params6 rfl (fun _ => ⟨rfl,rfl,rfl⟩) (nobody_any drawPlay_any))
#print axioms nobody_holds
end Go.Proofs.YtenjbhbcacocjaaGreat
