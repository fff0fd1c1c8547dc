/- BusAlone of the reference. -/
import Derived.Test.YtenjbhbcacocjaaGreatGLc0
import Derived.Test.YtenjbhbcacocjaaGreatGGp
import Derived.Test.YtenjbhbcacocjaaGreatGCat
import Derived.Test.YtenjbhbcacocjaaGreatGKc
import Derived.Test.YtenjbhbcacocjaaGreatGFl
import Derived.Test.YtenjbhbcacocjaaGreatGCs
import Derived.Test.YtenjbhbcacocjaaGreatGQ1
import Derived.Test.YtenjbhbcacocjaaGreatGDr1
import Derived.Test.YtenjbhbcacocjaaGreatGMap1
import Derived.Test.YtenjbhbcacocjaaGreatGY1
import Derived.Test.YtenjbhbcacocjaaGreatGDo5
import Derived.Deep.RegionWith
import Derived.Deep.Cut
import Derived.Deep.CutRange
set_option linter.unusedVariables false
set_option linter.unusedSimpArgs false
namespace Go.Proofs.YtenjbhbcacocjaaGreat
open Go.RowKit
theorem Nats.ints {w:World} {B:Nat} {v:Value} {xs:List Nat} (h:Nats w B v xs) (hx:∀ x ∈ xs,x < 1000):Ints w B v (xs.map fun (x:Nat) => (x:Int)) :=
 ⟨by rw [List.map_map];exact h,fun x hx2 => by obtain ⟨y,hy,rfl⟩:=List.mem_map.1 hx2;have:=hx y hy;unfold I64;omega⟩
theorem CyV.rows {w:World} {B:Nat} {a0 a1 a2 a3 a4:Value} {st:Cy} {P:List PS} {Q:List SS} (hv:CyV w B a0 a1 a2 a3 a4 st P Q):∃ (d0 d1 d4:Option Addr) (c0 c1 c4 pg po pc tg tp tc:Nat),a0 = .slice d0 st.ws.length c0 ∧ a1 = .slice d1 st.hs.length c1 ∧ a2 = .slice (some ⟨pg,po,none⟩) 3 pc ∧ a3 = .slice (some ⟨tg,tp,none⟩) 4 tc ∧ a4 = .slice d4 st.told.length c4 ∧ pg < B ∧ tg < B ∧
  (∀ k,k < 3 → ∃ qa qc oa oc,w.cell? ⟨pg,po + k * 4,none⟩ = some (.int .i64 ((st.ports k).next:Nat)) ∧ w.cell? ⟨pg,po + k * 4 + 1,none⟩ = some (.slice qa (st.ports k).queue.length qc) ∧ w.cell? ⟨pg,po + k * 4 + 2,none⟩ = some (.slice oa (st.ports k).out.length oc) ∧ w.cell? ⟨pg,po + k * 4 + 3,none⟩ = some (.int .i64 ((st.ports k).last:Nat)) ∧ Nats w B (.slice qa (st.ports k).queue.length qc) (st.ports k).queue ∧ Jbs w B (.slice oa (st.ports k).out.length oc) (st.ports k).out) ∧
  (∀ k,k < 4 → ∃ qa qc oa oc,w.cell? ⟨tg,tp + k * 3,none⟩ = some (.slice qa (st.slaves k).pipe.length qc) ∧ w.cell? ⟨tg,tp + k * 3 + 1,none⟩ = some (.slice oa (st.slaves k).done.length oc) ∧ w.cell? ⟨tg,tp + k * 3 + 2,none⟩ = some (.int .i64 ((st.slaves k).last:Nat)) ∧ Jbs w B (.slice qa (st.slaves k).pipe.length qc) (st.slaves k).pipe ∧ JobsV w B (.slice oa (st.slaves k).done.length oc) (st.slaves k).done):=by
 obtain ⟨d0,c0,e0,_⟩:=hv.ws.opened
 obtain ⟨d1,c1,e1,_⟩:=hv.hs.opened
 obtain ⟨pg,po,pc,e2,_,_,hpg,hpc⟩:=hv.ps.at (by rw [hv.lp];omega)
 obtain ⟨tg,tp,tc,e3,_,_,htg,htc⟩:=hv.ss.at (by rw [hv.lq];omega)
 obtain ⟨d4,c4,e4,_⟩:=hv.told.cells
 rw [hv.lp] at e2 hpc
 rw [hv.lq] at e3 htc
 refine ⟨d0,d1,d4,c0,c1,c4,pg,po,pc,tg,tp,tc,e0,e1,e2,e3,e4,hpg,htg,fun k hk => ?_,fun k hk => ?_⟩
 ·have h1:=hv.pn k hk
  have h2:=hv.q k hk
  have h3:=hv.o k hk
  have h4:=hpc k default hk
  obtain ⟨x,hx⟩:∃ x,x = P.getD k default:=⟨_,rfl⟩
  rw [← hx] at h1 h2 h3 h4
  obtain ⟨nx,⟨qa,qn,qc⟩,⟨oa,on,oc⟩,la⟩:=x
  simp only [sl] at h1 h2 h3
  obtain rfl:=h2.len;obtain rfl:=h3.len
  have g0:=h4 0 (by omega);have g1:=h4 1 (by omega);have g2:=h4 2 (by omega);have g3:=h4 3 (by omega)
  rw [← h1.1,← h1.2]
  exact ⟨qa,qc,oa,oc,by simp only [rowPS,List.getElem?_cons_zero,List.getElem?_cons_succ] at g0;exact g0,by simp only [rowPS,List.getElem?_cons_zero,List.getElem?_cons_succ] at g1;exact g1,by simp only [rowPS,List.getElem?_cons_zero,List.getElem?_cons_succ] at g2;exact g2,by simp only [rowPS,List.getElem?_cons_zero,List.getElem?_cons_succ] at g3;exact g3,h2,h3⟩
 ·have h1:=hv.sn k hk
  have h2:=hv.p k hk
  have h3:=hv.d k hk
  have h4:=htc k default hk
  obtain ⟨x,hx⟩:∃ x,x = Q.getD k default:=⟨_,rfl⟩
  rw [← hx] at h1 h2 h3 h4
  obtain ⟨⟨qa,qn,qc⟩,⟨oa,on,oc⟩,la⟩:=x
  simp only [sl] at h1 h2 h3
  obtain rfl:=h2.len;obtain rfl:=h3.len
  have g0:=h4 0 (by omega);have g1:=h4 1 (by omega);have g2:=h4 2 (by omega)
  rw [← h1]
  exact ⟨qa,qc,oa,oc,by simp only [rowSS,List.getElem?_cons_zero,List.getElem?_cons_succ] at g0;exact g0,by simp only [rowSS,List.getElem?_cons_zero,List.getElem?_cons_succ] at g1;exact g1,by simp only [rowSS,List.getElem?_cons_zero,List.getElem?_cons_succ] at g2;exact g2,h2,h3⟩
set_option maxRecDepth 8000 in
set_option maxHeartbeats 16000000 in
theorem crCyc_same {c:Cfg} {w:World} {B:Nat} {a0 a1 a2 a3 a4 b0 b1 b2 b3 b4:Value} {st:Cy} {P P':List PS} {Q Q':List SS} (hv:CyV w B a0 a1 a2 a3 a4 st P Q) (hu:CyV w B b0 b1 b2 b3 b4 st P' Q') (hB:B ≤ w.heap.size) (hg:Good c st) (hb:Bus c) :
  Calls Tryz.prog 25 #[.agg #[a0,a1,a2,a3,a4],.agg #[b0,b1,b2,b3,b4]] w fun e w' => e = .returned (.bool true) ∧ Below w.heap.size w w':=by
 obtain ⟨d0,d1,d4,c0,c1,c4,pg,po,pc,tg,tp,tc,rfl,rfl,rfl,rfl,rfl,hpg,htg,hp,hs⟩:=hv.rows
 obtain ⟨e0,e1,e4,f0,f1,f4,qg,qo,qc,ug,up,uc,rfl,rfl,rfl,rfl,rfl,hqg,hug,hq,hr⟩:=hu.rows
 have HV:=hid hv;have HU:=hid hu;have HP:=hid hp;have HS:=hid hs;have HQ:=hid hq;have HR:=hid hr;have HG:=hid hg
 clear hv hu hp hs hq hr hg
 go_enter Tryz.func25,Tryz.ntmps25
 go_upto_region 1 with fail
 obtain ⟨w2,hw2⟩:∃ W,W = (w.alloc (.cells #[.slice d0 st.ws.length c0,.slice d1 st.hs.length c1,.slice (some ⟨pg,po,none⟩) 3 pc,.slice (some ⟨tg,tp,none⟩) 4 tc,.slice d4 st.told.length c4] 39)).alloc (.cells #[.slice e0 st.ws.length f0,.slice e1 st.hs.length f1,.slice (some ⟨qg,qo,none⟩) 3 qc,.slice (some ⟨ug,up,none⟩) 4 uc,.slice e4 st.told.length f4] 39):=⟨_,rfl⟩
 obtain ⟨gx,hgx⟩:∃ g,g = w.heap.size:=⟨_,rfl⟩
 obtain ⟨gy,hgy⟩:∃ g,g = w.heap.size + 1:=⟨_,rfl⟩
 have X:=hid (show Bx w2 gx [.slice d0 st.ws.length c0,.slice d1 st.hs.length c1,.slice (some ⟨pg,po,none⟩) 3 pc,.slice (some ⟨tg,tp,none⟩) 4 tc,.slice d4 st.told.length c4] by
  rw [hw2,hgx];exact (Bx.new w #[.slice d0 st.ws.length c0,.slice d1 st.hs.length c1,.slice (some ⟨pg,po,none⟩) 3 pc,.slice (some ⟨tg,tp,none⟩) 4 tc,.slice d4 st.told.length c4] 39 (by simp)).below ((Below.refl _ _).alloc (Nat.le_refl _) _) (by simp))
 have Y:=hid (show Bx w2 gy [.slice e0 st.ws.length f0,.slice e1 st.hs.length f1,.slice (some ⟨qg,qo,none⟩) 3 qc,.slice (some ⟨ug,up,none⟩) 4 uc,.slice e4 st.told.length f4] by
  rw [hw2,hgy];have:=Bx.new (w.alloc (.cells #[.slice d0 st.ws.length c0,.slice d1 st.hs.length c1,.slice (some ⟨pg,po,none⟩) 3 pc,.slice (some ⟨tg,tp,none⟩) 4 tc,.slice d4 st.told.length c4] 39)) #[.slice e0 st.ws.length f0,.slice e1 st.hs.length f1,.slice (some ⟨qg,qo,none⟩) 3 qc,.slice (some ⟨ug,up,none⟩) 4 uc,.slice e4 st.told.length f4] 39 (by simp);simpa using this)
 have HB2:=hid (show Below w.heap.size w w2 by rw [hw2];exact two_in w _ _)
 have HBS:=hid hB
 rw [← hw2,← hgy,← hgx]
 clear hw2 hgx hgy hB
 obtain ⟨x0,x1,x2,x3,x4⟩:=X.out.five.1
 obtain ⟨y0,y1,y2,y3,y4⟩:=Y.out.five.1
 go_upto_region 3 with (first
  | (go_at_call 62;go_loud ((with_reducible refine (crAtm_same st.ws st.hs _ _ _ _ _ _ _ _ B _ (HV.out.ws.below (HB2.out.mono HBS.out)) (HV.out.hs.below (HB2.out.mono HBS.out)) (HU.out.ws.below (HB2.out.mono HBS.out)) (HU.out.hs.below (HB2.out.mono HBS.out)) (Nat.le_trans HBS.out HB2.out.size)).mono ?_));rintro e w3 ⟨rfl,hb3⟩;have HB3:=hid hb3;obtain ⟨x0,x1,x2,x3,x4⟩:=(X.out.below hb3 X.out.lt).five.1;obtain ⟨y0,y1,y2,y3,y4⟩:=(Y.out.below hb3 Y.out.lt).five.1;clear hb3)
  | (go_at_call 18;go_loud ((with_reducible refine (crJobs_same st.told _ _ B _ (HV.out.told.below ((HB2.out.trans (HB3.out.mono HB2.out.size)).mono HBS.out)) (HU.out.told.below ((HB2.out.trans (HB3.out.mono HB2.out.size)).mono HBS.out)) (Nat.le_trans HBS.out (Nat.le_trans HB2.out.size HB3.out.size))).mono ?_));rintro e w4 ⟨rfl,hb4⟩;have HB4:=hid hb4;clear hb4))
 have HBX:=hid (HB3.out.trans (HB4.out.mono HB3.out.size))
 clear x0 x1 x2 x3 x4 y0 y1 y2 y3 y4
 go_wp2_with fail
 go_loopw [5] (fun i wr => ∃ k:Nat,i = .int .i64 k ∧ k ≤ 3 ∧ Below w2.heap.size w2 wr) (fun i _ => 3 - (intOf i).toNat)
 case atStart => exact ⟨0,by go_num,Nat.zero_le _,HBX.out⟩
 case round =>
  obtain ⟨k,rfl,hk,hbr⟩:=hrel
  clear HBX HB3 HB4
  have HBX:=hid hbr
  obtain ⟨wo,hwo⟩:∃ W,W = wr:=⟨_,rfl⟩
  subst hwo
  obtain ⟨x0,x1,x2,x3,x4⟩:=(X.out.below hbr X.out.lt).five.1
  obtain ⟨y0,y1,y2,y3,y4⟩:=(Y.out.below hbr Y.out.lt).five.1
  clear x0 x1 x3 x4 y0 y1 y3 y4 hbr
  by_cases hlt:k < 3
  ·have hki:(k:Int) < 3:=by omega
   obtain ⟨qa,pqc,oa,oc,p0,p1,p2,p3,hpq,hpo⟩:=HP.out k hlt
   obtain ⟨ra,rc,sa,sc,q0,q1,q2,q3,hqq,hqo⟩:=HQ.out k hlt
   obtain ⟨pt,hpt⟩:∃ p,p = st.ports k:=⟨_,rfl⟩
   have HPG:=hid (HG.out.p k hlt)
   rw [← hpt] at p0 p1 p2 p3 hpq hpo q0 q1 q2 q3 hqq hqo HPG
   have hl1:∀ x ∈ pt.queue,x < 1000:=fun x hx => by
    have h1:=HPG.out.q;rw [h1,List.mem_range'_1] at hx
    have:=HPG.out.nx;have:=hb.twelve hlt;have:=HPG.out.qn;omega
   have hb0:=HB2.out.trans (HBX.out.mono HB2.out.size)
   have hse:=hb0.size
   have hpw:pg < w.heap.size:=Nat.lt_of_lt_of_le hpg HBS.out
   have hqw:qg < w.heap.size:=Nat.lt_of_lt_of_le hqg HBS.out
   have IQ:=hid ((hpq.ints hl1).below (hb0.mono HBS.out));have IR:=hid ((hqq.ints hl1).below (hb0.mono HBS.out));have JO:=hid (hpo.below (hb0.mono HBS.out));have JS:=hid (hqo.below (hb0.mono HBS.out))
   have hlq:(pt.queue.map fun (x:Nat) => (x:Int)).length = pt.queue.length:=by simp
   obtain ⟨ql,hql⟩:∃ x,x = pt.queue.length:=⟨_,rfl⟩
   obtain ⟨ol,hol⟩:∃ x,x = pt.out.length:=⟨_,rfl⟩
   obtain ⟨nx,hnx⟩:∃ x,x = pt.next:=⟨_,rfl⟩
   obtain ⟨la,hla⟩:∃ x,x = pt.last:=⟨_,rfl⟩
   rw [← hql] at p1 q1 IQ IR;rw [← hol] at p2 q2 JO JS;rw [← hnx] at p0 q0;rw [← hla] at p3 q3
   rw [← hb0.cell (p:=⟨pg,_,none⟩) hpw] at p0 p1 p2 p3
   rw [← hb0.cell (p:=⟨qg,_,none⟩) hqw] at q0 q1 q2 q3
   have HB0:=hid hb0
   clear hpt hpq hpo hqq hqo hl1 hlq hql hol hnx hla hb0
   have hgy:gy < wo.heap.size:=Nat.lt_of_lt_of_le Y.out.lt HBX.out.size
   have hqo:qg < wo.heap.size:=Nat.lt_of_lt_of_le hqw hse
   go_upto_region 7 with fail
   obtain ⟨w3,hw3⟩:∃ W,W = wo.alloc (.cells #[.int .i64 nx,.slice qa ql pqc,.slice oa ol oc,.int .i64 la] 49):=⟨_,rfl⟩
   obtain ⟨hx,hhx⟩:∃ g,g = wo.heap.size:=⟨_,rfl⟩
   have F0:=hid (show Bx w3 hx [.int .i64 nx,.slice qa ql pqc,.slice oa ol oc,.int .i64 la] by rw [hw3,hhx];exact Bx.new wo #[.int .i64 nx,.slice qa ql pqc,.slice oa ol oc,.int .i64 la] 49 (by simp))
   have hb3:Below wo.heap.size wo w3:=by rw [hw3];exact (Below.refl _ _).alloc (Nat.le_refl _) _
   rw [← hb3.cell (p:=⟨qg,_,none⟩) hqo] at q0 q1 q2 q3
   rw [← hb3.cell (p:=⟨gy,_,none⟩) hgy] at y2
   rw [← hw3,← hhx]
   have HB3:=hid hb3
   clear hw3 hhx x2 p0 p1 p2 p3 hb3
   go_upto_region 8 with fail
   obtain ⟨w4,hw4⟩:∃ W,W = w3.alloc (.cells #[.int .i64 nx,.slice ra ql rc,.slice sa ol sc,.int .i64 la] 49):=⟨_,rfl⟩
   obtain ⟨hy,hhy⟩:∃ g,g = w3.heap.size:=⟨_,rfl⟩
   have G:=hid (show Bx w4 hy [.int .i64 nx,.slice ra ql rc,.slice sa ol sc,.int .i64 la] by rw [hw4,hhy];exact Bx.new w3 #[.int .i64 nx,.slice ra ql rc,.slice sa ol sc,.int .i64 la] 49 (by simp))
   have hb4:Below w3.heap.size w3 w4:=by rw [hw4];exact (Below.refl _ _).alloc (Nat.le_refl _) _
   have F:=hid (F0.out.below hb4 F0.out.lt)
   have HB4:=hid (HB3.out.trans (hb4.mono HB3.out.size))
   rw [← hw4,← hhy]
   clear hw4 hhy y2 q0 q1 q2 q3 hb4 F0
   obtain ⟨f0,f1,f2,f3⟩:=F.out.four.1
   obtain ⟨g0,g1,g2,g3⟩:=G.out.four.1
   have n1:((nx:Int) != (nx:Int)) = false:=by simp
   have n2:((la:Int) != (la:Int)) = false:=by simp
   go_wp2_with (first
    | (go_at_call 40;go_loud ((with_reducible refine (crInts_same _ _ (pt.queue.map fun (x:Nat) => (x:Int)) B B _ (IQ.out.below (HB4.out.mono (Nat.le_trans HBS.out hse))) (IR.out.below (HB4.out.mono (Nat.le_trans HBS.out hse)))).mono ?_));rintro e w5 ⟨rfl,hd5⟩;have HB5:=hid (hd5.below w4.heap.size);obtain ⟨f0,f1,f2,f3⟩:=(F.out.below HB5.out F.out.lt).four.1;obtain ⟨g0,g1,g2,g3⟩:=(G.out.below HB5.out G.out.lt).four.1;clear hd5)
    | (go_at_call 63;go_loud ((with_reducible refine (crOuts_same pt.out _ _ B _ ((JO.out.below (HB4.out.mono (Nat.le_trans HBS.out hse))).below (HB5.out.mono (Nat.le_trans HBS.out (Nat.le_trans hse HB4.out.size)))) ((JS.out.below (HB4.out.mono (Nat.le_trans HBS.out hse))).below (HB5.out.mono (Nat.le_trans HBS.out (Nat.le_trans hse HB4.out.size))))).mono ?_));rintro e w6 ⟨rfl,hd6⟩;have HB6:=hid (hd6.below w5.heap.size);clear hd6))
   go_roundw
   case rel => exact ⟨k + 1,by go_num,by omega,HBX.out.trans (((HB4.out.trans (HB5.out.mono HB4.out.size)).trans (HB6.out.mono (Nat.le_trans HB4.out.size HB5.out.size))).mono HBX.out.size)⟩
   case measure => simp [intOf];omega
  ·obtain rfl:k = 3:=by omega
   rw [show (((3:Nat)):Int) = (3:Int) from rfl]
   go_wp2_with fail
   go_loopw [8] (fun i wr => ∃ k:Nat,i = .int .i64 k ∧ k ≤ 4 ∧ Below w2.heap.size w2 wr) (fun i _ => 4 - (intOf i).toNat)
   case atStart => exact ⟨0,by go_num,Nat.zero_le _,HBX.out⟩
   case round =>
    obtain ⟨k,rfl,hk,hbr⟩:=hrel
    clear HBX x2 y2
    have HBX:=hid hbr
    obtain ⟨wo,hwo⟩:∃ W,W = wr:=⟨_,rfl⟩
    subst hwo
    obtain ⟨x0,x1,x2,x3,x4⟩:=(X.out.below hbr X.out.lt).five.1
    obtain ⟨y0,y1,y2,y3,y4⟩:=(Y.out.below hbr Y.out.lt).five.1
    clear x0 x1 x2 x4 y0 y1 y2 y4 hbr
    by_cases hlt:k < 4
    ·have hki:(k:Int) < 4:=by omega
     obtain ⟨qa,pqc,oa,oc,p0,p1,p2,hpq,hpo⟩:=HS.out k hlt
     obtain ⟨ra,rc,sa,sc,q0,q1,q2,hqq,hqo⟩:=HR.out k hlt
     obtain ⟨pt,hpt⟩:∃ p,p = st.slaves k:=⟨_,rfl⟩
     rw [← hpt] at p0 p1 p2 hpq hpo q0 q1 q2 hqq hqo
     have hb0:=HB2.out.trans (HBX.out.mono HB2.out.size)
     have hse:=hb0.size
     have hpw:tg < w.heap.size:=Nat.lt_of_lt_of_le htg HBS.out
     have hqw:ug < w.heap.size:=Nat.lt_of_lt_of_le hug HBS.out
     have IQ:=hid (hpq.below (hb0.mono HBS.out));have IR:=hid (hqq.below (hb0.mono HBS.out));have JO:=hid (hpo.below (hb0.mono HBS.out));have JS:=hid (hqo.below (hb0.mono HBS.out))
     obtain ⟨ql,hql⟩:∃ x,x = pt.pipe.length:=⟨_,rfl⟩
     obtain ⟨ol,hol⟩:∃ x,x = pt.done.length:=⟨_,rfl⟩
     obtain ⟨la,hla⟩:∃ x,x = pt.last:=⟨_,rfl⟩
     rw [← hql] at p0 q0 IQ IR;rw [← hol] at p1 q1 JO JS;rw [← hla] at p2 q2
     rw [← hb0.cell (p:=⟨tg,_,none⟩) hpw] at p0 p1 p2
     rw [← hb0.cell (p:=⟨ug,_,none⟩) hqw] at q0 q1 q2
     have HB0:=hid hb0
     clear hpt hpq hpo hqq hqo hql hol hla hb0
     have hgy:gy < wo.heap.size:=Nat.lt_of_lt_of_le Y.out.lt HBX.out.size
     have hqo:ug < wo.heap.size:=Nat.lt_of_lt_of_le hqw hse
     go_upto_region 14 with fail
     obtain ⟨w3,hw3⟩:∃ W,W = wo.alloc (.cells #[.slice qa ql pqc,.slice oa ol oc,.int .i64 la] 62):=⟨_,rfl⟩
     obtain ⟨hx,hhx⟩:∃ g,g = wo.heap.size:=⟨_,rfl⟩
     have F0:=hid (show Bx w3 hx [.slice qa ql pqc,.slice oa ol oc,.int .i64 la] by rw [hw3,hhx];exact Bx.new wo #[.slice qa ql pqc,.slice oa ol oc,.int .i64 la] 62 (by simp))
     have hb3:Below wo.heap.size wo w3:=by rw [hw3];exact (Below.refl _ _).alloc (Nat.le_refl _) _
     rw [← hb3.cell (p:=⟨ug,_,none⟩) hqo] at q0 q1 q2
     rw [← hb3.cell (p:=⟨gy,_,none⟩) hgy] at y3
     rw [← hw3,← hhx]
     have HB3:=hid hb3
     clear hw3 hhx x3 p0 p1 p2 hb3
     go_upto_region 15 with fail
     obtain ⟨w4,hw4⟩:∃ W,W = w3.alloc (.cells #[.slice ra ql rc,.slice sa ol sc,.int .i64 la] 62):=⟨_,rfl⟩
     obtain ⟨hy,hhy⟩:∃ g,g = w3.heap.size:=⟨_,rfl⟩
     have G:=hid (show Bx w4 hy [.slice ra ql rc,.slice sa ol sc,.int .i64 la] by rw [hw4,hhy];exact Bx.new w3 #[.slice ra ql rc,.slice sa ol sc,.int .i64 la] 62 (by simp))
     have hb4:Below w3.heap.size w3 w4:=by rw [hw4];exact (Below.refl _ _).alloc (Nat.le_refl _) _
     have F:=hid (F0.out.below hb4 F0.out.lt)
     have HB4:=hid (HB3.out.trans (hb4.mono HB3.out.size))
     rw [← hw4,← hhy]
     clear hw4 hhy y3 q0 q1 q2 hb4 F0
     obtain ⟨f0,f1,f2⟩:=F.out.three.1
     obtain ⟨g0,g1,g2⟩:=G.out.three.1
     have n2:((la:Int) != (la:Int)) = false:=by simp
     go_wp2_with (first
      | (go_at_call 63;go_loud ((with_reducible refine (crOuts_same pt.pipe _ _ B _ (IQ.out.below (HB4.out.mono (Nat.le_trans HBS.out hse))) (IR.out.below (HB4.out.mono (Nat.le_trans HBS.out hse)))).mono ?_));rintro e w5 ⟨rfl,hd5⟩;have HB5:=hid (hd5.below w4.heap.size);obtain ⟨f0,f1,f2⟩:=(F.out.below HB5.out F.out.lt).three.1;obtain ⟨g0,g1,g2⟩:=(G.out.below HB5.out G.out.lt).three.1;clear hd5)
      | (go_at_call 18;go_loud ((with_reducible refine (crJobs_same pt.done _ _ B _ ((JO.out.below (HB4.out.mono (Nat.le_trans HBS.out hse))).below (HB5.out.mono (Nat.le_trans HBS.out (Nat.le_trans hse HB4.out.size)))) ((JS.out.below (HB4.out.mono (Nat.le_trans HBS.out hse))).below (HB5.out.mono (Nat.le_trans HBS.out (Nat.le_trans hse HB4.out.size)))) (Nat.le_trans HBS.out (Nat.le_trans hse (Nat.le_trans HB4.out.size HB5.out.size)))).mono ?_));rintro e w6 ⟨rfl,hb6⟩;have HB6:=hid hb6;clear hb6))
     go_roundw
     case rel => exact ⟨k + 1,by go_num,by omega,HBX.out.trans (((HB4.out.trans (HB5.out.mono HB4.out.size)).trans (HB6.out.mono (Nat.le_trans HB4.out.size HB5.out.size))).mono HBX.out.size)⟩
     case measure => simp [intOf];omega
    ·obtain rfl:k = 4:=by omega
     rw [show (((4:Nat)):Int) = (4:Int) from rfl]
     go_wp2_with fail
     go_ret
     exact ⟨rfl,HB2.out.trans (HBX.out.mono HB2.out.size)⟩
theorem JobsV.take {w:World} {B:Nat} {a:Option Addr} {n k m:Nat} {js:List TJ} (h:JobsV w B (.slice a n k) js) (hm:m ≤ n):JobsV w B (.slice a m k) (js.take m):=by
 obtain ⟨D,⟨ao,cap,hv,h1,h2,h0,h9,h3⟩,rfl,hd⟩:=h
 simp only [List.length_map,Value.slice.injEq] at hv h1 h0 h3
 obtain ⟨rfl,rfl,rfl⟩:=hv
 have hl:(D.take m).length = m:=by rw [List.length_take];omega
 refine ⟨D.take m,⟨a,k,by rw [List.length_map,hl],by rw [List.length_map,hl];omega,h2,by rw [List.length_map,hl];omega,h9,fun hn => ?_⟩,by rw [List.map_take],fun x hx => hd x (List.mem_of_mem_take hx)⟩
 rw [List.length_map,hl] at hn
 obtain ⟨b,off,ha,hlt,hc⟩:=h3 (by omega)
 refine ⟨b,off,ha,hlt,fun t ht j hj => ?_⟩
 rw [List.length_map,hl] at ht
 rw [hc t (by omega) j hj]
 simp [List.getD,List.getElem?_take,ht]
theorem InV.bits {w:World} {B:Nat} {ra ta sa:Option Addr} {rc tc sc:Nat} {inp:Inp} (h:InV w B (.agg #[.slice ra 3 rc,.slice ta 4 tc,.slice sa 3 sc]) inp):∃ rb ro sb so,ra = some ⟨rb,ro,none⟩ ∧ sa = some ⟨sb,so,none⟩ ∧ rb < B ∧ sb < B ∧ (∀ j,j < 3 → w.cell? ⟨rb,ro + j,none⟩ = some (.bool (inp.ready.getD j false))) ∧ (∀ j,j < 3 → w.cell? ⟨sb,so + j,none⟩ = some (.bool (inp.send.getD j false))):=by
 obtain ⟨⟨ra', rc', ta', tc', sa', sc', e,k1,_,k3⟩,l1,_,l3⟩:=h
 simp only [Value.agg.injEq,Array.mk.injEq,List.cons.injEq,Value.slice.injEq,and_true] at e
 obtain ⟨⟨rfl,_,rfl⟩,_,⟨rfl,_,rfl⟩⟩:=e
 obtain ⟨a1,c1,e1,_,_,_,_,h1⟩:=k1.opened
 obtain ⟨a3,c3,e3,_,_,_,_,h3⟩:=k3.opened
 simp only [Value.slice.injEq,true_and] at e1 e3
 obtain ⟨rb,ro,rfl,q1,q2⟩:=h1 (by omega)
 obtain ⟨sb,so,rfl,q3,q4⟩:=h3 (by omega)
 exact ⟨rb,ro,sb,so,e1.1,e3.1,q1,q3,fun j hj => q2 j (by omega),fun j hj => q4 j (by omega)⟩
theorem bT {w W W1:World} (h:Below w.heap.size w W) (h2:Below W.heap.size W W1):Below w.heap.size w W1:=h.trans (h2.mono h.size)
def Flowed (wo:World) (st:Cy) (s:Value) (w9:World):Prop:=∃ gx,s = .pointer (some ⟨gx,0,none⟩) ∧ CyBox w9 gx st ∧ wo.heap.size ≤ gx ∧ Below wo.heap.size wo w9
theorem flowed_a {wo wa:World} {base:Nat} {st:Cy} {V:Nat → Value} {N:Nat → Nat} {C:Nat → List Value} {D:Nat → List TJV} {y0 y1 y2 y3 y4:Option Addr} {m0 m1 m2 m3 m4 j0 j1 j2 j3 j4:Nat} (hE:V 0 = .slice y0 m0 j0 ∧ V 1 = .slice y1 m1 j1 ∧ V 2 = .slice y2 m2 j2 ∧ V 3 = .slice y3 m3 j3 ∧ V 4 = .slice y4 m4 j4)
  (hr:CyR wa base st V N C D) (hb:Below wo.heap.size wo wa):Flowed wo st (.pointer (some ⟨wa.heap.size,0,none⟩)) (wa.alloc (.cells #[.slice y0 m0 j0,.slice y1 m1 j1,.slice y2 m2 j2,.slice y3 m3 j3,.slice y4 m4 j4] 39)):=by
 refine ⟨_,rfl,CyBox.new hr ((Below.refl _ _).alloc (Nat.le_refl _) _) (Nat.le_refl _) ?_,hb.size,hb.alloc hb.size _⟩
 obtain ⟨e0,e1,e2,e3,e4⟩:=hE
 rw [e0,e1,e2,e3,e4]
 exact Bx.new wa #[.slice y0 m0 j0,.slice y1 m1 j1,.slice y2 m2 j2,.slice y3 m3 j3,.slice y4 m4 j4] 39 (by simp)
theorem flowed_b {wo wa:World} {base gx:Nat} {st:Cy} {V:Nat → Value} {N:Nat → Nat} {C:Nat → List Value} {D:Nat → List TJV} {y0 y1 y2 y3 y4:Option Addr} {m0 m1 m2 m3 m4 j0 j1 j2 j3 j4:Nat} {v0 v1 v2 v3 v4:Value} (hE:V 0 = .slice y0 m0 j0 ∧ V 1 = .slice y1 m1 j1 ∧ V 2 = .slice y2 m2 j2 ∧ V 3 = .slice y3 m3 j3 ∧ V 4 = .slice y4 m4 j4)
  (hr:CyR wa base st V N C D) (hb:Below wo.heap.size wo wa) (hx:Bx wa gx [v0,v1,v2,v3,v4]) (hg:gx < base) (ho:wo.heap.size ≤ gx):Flowed wo st (.pointer (some ⟨gx,0,none⟩)) (((((wa.setCell ⟨gx,0,none⟩ (.slice y0 m0 j0)).setCell ⟨gx,1,none⟩ (.slice y1 m1 j1)).setCell ⟨gx,2,none⟩ (.slice y2 m2 j2)).setCell ⟨gx,3,none⟩ (.slice y3 m3 j3)).setCell ⟨gx,4,none⟩ (.slice y4 m4 j4)):=by
 refine ⟨gx,rfl,CyBox.set hr put5_other (by simp) hg ?_,ho,((((hb.setCell (p:=⟨gx,_,none⟩) ho _).setCell (p:=⟨gx,_,none⟩) ho _).setCell (p:=⟨gx,_,none⟩) ho _).setCell (p:=⟨gx,_,none⟩) ho _).setCell (p:=⟨gx,_,none⟩) ho _⟩
 obtain ⟨e0,e1,e2,e3,e4⟩:=hE
 rw [e0,e1,e2,e3,e4]
 exact hx.put5 _ _ _ _ _
theorem nilBox (wo:World):Bx (wo.alloc (.cells #[.slice none 0 0,.slice none 0 0,.slice none 0 0,.slice none 0 0,.slice none 0 0] 39)) wo.heap.size [vnil,vnil,vnil,vnil,vnil]:=Bx.new wo #[vnil,vnil,vnil,vnil,vnil] 39 (by simp)
theorem nilBoxD (wo:World):Bx (wo.alloc (.cells #[.slice none 0 0,.slice none 0 0,.slice none 0 0,.slice none 0 0,.slice none 0 0] 39)).drew wo.heap.size [vnil,vnil,vnil,vnil,vnil]:=(nilBox wo).below (Below.refl (wo.heap.size + 1) _).drew (Nat.lt_succ_self _)
def CyX (st:Cy) (W:World) (v:Value):Prop:=∃ b0 b1 b2 b3 b4 n0 n1 n2 n3 n4 k0 k1 k2 k3 k4 P Q,v = .agg #[.slice b0 n0 k0,.slice b1 n1 k1,.slice b2 n2 k2,.slice b3 n3 k3,.slice b4 n4 k4] ∧ CyV W W.heap.size (.slice b0 n0 k0) (.slice b1 n1 k1) (.slice b2 n2 k2) (.slice b3 n3 k3) (.slice b4 n4 k4) st P Q
theorem CyX.below {st:Cy} {W W':World} {v:Value} (h:CyX st W v) (hb:Below W.heap.size W W'):CyX st W' v:=by
 obtain ⟨b0,b1,b2,b3,b4,n0,n1,n2,n3,n4,k0,k1,k2,k3,k4,P,Q,e,h⟩:=h
 exact ⟨b0,b1,b2,b3,b4,n0,n1,n2,n3,n4,k0,k1,k2,k3,k4,P,Q,e,(h.below hb).mono hb.size⟩
theorem cycNewX {c:Cfg} (hbus:Bus c) (w:World):Calls Tryz.prog 16 #[] w fun e w' => ∃ v,e = .returned v ∧ CyX cy0 w' v ∧ Below w.heap.size w w':=(cycNew_any w).mono fun e w' h => by
 obtain ⟨z0,z1,z2,z3,z4,n0,n1,n2,n3,n4,k0,k1,k2,k3,k4,P,Q,rfl,hv,hb⟩:=h.view hbus (good_zero c)
 exact ⟨_,rfl,⟨_,_,_,_,_,_,_,_,_,_,_,_,_,_,_,_,_,rfl,hv⟩,hb⟩
theorem cycFlowX {c:Cfg} (hbus:Bus c) {w w1:World} {u:Value} (hc:BusV w1 w1.heap.size u c) (hb:Below w1.heap.size w1 w) {v:Value} (h:CyX cy0 w v) {n:Nat} (hn:n ≤ 300):Calls Tryz.prog 24 #[u,v,.int .i64 n] w (CopP (flow c n cy0) w):=by
 obtain ⟨b0,b1,b2,b3,b4,n0,n1,n2,n3,n4,k0,k1,k2,k3,k4,P,Q,rfl,h⟩:=h
 exact cycFlow_any hbus ((hc.below hb).mono hb.size) h (Nat.le_refl _) (good_zero c) hn
theorem cycFlow7_any {c:Cfg} (hbus:Bus c) {w:World} {B:Nat} {u:Value} (hc:BusV w B u c) {a0 a1 a2 a3 a4:Value} {st:Cy} {P:List PS} {Q:List SS} (h:CyV w B a0 a1 a2 a3 a4 st P Q) (hB:B ≤ w.heap.size) (hg:Good c st) :
  Calls Tryz.prog 24 #[u,.agg #[a0,a1,a2,a3,a4],.int .i64 7] w (CopP (flow c 7 st) w):=cycFlow_any hbus hc h hB hg (n:=7) (by omega)
abbrev InX:=Inp × Nat × Nat × Nat
def rowX (x:InX):List Value:=[.slice (some ⟨x.2.1,0,none⟩) 3 3,.slice (some ⟨x.2.2.1,0,none⟩) 4 4,.slice (some ⟨x.2.2.2,0,none⟩) 3 3]
theorem rowX_len (x:InX):(rowX x).length = 3:=rfl
theorem rowX_one (x:InX):∀ u ∈ rowX x,u.oneCell' = true:=by
 intro u hu
 simp only [rowX,List.mem_cons,List.not_mem_nil,or_false] at hu
 rcases hu with rfl | rfl | rfl <;> rfl
theorem elem_in:Elem 28 44 3 72:=elem_of Tryz.underlying28 (z:=.agg #[.slice none 0 0,.slice none 0 0,.slice none 0 0]) (by kernel_rfl) rfl (by omega)
def InQ (w:World) (lo:Nat) (x:InX):Prop:=InO w lo x.2.1 x.2.2.1 x.2.2.2 x.1.ready x.1.stall x.1.send
theorem InQ.kept {w w':World} {lo:Nat} {x:InX} (h:InQ w lo x) (hk:∀ k,lo ≤ k → k < w.heap.size → w'.heap[k]? = w.heap[k]?):InQ w' lo x:=InO.kept h hk
theorem InQ.rebase {w:World} {lo lo':Nat} {x:InX} (h:InQ w lo x) (hl:lo' ≤ lo):InQ w lo' x:=⟨h.o1.rebase hl,h.o2.rebase hl,h.o3.rebase hl,h.l1,h.l2,h.l3,h.n12,h.n23⟩
theorem InQ.push {w w':World} {lo lo':Nat} {v:Value} {xs:List InX} {x:InX} (h:InQ w lo x) (ho:Owns w lo' 44 3 rowX v xs) (hk:∀ b,b < w.heap.size → v.ownBlock ≠ some b → w'.heap[b]? = w.heap[b]?):InQ w' lo x:=by
 have key:∀ {u:Value} {ys:List Bool},Owns w lo 4 1 rowB u ys → Owns w' lo 4 1 rowB u ys:=fun hu => OwnR.kept hu fun j hj => hk j (OwnR.lt hu j hj).2 (fun e => Owns.apartT hu ho (by decide) j hj e)
 exact ⟨key h.o1,key h.o2,key h.o3,h.l1,h.l2,h.l3,h.n12,h.n23⟩
theorem InQ.inV {w:World} {lo:Nat} {x:InX} (h:InQ w lo x):InV w w.heap.size (.agg #[.slice (some ⟨x.2.1,0,none⟩) 3 3,.slice (some ⟨x.2.2.1,0,none⟩) 4 4,.slice (some ⟨x.2.2.2,0,none⟩) 3 3]) x.1:=by
 have h1:=h.o1.arr rowB_len (by rw [h.l1];omega)
 have h2:=h.o2.arr rowB_len (by rw [h.l2];omega)
 have h3:=h.o3.arr rowB_len (by rw [h.l3];omega)
 refine ⟨⟨some ⟨x.2.1,0,none⟩,3,some ⟨x.2.2.1,0,none⟩,4,some ⟨x.2.2.2,0,none⟩,3,by rw [h.l1,h.l2,h.l3],?_,?_,?_⟩,h.l1,h.l2,h.l3⟩
 ·rw [h.l1];exact h1
 ·rw [h.l2];exact h2
 ·rw [h.l3];exact h3
theorem ins_of {w:World} {lo lo':Nat} {v:Value} {xs:List InX} (ho:Owns w lo' 44 3 rowX v xs) (hx:∀ x ∈ xs,InQ w lo x) (hl:xs.length ≤ 1000000):Ins w w.heap.size v (xs.map (·.1)):=by
 refine ⟨xs.map fun x => .agg #[.slice (some ⟨x.2.1,0,none⟩) 3 3,.slice (some ⟨x.2.2.1,0,none⟩) 4 4,.slice (some ⟨x.2.2.2,0,none⟩) 3 3],?_,by simp,fun k hk d => ?_⟩
 ·rw [List.map_map];exact ho.arr rowX_len (by omega)
 ·simp only [List.length_map] at hk
  have e:=(hx _ (List.getElem_mem hk)).inV
  simpa [List.getD,hk] using e
def InsDr (r B:Nat) (bs:List Nat) (p:Nat) (w:World) (e:Ending) (w':World):Prop :=
 ∃ v xs q,e = .returned v ∧ Owns w' w.heap.size 44 3 rowX v xs ∧ (∀ x ∈ xs,InQ w' w.heap.size x) ∧ xs.length ≤ 89 ∧ q ≤ p + 1000 ∧ RdAt w' r B bs q ∧ Touch r w w'
set_option maxRecDepth 4000 in
set_option maxHeartbeats 8000000 in
theorem l20Ins_any (r B:Nat) (bs:List Nat) (p:Nat) (w:World) (h:RdAt w r B bs p) (hp:p ≤ 800000000) :
  Calls Tryz.prog 44 #[.pointer (some ⟨r,0,none⟩),.int .i64 90] w (InsDr r B bs p w):=by
 have hrw:=h.lt
 have HR0:=hid (h.alloc (.cells #[] 44))
 clear h
 go_enter Tryz.func44,Tryz.ntmps44
 go_upto_region 2 with fail
 obtain ⟨w1,hw1⟩:∃ W,W = w.alloc (.cells #[] 44):=⟨_,rfl⟩
 have HO1:=hid (show Owns w1 w.heap.size 44 3 rowX (.slice (some ⟨w.heap.size,0,none⟩) 0 0) [] by rw [hw1];exact Owns.lit (Nat.le_refl _))
 have hb1:Below w.heap.size w w1:=by rw [hw1];exact (Below.refl _ _).alloc (Nat.le_refl _) _
 have hz1:w1.heap.size = w.heap.size + 1:=by rw [hw1];simp
 rw [← hw1] at HR0 ⊢
 have HB1:=hid hb1
 clear hw1 hb1
 go_wp2_with (first
  | (go_at_call 80;(with_reducible refine (pick_p r B bs p 4 _ (HR0.out.alloc _) (by omega) (by omega) (by omega)).mono ?_);rintro e w2 ⟨z', rfl,z0,z1,h2,ht2⟩;obtain ⟨z,rfl⟩:=Int.eq_ofNat_of_zero_le z0;have hz:z < 4:=(by omega);obtain ⟨y,hl1,hy⟩:=tab4 2 3 5 20 hz;have hl2:=tab_arr hl1;clear hl1 hz z0;have tB:=Touch.tab ht2 (by omega) z _ hl2;rw [hz1] at tB;have HT2:=hid (((Touch.of_below HB1.out (Nat.le_refl _)).alloc _).trans ht2);have HR2:=hid h2;have hs2:=HT2.out.size;have HO2:=hid (((HO1.out).allocd (.cells #[.int .i64 2,.int .i64 3,.int .i64 5,.int .i64 20] 3)).touch ht2 hrw);clear h2 ht2 hl2)
  | (go_at_call 80;(with_reducible refine (pick_p r B bs (p + 1) 90 _ HR2.out (by omega) (by omega) (by omega)).mono ?_);rintro e w3 ⟨m', rfl,m0,m1,h3,ht3⟩;obtain ⟨m,rfl⟩:=Int.eq_ofNat_of_zero_le m0;have HT3:=hid (HT2.out.trans ht3);have HR3:=hid h3;have HO3:=hid (HO2.out.touch ht3 hrw);clear h3 ht3 tB m0))
 have hy1:1 ≤ y:=by omega
 have hy2:y ≤ 1099511627776:=by omega
 have hm:m ≤ 89:=by omega
 clear hy hz1
 go_loopw [5,7] (fun v i wr => ∃ (k q:Nat) (xs:List InX),i = .int .i64 (k:Nat) ∧ k + xs.length = m ∧ q ≤ p + 2 + 10 * xs.length ∧ RdAt wr r B bs q ∧ Owns wr w.heap.size 44 3 rowX v xs ∧ (∀ x ∈ xs,InQ wr w.heap.size x) ∧ Touch r w wr) (fun _ i _ => (intOf i).toNat)
 case atStart => exact ⟨m,p + 1 + 1,[],rfl,by simp,by simp,HR3.out,HO3.out,(fun x hx => by cases hx),HT3.out⟩
 case round =>
  clear HR3 HO3 HT3 HO2 HT2 HR2 HO1 HR0 HB1
  obtain ⟨k,q,xs,rfl,hk,hq,hrd,ho,hxs,ht⟩:=hrel
  have HO:=hid ho;have HT:=hid ht;have HRD:=hid hrd;have HXS:=hid hxs
  have hxl:xs.length ≤ 89:=by omega
  have hwr:w.heap.size ≤ wr.heap.size:=ht.size
  have HXL:=hid hxl;have HK:=hid hk
  clear ho ht hrd hxs
  by_cases hlt:0 < k
  ·have hki:(0:Int) < (k:Int):=by omega
   have hk89:k ≤ 89:=by omega
   clear hxl hk
   go_wp2_with (first
    | (go_at_call 82;(with_reducible refine (l20In_any r B bs q y _ HRD.out (by have:=HXL.out;omega) hy1 hy2).mono ?_);rintro e w4 ⟨g1,g2,g3,ra,za,sa,q4,rfl,ho4,hq4,h4,ht4⟩;have HO4:=hid (HO.out.touch ht4 hrw);have HXS4:=hid (fun x hx => (HXS.out x hx).kept (w':=w4) fun k h1 h2 => ht4.block k h2 (by omega));have HT4:=hid (HT.out.trans ht4);have HIN:=hid (show InQ w4 w.heap.size (⟨ra,za,sa⟩,g1,g2,g3) from InQ.rebase ho4 hwr);have HR4:=hid h4;have HQ4:=hid hq4;have hs4:=ht4.size;clear ho4 hq4 h4 ht4)
    | (at_builtin;go_must (refine wpList_push2 elem_in rowX rowX_len ((⟨ra,za,sa⟩,g1,g2,g3):InX) (rowX_one _) w4 rfl _ _ rfl w.heap.size _ xs (by rfl) HO4.out _ (by rfl) (by rfl) (by have:=HXL.out;omega) (by have:=HXL.out;omega) (by omega) ?_);intro v' w5 ho5 hz5 hk5 hv5 hb5;have HO5:=hid ho5;have HIN5:=hid (HIN.out.push HO4.out hk5);have HXS5:=hid (fun x hx => (HXS4.out x hx).push HO4.out hk5);have HT5:=hid (HT4.out.bel hb5 (Nat.le_refl _));have HR5:=hid (HR4.out.kept hb5 hrw);clear ho5 hz5 hk5 hv5 hb5))
   go_roundw
   case rel => exact ⟨k - 1,q4,xs ++ [(⟨ra,za,sa⟩,g1,g2,g3)],by congr 1;omega,by have:=HK.out;simp;omega,by have:=HQ4.out;simp;omega,HR5.out,HO5.out,fun x hx => by
    rcases List.mem_append.1 hx with hx | hx
    ·exact HXS5.out x hx
    ·rw [List.mem_singleton.1 hx];exact HIN5.out,HT5.out⟩
   case measure => simp [intOf];omega
  ·obtain rfl:k = 0:=by omega
   go_wp2_with fail
   go_ret
   exact ⟨_,xs,q,rfl,HO.out,HXS.out,HXL.out,by omega,HRD.out,HT.out⟩
theorem cells_ne {w:World} {g g' T T':Nat} {cs cs':Array Value} (h:w.heap[g]? = some (.cells cs T (0,0))) (h':w.heap[g']? = some (.cells cs' T' (0,0))) (hT:T ≠ T'):g ≠ g':=by
 intro e;subst e;rw [h] at h';simp only [Option.some.injEq,Obj.cells.injEq] at h';exact hT h'.2.1
set_option maxRecDepth 20000 in
set_option maxHeartbeats 1000000 in
theorem wpList_lit7q {ops:Array Oper} {rest:List Oper} {a:Act} {w:World} {Q:Exit → Act → World → Prop} (d:Option Nat) (ty:Nat) (pos:String) (aft:Array Edge) (t:Nat)
  {x0 x1 x2 x3 x4 x5 x6:Value} (hx:a.tmps.getD t undef = .agg #[x0,x1,x2,x3,x4,x5,x6]) (h1:(#[x0,x1,x2,x3,x4,x5,x6]:Array Value).all (·.oneCell') = true)
  (h:wpList Tryz.prog ops Q rest (a.put d (.slice (some ⟨w.heap.size,0,none⟩) 1 1)) (w.alloc (.cells #[x0,x1,x2,x3,x4,x5,x6] 59))) :
  wpList Tryz.prog ops Q ({ dst:=d,op:=.buildSlice 60 1 #[(0,.tmp t)],type:=ty,pos:=pos,after:=aft,guard:=none } :: rest) a w:=by
 refine wpList_plain rfl fun K hK => ?_
 have h2:=hK _ _ h
 obtain ⟨tmps,defers⟩:=a
 simp only [Array.getD_eq_getD_getElem?] at hx
 go_simp
 exact h2
theorem one7r (rq:Rq) (da la:Option Addr) (dn dc ln lc:Nat):∀ u ∈ rowQ (rq,.slice da dn dc,.slice la ln lc),u.oneCell' = true:=by
 intro u hu
 simp only [rowQ,List.mem_cons,List.not_mem_nil,or_false] at hu
 rcases hu with rfl | rfl | rfl | rfl | rfl | rfl | rfl <;> rfl
def RqFit (q:Rq):Prop:=Rq20 q ∧ (∀ y ∈ q.data,I64 y) ∧ (∀ y ∈ q.lanes,I64 y) ∧ I64 q.id ∧ I64 q.kind ∧ I64 q.addr ∧ I64 q.many
theorem loadVar_bus (w:World) (g:Nat) (a b c:Value) (h0:w.cell? ⟨g,0,none⟩ = some a) (h1:w.cell? ⟨g,1,none⟩ = some b) (h2:w.cell? ⟨g,2,none⟩ = some c):(loadVar 27 ⟨g,0,none⟩).run Tryz.prog w = .ok (.agg #[a,b,c]) w:=by
 simp [loadVar,go_sem,h0,h1,h2]
structure BFit (ms:List MR) (lat:List Int) (pss:List (List Rq)):Prop where
 m:ms.length ≤ 1048576
 m6:∀ r ∈ ms,MR64 r
 l:lat.length ≤ 1048576
 l6:∀ x ∈ lat,I64 x
 p:pss.length ≤ 1048576
 q:∀ p ∈ pss,p.length ≤ 1048576 ∧ ∀ q ∈ p,RqFit q
theorem BFit.nil:BFit [] [] []:=⟨by simp,by simp,by simp,by simp,by simp,by simp⟩
structure RdO (w:World) (lo:Nat) (v:Value) (qs:List Rq) (vs:List (Value × Value)):Prop where
 len:vs.length = qs.length
 rows:Owns w lo 59 7 rowQ v (zipQ qs vs)
 d:∀ j,j < qs.length → Owns w lo 3 1 rowI (vs.getD j default).1 (qs.getD j default).data
 l:∀ j,j < qs.length → Owns w lo 3 1 rowI (vs.getD j default).2 (qs.getD j default).lanes
theorem RdO.kept {w w':World} {lo:Nat} {v:Value} {qs:List Rq} {vs:List (Value × Value)} (h:RdO w lo v qs vs) (hk:∀ k,lo ≤ k → k < w.heap.size → w'.heap[k]? = w.heap[k]?):RdO w' lo v qs vs :=
  { h with rows:=OwnR.kept h.rows fun k hk2 => hk k (OwnR.lt h.rows k hk2).1 (OwnR.lt h.rows k hk2).2
           d:=fun j hj => OwnR.kept (h.d j hj) fun k hk2 => hk k (OwnR.lt (h.d j hj) k hk2).1 (OwnR.lt (h.d j hj) k hk2).2
           l:=fun j hj => OwnR.kept (h.l j hj) fun k hk2 => hk k (OwnR.lt (h.l j hj) k hk2).1 (OwnR.lt (h.l j hj) k hk2).2 }
theorem RdO.below {w w':World} {lo:Nat} {v:Value} {qs:List Rq} {vs:List (Value × Value)} (h:RdO w lo v qs vs) (hb:Below w.heap.size w w'):RdO w' lo v qs vs:=h.kept fun k _ hk => hb.block k hk
theorem RdO.rebase {w:World} {lo lo':Nat} {v:Value} {qs:List Rq} {vs:List (Value × Value)} (h:RdO w lo v qs vs) (hl:lo' ≤ lo):RdO w lo' v qs vs :=
 { h with rows:=OwnR.rebase h.rows hl,d:=fun j hj => OwnR.rebase (h.d j hj) hl,l:=fun j hj => OwnR.rebase (h.l j hj) hl }
theorem RdO.keptT {w w':World} {lo:Nat} {v:Value} {qs:List Rq} {vs:List (Value × Value)} (h:RdO w lo v qs vs) (hk:∀ (k:Nat) (cs:Array Value) (T:TypeId),w.heap[k]? = some (Obj.cells cs T (0,0)) → (T = 59 ∨ T = 3) → w'.heap[k]? = w.heap[k]?):RdO w' lo v qs vs:=by
 have key:∀ {α:Type} {f:α → List Value} {e sz:Nat} {u:Value} {xs:List α},Owns w lo e sz f u xs → (e = 59 ∨ e = 3) → Owns w' lo e sz f u xs:=by
  intro α f e sz u xs ho he
  refine OwnR.kept ho fun k hk2 => ?_
  obtain ⟨_,h2⟩:=ho
  rcases h2 with ⟨rfl,_⟩ | ⟨g,off,cap,cur,rfl,_,hh,_⟩
  ·simp [Value.ownBlock] at hk2
  ·simp only [Value.ownBlock,Option.some.injEq] at hk2
   subst hk2
   exact hk _ _ _ hh he
 exact { h with rows:=key h.rows (.inl rfl),d:=fun j hj => key (h.d j hj) (.inr rfl),l:=fun j hj => key (h.l j hj) (.inr rfl) }
theorem RdO.reqs {w:World} {lo:Nat} {v:Value} {qs:List Rq} {vs:List (Value × Value)} (h:RdO w lo v qs vs) (hn:qs.length ≤ 1048576) (hq:∀ q ∈ qs,RqFit q):Reqs w w.heap.size v qs:=by
 have hr:=h.rows
 have hl1:(zipQ qs vs).length = qs.length:=zipQ_len h.len
 have key:=reqs_of (B:=w.heap.size) (P:=(· < w.heap.size)) (hr.arrD (P:=(· < w.heap.size)) (fun k hk => (OwnR.lt hr k hk).2) rowQ_len (by omega)) (fun y hy => ?_) (fun b hb => hb)
 ·have e:(zipQ qs vs).map (·.1) = qs:=by
   unfold zipQ
   rw [List.map_zipWith]
   apply List.ext_getElem
   ·simp [h.len]
   ·intro i h1 h2;simp
  rw [e] at key
  exact key
 ·obtain ⟨k,hk,rfl⟩:=List.mem_iff_getElem.1 hy
  have hk':k < qs.length:=by omega
  have e:(zipQ qs vs)[k] = (qs.getD k default,vs.getD k default):=by
   rw [← zipQ_get h.len hk' zQ];simp [List.getD,hk]
  rw [e]
  obtain ⟨⟨b1,b2⟩,i1,i2,i3⟩:=hq _ (getD_mem (d:=default) hk')
  exact ⟨(h.d k hk').intsD (fun b hb => (OwnR.lt (h.d k hk') b hb).2) (by omega) i1,(h.l k hk').intsD (fun b hb => (OwnR.lt (h.l k hk') b hb).2) (by omega) i2,i3⟩
theorem RdO.snoc {w w':World} {lo:Nat} {v v' d l:Value} {qs:List Rq} {vs:List (Value × Value)} {r:Rq} (h:RdO w lo v qs vs) (hr:Owns w' lo 59 7 rowQ v' (zipQ qs vs ++ [(r,d,l)])) (hk:∀ (k:Nat) (cs:Array Value) (T:TypeId),w.heap[k]? = some (Obj.cells cs T (0,0)) → T = 3 → w'.heap[k]? = w.heap[k]?) (hd:Owns w' lo 3 1 rowI d r.data) (hl:Owns w' lo 3 1 rowI l r.lanes):RdO w' lo v' (qs ++ [r]) (vs ++ [(d,l)]):=by
 have key:∀ {u:Value} {xs:List Int},Owns w lo 3 1 rowI u xs → Owns w' lo 3 1 rowI u xs:=by
  intro u xs ho
  refine OwnR.kept ho fun k hk2 => ?_
  obtain ⟨_,h2⟩:=ho
  rcases h2 with ⟨rfl,_⟩ | ⟨g,off,cap,cur,rfl,_,hh,_⟩
  ·simp [Value.ownBlock] at hk2
  ·simp only [Value.ownBlock,Option.some.injEq] at hk2
   subst hk2
   exact hk _ _ _ hh rfl
 refine ⟨by simp [h.len],?_,fun j hj => ?_,fun j hj => ?_⟩
 ·have e:zipQ (qs ++ [r]) (vs ++ [(d,l)]) = zipQ qs vs ++ [(r,d,l)]:=by
   unfold zipQ;rw [List.zipWith_append h.len.symm];rfl
  rw [e];exact hr
 ·by_cases e:j < qs.length
  ·rw [getD_snoc_lt e,getD_snoc_lt (by rw [h.len];exact e)];exact key (h.d j e)
  ·obtain rfl:j = qs.length:=by simp at hj;omega
   rw [getD_snoc_eq,← h.len,getD_snoc_eq];exact hd
 ·by_cases e:j < qs.length
  ·rw [getD_snoc_lt e,getD_snoc_lt (by rw [h.len];exact e)];exact key (h.l j e)
  ·obtain rfl:j = qs.length:=by simp at hj;omega
   rw [getD_snoc_eq,← h.len,getD_snoc_eq];exact hl
end Go.Proofs.YtenjbhbcacocjaaGreat
