/- Cycles in which nothing is held back; a bus of which nothing is asked stands still. No program in sight. -/
import Derived.Test.YtenjbhbcacocjaaGreatGYw
import Derived.Test.YtenjbhbcacocjaaGreatGPl1
import Derived.Test.YtenjbhbcacocjaaGreatGDl
import Derived.Test.YtenjbhbcacocjaaGreatGMs
import Derived.Test.YtenjbhbcacocjaaGreatGY2
import Derived.Test.YtenjbhbcacocjaaGreatGFl
import Derived.Test.YtenjbhbcacocjaaGreatGTg
import Derived.Test.YtenjbhbcacocjaaGreatGLt
import Derived.Deep.RegionWith
import Derived.Deep.Cut
import Derived.Deep.CutRange
set_option linter.unusedVariables false
set_option linter.unusedSimpArgs false
namespace Go.Proofs.YtenjbhbcacocjaaGreat
open Go.RowKit
theorem Nats.ints {w:World} {B:Nat} {v:Value} {xs:List Nat} (h:Nats w B v xs) (hx:∀ x ∈ xs,x < 1000):Ints w B v (xs.map fun (x:Nat) => (x:Int)) :=
 ⟨by rw [List.map_map];exact h,fun x hx2 => by obtain ⟨y,hy,rfl⟩:=List.mem_map.1 hx2;have:=hx y hy;unfold I64;omega⟩
theorem CyV.rows {w:World} {B:Nat} {a0 a1 a2 a3 a4:Value} {st:Cy} {P:List PS} {Q:List SS} (hv:CyV w B a0 a1 a2 a3 a4 st P Q):∃ (d0 d1 d4:Option Addr) (c0 c1 c4 pg po pc tg tp tc:Nat),a0 = .slice d0 st.ws.length c0 ∧ a1 = .slice d1 st.hs.length c1 ∧ a2 = .slice (some ⟨pg,po,none⟩) 3 pc ∧ a3 = .slice (some ⟨tg,tp,none⟩) 4 tc ∧ a4 = .slice d4 st.told.length c4 ∧ pg < B ∧ tg < B ∧
  (∀ k,k < 3 → ∃ qa qc oa oc,w.cell? ⟨pg,po + k * 4,none⟩ = some (.int .i64 ((st.ports k).next:Nat)) ∧ w.cell? ⟨pg,po + k * 4 + 1,none⟩ = some (.slice qa (st.ports k).queue.length qc) ∧ w.cell? ⟨pg,po + k * 4 + 2,none⟩ = some (.slice oa (st.ports k).out.length oc) ∧ w.cell? ⟨pg,po + k * 4 + 3,none⟩ = some (.int .i64 ((st.ports k).last:Nat)) ∧ Nats w B (.slice qa (st.ports k).queue.length qc) (st.ports k).queue ∧ Jbs w B (.slice oa (st.ports k).out.length oc) (st.ports k).out) ∧
  (∀ k,k < 4 → ∃ qa qc oa oc,w.cell? ⟨tg,tp + k * 3,none⟩ = some (.slice qa (st.slaves k).pipe.length qc) ∧ w.cell? ⟨tg,tp + k * 3 + 1,none⟩ = some (.slice oa (st.slaves k).done.length oc) ∧ w.cell? ⟨tg,tp + k * 3 + 2,none⟩ = some (.int .i64 ((st.slaves k).last:Nat)) ∧ Jbs w B (.slice qa (st.slaves k).pipe.length qc) (st.slaves k).pipe ∧ JobsV w B (.slice oa (st.slaves k).done.length oc) (st.slaves k).done):=by
 obtain ⟨d0,c0,e0,_⟩:=hv.ws.opened
 obtain ⟨d1,c1,e1,_⟩:=hv.hs.opened
 obtain ⟨pg,po,pc,e2,_,_,hpg,hpc⟩:=hv.ps.at (by rw [hv.lp];omega)
 obtain ⟨tg,tp,tc,e3,_,_,htg,htc⟩:=hv.ss.at (by rw [hv.lq];omega)
 obtain ⟨d4,c4,e4,_⟩:=hv.told.cells
 rw [hv.lp] at e2 hpc
 rw [hv.lq] at e3 htc
 refine ⟨d0,d1,d4,c0,c1,c4,pg,po,pc,tg,tp,tc,e0,e1,e2,e3,e4,hpg,htg,fun k hk => ?_,fun k hk => ?_⟩
 ·have h1:=hv.pn k hk
  have h2:=hv.q k hk
  have h3:=hv.o k hk
  have h4:=hpc k default hk
  obtain ⟨x,hx⟩:∃ x,x = P.getD k default:=⟨_,rfl⟩
  rw [← hx] at h1 h2 h3 h4
  obtain ⟨nx,⟨qa,qn,qc⟩,⟨oa,on,oc⟩,la⟩:=x
  simp only [sl] at h1 h2 h3
  obtain rfl:=h2.len;obtain rfl:=h3.len
  have g0:=h4 0 (by omega);have g1:=h4 1 (by omega);have g2:=h4 2 (by omega);have g3:=h4 3 (by omega)
  rw [← h1.1,← h1.2]
  exact ⟨qa,qc,oa,oc,by simp only [rowPS,List.getElem?_cons_zero,List.getElem?_cons_succ] at g0;exact g0,by simp only [rowPS,List.getElem?_cons_zero,List.getElem?_cons_succ] at g1;exact g1,by simp only [rowPS,List.getElem?_cons_zero,List.getElem?_cons_succ] at g2;exact g2,by simp only [rowPS,List.getElem?_cons_zero,List.getElem?_cons_succ] at g3;exact g3,h2,h3⟩
 ·have h1:=hv.sn k hk
  have h2:=hv.p k hk
  have h3:=hv.d k hk
  have h4:=htc k default hk
  obtain ⟨x,hx⟩:∃ x,x = Q.getD k default:=⟨_,rfl⟩
  rw [← hx] at h1 h2 h3 h4
  obtain ⟨⟨qa,qn,qc⟩,⟨oa,on,oc⟩,la⟩:=x
  simp only [sl] at h1 h2 h3
  obtain rfl:=h2.len;obtain rfl:=h3.len
  have g0:=h4 0 (by omega);have g1:=h4 1 (by omega);have g2:=h4 2 (by omega)
  rw [← h1]
  exact ⟨qa,qc,oa,oc,by simp only [rowSS,List.getElem?_cons_zero,List.getElem?_cons_succ] at g0;exact g0,by simp only [rowSS,List.getElem?_cons_zero,List.getElem?_cons_succ] at g1;exact g1,by simp only [rowSS,List.getElem?_cons_zero,List.getElem?_cons_succ] at g2;exact g2,h2,h3⟩
set_option maxRecDepth 8000 in
set_option maxHeartbeats 16000000 in
theorem crCyc_same {c:Cfg} {w:World} {B:Nat} {a0 a1 a2 a3 a4 b0 b1 b2 b3 b4:Value} {st:Cy} {P P':List PS} {Q Q':List SS} (hv:CyV w B a0 a1 a2 a3 a4 st P Q) (hu:CyV w B b0 b1 b2 b3 b4 st P' Q') (hB:B ≤ w.heap.size) (hg:Good c st) (hb:Bus c) :
  Calls Tryz.prog 25 #[.agg #[a0,a1,a2,a3,a4],.agg #[b0,b1,b2,b3,b4]] w fun e w' => e = .returned (.bool true) ∧ Below w.heap.size w w':=by
 obtain ⟨d0,d1,d4,c0,c1,c4,pg,po,pc,tg,tp,tc,rfl,rfl,rfl,rfl,rfl,hpg,htg,hp,hs⟩:=hv.rows
 obtain ⟨e0,e1,e4,f0,f1,f4,qg,qo,qc,ug,up,uc,rfl,rfl,rfl,rfl,rfl,hqg,hug,hq,hr⟩:=hu.rows
 have HV:=hid hv;have HU:=hid hu;have HP:=hid hp;have HS:=hid hs;have HQ:=hid hq;have HR:=hid hr;have HG:=hid hg
 clear hv hu hp hs hq hr hg
 go_enter Tryz.func25,Tryz.ntmps25
 go_upto_region 1 with fail
 obtain ⟨w2,hw2⟩:∃ W,W = (w.alloc (.cells #[.slice d0 st.ws.length c0,.slice d1 st.hs.length c1,.slice (some ⟨pg,po,none⟩) 3 pc,.slice (some ⟨tg,tp,none⟩) 4 tc,.slice d4 st.told.length c4] 39)).alloc (.cells #[.slice e0 st.ws.length f0,.slice e1 st.hs.length f1,.slice (some ⟨qg,qo,none⟩) 3 qc,.slice (some ⟨ug,up,none⟩) 4 uc,.slice e4 st.told.length f4] 39):=⟨_,rfl⟩
 obtain ⟨gx,hgx⟩:∃ g,g = w.heap.size:=⟨_,rfl⟩
 obtain ⟨gy,hgy⟩:∃ g,g = w.heap.size + 1:=⟨_,rfl⟩
 have X:=hid (show Bx w2 gx [.slice d0 st.ws.length c0,.slice d1 st.hs.length c1,.slice (some ⟨pg,po,none⟩) 3 pc,.slice (some ⟨tg,tp,none⟩) 4 tc,.slice d4 st.told.length c4] by
  rw [hw2,hgx];exact (Bx.new w #[.slice d0 st.ws.length c0,.slice d1 st.hs.length c1,.slice (some ⟨pg,po,none⟩) 3 pc,.slice (some ⟨tg,tp,none⟩) 4 tc,.slice d4 st.told.length c4] 39 (by simp)).below ((Below.refl _ _).alloc (Nat.le_refl _) _) (by simp))
 have Y:=hid (show Bx w2 gy [.slice e0 st.ws.length f0,.slice e1 st.hs.length f1,.slice (some ⟨qg,qo,none⟩) 3 qc,.slice (some ⟨ug,up,none⟩) 4 uc,.slice e4 st.told.length f4] by
  rw [hw2,hgy];have:=Bx.new (w.alloc (.cells #[.slice d0 st.ws.length c0,.slice d1 st.hs.length c1,.slice (some ⟨pg,po,none⟩) 3 pc,.slice (some ⟨tg,tp,none⟩) 4 tc,.slice d4 st.told.length c4] 39)) #[.slice e0 st.ws.length f0,.slice e1 st.hs.length f1,.slice (some ⟨qg,qo,none⟩) 3 qc,.slice (some ⟨ug,up,none⟩) 4 uc,.slice e4 st.told.length f4] 39 (by simp);simpa using this)
 have HB2:=hid (show Below w.heap.size w w2 by rw [hw2];exact two_in w _ _)
 have HBS:=hid hB
 rw [← hw2,← hgy,← hgx]
 clear hw2 hgx hgy hB
 obtain ⟨x0,x1,x2,x3,x4⟩:=X.out.five.1
 obtain ⟨y0,y1,y2,y3,y4⟩:=Y.out.five.1
 go_upto_region 3 with (first
  | (go_at_call 62;go_loud ((with_reducible refine (crAtm_same st.ws st.hs _ _ _ _ _ _ _ _ B _ (HV.out.ws.below (HB2.out.mono HBS.out)) (HV.out.hs.below (HB2.out.mono HBS.out)) (HU.out.ws.below (HB2.out.mono HBS.out)) (HU.out.hs.below (HB2.out.mono HBS.out)) (Nat.le_trans HBS.out HB2.out.size)).mono ?_));rintro e w3 ⟨rfl,hb3⟩;have HB3:=hid hb3;obtain ⟨x0,x1,x2,x3,x4⟩:=(X.out.below hb3 X.out.lt).five.1;obtain ⟨y0,y1,y2,y3,y4⟩:=(Y.out.below hb3 Y.out.lt).five.1;clear hb3)
  | (go_at_call 18;go_loud ((with_reducible refine (crJobs_same st.told _ _ B _ (HV.out.told.below ((HB2.out.trans (HB3.out.mono HB2.out.size)).mono HBS.out)) (HU.out.told.below ((HB2.out.trans (HB3.out.mono HB2.out.size)).mono HBS.out)) (Nat.le_trans HBS.out (Nat.le_trans HB2.out.size HB3.out.size))).mono ?_));rintro e w4 ⟨rfl,hb4⟩;have HB4:=hid hb4;clear hb4))
 have HBX:=hid (HB3.out.trans (HB4.out.mono HB3.out.size))
 clear x0 x1 x2 x3 x4 y0 y1 y2 y3 y4
 go_wp2_with fail
 go_loopw [5] (fun i wr => ∃ k:Nat,i = .int .i64 k ∧ k ≤ 3 ∧ Below w2.heap.size w2 wr) (fun i _ => 3 - (intOf i).toNat)
 case atStart => exact ⟨0,by go_num,Nat.zero_le _,HBX.out⟩
 case round =>
  obtain ⟨k,rfl,hk,hbr⟩:=hrel
  clear HBX HB3 HB4
  have HBX:=hid hbr
  obtain ⟨wo,hwo⟩:∃ W,W = wr:=⟨_,rfl⟩
  subst hwo
  obtain ⟨x0,x1,x2,x3,x4⟩:=(X.out.below hbr X.out.lt).five.1
  obtain ⟨y0,y1,y2,y3,y4⟩:=(Y.out.below hbr Y.out.lt).five.1
  clear x0 x1 x3 x4 y0 y1 y3 y4 hbr
  by_cases hlt:k < 3
  ·have hki:(k:Int) < 3:=by omega
   obtain ⟨qa,pqc,oa,oc,p0,p1,p2,p3,hpq,hpo⟩:=HP.out k hlt
   obtain ⟨ra,rc,sa,sc,q0,q1,q2,q3,hqq,hqo⟩:=HQ.out k hlt
   obtain ⟨pt,hpt⟩:∃ p,p = st.ports k:=⟨_,rfl⟩
   have HPG:=hid (HG.out.p k hlt)
   rw [← hpt] at p0 p1 p2 p3 hpq hpo q0 q1 q2 q3 hqq hqo HPG
   have hl1:∀ x ∈ pt.queue,x < 1000:=fun x hx => by
    have h1:=HPG.out.q;rw [h1,List.mem_range'_1] at hx
    have:=HPG.out.nx;have:=hb.twelve hlt;have:=HPG.out.qn;omega
   have hb0:=HB2.out.trans (HBX.out.mono HB2.out.size)
   have hse:=hb0.size
   have hpw:pg < w.heap.size:=Nat.lt_of_lt_of_le hpg HBS.out
   have hqw:qg < w.heap.size:=Nat.lt_of_lt_of_le hqg HBS.out
   have IQ:=hid ((hpq.ints hl1).below (hb0.mono HBS.out));have IR:=hid ((hqq.ints hl1).below (hb0.mono HBS.out));have JO:=hid (hpo.below (hb0.mono HBS.out));have JS:=hid (hqo.below (hb0.mono HBS.out))
   have hlq:(pt.queue.map fun (x:Nat) => (x:Int)).length = pt.queue.length:=by simp
   obtain ⟨ql,hql⟩:∃ x,x = pt.queue.length:=⟨_,rfl⟩
   obtain ⟨ol,hol⟩:∃ x,x = pt.out.length:=⟨_,rfl⟩
   obtain ⟨nx,hnx⟩:∃ x,x = pt.next:=⟨_,rfl⟩
   obtain ⟨la,hla⟩:∃ x,x = pt.last:=⟨_,rfl⟩
   rw [← hql] at p1 q1 IQ IR;rw [← hol] at p2 q2 JO JS;rw [← hnx] at p0 q0;rw [← hla] at p3 q3
   rw [← hb0.cell (p:=⟨pg,_,none⟩) hpw] at p0 p1 p2 p3
   rw [← hb0.cell (p:=⟨qg,_,none⟩) hqw] at q0 q1 q2 q3
   have HB0:=hid hb0
   clear hpt hpq hpo hqq hqo hl1 hlq hql hol hnx hla hb0
   have hgy:gy < wo.heap.size:=Nat.lt_of_lt_of_le Y.out.lt HBX.out.size
   have hqo:qg < wo.heap.size:=Nat.lt_of_lt_of_le hqw hse
   go_upto_region 7 with fail
   obtain ⟨w3,hw3⟩:∃ W,W = wo.alloc (.cells #[.int .i64 nx,.slice qa ql pqc,.slice oa ol oc,.int .i64 la] 49):=⟨_,rfl⟩
   obtain ⟨hx,hhx⟩:∃ g,g = wo.heap.size:=⟨_,rfl⟩
   have F0:=hid (show Bx w3 hx [.int .i64 nx,.slice qa ql pqc,.slice oa ol oc,.int .i64 la] by rw [hw3,hhx];exact Bx.new wo #[.int .i64 nx,.slice qa ql pqc,.slice oa ol oc,.int .i64 la] 49 (by simp))
   have hb3:Below wo.heap.size wo w3:=by rw [hw3];exact (Below.refl _ _).alloc (Nat.le_refl _) _
   rw [← hb3.cell (p:=⟨qg,_,none⟩) hqo] at q0 q1 q2 q3
   rw [← hb3.cell (p:=⟨gy,_,none⟩) hgy] at y2
   rw [← hw3,← hhx]
   have HB3:=hid hb3
   clear hw3 hhx x2 p0 p1 p2 p3 hb3
   go_upto_region 8 with fail
   obtain ⟨w4,hw4⟩:∃ W,W = w3.alloc (.cells #[.int .i64 nx,.slice ra ql rc,.slice sa ol sc,.int .i64 la] 49):=⟨_,rfl⟩
   obtain ⟨hy,hhy⟩:∃ g,g = w3.heap.size:=⟨_,rfl⟩
   have G:=hid (show Bx w4 hy [.int .i64 nx,.slice ra ql rc,.slice sa ol sc,.int .i64 la] by rw [hw4,hhy];exact Bx.new w3 #[.int .i64 nx,.slice ra ql rc,.slice sa ol sc,.int .i64 la] 49 (by simp))
   have hb4:Below w3.heap.size w3 w4:=by rw [hw4];exact (Below.refl _ _).alloc (Nat.le_refl _) _
   have F:=hid (F0.out.below hb4 F0.out.lt)
   have HB4:=hid (HB3.out.trans (hb4.mono HB3.out.size))
   rw [← hw4,← hhy]
   clear hw4 hhy y2 q0 q1 q2 q3 hb4 F0
   obtain ⟨f0,f1,f2,f3⟩:=F.out.four.1
   obtain ⟨g0,g1,g2,g3⟩:=G.out.four.1
   have n1:((nx:Int) != (nx:Int)) = false:=by simp
   have n2:((la:Int) != (la:Int)) = false:=by simp
   go_wp2_with (first
    | (go_at_call 40;go_loud ((with_reducible refine (crInts_same _ _ (pt.queue.map fun (x:Nat) => (x:Int)) B B _ (IQ.out.below (HB4.out.mono (Nat.le_trans HBS.out hse))) (IR.out.below (HB4.out.mono (Nat.le_trans HBS.out hse)))).mono ?_));rintro e w5 ⟨rfl,hd5⟩;have HB5:=hid (hd5.below w4.heap.size);obtain ⟨f0,f1,f2,f3⟩:=(F.out.below HB5.out F.out.lt).four.1;obtain ⟨g0,g1,g2,g3⟩:=(G.out.below HB5.out G.out.lt).four.1;clear hd5)
    | (go_at_call 63;go_loud ((with_reducible refine (crOuts_same pt.out _ _ B _ ((JO.out.below (HB4.out.mono (Nat.le_trans HBS.out hse))).below (HB5.out.mono (Nat.le_trans HBS.out (Nat.le_trans hse HB4.out.size)))) ((JS.out.below (HB4.out.mono (Nat.le_trans HBS.out hse))).below (HB5.out.mono (Nat.le_trans HBS.out (Nat.le_trans hse HB4.out.size))))).mono ?_));rintro e w6 ⟨rfl,hd6⟩;have HB6:=hid (hd6.below w5.heap.size);clear hd6))
   go_roundw
   case rel => exact ⟨k + 1,by go_num,by omega,HBX.out.trans (((HB4.out.trans (HB5.out.mono HB4.out.size)).trans (HB6.out.mono (Nat.le_trans HB4.out.size HB5.out.size))).mono HBX.out.size)⟩
   case measure => simp [intOf];omega
  ·obtain rfl:k = 3:=by omega
   rw [show (((3:Nat)):Int) = (3:Int) from rfl]
   go_wp2_with fail
   go_loopw [8] (fun i wr => ∃ k:Nat,i = .int .i64 k ∧ k ≤ 4 ∧ Below w2.heap.size w2 wr) (fun i _ => 4 - (intOf i).toNat)
   case atStart => exact ⟨0,by go_num,Nat.zero_le _,HBX.out⟩
   case round =>
    obtain ⟨k,rfl,hk,hbr⟩:=hrel
    clear HBX x2 y2
    have HBX:=hid hbr
    obtain ⟨wo,hwo⟩:∃ W,W = wr:=⟨_,rfl⟩
    subst hwo
    obtain ⟨x0,x1,x2,x3,x4⟩:=(X.out.below hbr X.out.lt).five.1
    obtain ⟨y0,y1,y2,y3,y4⟩:=(Y.out.below hbr Y.out.lt).five.1
    clear x0 x1 x2 x4 y0 y1 y2 y4 hbr
    by_cases hlt:k < 4
    ·have hki:(k:Int) < 4:=by omega
     obtain ⟨qa,pqc,oa,oc,p0,p1,p2,hpq,hpo⟩:=HS.out k hlt
     obtain ⟨ra,rc,sa,sc,q0,q1,q2,hqq,hqo⟩:=HR.out k hlt
     obtain ⟨pt,hpt⟩:∃ p,p = st.slaves k:=⟨_,rfl⟩
     rw [← hpt] at p0 p1 p2 hpq hpo q0 q1 q2 hqq hqo
     have hb0:=HB2.out.trans (HBX.out.mono HB2.out.size)
     have hse:=hb0.size
     have hpw:tg < w.heap.size:=Nat.lt_of_lt_of_le htg HBS.out
     have hqw:ug < w.heap.size:=Nat.lt_of_lt_of_le hug HBS.out
     have IQ:=hid (hpq.below (hb0.mono HBS.out));have IR:=hid (hqq.below (hb0.mono HBS.out));have JO:=hid (hpo.below (hb0.mono HBS.out));have JS:=hid (hqo.below (hb0.mono HBS.out))
     obtain ⟨ql,hql⟩:∃ x,x = pt.pipe.length:=⟨_,rfl⟩
     obtain ⟨ol,hol⟩:∃ x,x = pt.done.length:=⟨_,rfl⟩
     obtain ⟨la,hla⟩:∃ x,x = pt.last:=⟨_,rfl⟩
     rw [← hql] at p0 q0 IQ IR;rw [← hol] at p1 q1 JO JS;rw [← hla] at p2 q2
     rw [← hb0.cell (p:=⟨tg,_,none⟩) hpw] at p0 p1 p2
     rw [← hb0.cell (p:=⟨ug,_,none⟩) hqw] at q0 q1 q2
     have HB0:=hid hb0
     clear hpt hpq hpo hqq hqo hql hol hla hb0
     have hgy:gy < wo.heap.size:=Nat.lt_of_lt_of_le Y.out.lt HBX.out.size
     have hqo:ug < wo.heap.size:=Nat.lt_of_lt_of_le hqw hse
     go_upto_region 14 with fail
     obtain ⟨w3,hw3⟩:∃ W,W = wo.alloc (.cells #[.slice qa ql pqc,.slice oa ol oc,.int .i64 la] 62):=⟨_,rfl⟩
     obtain ⟨hx,hhx⟩:∃ g,g = wo.heap.size:=⟨_,rfl⟩
     have F0:=hid (show Bx w3 hx [.slice qa ql pqc,.slice oa ol oc,.int .i64 la] by rw [hw3,hhx];exact Bx.new wo #[.slice qa ql pqc,.slice oa ol oc,.int .i64 la] 62 (by simp))
     have hb3:Below wo.heap.size wo w3:=by rw [hw3];exact (Below.refl _ _).alloc (Nat.le_refl _) _
     rw [← hb3.cell (p:=⟨ug,_,none⟩) hqo] at q0 q1 q2
     rw [← hb3.cell (p:=⟨gy,_,none⟩) hgy] at y3
     rw [← hw3,← hhx]
     have HB3:=hid hb3
     clear hw3 hhx x3 p0 p1 p2 hb3
     go_upto_region 15 with fail
     obtain ⟨w4,hw4⟩:∃ W,W = w3.alloc (.cells #[.slice ra ql rc,.slice sa ol sc,.int .i64 la] 62):=⟨_,rfl⟩
     obtain ⟨hy,hhy⟩:∃ g,g = w3.heap.size:=⟨_,rfl⟩
     have G:=hid (show Bx w4 hy [.slice ra ql rc,.slice sa ol sc,.int .i64 la] by rw [hw4,hhy];exact Bx.new w3 #[.slice ra ql rc,.slice sa ol sc,.int .i64 la] 62 (by simp))
     have hb4:Below w3.heap.size w3 w4:=by rw [hw4];exact (Below.refl _ _).alloc (Nat.le_refl _) _
     have F:=hid (F0.out.below hb4 F0.out.lt)
     have HB4:=hid (HB3.out.trans (hb4.mono HB3.out.size))
     rw [← hw4,← hhy]
     clear hw4 hhy y3 q0 q1 q2 hb4 F0
     obtain ⟨f0,f1,f2⟩:=F.out.three.1
     obtain ⟨g0,g1,g2⟩:=G.out.three.1
     have n2:((la:Int) != (la:Int)) = false:=by simp
     go_wp2_with (first
      | (go_at_call 63;go_loud ((with_reducible refine (crOuts_same pt.pipe _ _ B _ (IQ.out.below (HB4.out.mono (Nat.le_trans HBS.out hse))) (IR.out.below (HB4.out.mono (Nat.le_trans HBS.out hse)))).mono ?_));rintro e w5 ⟨rfl,hd5⟩;have HB5:=hid (hd5.below w4.heap.size);obtain ⟨f0,f1,f2⟩:=(F.out.below HB5.out F.out.lt).three.1;obtain ⟨g0,g1,g2⟩:=(G.out.below HB5.out G.out.lt).three.1;clear hd5)
      | (go_at_call 18;go_loud ((with_reducible refine (crJobs_same pt.done _ _ B _ ((JO.out.below (HB4.out.mono (Nat.le_trans HBS.out hse))).below (HB5.out.mono (Nat.le_trans HBS.out (Nat.le_trans hse HB4.out.size)))) ((JS.out.below (HB4.out.mono (Nat.le_trans HBS.out hse))).below (HB5.out.mono (Nat.le_trans HBS.out (Nat.le_trans hse HB4.out.size)))) (Nat.le_trans HBS.out (Nat.le_trans hse (Nat.le_trans HB4.out.size HB5.out.size)))).mono ?_));rintro e w6 ⟨rfl,hb6⟩;have HB6:=hid hb6;clear hb6))
     go_roundw
     case rel => exact ⟨k + 1,by go_num,by omega,HBX.out.trans (((HB4.out.trans (HB5.out.mono HB4.out.size)).trans (HB6.out.mono (Nat.le_trans HB4.out.size HB5.out.size))).mono HBX.out.size)⟩
     case measure => simp [intOf];omega
    ·obtain rfl:k = 4:=by omega
     rw [show (((4:Nat)):Int) = (4:Int) from rfl]
     go_wp2_with fail
     go_ret
     exact ⟨rfl,HB2.out.trans (HBX.out.mono HB2.out.size)⟩
theorem JobsV.take {w:World} {B:Nat} {a:Option Addr} {n k m:Nat} {js:List TJ} (h:JobsV w B (.slice a n k) js) (hm:m ≤ n):JobsV w B (.slice a m k) (js.take m):=by
 obtain ⟨D,⟨ao,cap,hv,h1,h2,h0,h9,h3⟩,rfl,hd⟩:=h
 simp only [List.length_map,Value.slice.injEq] at hv h1 h0 h3
 obtain ⟨rfl,rfl,rfl⟩:=hv
 have hl:(D.take m).length = m:=by rw [List.length_take];omega
 refine ⟨D.take m,⟨a,k,by rw [List.length_map,hl],by rw [List.length_map,hl];omega,h2,by rw [List.length_map,hl];omega,h9,fun hn => ?_⟩,by rw [List.map_take],fun x hx => hd x (List.mem_of_mem_take hx)⟩
 rw [List.length_map,hl] at hn
 obtain ⟨b,off,ha,hlt,hc⟩:=h3 (by omega)
 refine ⟨b,off,ha,hlt,fun t ht j hj => ?_⟩
 rw [List.length_map,hl] at ht
 rw [hc t (by omega) j hj]
 simp [List.getD,List.getElem?_take,ht]
theorem InV.bits {w:World} {B:Nat} {ra ta sa:Option Addr} {rc tc sc:Nat} {inp:Inp} (h:InV w B (.agg #[.slice ra 3 rc,.slice ta 4 tc,.slice sa 3 sc]) inp):∃ rb ro sb so,ra = some ⟨rb,ro,none⟩ ∧ sa = some ⟨sb,so,none⟩ ∧ rb < B ∧ sb < B ∧ (∀ j,j < 3 → w.cell? ⟨rb,ro + j,none⟩ = some (.bool (inp.ready.getD j false))) ∧ (∀ j,j < 3 → w.cell? ⟨sb,so + j,none⟩ = some (.bool (inp.send.getD j false))):=by
 obtain ⟨⟨ra', rc', ta', tc', sa', sc', e,k1,_,k3⟩,l1,_,l3⟩:=h
 simp only [Value.agg.injEq,Array.mk.injEq,List.cons.injEq,Value.slice.injEq,and_true] at e
 obtain ⟨⟨rfl,_,rfl⟩,_,⟨rfl,_,rfl⟩⟩:=e
 obtain ⟨a1,c1,e1,_,_,_,_,h1⟩:=k1.opened
 obtain ⟨a3,c3,e3,_,_,_,_,h3⟩:=k3.opened
 simp only [Value.slice.injEq,true_and] at e1 e3
 obtain ⟨rb,ro,rfl,q1,q2⟩:=h1 (by omega)
 obtain ⟨sb,so,rfl,q3,q4⟩:=h3 (by omega)
 exact ⟨rb,ro,sb,so,e1.1,e3.1,q1,q3,fun j hj => q2 j (by omega),fun j hj => q4 j (by omega)⟩
theorem bools_ofQ {F:World} {g n:Nat} {v:Bool} (hg:g < F.heap.size) (hn:n ≤ 4) (h:∀ i,i < n → F.cell? ⟨g,i,none⟩ = some (.bool v)):Bools F F.heap.size (.slice (some ⟨g,0,none⟩) n n) (List.replicate n v):=by
 refine ⟨some ⟨g,0,none⟩,n,by simp,by simp,by omega,by simp only [List.length_map,List.length_replicate];omega,(fun h => nomatch h),fun hn => ⟨g,0,rfl,hg,fun t ht j hj => ?_⟩⟩
 have hj0:j = 0:=by omega
 subst hj0
 rw [List.length_map,List.length_replicate] at ht
 rw [Nat.zero_add,Nat.mul_one,Nat.add_zero,h t ht]
 simp [List.getD,ht,rowB]
def inRowQ (x:Value × Value × Value):List Value:=[x.1,x.2.1,x.2.2]
theorem mk3p (w:World):(Instr.makeSlice 25 (.int .i64 3) (.int .i64 3)).run Tryz.prog w = .ok (.slice (some ⟨w.heap.size,0,none⟩) 3 3) (w.alloc (.cells #[.slice none 0 0,.slice none 0 0,.slice none 0 0] 60)):=by kernel_rfl
theorem mk3b (w:World):(Instr.makeSlice 42 (.int .i64 3) (.int .i64 3)).run Tryz.prog w = .ok (.slice (some ⟨w.heap.size,0,none⟩) 3 3) (w.alloc (.cells #[.bool false,.bool false,.bool false] 4)):=by kernel_rfl
theorem elem_In:Elem 28 44 3 72:=elem_of Tryz.underlying28 (z:=.agg #[.slice none 0 0,.slice none 0 0,.slice none 0 0]) (by kernel_rfl) rfl (by omega)
def NobD (wo:World) (x y:Value) (s:Value) (w9:World):Prop:=∃ gc pq,s = .pointer (some ⟨gc,0,none⟩) ∧ Bx w9 gc [x,y,.slice (some ⟨pq,0,none⟩) 3 3] ∧ pq < w9.heap.size ∧ (∀ i,i < 3 → w9.cell? ⟨pq,i,none⟩ = some (.slice none 0 0)) ∧ Below wo.heap.size wo w9
theorem BusV.nobody {w:World} {B:Nat} {c:Cfg} {ma:Option Addr} {mn mk lb lo lc pb po pc pq:Nat} (h:BusV w B (.agg #[.slice ma mn mk,.slice (some ⟨lb,lo,none⟩) 4 lc,.slice (some ⟨pb,po,none⟩) 3 pc]) c) (hq:pq < B) (hc:∀ i,i < 3 → w.cell? ⟨pq,i,none⟩ = some (.slice none 0 0)) :
  BusV w B (.agg #[.slice ma mn mk,.slice (some ⟨lb,lo,none⟩) 4 lc,.slice (some ⟨pq,0,none⟩) 3 3]) ⟨c.ms,c.lat,[[],[],[]]⟩:=by
 obtain ⟨ma', la,pa,mc,lc', pc', Q,e,h1,h2,_,_⟩:=h
 simp only [Value.agg.injEq,Array.mk.injEq,List.cons.injEq,Value.slice.injEq,and_true] at e
 obtain ⟨⟨rfl,rfl,rfl⟩,⟨rfl,e4,rfl⟩,_⟩:=e
 rw [e4]
 refine ⟨_,_,some ⟨pq,0,none⟩,_,_,3,fun _ => vnil,rfl,h1,h2,?_,fun i _ => ?_⟩
 ·refine ⟨some ⟨pq,0,none⟩,3,rfl,by simp,by omega,by simp,(fun h => nomatch h),fun _ => ⟨pq,0,rfl,hq,fun t ht j hj => ?_⟩⟩
  have ht3:t < 3:=by simpa using ht
  obtain rfl:j = 0:=by omega
  rw [Nat.zero_add,Nat.mul_one,Nat.add_zero,hc t ht3]
  obtain rfl | rfl | rfl:t = 0 ∨ t = 1 ∨ t = 2:=by omega
  all_goals rfl
 ·have e5:Cfg.prog ⟨c.ms,c.lat,[[],[],[]]⟩ i = []:=by
   show ([[],[],[]]:List (List Rq)).getD i [] = []
   match i with
   | 0 | 1 | 2 | _ + 3 => rfl
  rw [e5]
  exact ArrV.nil _ _ _ _
def qIn (i:Inp):Inp:=⟨i.ready,i.stall,[false,false,false]⟩
def QI (w1:World) (ins:List Inp) (base:Nat) (w:World) (s:Value) (k:Nat) (xs:List (Value × Value × Value)):Prop :=
 Owns w base 44 3 inRowQ s xs ∧ xs.length = k ∧ ∀ i,i < k → ∃ ra rc ta tc sa sc g,xs.getD i (vnil,vnil,vnil) = (.slice ra 3 rc,.slice ta 4 tc,.slice (some ⟨g,0,none⟩) 3 3) ∧ InV w1 w1.heap.size (.agg #[.slice ra 3 rc,.slice ta 4 tc,.slice sa 3 sc]) (ins.getD i default) ∧ g < w.heap.size ∧ s.ownBlock ≠ some g ∧ ∀ j,j < 3 → w.cell? ⟨g,j,none⟩ = some (.bool false)
theorem inRowQ_len (x:Value × Value × Value):(inRowQ x).length = 3:=rfl
theorem QI.zero {w1:World} {ins:List Inp} {base:Nat} {w:World} {s:Value} (h:Owns w base 44 3 inRowQ s []):QI w1 ins base w s 0 []:=⟨h,rfl,fun i hi => absurd hi (Nat.not_lt_zero _)⟩
theorem QI.below {w1:World} {ins:List Inp} {base:Nat} {w w':World} {s:Value} {k:Nat} {xs:List (Value × Value × Value)} (h:QI w1 ins base w s k xs) (hb:Below w.heap.size w w'):QI w1 ins base w' s k xs:=by
 obtain ⟨h1,h2,h3⟩:=h
 refine ⟨h1.below hb,h2,fun i hi => ?_⟩
 obtain ⟨ra,rc,ta,tc,sa,sc,g,e,hv,hg,ho,hc⟩:=h3 i hi
 exact ⟨ra,rc,ta,tc,sa,sc,g,e,hv,Nat.lt_of_lt_of_le hg hb.size,ho,fun j hj => (hb.cell (p:=⟨g,j,none⟩) hg).trans (hc j hj)⟩
theorem QI.snoc {w1:World} {ins:List Inp} {base:Nat} {w w':World} {s s':Value} {k g:Nat} {xs:List (Value × Value × Value)} {ra ta sa:Option Addr} {rc tc sc:Nat} (h:QI w1 ins base w s k xs) (hv:InV w1 w1.heap.size (.agg #[.slice ra 3 rc,.slice ta 4 tc,.slice sa 3 sc]) (ins.getD k default))
  (ho:Owns w' base 44 3 inRowQ s' (xs ++ [(.slice ra 3 rc,.slice ta 4 tc,.slice (some ⟨g,0,none⟩) 3 3)])) (hk:∀ b,b < w.heap.size → s.ownBlock ≠ some b → w'.heap[b]? = w.heap[b]?) (hz:w.heap.size ≤ w'.heap.size) (hn:∀ b,s'.ownBlock = some b → s.ownBlock = some b ∨ w.heap.size ≤ b)
  (hg:g < w.heap.size) (hgo:s.ownBlock ≠ some g) (hgc:∀ j,j < 3 → w.cell? ⟨g,j,none⟩ = some (.bool false)):QI w1 ins base w' s' (k + 1) (xs ++ [(.slice ra 3 rc,.slice ta 4 tc,.slice (some ⟨g,0,none⟩) 3 3)]):=by
 obtain ⟨h1,h2,h3⟩:=h
 have hcell:∀ (b j:Nat),b < w.heap.size → s.ownBlock ≠ some b → w'.cell? ⟨b,j,none⟩ = w.cell? ⟨b,j,none⟩:=fun b j hb hne => by simp only [World.cell?,hk b hb hne]
 refine ⟨ho,by rw [List.length_append,h2];rfl,fun i hi => ?_⟩
 by_cases hik:i = k
 ·subst hik
  refine ⟨ra,rc,ta,tc,sa,sc,g,?_,hv,Nat.lt_of_lt_of_le hg hz,fun e => ?_,fun j hj => by rw [hcell g j hg hgo];exact hgc j hj⟩
  ·simp [List.getD,List.getElem?_append_right,h2]
  ·rcases hn g e with e | e
   ·exact hgo e
   ·omega
 ·obtain ⟨ra', rc', ta', tc', sa', sc', g', e,hv', hg', ho', hc'⟩:=h3 i (by omega)
  refine ⟨ra', rc', ta', tc', sa', sc', g', ?_,hv', Nat.lt_of_lt_of_le hg' hz,fun e => ?_,fun j hj => by rw [hcell g' j hg' ho'];exact hc' j hj⟩
  ·rw [← e];simp [List.getD,List.getElem?_append_left (show i < xs.length by omega)]
  ·rcases hn g' e with e | e
   ·exact ho' e
   ·omega
theorem QI.ins {w1:World} {ins:List Inp} {base:Nat} {w:World} {s:Value} {xs:List (Value × Value × Value)} (h:QI w1 ins base w s ins.length xs) (hl:ins.length ≤ 1000) (hb:Below w1.heap.size w1 w):Ins w w.heap.size s (ins.map qIn):=by
 obtain ⟨h1,h2,h3⟩:=h
 refine ⟨xs.map fun x => .agg #[x.1,x.2.1,x.2.2],?_,by rw [List.length_map,List.length_map,h2],fun k hk d => ?_⟩
 ·have:=h1.arr inRowQ_len (by omega)
  rw [List.map_map]
  rw [show xs.map ((fun u:Value => u.cells.toList) ∘ fun x => Value.agg #[x.1,x.2.1,x.2.2]) = xs.map inRowQ from List.map_congr_left fun x hx => ?_]
  ·exact this
  ·obtain ⟨i,hi,rfl⟩:=List.mem_iff_getElem.1 hx
   obtain ⟨ra,rc,ta,tc,sa,sc,g,e,_⟩:=h3 i (by omega)
   have e2:xs[i] = (.slice ra 3 rc,.slice ta 4 tc,.slice (some ⟨g,0,none⟩) 3 3):=by rw [← e];simp [List.getD,hi]
   rw [e2]
   rfl
 ·rw [List.length_map] at hk
  obtain ⟨ra,rc,ta,tc,sa,sc,g,e,hv,hg,_,hc⟩:=h3 k hk
  have e1:(xs.map fun x => Value.agg #[x.1,x.2.1,x.2.2]).getD k undef = .agg #[.slice ra 3 rc,.slice ta 4 tc,.slice (some ⟨g,0,none⟩) 3 3]:=by
   have hkx:k < xs.length:=by omega
   have:xs[k] = (.slice ra 3 rc,.slice ta 4 tc,.slice (some ⟨g,0,none⟩) 3 3):=by rw [← e];simp [List.getD,hkx]
   simp [List.getD,hkx,this]
  have e2:(ins.map qIn).getD k d = qIn (ins.getD k default):=by simp [List.getD,hk]
  rw [e1,e2]
  have hv2:=(hv.below hb).mono hb.size
  obtain ⟨⟨ra', rc', ta', tc', sa', sc', e5,k1,k2,k3⟩,l1,l2,l3⟩:=hv2
  simp only [Value.agg.injEq,Array.mk.injEq,List.cons.injEq,Value.slice.injEq,and_true] at e5
  obtain ⟨⟨rfl,r1,rfl⟩,⟨rfl,r2,rfl⟩,_⟩:=e5
  refine ⟨⟨ra,rc,ta,tc,some ⟨g,0,none⟩,3,by rw [show (qIn (ins.getD k default)).ready.length = 3 from l1,show (qIn (ins.getD k default)).stall.length = 4 from l2];rfl,k1,k2,?_⟩,l1,l2,rfl⟩
  exact bools_ofQ (n:=3) (v:=false) hg (by omega) hc
def qiP (wr:World) (base:Nat) (s:Value) (xs:List (Value × Value × Value)) (x y:Value) (v:Value) (W:World):Prop :=
 ∃ W0 g,Below wr.heap.size wr W0 ∧ (wr.heap.size ≤ g ∧ g < W0.heap.size ∧ ∀ j,j < 3 → W0.cell? ⟨g,j,none⟩ = some (.bool false)) ∧ Owns W base 44 3 inRowQ v (xs ++ [(x,y,.slice (some ⟨g,0,none⟩) 3 3)]) ∧ (∀ b,b < W0.heap.size → s.ownBlock ≠ some b → W.heap[b]? = W0.heap[b]?) ∧ W0.heap.size ≤ W.heap.size ∧ Below base W0 W ∧ (∀ k,v.ownBlock = some k → s.ownBlock = some k ∨ W0.heap.size ≤ k)
def qiC (wr:World) (base:Nat) (s:Value) (xs:List (Value × Value × Value)) (x y:Value) (us:List Value) (W:World):Prop:=match us with
 | [] => Below wr.heap.size wr W
 | [v0] => Below wr.heap.size wr W ∧ ∃ g,v0 = .slice (some ⟨g,0,none⟩) 3 3 ∧ wr.heap.size ≤ g ∧ g < W.heap.size ∧ ∀ j,j < 3 → W.cell? ⟨g,j,none⟩ = some (.bool false)
 | [_,v1] => Below wr.heap.size wr W ∧ ∃ g,v1 = .agg #[x,y,.slice (some ⟨g,0,none⟩) 3 3] ∧ wr.heap.size ≤ g ∧ g < W.heap.size ∧ ∀ j,j < 3 → W.cell? ⟨g,j,none⟩ = some (.bool false)
 | [_,_,v2] => Below wr.heap.size wr W ∧ ∃ g b,v2 = .slice (some ⟨b,0,none⟩) 1 1 ∧ W.cell? ⟨b,0,none⟩ = some x ∧ W.cell? ⟨b,1,none⟩ = some y ∧ W.cell? ⟨b,2,none⟩ = some (.slice (some ⟨g,0,none⟩) 3 3) ∧ wr.heap.size ≤ g ∧ g < W.heap.size ∧ ∀ j,j < 3 → W.cell? ⟨g,j,none⟩ = some (.bool false)
 | [_,_,_,v3] => qiP wr base s xs x y v3 W
 | [_,_,_,_,v4] => qiP wr base s xs x y v4 W
 | _ => False
theorem qiC_below {wr W:World} {base:Nat} {s:Value} {xs:List (Value × Value × Value)} {x y:Value} {us:List Value} (hb:base ≤ wr.heap.size) (h:qiC wr base s xs x y us W):Below base wr W:=by
 have hp:∀ v,qiP wr base s xs x y v W → Below base wr W:=fun v ⟨W0,g,h1,_,_,_,_,h2,_⟩ => (h1.mono hb).trans h2
 match us,h with
 | [],h => exact Below.mono h hb
 | [_],h => exact h.1.mono hb
 | [_,_],h => exact h.1.mono hb
 | [_,_,_],h => exact h.1.mono hb
 | [_,_,_,v],h => exact hp v h
 | [_,_,_,_,v],h => exact hp v h
 | _ :: _ :: _ :: _ :: _ :: _ :: _,h => exact absurd h id
def CyN (st:Cy) (W:World) (v:Value):Prop:=∃ b0 b1 b2 b3 b4 n0 n1 n2 n3 n4 k0 k1 k2 k3 k4 P Q,v = .agg #[.slice b0 n0 k0,.slice b1 n1 k1,.slice b2 n2 k2,.slice b3 n3 k3,.slice b4 n4 k4] ∧ CyV W W.heap.size (.slice b0 n0 k0) (.slice b1 n1 k1) (.slice b2 n2 k2) (.slice b3 n3 k3) (.slice b4 n4 k4) st P Q
theorem CyN.below {st:Cy} {W W':World} {v:Value} (h:CyN st W v) (hb:Below W.heap.size W W'):CyN st W' v:=by
 obtain ⟨b0,b1,b2,b3,b4,n0,n1,n2,n3,n4,k0,k1,k2,k3,k4,P,Q,e,h⟩:=h
 exact ⟨b0,b1,b2,b3,b4,n0,n1,n2,n3,n4,k0,k1,k2,k3,k4,P,Q,e,(h.below hb).mono hb.size⟩
def NC (st:Cy) (is:List Nat) (us:List Value) (W:World):Prop:=∀ i v,us[i]? = some v → i ∈ is → CyN st W v
theorem NC.nil (st:Cy) (is:List Nat) (W:World):NC st is [] W:=fun i v h _ => by simp at h
theorem NC.below {st:Cy} {is:List Nat} {us:List Value} {W W':World} (h:NC st is us W) (hb:Below W.heap.size W W'):NC st is us W':=fun i v h1 h2 => (h i v h1 h2).below hb
theorem NC.snoc {st:Cy} {is:List Nat} {us:List Value} {W:World} {u:Value} (h:NC st is us W) (hu:us.length ∈ is → CyN st W u):NC st is (us ++ [u]) W:=fun i v h1 h2 => by
 by_cases hi:i < us.length
 ·rw [List.getElem?_append_left hi] at h1;exact h i v h1 h2
 ·rw [List.getElem?_append_right (by omega)] at h1
  have:i - us.length = 0:=by
   have:=(List.getElem?_eq_some_iff.1 h1).1
   simp at this;omega
  rw [this] at h1
  simp only [List.getElem?_cons_zero,Option.some.injEq] at h1
  subst h1
  exact hu (by rwa [show us.length = i by omega])
end Go.Proofs.YtenjbhbcacocjaaGreat
namespace Go.Proofs.YtenjbhbcacocjaaGreat
theorem cyc_idle {c:Cfg} {inp:Inp} (h:∀ w,w < 3 → inp.send.getD w false = true → (c.prog w).length = 0):cyc c inp cy0 = cy0:=by
 have h1:tellAll inp (cy0,[]) = (cy0,[]):=by
  refine foldN_keep (P:=fun x => x = (cy0,[])) 3 (cy0,[]) rfl fun i x _ hx => ?_
  subst hx
  unfold tell1
  split
  ·have e:firstK (tellM (cy0,([]:List Ev)).1 i) 4 = none:=firstK_miss fun _ _ _ => rfl
   rw [e]
  ·rfl
 have h2:workAll c inp (cy0,[]) = (cy0,[]):=by
  refine foldN_keep (P:=fun x => x = (cy0,[])) 4 (cy0,[]) rfl fun i x _ hx => ?_
  subst hx
  unfold work1
  split <;> rfl
 have h3:(letAll c cy0).st = cy0:=by
  refine foldN_keep (P:=fun y:Lt => y.st = cy0) 4 ⟨cy0,fun _ => false,fun _ => 0⟩ rfl fun i y _ hy => ?_
  unfold let1
  split
  ·rw [firstK_miss (fun j _ _ => by simp [letM,may,hy,cy0])]
   exact hy
  ·exact hy
 have h4:askAll c inp (cy0,[]) = (cy0,[]):=by
  refine foldN_keep (P:=fun x => x = (cy0,[])) 3 (cy0,[]) rfl fun i x hi hx => ?_
  subst hx
  unfold ask1
  refine if_neg fun ⟨h5,_,h6⟩ => ?_
  rw [h i hi h5] at h6
  exact Nat.not_lt_zero _ h6
 unfold cyc step
 rw [h1,h2,h3,h4]
theorem run_idle {c:Cfg}:∀ (ins:List Inp),(∀ inp ∈ ins,∀ w,w < 3 → inp.send.getD w false = true → (c.prog w).length = 0) → runC c ins cy0 = cy0
 | [],_ => rfl
 | i :: rest,h => by
  show runC c rest (cyc c i cy0) = cy0
  rw [cyc_idle (h i (List.mem_cons_self ..))]
  exact run_idle rest fun inp hi => h inp (List.mem_cons_of_mem _ hi)
theorem Bus.none {c:Cfg} (h:Bus c):Bus ⟨c.ms,c.lat,[[],[],[]]⟩ :=
 ⟨h.ms,h.lat,h.lat3,rfl,by simp,by simp⟩
end Go.Proofs.YtenjbhbcacocjaaGreat
