/- The same bus is the same: crCyc answers true. -/
import Derived.Test.YtghngenglefofaaGreatGRow
set_option linter.unusedVariables false
set_option linter.unusedSimpArgs false
namespace Go.Proofs.YtghngenglefofaaGreat
open Go.RowKit
theorem Nats.ints {w:World} {B:Nat} {v:Value} {xs:List Nat} (h:Nats w B v xs) (hx:∀ x ∈ xs,x < 1000):Ints w B v (xs.map fun (x:Nat) => (x:Int)) :=
 ⟨by rw [List.map_map];exact h,fun x hx2 => by obtain ⟨y,hy,rfl⟩:=List.mem_map.1 hx2;have:=hx y hy;unfold I64;omega⟩
theorem CyV.rows {w:World} {B:Nat} {a0 a1 a2 a3 a4:Value} {st:Cy} {P:List PS} {Q:List SS} (hv:CyV w B a0 a1 a2 a3 a4 st P Q):∃ (d0 d1 d4:Option Addr) (c0 c1 c4 pg po pc tg tp tc:Nat),a0 = .slice d0 st.ws.length c0 ∧ a1 = .slice d1 st.hs.length c1 ∧ a2 = .slice (some ⟨pg,po,none⟩) 3 pc ∧ a3 = .slice (some ⟨tg,tp,none⟩) 4 tc ∧ a4 = .slice d4 st.told.length c4 ∧ pg < B ∧ tg < B ∧
  (∀ k,k < 3 → ∃ qa qc oa oc,w.cell? ⟨pg,po + k * 4,none⟩ = some (.int .i64 ((st.ports k).next:Nat)) ∧ w.cell? ⟨pg,po + k * 4 + 1,none⟩ = some (.slice qa (st.ports k).queue.length qc) ∧ w.cell? ⟨pg,po + k * 4 + 2,none⟩ = some (.slice oa (st.ports k).out.length oc) ∧ w.cell? ⟨pg,po + k * 4 + 3,none⟩ = some (.int .i64 ((st.ports k).last:Nat)) ∧ Nats w B (.slice qa (st.ports k).queue.length qc) (st.ports k).queue ∧ Jbs w B (.slice oa (st.ports k).out.length oc) (st.ports k).out) ∧
  (∀ k,k < 4 → ∃ qa qc oa oc,w.cell? ⟨tg,tp + k * 3,none⟩ = some (.slice qa (st.slaves k).pipe.length qc) ∧ w.cell? ⟨tg,tp + k * 3 + 1,none⟩ = some (.slice oa (st.slaves k).done.length oc) ∧ w.cell? ⟨tg,tp + k * 3 + 2,none⟩ = some (.int .i64 ((st.slaves k).last:Nat)) ∧ Jbs w B (.slice qa (st.slaves k).pipe.length qc) (st.slaves k).pipe ∧ JobsV w B (.slice oa (st.slaves k).done.length oc) (st.slaves k).done):=by
 obtain ⟨d0,c0,e0,_⟩:=hv.ws.opened
 obtain ⟨d1,c1,e1,_⟩:=hv.hs.opened
 obtain ⟨pg,po,pc,e2,_,_,hpg,hpc⟩:=hv.ps.at (by rw [hv.lp];omega)
 obtain ⟨tg,tp,tc,e3,_,_,htg,htc⟩:=hv.ss.at (by rw [hv.lq];omega)
 obtain ⟨d4,c4,e4,_⟩:=hv.told.cells
 rw [hv.lp] at e2 hpc
 rw [hv.lq] at e3 htc
 refine ⟨d0,d1,d4,c0,c1,c4,pg,po,pc,tg,tp,tc,e0,e1,e2,e3,e4,hpg,htg,fun k hk => ?_,fun k hk => ?_⟩
 ·have h1:=hv.pn k hk
  have h2:=hv.q k hk
  have h3:=hv.o k hk
  have h4:=hpc k default hk
  obtain ⟨x,hx⟩:∃ x,x = P.getD k default:=⟨_,rfl⟩
  rw [← hx] at h1 h2 h3 h4
  obtain ⟨nx,⟨qa,qn,qc⟩,⟨oa,on,oc⟩,la⟩:=x
  simp only [sl] at h1 h2 h3
  obtain rfl:=h2.len;obtain rfl:=h3.len
  have g0:=h4 0 (by omega);have g1:=h4 1 (by omega);have g2:=h4 2 (by omega);have g3:=h4 3 (by omega)
  rw [← h1.1,← h1.2]
  exact ⟨qa,qc,oa,oc,by simp only [rowPS,List.getElem?_cons_zero,List.getElem?_cons_succ] at g0;exact g0,by simp only [rowPS,List.getElem?_cons_zero,List.getElem?_cons_succ] at g1;exact g1,by simp only [rowPS,List.getElem?_cons_zero,List.getElem?_cons_succ] at g2;exact g2,by simp only [rowPS,List.getElem?_cons_zero,List.getElem?_cons_succ] at g3;exact g3,h2,h3⟩
 ·have h1:=hv.sn k hk
  have h2:=hv.p k hk
  have h3:=hv.d k hk
  have h4:=htc k default hk
  obtain ⟨x,hx⟩:∃ x,x = Q.getD k default:=⟨_,rfl⟩
  rw [← hx] at h1 h2 h3 h4
  obtain ⟨⟨qa,qn,qc⟩,⟨oa,on,oc⟩,la⟩:=x
  simp only [sl] at h1 h2 h3
  obtain rfl:=h2.len;obtain rfl:=h3.len
  have g0:=h4 0 (by omega);have g1:=h4 1 (by omega);have g2:=h4 2 (by omega)
  rw [← h1]
  exact ⟨qa,qc,oa,oc,by simp only [rowSS,List.getElem?_cons_zero,List.getElem?_cons_succ] at g0;exact g0,by simp only [rowSS,List.getElem?_cons_zero,List.getElem?_cons_succ] at g1;exact g1,by simp only [rowSS,List.getElem?_cons_zero,List.getElem?_cons_succ] at g2;exact g2,h2,h3⟩
set_option maxRecDepth 8000 in
set_option maxHeartbeats 16000000 in
theorem crCyc_same {c:Cfg} {w:World} {B:Nat} {a0 a1 a2 a3 a4 b0 b1 b2 b3 b4:Value} {st:Cy} {P P':List PS} {Q Q':List SS} (hv:CyV w B a0 a1 a2 a3 a4 st P Q) (hu:CyV w B b0 b1 b2 b3 b4 st P' Q') (hB:B ≤ w.heap.size) (hg:Good c st) (hb:Bus c) :
  Calls Tryz.prog 36 #[.agg #[a0,a1,a2,a3,a4],.agg #[b0,b1,b2,b3,b4]] w fun e w' => e = .returned (.bool true) ∧ Below w.heap.size w w':=by
 obtain ⟨d0,d1,d4,c0,c1,c4,pg,po,pc,tg,tp,tc,rfl,rfl,rfl,rfl,rfl,hpg,htg,hp,hs⟩:=hv.rows
 obtain ⟨e0,e1,e4,f0,f1,f4,qg,qo,qc,ug,up,uc,rfl,rfl,rfl,rfl,rfl,hqg,hug,hq,hr⟩:=hu.rows
 have HV:=hid hv;have HU:=hid hu;have HP:=hid hp;have HS:=hid hs;have HQ:=hid hq;have HR:=hid hr;have HG:=hid hg
 clear hv hu hp hs hq hr hg
 go_enter Tryz.func36,Tryz.ntmps36
 go_upto_region 1 with fail
 obtain ⟨w2,hw2⟩:∃ W,W = (w.alloc (.cells #[.slice d0 st.ws.length c0,.slice d1 st.hs.length c1,.slice (some ⟨pg,po,none⟩) 3 pc,.slice (some ⟨tg,tp,none⟩) 4 tc,.slice d4 st.told.length c4] 39)).alloc (.cells #[.slice e0 st.ws.length f0,.slice e1 st.hs.length f1,.slice (some ⟨qg,qo,none⟩) 3 qc,.slice (some ⟨ug,up,none⟩) 4 uc,.slice e4 st.told.length f4] 39):=⟨_,rfl⟩
 obtain ⟨gx,hgx⟩:∃ g,g = w.heap.size:=⟨_,rfl⟩
 obtain ⟨gy,hgy⟩:∃ g,g = w.heap.size + 1:=⟨_,rfl⟩
 have X:=hid (show Bx w2 gx [.slice d0 st.ws.length c0,.slice d1 st.hs.length c1,.slice (some ⟨pg,po,none⟩) 3 pc,.slice (some ⟨tg,tp,none⟩) 4 tc,.slice d4 st.told.length c4] by
  rw [hw2,hgx];exact (Bx.new w #[.slice d0 st.ws.length c0,.slice d1 st.hs.length c1,.slice (some ⟨pg,po,none⟩) 3 pc,.slice (some ⟨tg,tp,none⟩) 4 tc,.slice d4 st.told.length c4] 39 (by simp)).below ((Below.refl _ _).alloc (Nat.le_refl _) _) (by simp))
 have Y:=hid (show Bx w2 gy [.slice e0 st.ws.length f0,.slice e1 st.hs.length f1,.slice (some ⟨qg,qo,none⟩) 3 qc,.slice (some ⟨ug,up,none⟩) 4 uc,.slice e4 st.told.length f4] by
  rw [hw2,hgy];have:=Bx.new (w.alloc (.cells #[.slice d0 st.ws.length c0,.slice d1 st.hs.length c1,.slice (some ⟨pg,po,none⟩) 3 pc,.slice (some ⟨tg,tp,none⟩) 4 tc,.slice d4 st.told.length c4] 39)) #[.slice e0 st.ws.length f0,.slice e1 st.hs.length f1,.slice (some ⟨qg,qo,none⟩) 3 qc,.slice (some ⟨ug,up,none⟩) 4 uc,.slice e4 st.told.length f4] 39 (by simp);simpa using this)
 have HB2:=hid (show Below w.heap.size w w2 by rw [hw2];exact two_in w _ _)
 have HBS:=hid hB
 rw [← hw2,← hgy,← hgx]
 clear hw2 hgx hgy hB
 obtain ⟨x0,x1,x2,x3,x4⟩:=X.out.five.1
 obtain ⟨y0,y1,y2,y3,y4⟩:=Y.out.five.1
 go_upto_region 3 with (first
  | (go_at_call 71;go_loud ((with_reducible refine (crAtm_same st.ws st.hs _ _ _ _ _ _ _ _ B _ (HV.out.ws.below (HB2.out.mono HBS.out)) (HV.out.hs.below (HB2.out.mono HBS.out)) (HU.out.ws.below (HB2.out.mono HBS.out)) (HU.out.hs.below (HB2.out.mono HBS.out)) (Nat.le_trans HBS.out HB2.out.size)).mono ?_));rintro e w3 ⟨rfl,hb3⟩;have HB3:=hid hb3;obtain ⟨x0,x1,x2,x3,x4⟩:=(X.out.below hb3 X.out.lt).five.1;obtain ⟨y0,y1,y2,y3,y4⟩:=(Y.out.below hb3 Y.out.lt).five.1;clear hb3)
  | (go_at_call 27;go_loud ((with_reducible refine (crJobs_same st.told _ _ B _ (HV.out.told.below ((HB2.out.trans (HB3.out.mono HB2.out.size)).mono HBS.out)) (HU.out.told.below ((HB2.out.trans (HB3.out.mono HB2.out.size)).mono HBS.out)) (Nat.le_trans HBS.out (Nat.le_trans HB2.out.size HB3.out.size))).mono ?_));rintro e w4 ⟨rfl,hb4⟩;have HB4:=hid hb4;clear hb4))
 have HBX:=hid (HB3.out.trans (HB4.out.mono HB3.out.size))
 clear x0 x1 x2 x3 x4 y0 y1 y2 y3 y4
 go_wp2_with fail
 go_loopw [5] (fun i wr => ∃ k:Nat,i = .int .i64 k ∧ k ≤ 3 ∧ Below w2.heap.size w2 wr) (fun i _ => 3 - (intOf i).toNat)
 case atStart => exact ⟨0,by go_num,Nat.zero_le _,HBX.out⟩
 case round =>
  obtain ⟨k,rfl,hk,hbr⟩:=hrel
  clear HBX HB3 HB4
  have HBX:=hid hbr
  obtain ⟨wo,hwo⟩:∃ W,W = wr:=⟨_,rfl⟩
  subst hwo
  obtain ⟨x0,x1,x2,x3,x4⟩:=(X.out.below hbr X.out.lt).five.1
  obtain ⟨y0,y1,y2,y3,y4⟩:=(Y.out.below hbr Y.out.lt).five.1
  clear x0 x1 x3 x4 y0 y1 y3 y4 hbr
  by_cases hlt:k < 3
  ·have hki:(k:Int) < 3:=by omega
   obtain ⟨qa,pqc,oa,oc,p0,p1,p2,p3,hpq,hpo⟩:=HP.out k hlt
   obtain ⟨ra,rc,sa,sc,q0,q1,q2,q3,hqq,hqo⟩:=HQ.out k hlt
   obtain ⟨pt,hpt⟩:∃ p,p = st.ports k:=⟨_,rfl⟩
   have HPG:=hid (HG.out.p k hlt)
   rw [← hpt] at p0 p1 p2 p3 hpq hpo q0 q1 q2 q3 hqq hqo HPG
   have hl1:∀ x ∈ pt.queue,x < 1000:=fun x hx => by
    have h1:=HPG.out.q;rw [h1,List.mem_range'_1] at hx
    have:=HPG.out.nx;have:=hb.twelve hlt;have:=HPG.out.qn;omega
   have hb0:=HB2.out.trans (HBX.out.mono HB2.out.size)
   have hse:=hb0.size
   have hpw:pg < w.heap.size:=Nat.lt_of_lt_of_le hpg HBS.out
   have hqw:qg < w.heap.size:=Nat.lt_of_lt_of_le hqg HBS.out
   have IQ:=hid ((hpq.ints hl1).below (hb0.mono HBS.out));have IR:=hid ((hqq.ints hl1).below (hb0.mono HBS.out));have JO:=hid (hpo.below (hb0.mono HBS.out));have JS:=hid (hqo.below (hb0.mono HBS.out))
   have hlq:(pt.queue.map fun (x:Nat) => (x:Int)).length = pt.queue.length:=by simp
   obtain ⟨ql,hql⟩:∃ x,x = pt.queue.length:=⟨_,rfl⟩
   obtain ⟨ol,hol⟩:∃ x,x = pt.out.length:=⟨_,rfl⟩
   obtain ⟨nx,hnx⟩:∃ x,x = pt.next:=⟨_,rfl⟩
   obtain ⟨la,hla⟩:∃ x,x = pt.last:=⟨_,rfl⟩
   rw [← hql] at p1 q1 IQ IR;rw [← hol] at p2 q2 JO JS;rw [← hnx] at p0 q0;rw [← hla] at p3 q3
   rw [← hb0.cell (p:=⟨pg,_,none⟩) hpw] at p0 p1 p2 p3
   rw [← hb0.cell (p:=⟨qg,_,none⟩) hqw] at q0 q1 q2 q3
   have HB0:=hid hb0
   clear hpt hpq hpo hqq hqo hl1 hlq hql hol hnx hla hb0
   have hgy:gy < wo.heap.size:=Nat.lt_of_lt_of_le Y.out.lt HBX.out.size
   have hqo:qg < wo.heap.size:=Nat.lt_of_lt_of_le hqw hse
   go_upto_region 7 with fail
   obtain ⟨w3,hw3⟩:∃ W,W = wo.alloc (.cells #[.int .i64 nx,.slice qa ql pqc,.slice oa ol oc,.int .i64 la] 47):=⟨_,rfl⟩
   obtain ⟨hx,hhx⟩:∃ g,g = wo.heap.size:=⟨_,rfl⟩
   have F0:=hid (show Bx w3 hx [.int .i64 nx,.slice qa ql pqc,.slice oa ol oc,.int .i64 la] by rw [hw3,hhx];exact Bx.new wo #[.int .i64 nx,.slice qa ql pqc,.slice oa ol oc,.int .i64 la] 47 (by simp))
   have hb3:Below wo.heap.size wo w3:=by rw [hw3];exact (Below.refl _ _).alloc (Nat.le_refl _) _
   rw [← hb3.cell (p:=⟨qg,_,none⟩) hqo] at q0 q1 q2 q3
   rw [← hb3.cell (p:=⟨gy,_,none⟩) hgy] at y2
   rw [← hw3,← hhx]
   have HB3:=hid hb3
   clear hw3 hhx x2 p0 p1 p2 p3 hb3
   go_upto_region 8 with fail
   obtain ⟨w4,hw4⟩:∃ W,W = w3.alloc (.cells #[.int .i64 nx,.slice ra ql rc,.slice sa ol sc,.int .i64 la] 47):=⟨_,rfl⟩
   obtain ⟨hy,hhy⟩:∃ g,g = w3.heap.size:=⟨_,rfl⟩
   have G:=hid (show Bx w4 hy [.int .i64 nx,.slice ra ql rc,.slice sa ol sc,.int .i64 la] by rw [hw4,hhy];exact Bx.new w3 #[.int .i64 nx,.slice ra ql rc,.slice sa ol sc,.int .i64 la] 47 (by simp))
   have hb4:Below w3.heap.size w3 w4:=by rw [hw4];exact (Below.refl _ _).alloc (Nat.le_refl _) _
   have F:=hid (F0.out.below hb4 F0.out.lt)
   have HB4:=hid (HB3.out.trans (hb4.mono HB3.out.size))
   rw [← hw4,← hhy]
   clear hw4 hhy y2 q0 q1 q2 q3 hb4 F0
   obtain ⟨f0,f1,f2,f3⟩:=F.out.four.1
   obtain ⟨g0,g1,g2,g3⟩:=G.out.four.1
   have n1:((nx:Int) != (nx:Int)) = false:=by simp
   have n2:((la:Int) != (la:Int)) = false:=by simp
   go_wp2_with (first
    | (go_at_call 68;go_loud ((with_reducible refine (crInts_same _ _ (pt.queue.map fun (x:Nat) => (x:Int)) B B _ (IQ.out.below (HB4.out.mono (Nat.le_trans HBS.out hse))) (IR.out.below (HB4.out.mono (Nat.le_trans HBS.out hse)))).mono ?_));rintro e w5 ⟨rfl,hd5⟩;have HB5:=hid (hd5.below w4.heap.size);obtain ⟨f0,f1,f2,f3⟩:=(F.out.below HB5.out F.out.lt).four.1;obtain ⟨g0,g1,g2,g3⟩:=(G.out.below HB5.out G.out.lt).four.1;clear hd5)
    | (go_at_call 72;go_loud ((with_reducible refine (crOuts_same pt.out _ _ B _ ((JO.out.below (HB4.out.mono (Nat.le_trans HBS.out hse))).below (HB5.out.mono (Nat.le_trans HBS.out (Nat.le_trans hse HB4.out.size)))) ((JS.out.below (HB4.out.mono (Nat.le_trans HBS.out hse))).below (HB5.out.mono (Nat.le_trans HBS.out (Nat.le_trans hse HB4.out.size))))).mono ?_));rintro e w6 ⟨rfl,hd6⟩;have HB6:=hid (hd6.below w5.heap.size);clear hd6))
   go_roundw
   case rel => exact ⟨k + 1,by go_num,by omega,HBX.out.trans (((HB4.out.trans (HB5.out.mono HB4.out.size)).trans (HB6.out.mono (Nat.le_trans HB4.out.size HB5.out.size))).mono HBX.out.size)⟩
   case measure => simp [intOf];omega
  ·obtain rfl:k = 3:=by omega
   rw [show (((3:Nat)):Int) = (3:Int) from rfl]
   go_wp2_with fail
   go_loopw [8] (fun i wr => ∃ k:Nat,i = .int .i64 k ∧ k ≤ 4 ∧ Below w2.heap.size w2 wr) (fun i _ => 4 - (intOf i).toNat)
   case atStart => exact ⟨0,by go_num,Nat.zero_le _,HBX.out⟩
   case round =>
    obtain ⟨k,rfl,hk,hbr⟩:=hrel
    clear HBX x2 y2
    have HBX:=hid hbr
    obtain ⟨wo,hwo⟩:∃ W,W = wr:=⟨_,rfl⟩
    subst hwo
    obtain ⟨x0,x1,x2,x3,x4⟩:=(X.out.below hbr X.out.lt).five.1
    obtain ⟨y0,y1,y2,y3,y4⟩:=(Y.out.below hbr Y.out.lt).five.1
    clear x0 x1 x2 x4 y0 y1 y2 y4 hbr
    by_cases hlt:k < 4
    ·have hki:(k:Int) < 4:=by omega
     obtain ⟨qa,pqc,oa,oc,p0,p1,p2,hpq,hpo⟩:=HS.out k hlt
     obtain ⟨ra,rc,sa,sc,q0,q1,q2,hqq,hqo⟩:=HR.out k hlt
     obtain ⟨pt,hpt⟩:∃ p,p = st.slaves k:=⟨_,rfl⟩
     rw [← hpt] at p0 p1 p2 hpq hpo q0 q1 q2 hqq hqo
     have hb0:=HB2.out.trans (HBX.out.mono HB2.out.size)
     have hse:=hb0.size
     have hpw:tg < w.heap.size:=Nat.lt_of_lt_of_le htg HBS.out
     have hqw:ug < w.heap.size:=Nat.lt_of_lt_of_le hug HBS.out
     have IQ:=hid (hpq.below (hb0.mono HBS.out));have IR:=hid (hqq.below (hb0.mono HBS.out));have JO:=hid (hpo.below (hb0.mono HBS.out));have JS:=hid (hqo.below (hb0.mono HBS.out))
     obtain ⟨ql,hql⟩:∃ x,x = pt.pipe.length:=⟨_,rfl⟩
     obtain ⟨ol,hol⟩:∃ x,x = pt.done.length:=⟨_,rfl⟩
     obtain ⟨la,hla⟩:∃ x,x = pt.last:=⟨_,rfl⟩
     rw [← hql] at p0 q0 IQ IR;rw [← hol] at p1 q1 JO JS;rw [← hla] at p2 q2
     rw [← hb0.cell (p:=⟨tg,_,none⟩) hpw] at p0 p1 p2
     rw [← hb0.cell (p:=⟨ug,_,none⟩) hqw] at q0 q1 q2
     have HB0:=hid hb0
     clear hpt hpq hpo hqq hqo hql hol hla hb0
     have hgy:gy < wo.heap.size:=Nat.lt_of_lt_of_le Y.out.lt HBX.out.size
     have hqo:ug < wo.heap.size:=Nat.lt_of_lt_of_le hqw hse
     go_upto_region 14 with fail
     obtain ⟨w3,hw3⟩:∃ W,W = wo.alloc (.cells #[.slice qa ql pqc,.slice oa ol oc,.int .i64 la] 57):=⟨_,rfl⟩
     obtain ⟨hx,hhx⟩:∃ g,g = wo.heap.size:=⟨_,rfl⟩
     have F0:=hid (show Bx w3 hx [.slice qa ql pqc,.slice oa ol oc,.int .i64 la] by rw [hw3,hhx];exact Bx.new wo #[.slice qa ql pqc,.slice oa ol oc,.int .i64 la] 57 (by simp))
     have hb3:Below wo.heap.size wo w3:=by rw [hw3];exact (Below.refl _ _).alloc (Nat.le_refl _) _
     rw [← hb3.cell (p:=⟨ug,_,none⟩) hqo] at q0 q1 q2
     rw [← hb3.cell (p:=⟨gy,_,none⟩) hgy] at y3
     rw [← hw3,← hhx]
     have HB3:=hid hb3
     clear hw3 hhx x3 p0 p1 p2 hb3
     go_upto_region 15 with fail
     obtain ⟨w4,hw4⟩:∃ W,W = w3.alloc (.cells #[.slice ra ql rc,.slice sa ol sc,.int .i64 la] 57):=⟨_,rfl⟩
     obtain ⟨hy,hhy⟩:∃ g,g = w3.heap.size:=⟨_,rfl⟩
     have G:=hid (show Bx w4 hy [.slice ra ql rc,.slice sa ol sc,.int .i64 la] by rw [hw4,hhy];exact Bx.new w3 #[.slice ra ql rc,.slice sa ol sc,.int .i64 la] 57 (by simp))
     have hb4:Below w3.heap.size w3 w4:=by rw [hw4];exact (Below.refl _ _).alloc (Nat.le_refl _) _
     have F:=hid (F0.out.below hb4 F0.out.lt)
     have HB4:=hid (HB3.out.trans (hb4.mono HB3.out.size))
     rw [← hw4,← hhy]
     clear hw4 hhy y3 q0 q1 q2 hb4 F0
     obtain ⟨f0,f1,f2⟩:=F.out.three.1
     obtain ⟨g0,g1,g2⟩:=G.out.three.1
     have n2:((la:Int) != (la:Int)) = false:=by simp
     go_wp2_with (first
      | (go_at_call 72;go_loud ((with_reducible refine (crOuts_same pt.pipe _ _ B _ (IQ.out.below (HB4.out.mono (Nat.le_trans HBS.out hse))) (IR.out.below (HB4.out.mono (Nat.le_trans HBS.out hse)))).mono ?_));rintro e w5 ⟨rfl,hd5⟩;have HB5:=hid (hd5.below w4.heap.size);obtain ⟨f0,f1,f2⟩:=(F.out.below HB5.out F.out.lt).three.1;obtain ⟨g0,g1,g2⟩:=(G.out.below HB5.out G.out.lt).three.1;clear hd5)
      | (go_at_call 27;go_loud ((with_reducible refine (crJobs_same pt.done _ _ B _ ((JO.out.below (HB4.out.mono (Nat.le_trans HBS.out hse))).below (HB5.out.mono (Nat.le_trans HBS.out (Nat.le_trans hse HB4.out.size)))) ((JS.out.below (HB4.out.mono (Nat.le_trans HBS.out hse))).below (HB5.out.mono (Nat.le_trans HBS.out (Nat.le_trans hse HB4.out.size)))) (Nat.le_trans HBS.out (Nat.le_trans hse (Nat.le_trans HB4.out.size HB5.out.size)))).mono ?_));rintro e w6 ⟨rfl,hb6⟩;have HB6:=hid hb6;clear hb6))
     go_roundw
     case rel => exact ⟨k + 1,by go_num,by omega,HBX.out.trans (((HB4.out.trans (HB5.out.mono HB4.out.size)).trans (HB6.out.mono (Nat.le_trans HB4.out.size HB5.out.size))).mono HBX.out.size)⟩
     case measure => simp [intOf];omega
    ·obtain rfl:k = 4:=by omega
     rw [show (((4:Nat)):Int) = (4:Int) from rfl]
     go_wp2_with fail
     go_ret
     exact ⟨rfl,HB2.out.trans (HBX.out.mono HB2.out.size)⟩
end Go.Proofs.YtghngenglefofaaGreat
