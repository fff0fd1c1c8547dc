/- A cycle: who asks asks. -/
import Derived.Test.YtenjbhbcacocjaaGreatGCat
import Derived.BigGuardPart
import Derived.Deep.QuietTactic
import Derived.BigQuiet
set_option linter.unusedVariables false
set_option linter.unusedSimpArgs false
namespace Go.Proofs.YtenjbhbcacocjaaGreat
open Go.RowKit
theorem rowN_one (n:Nat):∀ u ∈ rowN n,u.oneCell' = true:=by
 intro u hu;simp only [rowN,List.mem_cons,List.not_mem_nil,or_false] at hu
 rcases hu with rfl;rfl
theorem ask1_no {c:Cfg} {inp:Inp} {who:Nat} {x:Cy × List Ev} (h:¬ (inp.send.getD who false = true ∧ (x.1.ports who).queue.length < 2 ∧ (x.1.ports who).next < (c.prog who).length)):ask1 c inp who x = x:=by unfold ask1;rw [if_neg h]
theorem ask1_yes {c:Cfg} {inp:Inp} {who:Nat} {x:Cy × List Ev} (h:inp.send.getD who false = true ∧ (x.1.ports who).queue.length < 2 ∧ (x.1.ports who).next < (c.prog who).length):ask1 c inp who x = askDo who x:=by unfold ask1;rw [if_pos h]
theorem ask1_len (c:Cfg) (inp:Inp) (who:Nat) (x:Cy × List Ev):(ask1 c inp who x).2.length ≤ x.2.length + 1:=by
 unfold ask1
 split
 ·simp [askDo]
 ·omega
set_option maxRecDepth 4000 in
set_option maxHeartbeats 16000000 in
theorem ask_any {c:Cfg} (hbus:Bus c) {w:World} {base S Hb:Nat} {L:Nat → Value} {st:Cy} {ev:List Ev} {V0:Nat → Value} {N0:Nat → Nat} {C0:Nat → List Value} {D0:Nat → List TJV} (hm:CyM w base S Hb L st ev V0 N0 C0 D0) (hg:Good c st) (hev:ev.length ≤ 500) {inp:Inp} {v u:Value} {B:Nat} (hc:BusV w B u c) (hin:InV w B v inp) (hB:B ≤ base) :
  Calls Tryz.prog 93 #[.pointer (some ⟨S,0,none⟩),u,v,.pointer (some ⟨Hb,0,none⟩)] w (PartP base S Hb L (askAll c inp (st,ev)) V0 w):=by
 obtain ⟨⟨ra,rc,ta,tc,sa,sc,rfl,hr1,hr2,hr3⟩,hl1,hl2,hl3⟩:=hin
 obtain ⟨mv,lb,lo,lc,pb,po', pc', Q,K,rfl,⟨ma,mn,mk,rfl⟩,hms,hlb,hpb', hlat,hprog,hreq⟩:=hc.opened hbus
 have HM:=hid hm;have HG0:=hid hg
 have hS:=heap_lt' hm.bs
 have hbw:base ≤ w.heap.size:=Nat.le_trans hm.s0 (Nat.le_of_lt (heap_lt' hm.bs))
 obtain ⟨q0,q1,q2,q3,q4,qf⟩:=hm.box
 obtain ⟨pg,po,pc,hV2,hpc,hpc2,_,_⟩:=hm.ports
 rw [hV2] at q2
 have HR:=hid hr3;have HL3:=hid hl3;have HPR:=hid hprog
 rw [hl3]
 clear hm hg hr1 hr2 hr3 hl1 hl2 hl3 hV2 qf q0 q1 q3 q4 hpc2 hpc hc hms hlat hprog hreq hlb
 go_enter Tryz.func93,Tryz.ntmps93
 go_wp2_with fail
 obtain ⟨w0,hw0⟩:∃ W,W = (w.alloc (.cells #[.slice ma mn mk,.slice (some ⟨lb,lo,none⟩) 4 lc,.slice (some ⟨pb,po', none⟩) 3 pc'] 27)).alloc (.cells #[.slice ra inp.ready.length rc,.slice ta inp.stall.length tc,.slice sa 3 sc] 44):=⟨_,rfl⟩
 rw [← hw0]
 have hb0:Below w.heap.size w w0:=by rw [hw0];exact ((Below.refl _ _).alloc (Nat.le_refl _) _).alloc (by simp) _
 have hz0:w0.heap.size = w.heap.size + 2:=by rw [hw0];simp
 have HC0:=hid (show w0.heap[w.heap.size]? = some (.cells #[.slice ma mn mk,.slice (some ⟨lb,lo,none⟩) 4 lc,.slice (some ⟨pb,po', none⟩) 3 pc'] 27 (0,0)) by rw [hw0];rw [((Below.refl _ _).alloc (Nat.le_refl _) _).block _ (by simp)];show (w.heap.push _)[w.heap.size]? = _;simp)
 have HI0:=hid (show w0.heap[w.heap.size + 1]? = some (.cells #[.slice ra inp.ready.length rc,.slice ta inp.stall.length tc,.slice sa 3 sc] 44 (0,0)) by rw [hw0];exact alloc_at _ _ (by simp))
 have HFR:=hid (HM.out.fresh (w':=w0) (Nat.le_refl w.heap.size) (by omega))
 have HFR1:=hid (HM.out.fresh (w':=w0) (Nat.le_succ w.heap.size) (by omega))
 have HKB:=hid (Kp.below (S:=S) (Hb:=Hb) (V:=V0) hb0)
 have HM0:=hid (HM.out.below hb0)
 have HB0:=hid (hb0.mono hbw)
 have HR0:=hid HR.out
 clear hw0 hb0 hz0 q2 HM HR hS
 go_loopw [15] (fun i wr => ∃ k:Nat,k ≤ 3 ∧ i = .int .i64 k ∧ Good c (foldN (ask1 c inp) k (st,ev)).1 ∧ (foldN (ask1 c inp) k (st,ev)).2.length ≤ ev.length + k ∧ (∃ V N C D,CyM wr base S Hb L (foldN (ask1 c inp) k (st,ev)).1 (foldN (ask1 c inp) k (st,ev)).2 V N C D ∧ Kp S Hb V0 w0 V wr) ∧ Below base w wr) (fun i _ => 3 - (intOf i).toNat)
 case atStart => exact ⟨0,by omega,by go_num,HG0.out,by simp [foldN],⟨_,_,_,_,HM0.out,Kp.refl _ _ _ _⟩,HB0.out⟩
 case round =>
  obtain ⟨k,hk,rfl,hg,hlen,⟨V,N,C,D,hm,hkp⟩,hbl⟩:=hrel
  have hib:=((hkp _ HFR1.out).1).trans HI0.out
  have hcb:=((hkp _ HFR.out).1).trans HC0.out
  have HKP:=hid hkp
  clear hkp
  by_cases hlt:k < 3
  ·have hlti:(k:Int) < 3:=by omega
   obtain ⟨x,hx⟩:∃ x,x = foldN (ask1 c inp) k (st,ev):=⟨_,rfl⟩
   have HX1:=hid (show foldN (ask1 c inp) (k + 1) (st,ev) = ask1 c inp k x by rw [hx];rfl)
   rw [← hx] at hg hlen hm
   have hwl:=heap_lt' hib
   obtain ⟨i0,i1,i2⟩:wr.cell? ⟨w.heap.size + 1,0,none⟩ = some (.slice ra inp.ready.length rc) ∧ wr.cell? ⟨w.heap.size + 1,1,none⟩ = some (.slice ta inp.stall.length tc) ∧ wr.cell? ⟨w.heap.size + 1,2,none⟩ = some (.slice sa 3 sc):=by refine ⟨?_,?_,?_⟩ <;> simp [World.cell?,hib]
   obtain ⟨b0,b1,b2⟩:wr.cell? ⟨w.heap.size,0,none⟩ = some (.slice ma mn mk) ∧ wr.cell? ⟨w.heap.size,1,none⟩ = some (.slice (some ⟨lb,lo,none⟩) 4 lc) ∧ wr.cell? ⟨w.heap.size,2,none⟩ = some (.slice (some ⟨pb,po', none⟩) 3 pc'):=by refine ⟨?_,?_,?_⟩ <;> simp [World.cell?,hcb]
   have hpk:wr.cell? ⟨pb,po' + k,none⟩ = some (.slice (Q k) (c.prog k).length (K k)):=(hbl.cell (p:=⟨pb,_,none⟩) (Nat.lt_of_lt_of_le hpb' hB)).trans (HPR.out k hlt)
   have HM:=hid hm;have HG:=hid hg;have HBL:=hid hbl;have HLEN:=hid hlen
   have hS:=heap_lt' hm.bs
   obtain ⟨q0,q1,q2,q3,q4,qf⟩:=hm.box
   obtain ⟨pg,po,pc,hV2,hpc,hpc2,hpb,hpz⟩:=hm.ports
   obtain ⟨p0,p1,p2,p3,pf⟩:=hm.port hV2 hlt
   have HV2:=hid hV2
   rw [hV2] at q2
   obtain ⟨qa,qc,hqs,_,_⟩:=(hm.oQueue hlt).shape
   rw [hqs] at p1
   have HQS:=hid hqs
   obtain ⟨rb,ro,hra,hrb,hrc⟩:∃ b off,sa = some ⟨b,off,none⟩ ∧ b < B ∧ wr.cell? ⟨b,off + k,none⟩ = some (.bool (inp.send.getD k false)):=by
    obtain ⟨ao,cp,eo,_,_,_,_,ho⟩:=HR0.out.opened
    obtain ⟨b,off,rfl,hb,hc⟩:=ho (by rw [HL3.out];omega)
    simp only [Value.slice.injEq] at eo
    exact ⟨b,off,eo.1,hb,(hbl.cell (p:=⟨b,_,none⟩) (Nat.lt_of_lt_of_le hb hB)).trans (hc k (by rw [HL3.out];exact hlt))⟩
   obtain ⟨snd,hsnd⟩:∃ r,r = inp.send.getD k false:=⟨_,rfl⟩
   rw [← hsnd] at hrc
   have HSND:=hid hsnd
   have hnx:=(hg.p k hlt).nx
   have hpl:=hbus.twelve hlt
   have hq2:=(hg.p k hlt).q2
   subst hra
   clear hm hg hib hcb hbl hlen hx hV2 hqs hsnd HM0 HG0
   by_cases hgo:snd = true ∧ (x.1.ports k).queue.length < 2 ∧ (x.1.ports k).next < (c.prog k).length
   ·obtain ⟨rfl,hql,hnl⟩:=hgo
    have hqli:((x.1.ports k).queue.length:Int) < 2:=by omega
    have hnli:((x.1.ports k).next:Int) < ((c.prog k).length:Int):=by omega
    have HYES:=hid (ask1_yes (c:=c) (inp:=inp) (who:=k) (x:=x) ⟨HSND.out.symm,hql,hnl⟩)
    go_upto_region 5 with fail
    go_quiet (fail)
    go_upto_region 6 with fail
    obtain ⟨w1,hw1⟩:∃ W,W = wr.drewN nq:=⟨_,rfl⟩
    rw [← hw1]
    have hbd:Below wr.heap.size wr w1:=by rw [hw1];exact Below.draws (Below.refl _ _) _
    have hbd0:Below base wr w1:=by rw [hw1];exact Below.draws (Below.refl _ _) _
    have HM1:=hid (HM.out.below hbd)
    have HM1d:=hid (HM.out.below hbd.drew)
    have HK1:=hid (HKP.out.trans (Kp.below (S:=S) (Hb:=Hb) (V:=V) hbd.drew))
    have HB1:=hid (HBL.out.trans hbd0.drew)
    obtain ⟨p0,p1,p2,p3,pf⟩:=HM1.out.port HV2.out hlt
    rw [HQS.out] at p1
    have HOQ:=hid (HM1d.out.oQueue hlt)
    rw [HQS.out] at HOQ
    have hpg1:pg < w1.drew.heap.size:=Nat.lt_of_lt_of_le hpz hbd.size
    have hpne:∀ κ,κ < 20 → κ ≠ 2 → (V κ).ownBlock ≠ some pg:=fun κ hκ hne e => HM.out.raw.ap κ 2 hκ (by omega) hne pg e (by rw [HV2.out];rfl)
    have hpg1':pg < w1.heap.size:=hpg1
    have hbw1:base ≤ w1.drew.heap.size:=Nat.le_trans hpb (Nat.le_of_lt hpg1)
    have hqne:some pg ≠ (Value.slice qa (x.1.ports k).queue.length qc).ownBlock:=by rw [← HQS.out];exact Ne.symm (hpne (5 + k) (by omega) (by omega))
    clear hw1 hbd hbd0 q0 q1 q2 q3 q4 qf i0 i1 i2 b0 b1 b2 hrc hpk
    go_cut [] from 50 to 62 (fun wd => ∃ v' N' C', CyM wd base S Hb L { x.1 with ports:=upd x.1.ports k { x.1.ports k with queue:=(x.1.ports k).queue ++ [(x.1.ports k).next] } } x.2 (upd V (5 + k) v') N' C' D ∧ Kp S Hb V w1.drew (upd V (5 + k) v') wd ∧ Below base w1.drew wd)
    case first =>
     go_region_law (first
      | (refine step_push3 elem_int rowN (fun _ => rfl) w1.drew rfl (.tmp 54) (.tmp 59) rfl base (.slice qa (x.1.ports k).queue.length qc) (x.1.ports k).queue (x.1.ports k).next (rowN_one _) (by rfl) HOQ.out _ (by rfl) _ _ (by rfl) (by first | rfl | (simp;done)) (by omega) (by omega) hbw1 ?_;intro v' w2 ho hb2 hk2 hv2;obtain ⟨va,vc,hv', _,_⟩:=ho.shape;simp only [List.length_append,List.length_cons,List.length_nil,Nat.zero_add] at hv';subst hv';obtain ⟨g0,g1⟩:=cell_of (hk2 pg hpg1 hqne) (po + k * 4 + 1);rw [show w1.drew.cell? ⟨pg,po + k * 4 + 1,none⟩ = _ from p1] at g0;rw [show w1.drew.frozen? ⟨pg,po + k * 4 + 1,none⟩ = _ from pf _] at g1;have HO:=hid ho;have HK:=hid hk2;have HW:=hid hv2;have HB2:=hid hb2;clear ho hb2 hk2 hv2))
     all_goals
      go_wp2_with fail
      obtain ⟨N', C', hc1,hc2⟩:=HM1d.out.setQueue hlt HV2.out (fun b hb hne => HK.out b hb (by rw [← HQS.out];exact Ne.symm hne)) HB2.out.size HO.out (fun q hq => by rw [HQS.out];exact HW.out q hq)
      go_meet
      case rel => exact ⟨_,N', C', hc1,hc2,HB2.out.setCell (p:=⟨pg,_,none⟩) hpb _⟩
    case rest =>
     clear p0 p1 p2 p3 pf HM1 HM1d
     obtain ⟨w3,hw3⟩:∃ W,W = wc:=⟨_,rfl⟩
     subst hw3
     obtain ⟨v4,N3,C3,hm3,hk3,hb3⟩:=hcut
     have HK3:=hid (HK1.out.trans hk3)
     have HB3:=hid (HB1.out.trans hb3)
     have e2:upd V (5 + k) v4 2 = .slice (some ⟨pg,po,none⟩) 3 pc:=(upd_other _ _ (by omega)).trans HV2.out
     have E2:=hid e2
     obtain ⟨p0,p1,p2,p3,pf⟩:=hm3.port e2 hlt
     simp only [upd_same] at p0
     have HM3:=hid hm3
     clear hm3 hk3 hb3 e2 p1 p2 p3 pf
     go_upto_region 8 with (first
      | (go_at_call 136;go_loud ((with_reducible refine (add_ask k (x.1.ports k).next HM3.out (by have:=HLEN.out;omega)).mono ?_);rintro e w4 ⟨rfl,v9,N4,C4,hm4,hb4,_,hk4⟩;have e2:upd (upd V (5 + k) v4) 19 v9 2 = .slice (some ⟨pg,po,none⟩) 3 pc:=((upd_other _ _ (by omega)).trans E2.out);have E4:=hid e2;obtain ⟨p0,p1,p2,p3,pf⟩:=hm4.port e2 hlt;simp only [upd_same] at p0;have HM4:=hid hm4;have HB4:=hid (HB3.out.trans hb4);have HK4:=hid (HK3.out.trans hk4);clear hm4 hb4 hk4 e2 p1 p2 p3)))
     have hnx12:((x.1.ports k).next:Int) ≤ 12:=by omega
     go_wp2_with fail
     obtain ⟨N5,C5,hm5,hk5⟩:=HM4.out.setNext hlt E4.out ((x.1.ports k).next + 1)
     rw [show (((x.1.ports k).next + 1:Nat):Int) = ((x.1.ports k).next:Int) + 1 from by omega] at hm5 hk5
     have HST:=hid (hm5.congr (st':=(ask1 c inp k x).1) (ev':=(ask1 c inp k x).2) (by rw [HYES.out];simp only [askDo,upd_upd,upd_same]) (by rw [HYES.out];rfl))
     have HK5:=hid (HK4.out.trans hk5)
     have HB5:=hid (HB4.out.setCell (p:=⟨pg,po + k * 4,none⟩) hpb (.int .i64 (((x.1.ports k).next:Int) + 1)))
     clear hm5 hk5
     go_roundw
     case rel => exact ⟨k + 1,by omega,by go_num,by rw [HX1.out];exact good_ask1 HG.out hlt,by rw [HX1.out];have:=ask1_len c inp k x;have:=HLEN.out;omega,by rw [HX1.out];exact ⟨_,_,_,_,HST.out,HK5.out⟩,HB5.out⟩
     case measure => simp [intOf];omega
   ·have HNO:=hid (ask1_no (c:=c) (inp:=inp) (who:=k) (x:=x) (by rw [← HSND.out];exact hgo))
    have hc3:snd = false ∨ (snd = true ∧ decide (((x.1.ports k).queue.length:Int) < 2) = false) ∨ (snd = true ∧ ((x.1.ports k).queue.length:Int) < 2 ∧ decide ((x.1.ports k).next < (c.prog k).length) = false):=by
     rcases snd with _ | _
     ·exact .inl rfl
     ·right
      by_cases h1:(x.1.ports k).queue.length < 2
      ·right
       refine ⟨rfl,by omega,?_⟩
       rw [decide_eq_false_iff_not];intro h2;exact hgo ⟨rfl,h1,h2⟩
      ·left
       refine ⟨rfl,?_⟩
       rw [decide_eq_false_iff_not];omega
    clear hgo
    rcases hc3 with rfl | ⟨rfl,h2⟩ | ⟨rfl,h2,h3⟩
    all_goals
     go_upto_region 5 with fail
     go_quiet (fail)
     go_wp2_with fail
     obtain ⟨w1,hw1⟩:∃ W,W = wr.drewN nq:=⟨_,rfl⟩
     have hbd:Below wr.heap.size wr w1:=by rw [hw1];exact Below.draws (Below.refl _ _) _
     have hbd0:Below base wr w1:=by rw [hw1];exact Below.draws (Below.refl _ _) _
     have HM1:=hid (HM.out.below hbd)
     have HK1:=hid (HKP.out.trans (Kp.below (S:=S) (Hb:=Hb) (V:=V) hbd))
     have HB1:=hid (HBL.out.trans hbd0)
     rw [hw1] at HM1 HK1 HB1
     clear hw1 hbd hbd0
     go_roundw
     case rel => exact ⟨k + 1,by omega,by go_num,by rw [HX1.out,HNO.out];exact HG.out,by rw [HX1.out,HNO.out];have:=HLEN.out;omega,by rw [HX1.out,HNO.out];exact ⟨_,_,_,_,HM1.out,HK1.out⟩,HB1.out⟩
     case measure => simp [intOf];omega
  ·obtain rfl:k = 3:=by omega
   go_wp2_with fail
   exact bodyPost_end (v:=.tuple #[]) (by simp [results,Tryz.results93,go_sem]) rfl ⟨rfl,V,N,C,D,hm,HKB.out.trans HKP.out,hbl⟩
end Go.Proofs.YtenjbhbcacocjaaGreat
