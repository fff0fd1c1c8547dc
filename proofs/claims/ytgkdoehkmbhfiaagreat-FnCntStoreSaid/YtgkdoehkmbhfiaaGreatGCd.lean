/- Counts: six lists of numbers; made, held side by side, marked, held. -/
import Derived.Test.YtgkdoehkmbhfiaaGreatGOn0
import Derived.Test.YtgkdoehkmbhfiaaGreatGPr
import Derived.Test.YtgkdoehkmbhfiaaGreatGCp1
import Derived.Test.YtgkdoehkmbhfiaaGreatGKo
import Derived.Test.YtgkdoehkmbhfiaaGreatGWrd
import Derived.StillTail
import Derived.StillTailTactics
set_option linter.unusedVariables false
set_option linter.unusedSimpArgs false
set_option maxHeartbeats 16000000
namespace Go.Proofs.YtgkdoehkmbhfiaaGreat
open Go.RowKit
def CountP (base S g:Nat) (G:Nat→Nat) (X:Nat→Prop) (c:Cfg) (inp:Inp) (st:Cy) (n:Cn) (w:World) (w':World):Prop :=
 ∃V' N' C' D', CyB w' base S X (cyc c inp st) V' N' C' D' ∧ CnB w' g G (cnt1 c inp st n)∧(∀b,InC g G b→DFreeS V' S w' b)∧Below base w w'
theorem idxA (a b c d:Value) (w:World):(Instr.index 96 (.agg #[a,b,c,d]) (.int .i64 0)).run Tryz.prog w=.ok a w:=by
 simp[go_sem,Instr.index,part]
theorem idxB (a b c d:Value) (w:World):(Instr.index 96 (.agg #[a,b,c,d]) (.int .i64 1)).run Tryz.prog w=.ok b w:=by
 simp[go_sem,Instr.index,part]
theorem idxC (a b c d:Value) (w:World):(Instr.index 96 (.agg #[a,b,c,d]) (.int .i64 2)).run Tryz.prog w=.ok c w:=by
 simp[go_sem,Instr.index,part]
theorem idxD (a b c d:Value) (w:World):(Instr.index 96 (.agg #[a,b,c,d]) (.int .i64 3)).run Tryz.prog w=.ok d w:=by
 simp[go_sem,Instr.index,part]
attribute [local go_sem] idxA idxB idxC idxD
set_option maxRecDepth 8000 in
theorem count_any {c : Cfg} (hbus : Bus c) {w : World} {base S : Nat} {X : Nat → Prop} {st : Cy} {V : Nat → Value} {N : Nat → Nat} {C : Nat → List Value} {D : Nat → List TJV} (hm : CyB w base S X st V N C D) (hg : Good c st) {inp : Inp} {v u : Value} {B : Nat} (hc : BusV w B u c) (hin : InV w B v inp) (hB : B ≤ base)
    {g:Nat} {G:Nat→Nat} {n:Cn} (hn:CnB w g G n) (hfr:∀b,InC g G b→DFreeS V S w b∧¬X b∧base≤b) (hbd:n.cycles≤1000∧∀i j,i<6→j<cnL i→n.l i j≤1000) :
    Calls Tryz.prog 62 #[.pointer (some ⟨g,0,none⟩),u,.pointer (some ⟨S,0,none⟩),v] w fun e w' => e=.returned (.tuple #[])∧CountP base S g G X c inp st n w w':=by
  obtain⟨ra,rc,ta,tc,sa,sc,rfl⟩:=hin.three;obtain⟨mv,lb,lo,lc,pb,po,pc,QQ,K,rfl,⟨ma,mn,mk,rfl⟩,hmaps,hlb,hpb,hlat,hprog,hreq⟩:=hc.opened hbus;have HO:=hid (show BusO w B c ma mn mk lb lo lc pb po pc QQ K from⟨hmaps,hlb,hpb,hlat,hprog,hreq⟩);have HPB:=hid (show pb<B from hpb);have hS:=zA2 hm.bs;have hbw:base≤w.heap.size:=Nat.le_trans hm.s0 (Nat.le_of_lt hS);have HBC:=hid hbd.1;have HBD:=hid hbd.2;have HG:=hid hg;have HC:=hid hc;have HIN:=hid hin;obtain⟨w0,hw0⟩:∃W,W=(w.alloc (.cells #[.slice ma mn mk,.slice (some ⟨lb,lo,none⟩) 4 lc,.slice (some ⟨pb,po,none⟩) 3 pc] 27)).alloc (.cells #[.slice ra 3 rc,.slice ta 4 tc,.slice sa 3 sc] 45):=⟨_,rfl⟩
  have hb0:Below w.heap.size w w0:=by rw[hw0];exact((Below.refl _ _).alloc (Nat.le_refl _) _).alloc (by simp) _
  obtain⟨gb,hgb⟩:∃g,g=w.heap.size:=⟨_,rfl⟩
  obtain⟨gi,hgi⟩:∃g,g=w.heap.size+1:=⟨_,rfl⟩
  have X0 := hid (show Bx w0 gb [.slice ma mn mk, .slice (some ⟨lb, lo, none⟩) 4 lc, .slice (some ⟨pb, po, none⟩) 3 pc] by
    rw[hw0,hgb];exact(Bx.new w #[.slice ma mn mk,.slice (some ⟨lb,lo,none⟩) 4 lc,.slice (some ⟨pb,po,none⟩) 3 pc] 27 (by simp)).below ((Below.refl _ _).alloc (Nat.le_refl _) _) (by simp))
  have X1 := hid (show Bx w0 gi [.slice ra 3 rc, .slice ta 4 tc, .slice sa 3 sc] by
    rw[hw0,hgi];have:=Bx.new (w.alloc (.cells #[.slice ma mn mk,.slice (some ⟨lb,lo,none⟩) 4 lc,.slice (some ⟨pb,po,none⟩) 3 pc] 27)) #[.slice ra 3 rc,.slice ta 4 tc,.slice sa 3 sc] 45 (by simp);simpa using this)
  have HM0:=hid (hm.below hb0);have HN0:=hid (hn.below hb0);have HFR:=hid (show ∀b,InC g G b→(Free V b∧b≠S)∧¬X b∧base≤b∧b<w.heap.size from fun b hb=>⟨(hfr b hb).1.2,(hfr b hb).2.1,(hfr b hb).2.2,(hfr b hb).1.1⟩);have HGG:=hid (show ∀b,InC g G b→b≠gb∧b≠gi from fun b hb=>by have:=(hfr b hb).1.1;omega);have HGF:=hid (show Free V gb∧gb≠S from⟨fun κ hκ e=>by have:=(hm.raw.lt hκ e).2;omega,by omega⟩);have HB0:=hid (hb0.mono hbw)
  have HKEEP := hid (show ∀ (W : World) (i j : Nat) (x : Value), i < 6 → CyB W base S X st V N C D → CyB (W.setCell ⟨G i, j, none⟩ x) base S X st V N C D from fun W i j x hi h =>
    h.keep (fun b _ hb => Below.heap_setCell _ _ _ _ fun e => by
      have e:b=G i:=e;have h2:=HFR.out b (by rw[e];exact .at hi);rcases hb with hb|hb|hb
      · exact h2.2.1 hb
      · exact hb h2.1.1
      · exact h2.1.2 hb) (by simp))
  have gG:InC g G g:=.inl rfl;obtain⟨nc,hnc⟩:∃y,y=n.cycles+1:=⟨_,rfl⟩
  have HNC:=hid hnc;have ew:IntKind.i64.wrap ((n.cycles:Int)+1)=(nc:Int):=by rw[IntKind.wrap_i64];have:=hbd.1;omega
  obtain⟨⟨n0,n1,n2,n3,n4,n5,n6⟩,f0,_,_,_,_,_,_⟩:=Bx.seven HN0.out.bx;clear hnc hm hg hc hin hn hfr hbd hb0 hS n1 n2 n3 n4 n5 n6 hmaps hlb hpb hlat hprog hreq
  go_enter Tryz.func62,Tryz.ntmps62
  go_upto_region 1 with fail
  rw[←hw0,←hgi,←hgb];clear hw0 hgb hgi
  go_upto_region 2 with fail
  obtain⟨w1,hw1⟩:∃W,W=w0.setCell ⟨g,0,none⟩ (.int .i64 (nc:Nat)):=⟨_,rfl⟩
  rw[←hw1];have hk1:∀b,b≠g→w1.heap[b]? = w0.heap[b]?:=fun b hb=>by rw[hw1];exact Below.heap_setCell _ _ _ _ (fun e=>hb e)
  have HS1 := hid (show CyB w1 base S X st V N C D from HM0.out.keep (fun b _ hb => hk1 b fun e => by
      have h2:=HFR.out b (by rw[e];exact gG);rcases hb with hb|hb|hb
      · exact h2.2.1 hb
      · exact hb h2.1.1
      · exact h2.1.2 hb) (by rw[hw1];simp))
  have HN1:=hid (show CnB w1 g G (cnS c inp st n 0 0 0 0) from by rw[hw1,HNC.out];exact HN0.out.tick rfl fun i j hi _=>cnS_zero c inp st n i j hi);have X01:=hid (X0.out.kept (hk1 gb (Ne.symm (HGG.out g gG).1)));have X11:=hid (X1.out.kept (hk1 gi (Ne.symm (HGG.out g gG).2)));have HB1:=hid (show Below base w w1 by rw[hw1];exact HB0.out.setCell (p:=⟨g,_,none⟩) (HFR.out g gG).2.2.1 _);clear hw1 hk1 n0 f0 ew HM0 HN0 X0 X1 HB0;obtain⟨P,Q,hv⟩:=HS1.out.toV hbus HG.out;obtain⟨_,_,_,_,_,_,pg,pq,pc3,tg,tp,tc3,_,_,hv2,hv3,_,_,_,_,_⟩:=hv.rows;have HV2:=hid hv2;have HV3:=hid hv3;obtain⟨_,_,t2,t3,_,_⟩:=HS1.out.cells;rw[hv2]at t2;rw[hv3]at t3;clear hv hv2 hv3
  go_wp2_with fail
  clear t2 t3
  go_loopw [29] (fun i wr=>∃k:Nat,i=.int .i64 k∧k≤3∧CyB wr base S X st V N C D∧CnB wr g G (cnS c inp st n k 0 0 0)∧Bx wr gb [.slice ma mn mk,.slice (some ⟨lb,lo,none⟩) 4 lc,.slice (some ⟨pb,po,none⟩) 3 pc]∧Bx wr gi [.slice ra 3 rc,.slice ta 4 tc,.slice sa 3 sc]∧Below base w wr) (fun i _=>3 - (intOf i).toNat)
  case atStart=>exact⟨0,by go_num,Nat.zero_le _,HS1.out,HN1.out,X01.out,X11.out,HB1.out⟩
  case round=>
    clear HS1 HN1 X01 X11 HB1;obtain⟨k,rfl,hk,hs,hn,hx0,hx1,hbr⟩:=hrel;have HS:=hid hs;have HN:=hid hn;have X0:=hid hx0;have X1:=hid hx1;have HBR:=hid hbr;obtain⟨wo,hwo⟩:∃W,W=wr:=⟨_,rfl⟩
    subst hwo;obtain⟨P,Q,hv⟩:=hs.toV hbus HG.out;obtain⟨_,_,_,_,_,_,pg', pq', pc3', tg', tp', tc3', _,_,hv2,hv3,_,hpg,htg,hpr,hqr⟩:=hv.rows;rw[HV2.out]at hv2;rw[HV3.out]at hv3;simp only[Value.slice.injEq,Option.some.injEq,Addr.mk.injEq,and_true,true_and]at hv2 hv3;obtain⟨⟨rfl,rfl⟩,rfl⟩:=hv2;obtain⟨⟨rfl,rfl⟩,rfl⟩:=hv3;clear hs hn hx0 hx1 hbr hv hqr hpg htg;by_cases hlt:k<3
    · have hki : (k : Int) < 3 := by omega
      obtain⟨qa,qc,oa,oc,r0,r1,r2,r3,_,_⟩:=hpr k hlt;obtain⟨qn,hqn⟩:∃x,x=(st.ports k).queue.length:=⟨_,rfl⟩
      have HQN:=hid hqn;rw[←hqn]at r1;clear hpr hqn
      go_upto_region 5 with fail
      obtain⟨w2,hw2⟩:∃W,W=wo.alloc (.cells #[.int .i64 ((st.ports k).next:Nat),.slice qa qn qc,.slice oa (st.ports k).out.length oc,.int .i64 ((st.ports k).last:Nat)] 48):=⟨_,rfl⟩
      obtain⟨gp,hgp⟩:∃g,g=wo.heap.size:=⟨_,rfl⟩
      have hb2:Below wo.heap.size wo w2:=by rw[hw2];exact(Below.refl _ _).alloc (Nat.le_refl _) _
      have XP:=hid (show Bx w2 gp [.int .i64 ((st.ports k).next:Nat),.slice qa qn qc,.slice oa (st.ports k).out.length oc,.int .i64 ((st.ports k).last:Nat)] by rw[hw2,hgp];exact Bx.new wo #[.int .i64 ((st.ports k).next:Nat),.slice qa qn qc,.slice oa (st.ports k).out.length oc,.int .i64 ((st.ports k).last:Nat)] 48 (by simp));rw[←hw2,←hgp];have HS2:=hid (HS.out.below hb2);have HN2:=hid (HN.out.below hb2);have X02:=hid (X0.out.below hb2 X0.out.lt);have X12:=hid (X1.out.below hb2 X1.out.lt);have HB2:=hid (HBR.out.trans (hb2.mono (Nat.le_trans hbw HBR.out.size)));have xf:=XP.out.c 1 (by simp);simp only[List.getElem?_cons_zero,List.getElem?_cons_succ]at xf;clear hw2 hgp hb2 r0 r1 r2 r3 HS HN X0 X1 HBR;by_cases hq0:qn=0
      · have hqd : decide (0 < qn) = false := by simp [hq0]
        have HQ0:=hid (show(st.ports k).queue.length=0 by rw[←HQN.out];exact hq0);clear hq0
        go_wp2_with fail
        go_roundw
        case rel=>exact⟨k+1,by go_num,by omega,HS2.out,HN2.out.congr rfl fun i j hi _=>cnS_nowait HQ0.out i j hi,X02.out,X12.out,HB2.out⟩
        case measure=>simp[intOf];omega
      · have hqd : 0 < qn := by omega
        have HQ0:=hid (show(st.ports k).queue.length≠0 by rw[←HQN.out];exact hq0);clear hq0;obtain⟨⟨n0,n1,n2,n3,n4,n5,n6⟩,f0,_,_,_,_,_,_⟩:=Bx.seven HN2.out.bx;have m0:=HN2.out.cell (i:=2) (j:=k) (by omega) (by simpa[cnL]using hlt);have m1:=HN2.out.free (i:=2) (j:=k) (by omega) (by simpa[cnL]using hlt);obtain⟨x,hx⟩:∃x,x=(cnS c inp st n k 0 0 0).l 2 k:=⟨_,rfl⟩
        have hx2:x≤1001:=by rw[hx];have:=HBD.out 2 k (by omega) (by simpa[cnL]using hlt);simp only[cnS,Cn.l]at this ⊢;split <;> omega
        rw[←hx]at m0;have HXX:=hid hx;obtain⟨x1,hx1⟩:∃y,y=x+1:=⟨_,rfl⟩
        have HX1:=hid hx1;have ew:IntKind.i64.wrap ((x:Int)+1)=(x1:Int):=by rw[IntKind.wrap_i64];omega
        clear hx1;clear hx n0 n1 n2 n4 n5 n6 f0
        go_upto_region 7 with fail
        have HS3:=hid (HKEEP.out w2 2 k (.int .i64 (x1:Nat)) (by omega) HS2.out);have HN3:=hid (show CnB (w2.setCell ⟨G 2,k,none⟩ (.int .i64 (x1:Nat))) g G (cnS c inp st n (k+1) 0 0 0) from HN2.out.inc (by omega) (by simpa[cnL]using hlt) rfl fun i j hi _=>by rw[HX1.out,HXX.out];exact cnS_wait HQ0.out i j hi);have X03:=hid (show Bx (w2.setCell ⟨G 2,k,none⟩ (.int .i64 (x1:Nat))) gb _ from X02.out.kept (Below.heap_setCell _ _ _ _ fun e=>(HGG.out (G 2) (.at (by omega))).1 (Eq.symm e)));have X13:=hid (show Bx (w2.setCell ⟨G 2,k,none⟩ (.int .i64 (x1:Nat))) gi _ from X12.out.kept (Below.heap_setCell _ _ _ _ fun e=>(HGG.out (G 2) (.at (by omega))).2 (Eq.symm e)));have HB3:=hid (HB2.out.setCell (p:=⟨G 2,k,none⟩) (HFR.out (G 2) (.at (by omega))).2.2.1 (.int .i64 (x1:Nat)));obtain⟨w3,hw3⟩:∃W,W=w2.setCell ⟨G 2,k,none⟩ (.int .i64 (x1:Nat)):=⟨_,rfl⟩
        rw[←hw3]at HS3 HN3 X03 X13 HB3;rw[←hw3];clear hw3 n3 m0 m1 xf ew hx2
        go_wp2_with fail
        go_roundw
        case rel=>exact⟨k+1,by go_num,by omega,HS3.out,HN3.out,X03.out,X13.out,HB3.out⟩
        case measure=>simp[intOf];omega
    · obtain rfl : k = 3 := by omega
      rw[show(((3:Nat)):Int)=(3:Int) from rfl];clear hpr;obtain⟨_,_,_,t3,_,_⟩:=HS.out.cells;rw[HV3.out]at t3
      go_wp2_with fail
      clear t3
      go_loopw [53] (fun i wr=>∃k:Nat,i=.int .i64 k∧k≤4∧CyB wr base S X st V N C D∧CnB wr g G (cnS c inp st n 3 k 0 0)∧Bx wr gb [.slice ma mn mk,.slice (some ⟨lb,lo,none⟩) 4 lc,.slice (some ⟨pb,po,none⟩) 3 pc]∧Bx wr gi [.slice ra 3 rc,.slice ta 4 tc,.slice sa 3 sc]∧Below base w wr) (fun i _=>4 - (intOf i).toNat)
      case atStart=>exact⟨0,by go_num,Nat.zero_le _,HS.out,HN.out,X0.out,X1.out,HBR.out⟩
      case round=>
        clear HS HN X0 X1 HBR;obtain⟨k,rfl,hk,hs,hn,hx0,hx1,hbr⟩:=hrel;have HS:=hid hs;have HN:=hid hn;have X0:=hid hx0;have X1:=hid hx1;have HBR:=hid hbr;obtain⟨wo,hwo⟩:∃W,W=wr:=⟨_,rfl⟩
        subst hwo;obtain⟨P,Q,hv⟩:=hs.toV hbus HG.out;obtain⟨_,_,_,_,_,_,pg', pq', pc3', tg', tp', tc3', _,_,hv2,hv3,_,hpg,htg,hpr,hqr⟩:=hv.rows;rw[HV2.out]at hv2;rw[HV3.out]at hv3;simp only[Value.slice.injEq,Option.some.injEq,Addr.mk.injEq,and_true,true_and]at hv2 hv3;obtain⟨⟨rfl,rfl⟩,rfl⟩:=hv2;obtain⟨⟨rfl,rfl⟩,rfl⟩:=hv3;clear hs hn hx0 hx1 hbr hv hpr hpg htg;by_cases hlt:k<4
        · have hki : (k : Int) < 4 := by omega
          obtain⟨qa,qc,oa,oc,r0,r1,r2,_,_⟩:=hqr k hlt;obtain⟨qn,hqn⟩:∃x,x=(st.slaves k).pipe.length:=⟨_,rfl⟩
          have HQN:=hid hqn;rw[←hqn]at r0;clear hqr hqn
          go_upto_region 11 with fail
          obtain⟨w2,hw2⟩:∃W,W=wo.alloc (.cells #[.slice qa qn qc,.slice oa (st.slaves k).done.length oc,.int .i64 ((st.slaves k).last:Nat)] 94):=⟨_,rfl⟩
          obtain⟨gp,hgp⟩:∃g,g=wo.heap.size:=⟨_,rfl⟩
          have hb2:Below wo.heap.size wo w2:=by rw[hw2];exact(Below.refl _ _).alloc (Nat.le_refl _) _
          have XP:=hid (show Bx w2 gp [.slice qa qn qc,.slice oa (st.slaves k).done.length oc,.int .i64 ((st.slaves k).last:Nat)] by rw[hw2,hgp];exact Bx.new wo #[.slice qa qn qc,.slice oa (st.slaves k).done.length oc,.int .i64 ((st.slaves k).last:Nat)] 94 (by simp));rw[←hw2,←hgp];have HS2:=hid (HS.out.below hb2);have HN2:=hid (HN.out.below hb2);have X02:=hid (X0.out.below hb2 X0.out.lt);have X12:=hid (X1.out.below hb2 X1.out.lt);have HB2:=hid (HBR.out.trans (hb2.mono (Nat.le_trans hbw HBR.out.size)));have xf:=XP.out.c 0 (by simp);simp only[List.getElem?_cons_zero,List.getElem?_cons_succ]at xf;clear hw2 hgp hb2 r0 r1 r2  HS HN X0 X1 HBR;by_cases hq0:qn=0
          · have hqd : decide (0 < qn) = false := by simp [hq0]
            have HQ0:=hid (show(st.slaves k).pipe.length=0 by rw[←HQN.out];exact hq0);clear hq0
            go_wp2_with fail
            go_roundw
            case rel=>exact⟨k+1,by go_num,by omega,HS2.out,HN2.out.congr rfl fun i j hi _=>cnS_idle HQ0.out i j hi,X02.out,X12.out,HB2.out⟩
            case measure=>simp[intOf];omega
          · have hqd : 0 < qn := by omega
            have HQ0:=hid (show(st.slaves k).pipe.length≠0 by rw[←HQN.out];exact hq0);clear hq0;obtain⟨⟨n0,n1,n2,n3,n4,n5,n6⟩,f0,_,_,_,_,_,_⟩:=Bx.seven HN2.out.bx;have m0:=HN2.out.cell (i:=5) (j:=k) (by omega) (by simpa[cnL]using hlt);have m1:=HN2.out.free (i:=5) (j:=k) (by omega) (by simpa[cnL]using hlt);obtain⟨x,hx⟩:∃x,x=(cnS c inp st n 3 k 0 0).l 5 k:=⟨_,rfl⟩
            have hx2:x≤1001:=by rw[hx];have:=HBD.out 5 k (by omega) (by simpa[cnL]using hlt);simp only[cnS,Cn.l]at this ⊢;split <;> omega
            rw[←hx]at m0;have HXX:=hid hx;obtain⟨x1,hx1⟩:∃y,y=x+1:=⟨_,rfl⟩
            have HX1:=hid hx1;have ew:IntKind.i64.wrap ((x:Int)+1)=(x1:Int):=by rw[IntKind.wrap_i64];omega
            clear hx1;clear hx n0 n1 n2 n3 n4 n5 f0
            go_upto_region 13 with fail
            have HS3:=hid (HKEEP.out w2 5 k (.int .i64 (x1:Nat)) (by omega) HS2.out);have HN3:=hid (show CnB (w2.setCell ⟨G 5,k,none⟩ (.int .i64 (x1:Nat))) g G (cnS c inp st n 3 (k+1) 0 0) from HN2.out.inc (by omega) (by simpa[cnL]using hlt) rfl fun i j hi _=>by rw[HX1.out,HXX.out];exact cnS_busy HQ0.out i j hi);have X03:=hid (show Bx (w2.setCell ⟨G 5,k,none⟩ (.int .i64 (x1:Nat))) gb _ from X02.out.kept (Below.heap_setCell _ _ _ _ fun e=>(HGG.out (G 5) (.at (by omega))).1 (Eq.symm e)));have X13:=hid (show Bx (w2.setCell ⟨G 5,k,none⟩ (.int .i64 (x1:Nat))) gi _ from X12.out.kept (Below.heap_setCell _ _ _ _ fun e=>(HGG.out (G 5) (.at (by omega))).2 (Eq.symm e)));have HB3:=hid (HB2.out.setCell (p:=⟨G 5,k,none⟩) (HFR.out (G 5) (.at (by omega))).2.2.1 (.int .i64 (x1:Nat)));obtain⟨w3,hw3⟩:∃W,W=w2.setCell ⟨G 5,k,none⟩ (.int .i64 (x1:Nat)):=⟨_,rfl⟩
            rw[←hw3]at HS3 HN3 X03 X13 HB3;rw[←hw3];clear hw3 n6 m0 m1 xf ew hx2
            go_wp2_with fail
            go_roundw
            case rel=>exact⟨k+1,by go_num,by omega,HS3.out,HN3.out,X03.out,X13.out,HB3.out⟩
            case measure=>simp[intOf];omega
        · obtain rfl : k = 4 := by omega
          rw[show(((4:Nat)):Int)=(4:Int) from rfl];clear hqr;obtain⟨b0,b1,b2⟩:=X0.out.three.1;obtain⟨i0,i1,i2⟩:=X1.out.three.1;have HST:=hid (step_any hbus HS.out HG.out (HC.out.below (HBR.out.mono hB)) (HIN.out.below (HBR.out.mono hB)) hB)
          go_upto_region 15 with(go_at_call 46;go_loud ((with_reducible refine(HST.out).mono ?_));rintro e w6 ⟨V', N', C', D', ve,rfl,hcb,hfr6,hb6,hev,hevf⟩;obtain⟨va,vc,rfl,_⟩:=hev.shape;have HCB6:=hid hcb;have HFR6:=hid hfr6;have HB6:=hid hb6;have HEV:=hid hev;have HEF:=hid hevf;clear hcb hfr6 hb6 hev hevf b0 b1 b2 i0 i1 i2)
          obtain⟨es,hes⟩:∃l,l=evs c inp st:=⟨_,rfl⟩
          have HES:=hid hes;have HEN:=hid (show es.length≤10 from by rw[hes];exact evs_len _ _ _);rw[←hes]at HEV;obtain⟨el,hel⟩:∃x,x=es.length:=⟨_,rfl⟩
          have HEL:=hid hel;have hel10:el≤10:=by rw[hel];exact HEN.out
          rw[←hes,←hel];obtain⟨w7,hw7⟩:∃W,W=w6.alloc (.cells #[.slice va el vc,.int .i64 (lets c inp st 0:Nat),.int .i64 (lets c inp st 1:Nat),.int .i64 (lets c inp st 2:Nat),.int .i64 (lets c inp st 3:Nat)] 98):=⟨_,rfl⟩
          obtain⟨gh,hgh⟩:∃g,g=w6.heap.size:=⟨_,rfl⟩
          have hb7:Below w6.heap.size w6 w7:=by rw[hw7];exact(Below.refl _ _).alloc (Nat.le_refl _) _
          have XH:=hid (show Bx w7 gh [.slice va el vc,.int .i64 (lets c inp st 0:Nat),.int .i64 (lets c inp st 1:Nat),.int .i64 (lets c inp st 2:Nat),.int .i64 (lets c inp st 3:Nat)] by rw[hw7,hgh];exact Bx.new w6 #[.slice va el vc,.int .i64 (lets c inp st 0:Nat),.int .i64 (lets c inp st 1:Nat),.int .i64 (lets c inp st 2:Nat),.int .i64 (lets c inp st 3:Nat)] 98 (by simp));rw[←hw7,←hgh];have DFB:=hid (show ∀b,InC g G b→DFreeS V S wo b from fun b hb=>⟨HN.out.lt hb,(HFR.out b hb).1⟩);have HS7:=hid (HCB6.out.below hb7);have HN6:=hid (HN.out.kept fun b hb=>(HFR6.out b (DFB.out b hb)).1);have HN7:=hid (HN6.out.below hb7);have HDF:=hid (show ∀b,InC g G b→Free V' b∧b≠S from fun b hb=>(HFR6.out b (DFB.out b hb)).2.1.2);have X07:=hid ((X0.out.kept (HFR6.out gb ⟨X0.out.lt,HGF.out⟩).1).below hb7 (Nat.lt_of_lt_of_le X0.out.lt (by have:=HB6.out.size;omega)));have HB7:=hid ((HBR.out.trans HB6.out).trans (hb7.mono (Nat.le_trans hbw (Nat.le_trans HBR.out.size HB6.out.size))));have HHG:=hid (show ∀b,InC g G b→b≠gh from fun b hb e=>by have:=(HFR6.out b (DFB.out b hb)).2.1.1;omega)
          have HED7 := hid (show ArrD w7 (fun b => b < w7.heap.size ∧ ¬ InC g G b) 3 (.slice va el vc) (es.map evRow) from by
            have h:=(HEV.out.arrD (P:=fun b=>b<w6.heap.size∧¬InC g G b) (fun b hb=>⟨(OwnR.lt HEV.out b hb).2,fun e=>by have h9:=(HFR6.out b (DFB.out b e)).2.2;exact h9 (by rw[←HES.out];exact hb)⟩) (fun _=>rfl) (by have:=HEN.out;omega)).kept (fun b hb=>hb7.block b hb.1);rw[←HEL.out]at h;exact h.weak fun b hb=>⟨Nat.lt_of_lt_of_le hb.1 hb7.size,hb.2⟩)
          have HKEEP2 := hid (show ∀ (W : World) (i j : Nat) (x : Value), i < 6 → CyB W base S X (cyc c inp st) V' N' C' D' → CyB (W.setCell ⟨G i, j, none⟩ x) base S X (cyc c inp st) V' N' C' D' from fun W i j x hi h =>
            h.keep (fun b _ hb => Below.heap_setCell _ _ _ _ fun e => by
              have e:b=G i:=e;have h2:=HFR.out b (by rw[e];exact .at hi);have h3:=HDF.out b (by rw[e];exact .at hi);rcases hb with hb|hb|hb
              · exact h2.2.1 hb
              · exact hb h3.1
              · exact h3.2 hb) (by simp))
          have HXK := hid (show ∀ (W : World) (i j : Nat) (x : Value), i < 6 → (∀ cs, Bx W gb cs → Bx (W.setCell ⟨G i, j, none⟩ x) gb cs) ∧ (∀ cs, Bx W gh cs → Bx (W.setCell ⟨G i, j, none⟩ x) gh cs) from fun W i j x hi =>
            ⟨fun cs h=>h.kept (Below.heap_setCell _ _ _ _ fun e=>(HGG.out (G i) (.at hi)).1 (Eq.symm e)),fun cs h=>h.kept (Below.heap_setCell _ _ _ _ fun e=>HHG.out (G i) (.at hi) (Eq.symm e))⟩)
          clear hw7 hgh hb7 hes hel HFR6 HEV HEF HN6 HCB6 HB6 HST HS HN X0 X1 HBR DFB HKEEP;have x1:=XH.out.c 0 (by simp);simp only[List.getElem?_cons_zero]at x1
          go_wp2_with fail
          clear x1
          go_loopw [79] (fun i wr=>∃m:Nat,i=.int .i64 m∧m≤el∧CyB wr base S X (cyc c inp st) V' N' C' D' ∧ CnB wr g G (cnS c inp st n 3 4 m 0)∧Bx wr gb [.slice ma mn mk,.slice (some ⟨lb,lo,none⟩) 4 lc,.slice (some ⟨pb,po,none⟩) 3 pc]∧Bx wr gh [.slice va el vc,.int .i64 (lets c inp st 0:Nat),.int .i64 (lets c inp st 1:Nat),.int .i64 (lets c inp st 2:Nat),.int .i64 (lets c inp st 3:Nat)]∧Below base w wr∧ArrD wr (fun b=>b<wr.heap.size∧¬InC g G b) 3 (.slice va el vc) (es.map evRow)) (fun i _=>el - (intOf i).toNat)
          case atStart=>exact⟨0,by go_num,Nat.zero_le _,HS7.out,HN7.out,X07.out,XH.out,HB7.out,HED7.out⟩
          case round=>
            clear HS7 HN7 X07 XH HB7 HED7;obtain⟨m,rfl,hm,hs,hn,hx0,hxh,hbr,hed⟩:=hrel;have HS:=hid hs;have HN:=hid hn;have X0:=hid hx0;have XH:=hid hxh;have HBR:=hid hbr;have HED:=hid hed;obtain⟨wo,hwo⟩:∃W,W=wr:=⟨_,rfl⟩
            subst hwo;clear hs hn hx0 hxh hbr;by_cases hlt2:m<el
            · have hmi : (m : Int) < (el : Int) := by omega
              have hml:m<es.length:=by rw[←HEL.out];exact hlt2
              obtain⟨eb,eo,ecap,he1,_,_,hebw,hec⟩:=(hed.to (B:=wo.heap.size) fun b h=>h.1).at (by omega)
              simp only[Value.slice.injEq]at he1;obtain⟨rfl,-,rfl⟩:=he1;have e0:=hec m default hml 0 (by omega);have e1:=hec m default hml 1 (by omega);have e2:=hec m default hml 2 (by omega);obtain⟨ev,hev⟩:∃e,e=es.getD m default:=⟨_,rfl⟩
              rw[←hev]at e0 e1 e2;simp only[evRow,List.getElem?_cons_zero,List.getElem?_cons_succ,Nat.add_zero]at e0 e1 e2;have HIN2:=hid (show ev∈evs c inp st from by rw[←HES.out,hev];simp[List.getD,hml])
              have HTS := hid (show (evs c inp st).take (m + 1) = (evs c inp st).take m ++ [ev] by
                rw[←HES.out,List.take_add_one,hev];have:es[m]?.toList=[es.getD m default]:=by simp[List.getD,hml]
                rw[this])
              have HTL:=hid (show((evs c inp st).take m).length≤10 from by rw[←HES.out,List.length_take];have:=HEN.out;omega);obtain⟨kd,hkd⟩:∃x,x=ev.kind:=⟨_,rfl⟩
              obtain⟨eu,heu⟩:∃x,x=ev.who:=⟨_,rfl⟩
              obtain⟨en,hen⟩:∃x,x=ev.n:=⟨_,rfl⟩
              rw[←hkd]at e0;rw[←heu]at e1;rw[←hen]at e2;have HKD:=hid hkd;have HEU:=hid heu;have HENN:=hid hen;clear hec hev hed hkd heu hen
              go_upto_region 18 with fail
              obtain⟨wq,hwq⟩:∃W,W=wo.alloc (.cells #[.int .i64 kd,.int .i64 eu,.int .i64 en] 173):=⟨_,rfl⟩
              obtain⟨gE,hgE⟩:∃g,g=wo.heap.size:=⟨_,rfl⟩
              have HBQ:=hid (show Below wo.heap.size wo wq by rw[hwq];exact(Below.refl _ _).alloc (Nat.le_refl _) _);have XE:=hid (show Bx wq gE [.int .i64 kd,.int .i64 eu,.int .i64 en] by rw[hwq,hgE];exact Bx.new wo #[.int .i64 kd,.int .i64 eu,.int .i64 en] 173 (by simp));rw[←hwq,←hgE];have HSQ:=hid (HS.out.below HBQ.out);have HNQ:=hid (HN.out.below HBQ.out);have X0Q:=hid (X0.out.below HBQ.out X0.out.lt);have XHQ:=hid (XH.out.below HBQ.out XH.out.lt);have HBRQ:=hid (HBR.out.trans (HBQ.out.mono (Nat.le_trans hbw HBR.out.size)));have HEDQ:=hid ((HED.out.kept (fun b hb=>HBQ.out.block b hb.1)).weak (Q:=fun b=>b<wq.heap.size∧¬InC g G b) fun b hb=>⟨Nat.lt_of_lt_of_le hb.1 HBQ.out.size,hb.2⟩);have HGE:=hid (show ∀b,InC g G b→b≠gE from fun b hb e=>by have:=HN.out.lt hb;omega);clear hwq hgE HS HN X0 XH HBR HED e0 e1 e2 HBQ;obtain⟨e0,e1,e2⟩:=XE.out.three.1;have hks:kd=1∨kd=3∨kd=2:=by
                obtain⟨t,wk,a,e9,ht,ha,hw,_⟩:=evs_law hbus (inp:=inp) HG.out;have h9:=HIN2.out;rw[e9]at h9;rw[HKD.out];rcases List.mem_append.1 h9 with h9|h9
                · rcases List.mem_append.1 h9 with h9 | h9
                  · exact .inr (.inl (ht _ h9))
                  · exact .inr (.inr (hw _ h9).1)
                · exact .inl (ha _ h9)
              rcases hks with rfl|rfl|rfl
              · have hw3 := (show eu < 3 by rw [HEU.out]; exact evs_who HIN2.out HKD.out.symm)
                have i1:(eu:Int)<3:=by omega
                obtain⟨⟨n0,n1,n2,n3,n4,n5,n6⟩,f0,_,_,_,_,_,_⟩:=Bx.seven HNQ.out.bx;have m0:=HNQ.out.cell (i:=0) (j:=eu) (by omega) (by simpa[cnL]using hw3);have m1:=HNQ.out.free (i:=0) (j:=eu) (by omega) (by simpa[cnL]using hw3);obtain⟨x,hx⟩:∃x,x=(cnS c inp st n 3 4 m 0).l 0 eu:=⟨_,rfl⟩
                have hx2:x≤1010:=by rw[hx];have:=HBD.out 0 eu (by omega) (by simpa[cnL]using hw3);have h2:=HTL.out;have h3:evN 1 eu ((evs c inp st).take m)≤((evs c inp st).take m).length:=List.length_filter_le ..;simp only[cnS,Cn.l]at this ⊢;omega
                rw[←hx]at m0;have HXX:=hid hx;obtain⟨x1,hx1⟩:∃y,y=x+1:=⟨_,rfl⟩
                have HX1:=hid hx1;have ew:IntKind.i64.wrap ((x:Int)+1)=(x1:Int):=by rw[IntKind.wrap_i64];omega
                clear hx1;clear hx n0 n2 n3 n4 n5 n6 f0
                go_upto_region 20 with fail
                obtain⟨w9,hw9⟩:∃w9,w9=wq.drew:=⟨_,rfl⟩
                have hb9:Below wq.heap.size wq w9:=by rw[hw9];exact(Below.refl _ _).drew
                have HS9:=hid (HSQ.out.below hb9);have HN9:=hid (HNQ.out.below hb9);have X09:=hid (X0Q.out.below hb9 X0Q.out.lt);have XH9:=hid (XHQ.out.below hb9 XHQ.out.lt);have HBR9:=hid (HBRQ.out.trans (hb9.mono (Nat.le_trans hbw HBRQ.out.size)));have HED9:=hid ((HEDQ.out.kept (fun b hb=>hb9.block b hb.1)).weak (Q:=fun b=>b<w9.heap.size∧¬InC g G b) fun b hb=>⟨Nat.lt_of_lt_of_le hb.1 hb9.size,hb.2⟩);refine wp_region_still_tail 10 (by kernel_rfl) (by kernel_rfl) ?_;change wpStill Tryz.prog _ wq.drew (fun a' => wpList Tryz.prog _ _ _ a' wq.drew) _ _;rw[←hw9];have kc:∀{p:Addr} {v:Value},wq.cell? p=some v→w9.cell? p=some v:=fun h=>by rw[hw9];exact h
                replace e0:=kc e0;replace e1:=kc e1;replace n1:=kc n1;replace m0:=kc m0;replace m1:w9.frozen? ⟨G 0,eu,none⟩=false:=by rw[hw9];exact m1
                clear hw9 kc hb9 HSQ HNQ X0Q XHQ HBRQ HEDQ;simp only[List.take_succ_cons,List.take_zero,List.drop_succ_cons,List.drop_zero]
                repeat still_step
                refine wpStill_nil ?_
                go_upto_region 25 with fail
                have HSX:=hid (HKEEP2.out w9 0 eu (.int .i64 (x1:Nat)) (by omega) HS9.out)
                have HNX := hid (show CnB (w9.setCell ⟨G 0, eu, none⟩ (.int .i64 (x1 : Nat))) g G (cnS c inp st n 3 4 (m + 1) 0) from HN9.out.inc (by omega) (by simpa [cnL] using hw3) rfl fun i j hi _ => by
                  rw[cnS_ev HTS.out i j hi,HX1.out,HXX.out,←HKD.out,←HEU.out];by_cases hh:i=0∧j=eu
                  · obtain ⟨rfl, rfl⟩ := hh
                    rw[if_pos (by simp),if_pos ⟨rfl,rfl⟩]
                  · rw[if_neg hh,if_neg (by omega),Nat.add_zero])
                have X0X:=hid ((HXK.out w9 0 eu (.int .i64 (x1:Nat)) (by omega)).1 _ X09.out);have XHX:=hid ((HXK.out w9 0 eu (.int .i64 (x1:Nat)) (by omega)).2 _ XH9.out);have HBX:=hid (HBR9.out.setCell (p:=⟨G 0,eu,none⟩) (HFR.out (G 0) (.at (by omega))).2.2.1 (.int .i64 (x1:Nat)));have HEDX:=hid ((HED9.out.kept (w':=w9.setCell ⟨G 0,eu,none⟩ (.int .i64 (x1:Nat))) (fun b hb=>Below.heap_setCell _ _ _ _ fun e=>hb.2 (by rw[show b=G 0 from e];exact .at (by omega)))).weak (Q:=fun b=>b<(w9.setCell ⟨G 0,eu,none⟩ (.int .i64 (x1:Nat))).heap.size∧¬InC g G b) fun b hb=>⟨by simpa using hb.1,hb.2⟩);obtain⟨wz,hwz⟩:∃W,W=w9.setCell ⟨G 0,eu,none⟩ (.int .i64 (x1:Nat)):=⟨_,rfl⟩
                rw[←hwz]at HSX HNX X0X XHX HBX HEDX;rw[←hwz];clear hwz n1 m0 m1 e0 e1 e2 ew hx2
                go_wp2_with fail
                go_roundw
                case rel=>exact⟨m+1,by go_num,by omega,HSX.out,HNX.out,X0X.out,XHX.out,HBX.out,HEDX.out⟩
                case measure=>simp[intOf];omega
              · have hw3 := (show eu < 3 by rw [HEU.out]; exact evs_told HIN2.out HKD.out.symm)
                have i1:(eu:Int)<3:=by omega
                obtain⟨⟨n0,n1,n2,n3,n4,n5,n6⟩,f0,_,_,_,_,_,_⟩:=Bx.seven HNQ.out.bx;have m0:=HNQ.out.cell (i:=1) (j:=eu) (by omega) (by simpa[cnL]using hw3);have m1:=HNQ.out.free (i:=1) (j:=eu) (by omega) (by simpa[cnL]using hw3);obtain⟨x,hx⟩:∃x,x=(cnS c inp st n 3 4 m 0).l 1 eu:=⟨_,rfl⟩
                have hx2:x≤1010:=by rw[hx];have:=HBD.out 1 eu (by omega) (by simpa[cnL]using hw3);have h2:=HTL.out;have h3:evN 3 eu ((evs c inp st).take m)≤((evs c inp st).take m).length:=List.length_filter_le ..;simp only[cnS,Cn.l]at this ⊢;omega
                rw[←hx]at m0;have HXX:=hid hx;obtain⟨x1,hx1⟩:∃y,y=x+1:=⟨_,rfl⟩
                have HX1:=hid hx1;have ew:IntKind.i64.wrap ((x:Int)+1)=(x1:Int):=by rw[IntKind.wrap_i64];omega
                clear hx1;clear hx n0 n1 n3 n4 n5 n6 f0
                go_upto_region 22 with fail
                obtain⟨w9,hw9⟩:∃w9,w9=wq.drew:=⟨_,rfl⟩
                have hb9:Below wq.heap.size wq w9:=by rw[hw9];exact(Below.refl _ _).drew
                have HS9:=hid (HSQ.out.below hb9);have HN9:=hid (HNQ.out.below hb9);have X09:=hid (X0Q.out.below hb9 X0Q.out.lt);have XH9:=hid (XHQ.out.below hb9 XHQ.out.lt);have HBR9:=hid (HBRQ.out.trans (hb9.mono (Nat.le_trans hbw HBRQ.out.size)));have HED9:=hid ((HEDQ.out.kept (fun b hb=>hb9.block b hb.1)).weak (Q:=fun b=>b<w9.heap.size∧¬InC g G b) fun b hb=>⟨Nat.lt_of_lt_of_le hb.1 hb9.size,hb.2⟩);refine wp_region_still_tail 10 (by kernel_rfl) (by kernel_rfl) ?_;change wpStill Tryz.prog _ wq.drew (fun a' => wpList Tryz.prog _ _ _ a' wq.drew) _ _;rw[←hw9];have kc:∀{p:Addr} {v:Value},wq.cell? p=some v→w9.cell? p=some v:=fun h=>by rw[hw9];exact h
                replace e0:=kc e0;replace e1:=kc e1;replace n2:=kc n2;replace m0:=kc m0;replace m1:w9.frozen? ⟨G 1,eu,none⟩=false:=by rw[hw9];exact m1
                clear hw9 kc hb9 HSQ HNQ X0Q XHQ HBRQ HEDQ;simp only[List.take_succ_cons,List.take_zero,List.drop_succ_cons,List.drop_zero]
                repeat still_step
                refine wpStill_nil ?_
                go_upto_region 25 with fail
                have HSX:=hid (HKEEP2.out w9 1 eu (.int .i64 (x1:Nat)) (by omega) HS9.out)
                have HNX := hid (show CnB (w9.setCell ⟨G 1, eu, none⟩ (.int .i64 (x1 : Nat))) g G (cnS c inp st n 3 4 (m + 1) 0) from HN9.out.inc (by omega) (by simpa [cnL] using hw3) rfl fun i j hi _ => by
                  rw[cnS_ev HTS.out i j hi,HX1.out,HXX.out,←HKD.out,←HEU.out];by_cases hh:i=1∧j=eu
                  · obtain ⟨rfl, rfl⟩ := hh
                    rw[if_pos (by simp),if_pos ⟨rfl,rfl⟩]
                  · rw[if_neg hh,if_neg (by omega),Nat.add_zero])
                have X0X:=hid ((HXK.out w9 1 eu (.int .i64 (x1:Nat)) (by omega)).1 _ X09.out);have XHX:=hid ((HXK.out w9 1 eu (.int .i64 (x1:Nat)) (by omega)).2 _ XH9.out);have HBX:=hid (HBR9.out.setCell (p:=⟨G 1,eu,none⟩) (HFR.out (G 1) (.at (by omega))).2.2.1 (.int .i64 (x1:Nat)));have HEDX:=hid ((HED9.out.kept (w':=w9.setCell ⟨G 1,eu,none⟩ (.int .i64 (x1:Nat))) (fun b hb=>Below.heap_setCell _ _ _ _ fun e=>hb.2 (by rw[show b=G 1 from e];exact .at (by omega)))).weak (Q:=fun b=>b<(w9.setCell ⟨G 1,eu,none⟩ (.int .i64 (x1:Nat))).heap.size∧¬InC g G b) fun b hb=>⟨by simpa using hb.1,hb.2⟩);obtain⟨wz,hwz⟩:∃W,W=w9.setCell ⟨G 1,eu,none⟩ (.int .i64 (x1:Nat)):=⟨_,rfl⟩
                rw[←hwz]at HSX HNX X0X XHX HBX HEDX;rw[←hwz];clear hwz n2 m0 m1 e0 e1 e2 ew hx2
                go_wp2_with fail
                go_roundw
                case rel=>exact⟨m+1,by go_num,by omega,HSX.out,HNX.out,X0X.out,XHX.out,HBX.out,HEDX.out⟩
                case measure=>simp[intOf];omega
              · have HWK := hid (show WkOk c inp st ev from by
                  obtain⟨t,wk,a,e9,ht,ha,hw,_⟩:=evs_law hbus (inp:=inp) HG.out;have h9:=HIN2.out;rw[e9]at h9;have h8:=HKD.out;rcases List.mem_append.1 h9 with h9|h9
                  · rcases List.mem_append.1 h9 with h9 | h9
                    · have:=ht _ h9;omega
                    · exact hw _ h9
                  · have:=ha _ h9;omega)
                obtain⟨_,hw3,hnl,hs4,_,_⟩:=HWK.out;rw[←HEU.out]at hw3;rw[←HEU.out,←HENN.out]at hnl hs4;have HOQ:=hid (HO.out.below (HBRQ.out.mono hB));obtain⟨qb,qo,da,dc,la,lc', hqa,hqB,_,r0,r1,r2,r3,r4,r5,r6⟩:=HOQ.out.at hw3 hnl;have q0:=HOQ.out.prog eu hw3;rw[hqa]at q0;have i1:(eu:Int)<3:=by omega
                have i2:(en:Int)<((c.prog eu).length:Int):=by omega
                have HSL:=hid (fun(W:World) (hW:Below wq.heap.size wq W)=>slave_nat hbus (HOQ.out.ms.below (hW.mono (Nat.le_trans hB (Nat.le_trans hbw HBRQ.out.size)))) (Nat.le_trans (Nat.le_trans hB (Nat.le_trans hbw HBRQ.out.size)) hW.size) eu en da la (c.req eu en).data.length dc (c.req eu en).lanes.length lc');obtain⟨s,hs⟩:∃s,s=c.slv eu en:=⟨_,rfl⟩
                rw[←hs]at HSL hs4;have HSS:=hid hs;have is4:(s:Int)<4:=by omega
                obtain⟨rq,hrq⟩:∃r,r=c.req eu en:=⟨_,rfl⟩
                rw[←hrq]at HSL r0 r1 r2 r3 r4 r5 r6;obtain⟨pl,hpl⟩:∃x,x=(c.prog eu).length:=⟨_,rfl⟩
                rw[←hpl]at q0 i2;obtain⟨b0,b1,b2⟩:=X0Q.out.three.1;obtain⟨⟨n0,n1,n2,n3,n4,n5,n6⟩,f0,_,_,_,_,_,_⟩:=Bx.seven HNQ.out.bx;have m0:=HNQ.out.cell (i:=4) (j:=s) (by omega) (by simpa[cnL]using hs4);have M1:=hid (HNQ.out.free (i:=4) (j:=s) (by omega) (by simpa[cnL]using hs4));obtain⟨x,hx⟩:∃x,x=(cnS c inp st n 3 4 m 0).l 4 s:=⟨_,rfl⟩
                have hx2:x≤1010:=by rw[hx];have:=HBD.out 4 s (by omega) (by simpa[cnL]using hs4);have h2:=HTL.out;have h3:doneN c s ((evs c inp st).take m)≤((evs c inp st).take m).length:=List.length_filter_le ..;simp only[cnS,Cn.l]at this ⊢;omega
                rw[←hx]at m0;have HXX:=hid hx;obtain⟨x1,hx1⟩:∃y,y=x+1:=⟨_,rfl⟩
                have HX1:=hid hx1;have ew:IntKind.i64.wrap ((x:Int)+1)=(x1:Int):=by rw[IntKind.wrap_i64];omega
                clear hx1;have M0:=hid m0;have gq:=HFR.out (G 4) (.at (by omega));have q1:g≠G 4:=Ne.symm (HNQ.out.ne 4 (by omega));have q2:gb≠G 4:=Ne.symm (HGG.out (G 4) (.at (by omega))).1;have q3:gE≠G 4:=Ne.symm (HGE.out (G 4) (.at (by omega)));have q4:pb≠G 4:=by have:=HPB.out;omega
                have q5:qb≠G 4:=by omega
                have HQQ:=hid (And.intro q1 (And.intro q2 (And.intro q3 (And.intro q4 q5))));clear hx hs hqa hrq hpl n0 n1 n2 n3 n4 n6 f0 q1 q2 q3 q4 q5 gq
                go_upto_region 24 with fail
                obtain⟨CC,hCC⟩:∃CC:List Value→World→Prop,CC=incC wq ⟨G 4,s,none⟩ (.int .i64 (x1:Nat)):=⟨_,rfl⟩
                have hC0:CC [] wq.drew:=by rw[hCC];exact(Below.refl _ _).drew
                have HCC:=hid hCC;have hne:Nonempty (Ph CC):=⟨⟨([],wq.drew),hC0⟩⟩
                have hne2:Nonempty (Ph (lims CC (some 0))):=⟨⟨([],wq.drew),hC0,by simp⟩⟩
                have pc:∀{p:Addr} {v:Value},p.block≠G 4→wq.cell? p=some v→∀x:Ph CC,x.1.2.cell? p=some v:=fun hp hc x=>incC_cell (a:=⟨G 4,s,none⟩) (by rw[←hCC];exact x.2) hp hc
                have hld:∀y:Ph (lims CC (some 0)),y.1.2.cell? ⟨G 4,s,none⟩=some (.int .i64 ((x:Nat):Int)):=fun y=>incC_load (by rw[←hCC];exact y.2.1) y.2.2 m0
                have HCL:=hid (show ∀us W W', us.length≤0→CC us W→Below W.heap.size W W' → CC us W' by rw[hCC];exact fun us W W' hl h h2=>incC_grow h h2 hl)
                have HCB := hid (show ∀ us W, us.length ≤ 0 → CC us W → Below wq.heap.size wq W by
                  rw[hCC];intro us W hl h
                  match us,h,hl with
                  |[],h,_=>exact h
                  |[_],_,hl=>simp at hl)
                replace e0:=pc HQQ.out.2.2.1 e0;replace e1:=pc HQQ.out.2.2.1 e1;replace e2:=pc HQQ.out.2.2.1 e2;replace b0:=pc HQQ.out.2.1 b0;replace b2:=pc HQQ.out.2.1 b2;replace n5:=pc HQQ.out.1 n5;replace q0:=pc HQQ.out.2.2.2.1 q0;replace r0:=pc HQQ.out.2.2.2.2 r0;replace r1:=pc HQQ.out.2.2.2.2 r1;replace r2:=pc HQQ.out.2.2.2.2 r2;replace r3:=pc HQQ.out.2.2.2.2 r3;replace r4:=pc HQQ.out.2.2.2.2 r4;replace r5:=pc HQQ.out.2.2.2.2 r5;replace r6:=pc HQQ.out.2.2.2.2 r6;clear hCC pc;refine zC3 CC [(21,false)] [(16,0),(18,0)] (by kernel_rfl) (by kernel_rfl) hC0 ?_
                repeat (
                  (with_reducible refine wq1_q ⟨rfl,rfl⟩ (fun K hK=>?_))
                  go_simp
                  first
                    |((with_reducible refine hK _ ?_);clear hK K)
                    |((with_reducible refine zB4 (by simp[undef]) (hK _ ?_));clear hK K)
                    | (apply Exists.intro
                       (with_reducible refine⟨fun _=>?_,hK _ ?_⟩)
                       (fail)
                       clear hK K))
                refine wq1_b ⟨rfl,rfl⟩ (fun KA hKA=>?_);go_simp;apply Exists.intro
                (with_reducible refine⟨fun y=>?_,hKA _ ?_⟩)
                · go_at_call 49
                  exact(HSL.out _ (HCB.out _ _ y.2.2 y.2.1)).mono fun _ _ ⟨he,hb⟩=>⟨he,HCL.out _ _ _ y.2.2 y.2.1 hb⟩
                clear hKA KA
                repeat (
                  (with_reducible refine wq1_q ⟨rfl,rfl⟩ (fun K hK=>?_))
                  go_simp
                  first
                    |((with_reducible refine hK _ ?_);clear hK K)
                    |((with_reducible refine zB4 (by simp[undef]) (hK _ ?_));clear hK K)
                    | (apply Exists.intro
                       (with_reducible refine⟨fun _=>?_,hK _ ?_⟩)
                       (fail)
                       clear hK K))
                refine wq1_b ⟨rfl,rfl⟩ (fun KA hKA=>?_);go_simp;refine hKA _ ?_;clear hKA KA
                repeat (
                  (with_reducible refine wq1_q ⟨rfl,rfl⟩ (fun K hK=>?_))
                  go_simp
                  first
                    |((with_reducible refine hK _ ?_);clear hK K)
                    |((with_reducible refine zB4 (by simp[undef]) (hK _ ?_));clear hK K)
                    | (apply Exists.intro
                       (with_reducible refine⟨fun _=>?_,hK _ ?_⟩)
                       (fail)
                       clear hK K))
                refine wq1_v rfl ?_;refine zL1 ?_;clear hne hne2 hld e0 e1 e2 b0 b1 b2 n5 q0 r0 r1 r2 r3 r4 r5 r6;refine wq2_v _ rfl rfl ?_ ?_
                · intro W hW KA hKA
                  have hbW:Below wq.heap.size wq W:=HCB.out [] W (by simp) hW;have d0:W.cell? ⟨G 4,s,none⟩=some (.int .i64 (x:Nat)):=(hbW.cell (p:=⟨G 4,s,none⟩) (HNQ.out.lt (.at (by omega)))).trans M0.out;have d1:W.frozen? ⟨G 4,s,none⟩=false:=by have:=M1.out;simp only[World.frozen?,hbW.block (G 4) (HNQ.out.lt (.at (by omega)))]at this ⊢;exact this
                  go_simp;exact hKA undef _ _ (by rw[HCC.out];exact⟨W,hbW,rfl⟩) rfl
                intro v0 KA hKA;go_simp;refine hKA _ ?_;clear hKA KA;refine zL0 ?_;intro wd hwd;rw[HCC.out]at hwd;obtain⟨W0,hb9,hwd2⟩:=(show ∃W0,Below wq.heap.size wq W0∧wd=W0.setCell ⟨G 4,s,none⟩ (.int .i64 (x1:Nat)) from hwd)
                have HS9:=hid (HSQ.out.below hb9);have HN9:=hid (HNQ.out.below hb9);have X09:=hid (X0Q.out.below hb9 X0Q.out.lt);have XH9:=hid (XHQ.out.below hb9 XHQ.out.lt);have HBR9:=hid (HBRQ.out.trans (hb9.mono (Nat.le_trans hbw HBRQ.out.size)));have HED9:=hid ((HEDQ.out.kept (fun b hb=>hb9.block b hb.1)).weak (Q:=fun b=>b<W0.heap.size∧¬InC g G b) fun b hb=>⟨Nat.lt_of_lt_of_le hb.1 hb9.size,hb.2⟩);have HSX:=hid (HKEEP2.out W0 4 s (.int .i64 (x1:Nat)) (by omega) HS9.out)
                have HNX := hid (show CnB (W0.setCell ⟨G 4, s, none⟩ (.int .i64 (x1 : Nat))) g G (cnS c inp st n 3 4 (m + 1) 0) from HN9.out.inc (by omega) (by simpa [cnL] using hs4) rfl fun i j hi _ => by
                  rw[cnS_ev HTS.out i j hi,HX1.out,HXX.out,←HKD.out,←HEU.out,←HENN.out,←HSS.out];by_cases hh:i=4∧j=s
                  · obtain ⟨rfl, rfl⟩ := hh
                    rw[if_pos (by simp),if_pos ⟨rfl,rfl⟩]
                  · rw[if_neg hh,if_neg (by omega),Nat.add_zero])
                have X0X:=hid ((HXK.out W0 4 s (.int .i64 (x1:Nat)) (by omega)).1 _ X09.out);have XHX:=hid ((HXK.out W0 4 s (.int .i64 (x1:Nat)) (by omega)).2 _ XH9.out);have HBX:=hid (HBR9.out.setCell (p:=⟨G 4,s,none⟩) (HFR.out (G 4) (.at (by omega))).2.2.1 (.int .i64 (x1:Nat)));have HEDX:=hid ((HED9.out.kept (w':=W0.setCell ⟨G 4,s,none⟩ (.int .i64 (x1:Nat))) (fun b hb=>Below.heap_setCell _ _ _ _ fun e=>hb.2 (by rw[show b=G 4 from e];exact .at (by omega)))).weak (Q:=fun b=>b<(W0.setCell ⟨G 4,s,none⟩ (.int .i64 (x1:Nat))).heap.size∧¬InC g G b) fun b hb=>⟨by simpa using hb.1,hb.2⟩);rw[←hwd2]at HSX HNX X0X XHX HBX HEDX;clear hwd hwd2 hb9 m0 ew hx2 HSQ HNQ X0Q XHQ HBRQ HEDQ hC0
                go_wp2_with fail
                go_roundw
                case rel=>exact⟨m+1,by go_num,by omega,HSX.out,HNX.out,X0X.out,XHX.out,HBX.out,HEDX.out⟩
                case measure=>simp[intOf];omega
            · obtain rfl : m = el := by omega
              have hmm:decide ((m:Int)<(m:Int))=false:=by simp
              rw[show(m:Nat)=(evs c inp st).length by rw[HEL.out,HES.out]]at HN;have x1:=XH.out.c 1 (by simp);have x2:=XH.out.c 2 (by simp);have x3:=XH.out.c 3 (by simp);have x4:=XH.out.c 4 (by simp);simp only[List.getElem?_cons_zero,List.getElem?_cons_succ]at x1 x2 x3 x4
              go_wp2_with fail
              clear x1 x2 x3 x4
              go_loopw [135] (fun i wr=>∃k:Nat,i=.int .i64 k∧k≤4∧CyB wr base S X (cyc c inp st) V' N' C' D' ∧ CnB wr g G (cnS c inp st n 3 4 (evs c inp st).length k)∧Below base w wr) (fun i _=>4 - (intOf i).toNat)
              case atStart=>exact⟨0,by go_num,Nat.zero_le _,HS.out,HN.out,HBR.out⟩
              case round=>
                clear HS HN X0 XH HBR;obtain⟨k,rfl,hk,hs,hn,hbr⟩:=hrel;have HS:=hid hs;have HN:=hid hn;have HBR:=hid hbr;obtain⟨wo,hwo⟩:∃W,W=wr:=⟨_,rfl⟩
                subst hwo;clear hs hn hbr;by_cases hlt:k<4
                · have hki : (k : Int) < 4 := by omega
                  obtain⟨⟨n0,n1,n2,n3,n4,n5,n6⟩,f0,_,_,_,_,_,_⟩:=Bx.seven HN.out.bx;have m0:=HN.out.cell (i:=3) (j:=k) (by omega) (by simpa[cnL]using hlt);have m1:=HN.out.free (i:=3) (j:=k) (by omega) (by simpa[cnL]using hlt);obtain⟨x,hx⟩:∃x,x=(cnS c inp st n 3 4 (evs c inp st).length k).l 3 k:=⟨_,rfl⟩
                  have hx2:x≤1001:=by rw[hx];have:=HBD.out 3 k (by omega) (by simpa[cnL]using hlt);simp only[cnS,Cn.l]at this ⊢;rw[if_neg (by omega)];omega
                  rw[←hx]at m0;have HXX:=hid hx;obtain⟨y,hy⟩:∃y,y=lets c inp st k:=⟨_,rfl⟩
                  have hy1:y≤1:=by rw[hy];exact(tally_step hbus HG.out).2 k
                  have HY:=hid hy;obtain⟨x1,hx1⟩:∃z,z=x+y:=⟨_,rfl⟩
                  have HX1:=hid hx1;have ew:IntKind.i64.wrap ((x:Int)+(y:Int))=(x1:Int):=by rw[IntKind.wrap_i64];omega
                  clear hx1;have HSX:=hid (HKEEP2.out wo 3 k (.int .i64 (x1:Nat)) (by omega) HS.out);have HNX:=hid (show CnB (wo.setCell ⟨G 3,k,none⟩ (.int .i64 (x1:Nat))) g G (cnS c inp st n 3 4 (evs c inp st).length (k+1)) from HN.out.inc (by omega) (by simpa[cnL]using hlt) rfl fun i j hi _=>by rw[HX1.out,HXX.out,HY.out];exact cnS_let i j hi);have HBX:=hid (HBR.out.setCell (p:=⟨G 3,k,none⟩) (HFR.out (G 3) (.at (by omega))).2.2.1 (.int .i64 (x1:Nat)));clear hx hx2 n0 n1 n2 n3 n5 n6 f0 hy1;obtain rfl|rfl|rfl|rfl:k=0∨k=1∨k=2∨k=3:=by omega
                  all_goals
                    simp only[←hy];clear hy
                    go_upto_region 30 with fail
                    go_wp2_with fail
                    go_roundw
                    case rel=>exact⟨_,by go_num,by omega,HSX.out,HNX.out,HBX.out⟩
                    case measure=>simp[intOf]
                · obtain rfl : k = 4 := by omega
                  rw[show(((4:Nat)):Int)=(4:Int) from rfl]
                  go_wp2_with fail
                  refine bodyPost_end (v:=.tuple #[]) (by simp[results,Tryz.results62,go_sem]) rfl ⟨rfl,V', N', C', D', HS.out,HN.out.congr rfl fun i j hi hj=>cnS_end i j hi hj,fun b hb=>⟨HN.out.lt hb,HDF.out b hb⟩,HBR.out⟩
end Go.Proofs.YtgkdoehkmbhfiaaGreat
namespace Go.Proofs.YtgkdoehkmbhfiaaGreat
open Go.RowKit
theorem Owns.mkI {w:World} {base n:Nat} {v:Value} (h:w.ownsRow base 3 1 v n (List.replicate n (Value.int .i64 0))):Owns w base 3 1 rowI v (List.replicate n (0:Int)):=by
 unfold Owns;have e:(List.replicate n (0:Int)).flatMap rowI=List.replicate n (Value.int .i64 0):=by rw[zF6,List.map_replicate]
 rw[e,List.length_replicate];exact OwnR.of_row h
def CMkP (n:Nat) (w:World) (e:Ending) (w':World):Prop:=e=.returned (.slice (some ⟨w.heap.size,0,none⟩) n n)∧Owns w' w.heap.size 3 1 rowI (.slice (some ⟨w.heap.size,0,none⟩) n n) (List.replicate n (0:Int))∧Below w.heap.size w w' ∧ w.heap.size<w'.heap.size
theorem mk3_any (w:World):Calls Tryz.prog 119 #[] w (CMkP 3 w):=by
 obtain⟨i1,hj,jz0,jz1,jz2⟩:=info_parts infoI
 go_enter Tryz.func119,Tryz.ntmps119
 go_wp2_with (at_make;go_must (refine wpList_make_full _ rfl _ _ 24 rfl w.heap.size 3 i1 (.int .i64 0) 1 Tryz.underlying24 hj jz0 jz1 _ _ _ _ 3 rfl rfl rfl rfl (by rw[jz2];omega) (by unfold maxLen;omega) (Nat.le_refl _) ?_);intro w1 hown hgrow)
 have hbx:=(Below.refl _ _).grown hgrow (Nat.le_refl _) (by simp);rw[show madeCells (Value.int .i64 0).cells (3 * 1)=madeCells #[.int .i64 0] 3 by rfl,toList_madeCells_one]at hown;have HO:=Owns.mkI hown;have hlt:=HO.ltI
 go_ret
 exact⟨rfl,HO,hbx,hlt.2⟩
theorem mk4_any (w:World):Calls Tryz.prog 120 #[] w (CMkP 4 w):=by
 obtain⟨i1,hj,jz0,jz1,jz2⟩:=info_parts infoI
 go_enter Tryz.func120,Tryz.ntmps120
 go_wp2_with (at_make;go_must (refine wpList_make_full _ rfl _ _ 24 rfl w.heap.size 3 i1 (.int .i64 0) 1 Tryz.underlying24 hj jz0 jz1 _ _ _ _ 4 rfl rfl rfl rfl (by rw[jz2];omega) (by unfold maxLen;omega) (Nat.le_refl _) ?_);intro w1 hown hgrow)
 have hbx:=(Below.refl _ _).grown hgrow (Nat.le_refl _) (by simp);rw[show madeCells (Value.int .i64 0).cells (4 * 1)=madeCells #[.int .i64 0] 4 by rfl,toList_madeCells_one]at hown;have HO:=Owns.mkI hown;have hlt:=HO.ltI
 go_ret
 exact⟨rfl,HO,hbx,hlt.2⟩
structure Six (w:World) (base g1 g2 g3 g4 g5 g6:Nat) (x1 x2 x3 x4 x5 x6:List Int):Prop where
 o1:Owns w base 3 1 rowI (.slice (some ⟨g1,0,none⟩) 3 3) x1
 o2:Owns w base 3 1 rowI (.slice (some ⟨g2,0,none⟩) 3 3) x2
 o3:Owns w base 3 1 rowI (.slice (some ⟨g3,0,none⟩) 3 3) x3
 o4:Owns w base 3 1 rowI (.slice (some ⟨g4,0,none⟩) 4 4) x4
 o5:Owns w base 3 1 rowI (.slice (some ⟨g5,0,none⟩) 4 4) x5
 o6:Owns w base 3 1 rowI (.slice (some ⟨g6,0,none⟩) 4 4) x6
 r1:base≤g1
 r2:g1<g2
 r3:g2<g3
 r4:g3<g4
 r5:g4<g5
 r6:g5<g6
 r7:g6<w.heap.size
 l1:x1.length=3
 l2:x2.length=3
 l3:x3.length=3
 l4:x4.length=4
 l5:x5.length=4
 l6:x6.length=4
def ImplCntP (w:World) (e:Ending) (w':World):Prop :=
 ∃g1 g2 g3 g4 g5 g6,e=.returned (.agg #[.int .i64 0,.slice (some ⟨g1,0,none⟩) 3 3,.slice (some ⟨g2,0,none⟩) 3 3,.slice (some ⟨g3,0,none⟩) 3 3,.slice (some ⟨g4,0,none⟩) 4 4,.slice (some ⟨g5,0,none⟩) 4 4,.slice (some ⟨g6,0,none⟩) 4 4])∧Six w' w.heap.size g1 g2 g3 g4 g5 g6 (List.replicate 3 0) (List.replicate 3 0) (List.replicate 3 0) (List.replicate 4 0) (List.replicate 4 0) (List.replicate 4 0)∧Below w.heap.size w w'
theorem implCntNew_any (w:World):Calls Tryz.prog 61 #[] w (ImplCntP w):=by
 have hbA:=hid (show ∀o:Obj,Below w.heap.size w (w.alloc o) from fun o=>(Below.refl _ _).alloc (Nat.le_refl _) o)
 go_enter Tryz.func61,Tryz.ntmps61
 go_wp2_with fail
 refine(mk3_any _).mono ?_;rintro e w1 ⟨rfl,a1,b1,l1⟩;simp only[World.size_alloc]at a1 b1 l1 ⊢;obtain⟨W0,hW0⟩:∃W0,W0=w.alloc (.cells #[.int .i64 0,.slice none 0 0,.slice none 0 0,.slice none 0 0,.slice none 0 0,.slice none 0 0,.slice none 0 0] 70):=⟨_,rfl⟩
 rw[←hW0]at b1;have A1:=hid a1;have B1:=hid b1;clear a1 b1
 go_wp2_with fail
 refine(mk3_any _).mono ?_;rintro e w2 ⟨rfl,a2,b2,l2⟩;have A2:=hid a2;have B2:=hid (B1.out.trans (b2.mono (by omega)));have C2:=hid b2;clear a2 b2
 go_wp2_with fail
 refine(mk3_any _).mono ?_;rintro e w3 ⟨rfl,a3,b3,l3⟩;have A3:=hid a3;have B3:=hid (B2.out.trans (b3.mono (by omega)));have C3:=hid b3;clear a3 b3
 go_wp2_with fail
 refine(mk4_any _).mono ?_;rintro e w4 ⟨rfl,a4,b4,l4⟩;have A4:=hid a4;have B4:=hid (B3.out.trans (b4.mono (by omega)));have C4:=hid b4;clear a4 b4
 go_wp2_with fail
 refine(mk4_any _).mono ?_;rintro e w5 ⟨rfl,a5,b5,l5⟩;have A5:=hid a5;have B5:=hid (B4.out.trans (b5.mono (by omega)));have C5:=hid b5;clear a5 b5
 go_wp2_with fail
 refine(mk4_any _).mono ?_;rintro e w6 ⟨rfl,a6,b6,l6⟩;have A6:=hid a6;have B6:=hid (B5.out.trans (b6.mono (by omega)));have C6:=hid b6;clear a6 b6;have hz0:W0.heap.size=w.heap.size+1:=by rw[hW0];simp
 have hc:∀o,w6.cell? ⟨w.heap.size,o,none⟩=W0.cell? ⟨w.heap.size,o,none⟩:=fun o=>B6.out.cell (p:=⟨w.heap.size,o,none⟩) (by simp)
 have hf:∀o,w6.frozen? ⟨w.heap.size,o,none⟩=W0.frozen? ⟨w.heap.size,o,none⟩:=fun o=>B6.out.frozen (p:=⟨w.heap.size,o,none⟩) (by simp)
 rw[hW0]at hc hf;have HW0:=hid hW0;have HZ:=hid hz0;clear hW0 hz0
 go_wp2_with fail
 have hBE:=hid (show Below w.heap.size w w6 from(show Below w.heap.size w W0 by rw[HW0.out];exact hbA.out _).trans (B6.out.mono (by omega)));refine bodyPost_ret (v:=.agg #[.int .i64 0,.slice (some ⟨w.heap.size+1,0,none⟩) 3 3,.slice (some ⟨w1.heap.size,0,none⟩) 3 3,.slice (some ⟨w2.heap.size,0,none⟩) 3 3,.slice (some ⟨w3.heap.size,0,none⟩) 4 4,.slice (some ⟨w4.heap.size,0,none⟩) 4 4,.slice (some ⟨w5.heap.size,0,none⟩) 4 4]) (by simp[results,Tryz.results61,go_sem,hc]) rfl ⟨_,_,_,_,_,_,rfl,?_,?_⟩
 ·have D6:Below w6.heap.size w6 w6:=Below.refl _ _;have D5:Below w5.heap.size w5 w6:=C6.out.trans (D6.mono (by omega));have D4:Below w4.heap.size w4 w6:=C5.out.trans (D5.mono (by omega));have D3:Below w3.heap.size w3 w6:=C4.out.trans (D4.mono (by omega));have D2:Below w2.heap.size w2 w6:=C3.out.trans (D3.mono (by omega));have D1:Below w1.heap.size w1 w6:=C2.out.trans (D2.mono (by omega));refine⟨?_,?_,?_,?_,?_,?_,by omega,by omega,by omega,by omega,by omega,by omega,by simp[World.setCell];omega,by simp,by simp,by simp,by simp,by simp,by simp⟩
  ·have X:=(A1.out.below D1).rebase (show w.heap.size≤_ by omega)
   repeat first|with_reducible exact X|with_reducible refine Owns.set' ?_ _ _ _ (fun j hj=>by simp[Value.ownBlock]at hj;omega)
  ·have X:=(A2.out.below D2).rebase (show w.heap.size≤_ by omega)
   repeat first|with_reducible exact X|with_reducible refine Owns.set' ?_ _ _ _ (fun j hj=>by simp[Value.ownBlock]at hj;omega)
  ·have X:=(A3.out.below D3).rebase (show w.heap.size≤_ by omega)
   repeat first|with_reducible exact X|with_reducible refine Owns.set' ?_ _ _ _ (fun j hj=>by simp[Value.ownBlock]at hj;omega)
  ·have X:=(A4.out.below D4).rebase (show w.heap.size≤_ by omega)
   repeat first|with_reducible exact X|with_reducible refine Owns.set' ?_ _ _ _ (fun j hj=>by simp[Value.ownBlock]at hj;omega)
  ·have X:=(A5.out.below D5).rebase (show w.heap.size≤_ by omega)
   repeat first|with_reducible exact X|with_reducible refine Owns.set' ?_ _ _ _ (fun j hj=>by simp[Value.ownBlock]at hj;omega)
  ·have X:=(A6.out.below D6).rebase (show w.heap.size≤_ by omega)
   repeat first|with_reducible exact X|with_reducible refine Owns.set' ?_ _ _ _ (fun j hj=>by simp[Value.ownBlock]at hj;omega)
 ·exact((((((hBE.out.setCell (by simp) _).setCell (by simp) _).setCell (by simp) _).setCell (by simp) _).setCell (by simp) _).setCell (by simp) _).setCell (by simp) _
end Go.Proofs.YtgkdoehkmbhfiaaGreat
