/- The same bus is the same, as the laws hold two side by side. -/
import Derived.Test.YtenjbhbcacocjaaGreatGIa
import Derived.Test.YtenjbhbcacocjaaGreatGDo5
import Derived.Test.YtenjbhbcacocjaaGreatGFl
import Derived.StillTail
import Derived.StillTailTactics
set_option linter.unusedVariables false
set_option linter.unusedSimpArgs false
namespace Go.Proofs.YtenjbhbcacocjaaGreat
open Go.RowKit
def CyBox (w:World) (gs:Nat) (st:Cy):Prop:=∃ (V:Nat → Value) (N:Nat → Nat) (C:Nat → List Value) (D:Nat → List TJV),Bx w gs [V 0,V 1,V 2,V 3,V 4] ∧ Raw w 0 V N C ∧ Cont st [] V N C D ∧ Free V gs ∧ ∀ κ,κ < 20 → ∀ x ∈ D κ,IntsD w (fun b => b < w.heap.size ∧ b ≠ gs) x.2 x.1.rsp.data
theorem CyBox.below {w w':World} {gs:Nat} {st:Cy} (h:CyBox w gs st) (hb:Below w.heap.size w w'):CyBox w' gs st:=by
 obtain ⟨V,N,C,D,h1,h2,h3,h4,h5⟩:=h
 exact ⟨V,N,C,D,h1.below hb h1.lt,h2.below hb,h3,h4,fun κ hκ x hx => ((h5 κ hκ x hx).kept fun b hb2 => hb.block b hb2.1).weak fun b hb2 => ⟨Nat.lt_of_lt_of_le hb2.1 hb.size,hb2.2⟩⟩
theorem CyBox.lt {w:World} {gs:Nat} {st:Cy} (h:CyBox w gs st):gs < w.heap.size:=by obtain ⟨V,N,C,D,h1,_⟩:=h;exact h1.lt
theorem raw_zero {w:World} {base:Nat} {V:Nat → Value} {N:Nat → Nat} {C:Nat → List Value} (h:Raw w base V N C):Raw w 0 V N C:=⟨fun κ hκ => OwnR.rebase (h.own κ hκ) (Nat.zero_le _),h.ap⟩
theorem CyBox.new {w w':World} {base gs:Nat} {st:Cy} {V:Nat → Value} {N:Nat → Nat} {C:Nat → List Value} {D:Nat → List TJV} (h:CyR w base st V N C D) (hb:Below w.heap.size w w') (hg:w.heap.size ≤ gs) (hx:Bx w' gs [V 0,V 1,V 2,V 3,V 4]):CyBox w' gs st :=
 ⟨V,N,C,D,hx,raw_zero (h.raw.below hb),h.con,fun κ hκ e => by have:=(h.raw.lt hκ e).2;omega,fun κ hκ x hx2 => ((h.dat κ hκ x hx2).kept fun b hb2 => hb.block b hb2.2.1).weak fun b hb2 => ⟨Nat.lt_of_lt_of_le hb2.2.1 hb.size,by have:=hb2.2.1;omega⟩⟩
theorem CyBox.set {w w':World} {base gs:Nat} {st:Cy} {V:Nat → Value} {N:Nat → Nat} {C:Nat → List Value} {D:Nat → List TJV} (h:CyR w base st V N C D) (hk:∀ b,b ≠ gs → w'.heap[b]? = w.heap[b]?) (hz:w'.heap.size = w.heap.size) (hg:gs < base) (hx:Bx w' gs [V 0,V 1,V 2,V 3,V 4]):CyBox w' gs st:=by
 have hf:Free V gs:=fun κ hκ e => by have:=(h.raw.lt hκ e).1;omega
 exact ⟨V,N,C,D,hx,raw_zero (h.raw.kept fun b _ hb => hk b fun e => hb (e ▸ hf)),h.con,hf,fun κ hκ x hx2 => ((h.dat κ hκ x hx2).kept fun b hb2 => hk b (by have:=hb2.1;omega)).weak fun b hb2 => ⟨by rw [hz];exact hb2.2.1,by have:=hb2.1;omega⟩⟩
theorem CyBox.view {c:Cfg} (hb:Bus c) {w:World} {gs:Nat} {st:Cy} (h:CyBox w gs st) (hg:Good c st):∃ b0 b1 b2 b3 b4 n0 n1 n2 n3 n4 k0 k1 k2 k3 k4 P Q,Bx w gs [.slice b0 n0 k0,.slice b1 n1 k1,.slice b2 n2 k2,.slice b3 n3 k3,.slice b4 n4 k4] ∧ CyV w w.heap.size (.slice b0 n0 k0) (.slice b1 n1 k1) (.slice b2 n2 k2) (.slice b3 n3 k3) (.slice b4 n4 k4) st P Q:=by
 obtain ⟨V,N,C,D,h1,h2,h3,h4,h5⟩:=h
 obtain ⟨P,Q,hv⟩:=cyV_raw h2 h3 (fun κ hκ x hx => (h5 κ hκ x hx).to fun b hb => hb.1) (smallC_of hb hg) (atm_i64 hg.atm).1 (atm_i64 hg.atm).2
 obtain ⟨b0,b1,b2,b3,b4,n0,n1,n2,n3,n4,k0,k1,k2,k3,k4,e0,e1,e2,e3,e4⟩:=hv.sl
 rw [e0,e1,e2,e3,e4] at hv h1
 exact ⟨b0,b1,b2,b3,b4,n0,n1,n2,n3,n4,k0,k1,k2,k3,k4,P,Q,h1,hv⟩
theorem Bx.put5 {w:World} {g:Nat} {a b c d e:Value} (h:Bx w g [a,b,c,d,e]) (a' b' c' d' e':Value):Bx (((((w.setCell ⟨g,0,none⟩ a').setCell ⟨g,1,none⟩ b').setCell ⟨g,2,none⟩ c').setCell ⟨g,3,none⟩ d').setCell ⟨g,4,none⟩ e') g [a', b', c', d', e']:=by
 have:=((((h.set 0 (by simp) a').set 1 (by simp) b').set 2 (by simp) c').set 3 (by simp) d').set 4 (by simp) e'
 simpa using this
theorem put5_other {w:World} {g:Nat} {a' b' c' d' e':Value} (b:Nat) (hb:b ≠ g):(((((w.setCell ⟨g,0,none⟩ a').setCell ⟨g,1,none⟩ b').setCell ⟨g,2,none⟩ c').setCell ⟨g,3,none⟩ d').setCell ⟨g,4,none⟩ e').heap[b]? = w.heap[b]?:=by
 rw [Below.heap_setCell _ _ _ _ hb,Below.heap_setCell _ _ _ _ hb,Below.heap_setCell _ _ _ _ hb,Below.heap_setCell _ _ _ _ hb,Below.heap_setCell _ _ _ _ hb]
theorem CopP.store {st st':Cy} {w wa:World} {e:Ending} {gs:Nat} (hs:CyBox w gs st) (h:CopP st' w e wa):∃ b0 b1 b2 b3 b4 n0 n1 n2 n3 n4 k0 k1 k2 k3 k4,e = .returned (.agg #[.slice b0 n0 k0,.slice b1 n1 k1,.slice b2 n2 k2,.slice b3 n3 k3,.slice b4 n4 k4]) ∧ (∃ a b c d f,Bx wa gs [a,b,c,d,f]) ∧ Below w.heap.size w wa ∧
  CyBox (((((wa.setCell ⟨gs,0,none⟩ (.slice b0 n0 k0)).setCell ⟨gs,1,none⟩ (.slice b1 n1 k1)).setCell ⟨gs,2,none⟩ (.slice b2 n2 k2)).setCell ⟨gs,3,none⟩ (.slice b3 n3 k3)).setCell ⟨gs,4,none⟩ (.slice b4 n4 k4)) gs st':=by
 obtain ⟨V,N,C,D,b0,b1,b2,b3,b4,n0,n1,n2,n3,n4,k0,k1,k2,k3,k4,⟨e0,e1,e2,e3,e4⟩,he,hr,hb⟩:=h.sl
 obtain ⟨V0,N0,C0,D0,hx,_⟩:=hs
 have hx2:=hx.below hb hx.lt
 refine ⟨b0,b1,b2,b3,b4,n0,n1,n2,n3,n4,k0,k1,k2,k3,k4,he,⟨_,_,_,_,_,hx2⟩,hb,CyBox.set hr put5_other (by simp) hx.lt ?_⟩
 rw [e0,e1,e2,e3,e4]
 exact hx2.put5 _ _ _ _ _
theorem CyBox.rows {c:Cfg} (hb:Bus c) {w:World} {gs:Nat} {st:Cy} (h:CyBox w gs st) (hg:Good c st):∃ (b0 b1 b4:Option Addr) (n0 n1 k0 k1 k4 pg po pc tg tp tc:Nat) (P:List PS) (Q:List SS),Bx w gs [.slice b0 n0 k0,.slice b1 n1 k1,.slice (some ⟨pg,po,none⟩) 3 pc,.slice (some ⟨tg,tp,none⟩) 4 tc,.slice b4 st.told.length k4] ∧
  CyV w w.heap.size (.slice b0 n0 k0) (.slice b1 n1 k1) (.slice (some ⟨pg,po,none⟩) 3 pc) (.slice (some ⟨tg,tp,none⟩) 4 tc) (.slice b4 st.told.length k4) st P Q ∧
  (∀ k,k < 3 → ∀ j,j < 4 → w.cell? ⟨pg,po + k * 4 + j,none⟩ = (rowPS (P.getD k default))[j]?) ∧ (∀ k,k < 4 → ∀ j,j < 3 → w.cell? ⟨tg,tp + k * 3 + j,none⟩ = (rowSS (Q.getD k default))[j]?) ∧
  (∀ k,k < 3 → ∃ qa qc oa oc,P.getD k default = ⟨(st.ports k).next,(qa,(st.ports k).queue.length,qc),(oa,(st.ports k).out.length,oc),(st.ports k).last⟩) ∧
  (∀ k,k < 4 → ∃ qa qc oa oc,Q.getD k default = ⟨(qa,(st.slaves k).pipe.length,qc),(oa,(st.slaves k).done.length,oc),(st.slaves k).last⟩):=by
 obtain ⟨b0,b1,b2,b3,b4,n0,n1,n2,n3,n4,k0,k1,k2,k3,k4,P,Q,hx,hv⟩:=h.view hb hg
 obtain ⟨pg,po,pc,e2,_,_,_,hpc⟩:=hv.ps.at (by rw [hv.lp];omega)
 obtain ⟨tg,tp,tc,e3,_,_,_,htc⟩:=hv.ss.at (by rw [hv.lq];omega)
 rw [hv.lp] at e2 hpc
 rw [hv.lq] at e3 htc
 have e4:=hv.told.len
 rw [e2,e3,e4] at hx hv
 refine ⟨b0,b1,b4,n0,n1,k0,k1,k4,pg,po,pc,tg,tp,tc,P,Q,hx,hv,fun k hk j hj => hpc k default hk j hj,fun k hk j hj => htc k default hk j hj,fun k hk => ?_,fun k hk => ?_⟩
 ·have h1:=hv.pn k hk
  have h2:=hv.q k hk
  have h3:=hv.o k hk
  obtain ⟨x,hx⟩:∃ x,x = P.getD k default:=⟨_,rfl⟩
  rw [← hx] at h1 h2 h3 ⊢
  obtain ⟨nx,⟨qa,qn,qc⟩,⟨oa,on,oc⟩,la⟩:=x
  simp only [sl] at h1 h2 h3
  rw [← h1.1,← h1.2,← h2.len,← h3.len]
  exact ⟨_,_,_,_,rfl⟩
 ·have h1:=hv.sn k hk
  have h2:=hv.p k hk
  have h3:=hv.d k hk
  obtain ⟨x,hx⟩:∃ x,x = Q.getD k default:=⟨_,rfl⟩
  rw [← hx] at h1 h2 h3 ⊢
  obtain ⟨⟨qa,qn,qc⟩,⟨oa,on,oc⟩,la⟩:=x
  simp only [sl] at h1 h2 h3
  rw [← h1,← h2.len,← h3.len]
  exact ⟨_,_,_,_,rfl⟩
theorem RepI.ins {w0 W:World} {g N:Nat} {ra ta sa:Option Addr} {inp:Inp} (h:RepI w0 g N [.slice ra 3 3,.slice ta 4 4,.slice sa 3 3] N W) (hN:N ≤ 1000) (hg:g < W.heap.size) (hi:InV W W.heap.size (.agg #[.slice ra 3 3,.slice ta 4 4,.slice sa 3 3]) inp):Ins W W.heap.size (.slice (some ⟨g,0,none⟩) N N) (List.replicate N inp):=by
 refine ⟨List.replicate N (.agg #[.slice ra 3 3,.slice ta 4 4,.slice sa 3 3]),?_,by simp,fun k hk d => ?_⟩
 ·have:=h.arr hN hg
  rw [List.map_replicate]
  exact this
 ·rw [List.length_replicate] at hk
  have e1:(List.replicate N (Value.agg #[.slice ra 3 3,.slice ta 4 4,.slice sa 3 3])).getD k undef = .agg #[.slice ra 3 3,.slice ta 4 4,.slice sa 3 3]:=by simp [List.getD,hk]
  have e2:(List.replicate N inp).getD k d = inp:=by simp [List.getD,hk]
  rw [e1,e2];exact hi
def flC (w w0:World) (g3 n:Nat) (st2:Cy) (us:List Value) (W:World):Prop:=match us with
 | [] => Below w0.heap.size w0 W
 | [v0] => Below w0.heap.size w0 W ∧ ∃ ra ta sa,v0 = .agg #[.slice ra 3 3,.slice ta 4 4,.slice sa 3 3] ∧ InV W W.heap.size (.agg #[.slice ra 3 3,.slice ta 4 4,.slice sa 3 3]) inAll
 | [_,v1] => Below w0.heap.size w0 W ∧ ∃ b ra ta sa,v1 = .slice (some ⟨b,0,none⟩) 1 1 ∧ b < W.heap.size ∧ W.cell? ⟨b,0,none⟩ = some (.slice ra 3 3) ∧ W.cell? ⟨b,1,none⟩ = some (.slice ta 4 4) ∧ W.cell? ⟨b,2,none⟩ = some (.slice sa 3 3) ∧ InV W W.heap.size (.agg #[.slice ra 3 3,.slice ta 4 4,.slice sa 3 3]) inAll
 | [_,_,v2] => Below w0.heap.size w0 W ∧ ∃ g,v2 = .slice (some ⟨g,0,none⟩) n n ∧ Ins W W.heap.size (.slice (some ⟨g,0,none⟩) n n) (List.replicate n inAll)
 | [_,_,_,v3] => Below w0.heap.size w0 W ∧ ∃ y0 y1 y2 y3 y4 m0 m1 m2 m3 m4 j0 j1 j2 j3 j4 V N C D,v3 = .agg #[.slice y0 m0 j0,.slice y1 m1 j1,.slice y2 m2 j2,.slice y3 m3 j3,.slice y4 m4 j4] ∧ (V 0 = .slice y0 m0 j0 ∧ V 1 = .slice y1 m1 j1 ∧ V 2 = .slice y2 m2 j2 ∧ V 3 = .slice y3 m3 j3 ∧ V 4 = .slice y4 m4 j4) ∧ CyR W w0.heap.size st2 V N C D
 | _ => ∃ y0 y1 y2 y3 y4 m0 m1 m2 m3 m4 j0 j1 j2 j3 j4 V N C D,(V 0 = .slice y0 m0 j0 ∧ V 1 = .slice y1 m1 j1 ∧ V 2 = .slice y2 m2 j2 ∧ V 3 = .slice y3 m3 j3 ∧ V 4 = .slice y4 m4 j4) ∧ CyR W w0.heap.size st2 V N C D ∧ Bx W g3 [.slice y0 m0 j0,.slice y1 m1 j1,.slice y2 m2 j2,.slice y3 m3 j3,.slice y4 m4 j4] ∧ Below w.heap.size w W
theorem flC_below {w w0 W:World} {g3 n:Nat} {st2:Cy} {us:List Value} (h:flC w w0 g3 n st2 us W) (hl:us.length ≤ 4):Below w0.heap.size w0 W:=by
 match us,h,hl with
 | [],h,_ => exact h
 | [_],h,_ => exact h.1
 | [_,_],h,_ => exact h.1
 | [_,_,_],h,_ => exact h.1
 | [_,_,_,_],h,_ => exact h.1
 | _ :: _ :: _ :: _ :: _ :: _,_,hl => exact absurd hl (by simp)
set_option maxRecDepth 8000 in
set_option maxHeartbeats 8000000 in
theorem cycFlow_any {c:Cfg} (hbus:Bus c) {w:World} {B:Nat} {u:Value} (hc:BusV w B u c) {a0 a1 a2 a3 a4:Value} {st:Cy} {P:List PS} {Q:List SS} (h:CyV w B a0 a1 a2 a3 a4 st P Q) (hB:B ≤ w.heap.size) (hg:Good c st) {n:Nat} (hn:n ≤ 300) :
    Calls Tryz.prog 24 #[u,.agg #[a0,a1,a2,a3,a4],.int .i64 n] w (CopP (flow c n st) w):=by
  obtain ⟨mv,lb,lo,lc,pb,po,pc,QQ,K,rfl,⟨ma,mn,mk,rfl⟩,_,_,_,_,_,_⟩:=hc.opened hbus
  obtain ⟨z0,z1,z2,z3,z4,n0,n1,n2,n3,n4,k0,k1,k2,k3,k4,rfl,rfl,rfl,rfl,rfl⟩:=h.sl
  have HRN:=hid (fun (W:World) (hW:Below w.heap.size w W) (v:Value) (hi:Ins W W.heap.size v (List.replicate n inAll)) => cycRun_any hbus ((hc.below (hW.mono hB)).mono (Nat.le_trans hB hW.size)) ((h.below (hW.mono hB)).mono (Nat.le_trans hB hW.size)) hi (Nat.le_refl _) hg (by rw [List.length_replicate];exact hn))
  obtain ⟨w0,hw0⟩:∃ W,W = ((w.alloc (.cells #[.slice ma mn mk,.slice (some ⟨lb,lo,none⟩) 4 lc,.slice (some ⟨pb,po,none⟩) 3 pc] 27)).alloc (.cells #[.slice z0 n0 k0,.slice z1 n1 k1,.slice z2 n2 k2,.slice z3 n3 k3,.slice z4 n4 k4] 39)).alloc (.cells #[.slice none 0 0,.slice none 0 0,.slice none 0 0,.slice none 0 0,.slice none 0 0] 39):=⟨_,rfl⟩
  have hb0:Below w.heap.size w w0:=by rw [hw0];exact (((Below.refl _ _).alloc (Nat.le_refl _) _).alloc (by simp) _).alloc (by simp <;> omega) _
  obtain ⟨g1,hg1⟩:∃ g,g = w.heap.size + 1:=⟨_,rfl⟩
  obtain ⟨g3,hg3⟩:∃ g,g = w.heap.size + 1 + 1:=⟨_,rfl⟩
  have X0:=hid (show Bx w0 w.heap.size [.slice ma mn mk,.slice (some ⟨lb,lo,none⟩) 4 lc,.slice (some ⟨pb,po,none⟩) 3 pc] by
    rw [hw0];exact ((Bx.new w #[.slice ma mn mk,.slice (some ⟨lb,lo,none⟩) 4 lc,.slice (some ⟨pb,po,none⟩) 3 pc] 27 (by simp)).below ((Below.refl _ _).alloc (Nat.le_refl _) _) (by simp)).below ((Below.refl _ _).alloc (Nat.le_refl _) _) (by simp <;> omega))
  have X1:=hid (show Bx w0 g1 [.slice z0 n0 k0,.slice z1 n1 k1,.slice z2 n2 k2,.slice z3 n3 k3,.slice z4 n4 k4] by
    rw [hw0,hg1];have:=(Bx.new (w.alloc (.cells #[.slice ma mn mk,.slice (some ⟨lb,lo,none⟩) 4 lc,.slice (some ⟨pb,po,none⟩) 3 pc] 27)) #[.slice z0 n0 k0,.slice z1 n1 k1,.slice z2 n2 k2,.slice z3 n3 k3,.slice z4 n4 k4] 39 (by simp)).below ((Below.refl _ _).alloc (Nat.le_refl _) (.cells #[.slice none 0 0,.slice none 0 0,.slice none 0 0,.slice none 0 0,.slice none 0 0] 39)) (by simp);simpa using this)
  have X3:=hid (show Bx w0 g3 [vnil,vnil,vnil,vnil,vnil] by
    rw [hw0,hg3];have:=Bx.new ((w.alloc (.cells #[.slice ma mn mk,.slice (some ⟨lb,lo,none⟩) 4 lc,.slice (some ⟨pb,po,none⟩) 3 pc] 27)).alloc (.cells #[.slice z0 n0 k0,.slice z1 n1 k1,.slice z2 n2 k2,.slice z3 n3 k3,.slice z4 n4 k4] 39)) #[vnil,vnil,vnil,vnil,vnil] 39 (by simp);simpa using this)
  have HB0:=hid hb0
  have h300:decide ((300:Int) < (n:Int)) = false:=by simp;omega
  have hmax:(if 0 < n then (n:Int) else 0) = (n:Int):=by split <;> omega
  obtain ⟨b0,b1,b2⟩:=X0.out.three.1
  obtain ⟨t0,t1,t2,t3,t4⟩:=X1.out.five.1
  clear hc h hb0
  go_enter Tryz.func24,Tryz.ntmps24
  go_upto_region 1 with fail
  rw [← hw0,← hg3,← hg1]
  have HG1:=hid hg1;have HG3:=hid hg3
  clear hw0 hg1 hg3
  go_upto_region 3 with fail
  obtain ⟨st2,hst2⟩:∃ s,s = flow c n st:=⟨_,rfl⟩
  have HST:=hid hst2
  obtain ⟨CC,hCC⟩:∃ CC:List Value → World → Prop,CC = flC w w0 g3 n st2:=⟨_,rfl⟩
  have hC0:CC [] w0.drew:=by rw [hCC];exact (Below.refl _ _).drew
  have hTC:∀ us W,CC us W → us.length ≤ 4 → Below w0.heap.size w0 W:=by rw [hCC];exact fun us W h hl => flC_below h hl
  have HCC:=hid hCC
  have hne:Nonempty (Ph CC):=⟨⟨([],w0.drew),hC0⟩⟩
  have hne4:Nonempty (Ph (lims CC (some 4))):=⟨⟨([],w0.drew),hC0,by simp⟩⟩
  have pc:∀ {p:Addr} {v:Value},w0.cell? p = some v → ∀ x:Ph (lims CC (some 4)),x.1.2.cell? p = some v:=fun hc x => ((hTC _ _ x.2.1 x.2.2).cell (World.block_lt_of_cell? w0 _ hc)).trans hc
  replace t0:=pc t0;replace t1:=pc t1;replace t2:=pc t2;replace t3:=pc t3;replace t4:=pc t4;replace b0:=pc b0;replace b1:=pc b1;replace b2:=pc b2
  clear hCC pc hst2 hTC
  refine wp_region_flow CC [(2,false),(3,false),(6,false),(7,false),(8,false)] [(0,4),(1,4)] (by kernel_rfl) (by kernel_rfl) hC0 ?_
  iterate 2
    refine wq1_b ⟨rfl,rfl⟩ (fun KA hKA => ?_)
    go_simp
    refine hKA _ ?_
    clear hKA KA
  iterate 2 refine wq1_v rfl ?_
  repeat (
    (with_reducible refine wq1_q ⟨rfl,rfl⟩ (fun K hK => ?_))
    go_simp
    first
      | ((with_reducible refine hK _ ?_);clear hK K)
      | ((with_reducible refine of_ite_neg (by simp [undef]) (hK _ ?_));clear hK K)
      | (apply Exists.intro
         (with_reducible refine ⟨fun _ => ?_,hK _ ?_⟩)
         (fail)
         clear hK K))
  iterate 3 refine wq1_v rfl ?_
  refine wq1_nil ?_
  clear t0 t1 t2 t3 t4 b0 b1 b2 hne hne4
  refine wq2_v _ rfl rfl ?_ ?_
  · intro W hW KA hKA
    rw [HCC.out] at hW hKA
    go_simp
    (with_reducible refine (implInAll_any W).mono ?_)
    rintro e w1 ⟨ra,ta,sa,rfl,hi,hb⟩
    go_simp
    exact hKA _ _ _ ⟨Below.trans (show Below w0.heap.size w0 W from hW) (hb.mono (Below.size (show Below w0.heap.size w0 W from hW))),ra,ta,sa,rfl,hi⟩ rfl
  intro v0 KA hKA
  go_simp
  refine hKA _ ?_
  clear hKA KA
  refine wq2_v _ rfl rfl ?_ ?_
  · intro W hW KA hKA
    rw [HCC.out] at hW hKA
    obtain ⟨hb,ra,ta,sa,rfl,hi⟩:=hW
    go_simp
    exact hKA _ _ _ ⟨hb.alloc hb.size _,W.heap.size,ra,ta,sa,rfl,by simp,by simp [go_sem],by simp [go_sem],by simp [go_sem],(hi.below ((Below.refl _ _).alloc (Nat.le_refl _) _)).mono (by simp)⟩ rfl
  intro v1 KA hKA
  go_simp
  refine hKA _ ?_
  clear hKA KA
  refine wq2_v _ rfl rfl ?_ ?_
  · intro W hW KA hKA
    rw [HCC.out] at hW hKA
    obtain ⟨hb,b,ra,ta,sa,rfl,hbl,d0,d1,d2,hi⟩:=hW
    go_simp
    (with_reducible refine (repeatIn_any n hn b _ _ _ _ _ _ _ _ _ W hbl d0 d1 d2).mono ?_)
    rintro e w1 ⟨g,rfl,hr,hge,hgl⟩
    go_simp
    exact hKA _ _ _ ⟨hb.trans (hr.bel.mono hb.size),g,rfl,hr.ins (by omega) hgl ((hi.below hr.bel).mono hr.bel.size)⟩ rfl
  intro v2 KA hKA
  go_simp
  refine hKA _ ?_
  clear hKA KA
  refine wq2_v _ rfl rfl ?_ ?_
  · intro W hW KA hKA
    rw [HCC.out] at hW hKA
    obtain ⟨hb,g,rfl,hi⟩:=hW
    go_simp
    (with_reducible refine (HRN.out W (HB0.out.trans (hb.mono HB0.out.size)) _ hi).mono ?_)
    rintro e w1 hcop
    obtain ⟨V,N,C,D,y0,y1,y2,y3,y4,m0,m1,m2,m3,m4,j0,j1,j2,j3,j4,hE,rfl,hr,hb1⟩:=hcop.sl
    go_simp
    exact hKA _ _ _ ⟨hb.trans (hb1.mono hb.size),y0,y1,y2,y3,y4,m0,m1,m2,m3,m4,j0,j1,j2,j3,j4,V,N,C,D,rfl,hE,by rw [HST.out];exact hr.rebase hb.size⟩ rfl
  intro v3 KA hKA
  go_simp
  refine hKA _ ?_
  clear hKA KA
  refine wq2_v _ rfl rfl ?_ ?_
  · intro W hW KA hKA
    rw [HCC.out] at hW hKA
    obtain ⟨hb,y0,y1,y2,y3,y4,m0,m1,m2,m3,m4,j0,j1,j2,j3,j4,V,N,C,D,rfl,hE,hr⟩:=hW
    have X:=X3.out.below hb X3.out.lt
    obtain ⟨⟨q0,q1,q2,q3,q4⟩,f0,f1,f2,f3,f4⟩:=X.five
    have h3:=X3.out.lt
    have h5:w.heap.size ≤ g3:=by have:=HG3.out;omega
    go_simp
    exact hKA undef _ _ ⟨y0,y1,y2,y3,y4,m0,m1,m2,m3,m4,j0,j1,j2,j3,j4,V,N,C,D,hE,hr.kept (fun b h1 h2 => (touchC g3 _ _ _ _ _ _).block b h2 (by omega)) (touchC g3 _ _ _ _ _ _).size,X.put5 _ _ _ _ _,
      ((((((HB0.out.trans (hb.mono HB0.out.size)).setCell (p:=⟨g3,_,none⟩) h5 _).setCell (p:=⟨g3,_,none⟩) h5 _).setCell (p:=⟨g3,_,none⟩) h5 _).setCell (p:=⟨g3,_,none⟩) h5 _).setCell (p:=⟨g3,_,none⟩) h5 _)⟩ rfl
  intro v4 KA hKA
  go_simp
  refine hKA _ ?_
  clear hKA KA
  refine wq2_nil ?_
  intro wd hwd
  rw [HCC.out] at hwd
  obtain ⟨y0,y1,y2,y3,y4,m0,m1,m2,m3,m4,j0,j1,j2,j3,j4,V,N,C,D,hE,hr,hx,hbd⟩:=hwd
  have HR:=hid hr;have HE:=hid hE;have HBD:=hid hbd
  obtain ⟨q0,q1,q2,q3,q4⟩:=hx.five.1
  clear hr hE hbd hx hC0
  go_wp2_with fail
  refine bodyPost_ret (results_c1 Tryz.results24 _ _ ⟨g3,0,none⟩ (.agg #[.slice y0 m0 j0,.slice y1 m1 j1,.slice y2 m2 j2,.slice y3 m3 j3,.slice y4 m4 j4]) rfl (loadVar_cyc _ _ _ _ _ _ _ q0 q1 q2 q3 q4)) rfl ?_
  rw [← HST.out]
  exact ⟨V,N,C,D,by rw [HE.out.1,HE.out.2.1,HE.out.2.2.1,HE.out.2.2.2.1,HE.out.2.2.2.2],HR.out.rebase HB0.out.size,HBD.out⟩
theorem JobsV.cells {w:World} {B:Nat} {v:Value} {js:List TJ} (h:JobsV w B v js) :
  ∃ ao cap,v = .slice ao js.length cap ∧ js.length ≤ cap ∧ cap ≤ 9223372036854775807 ∧ js.length ≤ 140737488351232 ∧
   (js.length ≠ 0 → ∃ b off,ao = some ⟨b,off,none⟩ ∧ b < B ∧ ∀ t,t < js.length → ∃ da dn dc,w.cell? ⟨b,off + t * 5,none⟩ = some (.int .i64 ((js.getD t default).who:Nat)) ∧ w.cell? ⟨b,off + t * 5 + 1,none⟩ = some (.int .i64 ((js.getD t default).n:Nat)) ∧ w.cell? ⟨b,off + t * 5 + 2,none⟩ = some (.int .i64 (js.getD t default).rsp.id) ∧ w.cell? ⟨b,off + t * 5 + 3,none⟩ = some (.int .i64 (js.getD t default).rsp.code) ∧ w.cell? ⟨b,off + t * 5 + 4,none⟩ = some (.slice da dn dc) ∧ Ints w B (.slice da dn dc) (js.getD t default).rsp.data):=by
 obtain ⟨D,⟨ao,cap,hv,h1,h2,h0,h9,h3⟩,rfl,hd⟩:=h
 simp only [List.length_map] at hv h1 h0 h3 ⊢
 refine ⟨ao,cap,hv,h1,h2,h0,fun hn => ?_⟩
 obtain ⟨b,off,ha,hlt,hc⟩:=h3 hn
 refine ⟨b,off,ha,hlt,fun t ht => ?_⟩
 have e:(D.map tjRow).getD t [] = tjRow (D[t]):=by simp [List.getD,ht]
 have e2:(D.map (·.1)).getD t default = (D[t]).1:=by simp [List.getD,ht]
 have c0:=hc t ht 0 (by omega);have c1:=hc t ht 1 (by omega);have c2:=hc t ht 2 (by omega);have c3:=hc t ht 3 (by omega);have c4:=hc t ht 4 (by omega)
 have hi:=hd _ (List.getElem_mem ht)
 obtain ⟨da,dc,he,_⟩:=hi.opened
 rw [e] at c0 c1 c2 c3 c4
 rw [e2]
 rw [he] at hi
 exact ⟨da,_,dc,by simpa [tjRow] using c0,by simpa [tjRow] using c1,by simpa [tjRow] using c2,by simpa [tjRow] using c3,by simpa [tjRow,he] using c4,hi⟩
set_option maxRecDepth 4000 in
set_option maxHeartbeats 4000000 in
theorem crOuts_same (xs:List Jb) (v u:Value) (B:Nat) (w:World) (hv:Jbs w B v xs) (hu:Jbs w B u xs) :
  Calls Tryz.prog 63 #[v,u] w fun e w' => e = .returned (.bool true) ∧ Drew w w':=by
 obtain ⟨ao,cap,rfl,hlc,hcap,hln,hni,hr⟩:=hv.opened
 obtain ⟨bo,cbp,rfl,hlc2,hcap2,hln2,hni2,hr2⟩:=hu.opened
 clear hv hu
 obtain ⟨wo,hwo⟩:∃ W,W = w:=⟨_,rfl⟩
 rw [← hwo] at hr hr2 ⊢
 clear hwo
 go_enter Tryz.func63,Tryz.ntmps63
 go_wp2_with fail
 go_loopw [5] (fun i wr => ∃ k:Nat,k ≤ xs.length ∧ i = .int .i64 k ∧ ∃ nd,wr = wo.drewN nd) (fun i _ => xs.length - (intOf i).toNat)
 case atStart => exact ⟨0,Nat.zero_le _,rfl,0,rfl⟩
 case round =>
  obtain ⟨k,hk,rfl,nd,hnd⟩:=hrel
  have kd:∀ {p:Addr} {v:Value},wo.cell? p = some v → wr.cell? p = some v:=fun h => by rw [hnd];exact h
  have HND:=hid hnd
  by_cases hlt:k < xs.length
  ·obtain ⟨b,off,rfl,hb,hc⟩:=hr (by omega)
   obtain ⟨b2,off2,rfl,hb2,hc2⟩:=hr2 (by omega)
   obtain ⟨c0,c1,c2⟩:=hc k hlt
   obtain ⟨e0,e1,e2⟩:=hc2 k hlt
   obtain ⟨x,hx⟩:∃ x,x = xs.getD k default:=⟨_,rfl⟩
   rw [← hx] at c0 c1 c2 e0 e1 e2
   replace c0:=kd c0;replace c1:=kd c1;replace c2:=kd c2;replace e0:=kd e0;replace e1:=kd e1;replace e2:=kd e2
   clear hc hr hc2 hr2 hx kd hnd
   go_upto_region 6 with fail
   go_quiet (fail)
   go_wp2_with fail
   go_roundw
   case rel => exact ⟨k + 1,by omega,by go_num,by rw [HND.out];first | exact ⟨_,rfl⟩ | exact ⟨nd + 1,rfl⟩ | exact ⟨_,World.drewN_drewN ..⟩ | exact ⟨_,by simp⟩⟩
   case measure => simp [intOf];omega
  ·clear hnd kd
   go_wp2_with fail
   go_ret
   exact ⟨rfl,by rw [HND.out];exact ⟨_,rfl⟩⟩
theorem slice_len {w:World} {B:Nat} {a:Option Addr} {n k:Nat} {xs:List Int} (h:Ints w B (.slice a n k) xs):n = xs.length:=by
 obtain ⟨_,_,e,_⟩:=h.opened
 simp only [Value.slice.injEq] at e
 exact e.2.1
theorem le_drewQ {B:Nat} {w:World} (h:B ≤ w.heap.size):B ≤ w.drew.heap.size:=h
theorem five_kept {w w':World} {b b2 o o2:Nat} {v0 v1 v2 v3 v4 u0 u1 u2 u3 u4:Option Value} (h:Below w.heap.size w.drew w') (hb:b < w.heap.size) (hb2:b2 < w.heap.size) (c0:w.cell? ⟨b,o,none⟩ = v0) (c1:w.cell? ⟨b,o + 1,none⟩ = v1) (c2:w.cell? ⟨b,o + 2,none⟩ = v2) (c3:w.cell? ⟨b,o + 3,none⟩ = v3) (c4:w.cell? ⟨b,o + 4,none⟩ = v4) (e0:w.cell? ⟨b2,o2,none⟩ = u0) (e1:w.cell? ⟨b2,o2 + 1,none⟩ = u1) (e2:w.cell? ⟨b2,o2 + 2,none⟩ = u2) (e3:w.cell? ⟨b2,o2 + 3,none⟩ = u3) (e4:w.cell? ⟨b2,o2 + 4,none⟩ = u4) :
  w'.cell? ⟨b,o,none⟩ = v0 ∧ w'.cell? ⟨b,o + 1,none⟩ = v1 ∧ w'.cell? ⟨b,o + 2,none⟩ = v2 ∧ w'.cell? ⟨b,o + 3,none⟩ = v3 ∧ w'.cell? ⟨b,o + 4,none⟩ = v4 ∧ w'.cell? ⟨b2,o2,none⟩ = u0 ∧ w'.cell? ⟨b2,o2 + 1,none⟩ = u1 ∧ w'.cell? ⟨b2,o2 + 2,none⟩ = u2 ∧ w'.cell? ⟨b2,o2 + 3,none⟩ = u3 ∧ w'.cell? ⟨b2,o2 + 4,none⟩ = u4 :=
 ⟨(h.cell (p:=⟨b,_,none⟩) hb).trans c0,(h.cell (p:=⟨b,_,none⟩) hb).trans c1,(h.cell (p:=⟨b,_,none⟩) hb).trans c2,(h.cell (p:=⟨b,_,none⟩) hb).trans c3,(h.cell (p:=⟨b,_,none⟩) hb).trans c4,(h.cell (p:=⟨b2,_,none⟩) hb2).trans e0,(h.cell (p:=⟨b2,_,none⟩) hb2).trans e1,(h.cell (p:=⟨b2,_,none⟩) hb2).trans e2,(h.cell (p:=⟨b2,_,none⟩) hb2).trans e3,(h.cell (p:=⟨b2,_,none⟩) hb2).trans e4⟩
set_option maxRecDepth 4000 in
set_option maxHeartbeats 4000000 in
theorem crJobs_same (xs:List TJ) (v u:Value) (B:Nat) (w:World) (hv:JobsV w B v xs) (hu:JobsV w B u xs) (hB:B ≤ w.heap.size) :
  Calls Tryz.prog 18 #[v,u] w fun e w' => e = .returned (.bool true) ∧ Below w.heap.size w w':=by
 obtain ⟨ao,cap,rfl,hlc,hcap,hln,hr⟩:=hv.cells
 obtain ⟨bo,cbp,rfl,hlc2,hcap2,hln2,hr2⟩:=hu.cells
 clear hv hu
 go_enter Tryz.func18,Tryz.ntmps18
 go_wp2_with fail
 go_loopw [5] (fun i wr => ∃ k:Nat,k ≤ xs.length ∧ i = .int .i64 k ∧ Below w.heap.size w wr) (fun i _ => xs.length - (intOf i).toNat)
 case atStart => exact ⟨0,Nat.zero_le _,rfl,by first | exact Below.refl _ _ | exact (Below.refl _ _).drew⟩
 case round =>
  obtain ⟨k,hk,rfl,hbl⟩:=hrel
  have hsz:=hbl.size
  by_cases hlt:k < xs.length
  ·obtain ⟨b,off,rfl,hb,hc⟩:=hr (by omega)
   obtain ⟨b2,off2,rfl,hb2,hc2⟩:=hr2 (by omega)
   obtain ⟨da,dn,dc,c0,c1,c2,c3,c4,hd⟩:=hc k hlt
   obtain ⟨ea,en,ec,e0,e1,e2,e3,e4,he⟩:=hc2 k hlt
   obtain ⟨x,hx⟩:∃ x,x = xs.getD k default:=⟨_,rfl⟩
   rw [← hx] at c0 c1 c2 c3 e0 e1 e2 e3 hd he
   obtain rfl:=slice_len hd
   obtain rfl:=slice_len he
   rw [← hbl.cell (p:=⟨b,_,none⟩) (Nat.lt_of_lt_of_le hb hB)] at c0 c1 c2 c3 c4
   rw [← hbl.cell (p:=⟨b2,_,none⟩) (Nat.lt_of_lt_of_le hb2 hB)] at e0 e1 e2 e3 e4
   have HD:=hid (hd.below (hbl.mono hB));have HE:=hid (he.below (hbl.mono hB))
   have HBL:=hid hbl.drew
   obtain ⟨wh,hwh⟩:∃ n,n = x.who:=⟨_,rfl⟩
   obtain ⟨nn,hnn⟩:∃ n,n = x.n:=⟨_,rfl⟩
   obtain ⟨rs,hrs⟩:∃ n,n = x.rsp:=⟨_,rfl⟩
   rw [← hwh] at c0 e0;rw [← hnn] at c1 e1;rw [← hrs] at c2 c3 c4 e2 e3 e4 HD HE
   have q1:((wh:Int) != (wh:Int)) = false:=by simp
   have q2:((nn:Int) != (nn:Int)) = false:=by simp
   clear hc hr hc2 hr2 hx hd he hbl hwh hnn hrs
   go_wp2_with fail
   go_region_held3 (fun w' => w'.cell? ⟨b,off + k * 5,none⟩ = some (.int .i64 wh) ∧ w'.cell? ⟨b,off + k * 5 + 1,none⟩ = some (.int .i64 nn) ∧ w'.cell? ⟨b,off + k * 5 + 2,none⟩ = some (.int .i64 rs.id) ∧ w'.cell? ⟨b,off + k * 5 + 3,none⟩ = some (.int .i64 rs.code) ∧ w'.cell? ⟨b,off + k * 5 + 4,none⟩ = some (.slice da rs.data.length dc) ∧ w'.cell? ⟨b2,off2 + k * 5,none⟩ = some (.int .i64 wh) ∧ w'.cell? ⟨b2,off2 + k * 5 + 1,none⟩ = some (.int .i64 nn) ∧ w'.cell? ⟨b2,off2 + k * 5 + 2,none⟩ = some (.int .i64 rs.id) ∧ w'.cell? ⟨b2,off2 + k * 5 + 3,none⟩ = some (.int .i64 rs.code) ∧ w'.cell? ⟨b2,off2 + k * 5 + 4,none⟩ = some (.slice ea rs.data.length ec))
    (first | exact s6 | go_keep)
    (first
     | (go_at_call 41;(with_reducible refine (crRsp_same rs _ _ _ _ B _ (HD.out.below (Below.refl _ _).drew) (HE.out.below (Below.refl _ _).drew) (le_drewQ (Nat.le_trans hB hsz))).mono ?_);rintro e w2 ⟨rfl,hb3⟩;have s6:=five_kept hb3 (Nat.lt_of_lt_of_le hb (Nat.le_trans hB hsz)) (Nat.lt_of_lt_of_le hb2 (Nat.le_trans hB hsz)) c0 c1 c2 c3 c4 e0 e1 e2 e3 e4))
   go_wp2_with fail
   go_roundw
   case rel => exact ⟨k + 1,by omega,by go_num,HBL.out.trans (hb3.mono (by simpa using hsz))⟩
   case measure => simp [intOf];omega
  ·go_wp2_with fail
   go_ret
   exact ⟨rfl,hbl⟩
end Go.Proofs.YtenjbhbcacocjaaGreat
