/- TlmState.copyOf: what the copy reads as (printed by wip/gen_tc.py). -/
import Derived.Test.YtenjbhbcacocjaaGreatGMx
import Derived.Test.YtenjbhbcacocjaaGreatGDr3
import Derived.Test.YtenjbhbcacocjaaGreatGMap1
import Derived.Test.YtenjbhbcacocjaaGreatGY1
import Derived.Test.YtenjbhbcacocjaaGreatGAk
set_option linter.unusedVariables false
set_option linter.unusedSimpArgs false
namespace Go.Proofs.YtenjbhbcacocjaaGreat
open Go.RowKit
attribute [local go_sem ↓] Go.wp_at_zero Go.wp_at_succ
theorem Bx.six {W:World} {H:Nat} {a b c d e f:Value} (h:Bx W H [a,b,c,d,e,f]):(W.cell? ⟨H,0,none⟩ = some a ∧ W.cell? ⟨H,1,none⟩ = some b ∧ W.cell? ⟨H,2,none⟩ = some c ∧ W.cell? ⟨H,3,none⟩ = some d ∧ W.cell? ⟨H,4,none⟩ = some e ∧ W.cell? ⟨H,5,none⟩ = some f) ∧ (W.frozen? ⟨H,0,none⟩ = false ∧ W.frozen? ⟨H,1,none⟩ = false ∧ W.frozen? ⟨H,2,none⟩ = false ∧ W.frozen? ⟨H,3,none⟩ = false ∧ W.frozen? ⟨H,4,none⟩ = false ∧ W.frozen? ⟨H,5,none⟩ = false) :=
 ⟨⟨h.c 0 (by simp),h.c 1 (by simp),h.c 2 (by simp),h.c 3 (by simp),h.c 4 (by simp),h.c 5 (by simp)⟩,h.f 0 (by simp),h.f 1 (by simp),h.f 2 (by simp),h.f 3 (by simp),h.f 4 (by simp),h.f 5 (by simp)⟩
theorem Bx.put6 {W:World} {H:Nat} {a b c d e f:Value} (h:Bx W H [a,b,c,d,e,f]) (a' b' c' d' e' f':Value):Bx ((((((W.setCell ⟨H,0,none⟩ a').setCell ⟨H,1,none⟩ b').setCell ⟨H,2,none⟩ c').setCell ⟨H,3,none⟩ d').setCell ⟨H,4,none⟩ e').setCell ⟨H,5,none⟩ f') H [a', b', c', d', e', f']:=by
 simpa using (((((h.set 0 (by simp) a').set 1 (by simp) b').set 2 (by simp) c').set 3 (by simp) d').set 4 (by simp) e').set 5 (by simp) f'
theorem touch6 (s:Nat) (w:World) (a b c d e f:Value):Touch s w ((((((w.setCell ⟨s,0,none⟩ a).setCell ⟨s,1,none⟩ b).setCell ⟨s,2,none⟩ c).setCell ⟨s,3,none⟩ d).setCell ⟨s,4,none⟩ e).setCell ⟨s,5,none⟩ f) :=
 (((((Touch.setCell _ _ _ _).trans (Touch.setCell _ _ _ _)).trans (Touch.setCell _ _ _ _)).trans (Touch.setCell _ _ _ _)).trans (Touch.setCell _ _ _ _)).trans (Touch.setCell _ _ _ _)
theorem atmV_ofI {w:World} {B:Nat} {a b:Value} {ws hs:List Int} (h0:Ints w B a ws) (h1:Ints w B b hs):AtmV w B (.agg #[a,b]) ws hs:=⟨_,_,rfl,h0,h1⟩
def Rd (lo:Nat) (w:World) (b:Nat):Prop:=lo ≤ b ∧ b < w.heap.size
theorem ArrD.grB {w w':World} {lo sz:Nat} {v:Value} {rows:List (List Value)} (h:ArrD w (Rd lo w) sz v rows) (hb:Below w.heap.size w w'):ArrD w' (Rd lo w') sz v rows:=(h.kept fun b hb2 => hb.block b hb2.2).weak fun b hb2 => ⟨hb2.1,Nat.lt_of_lt_of_le hb2.2 hb.size⟩
theorem IntsD.grB {w w':World} {lo:Nat} {v:Value} {xs:List Int} (h:IntsD w (Rd lo w) v xs) (hb:Below w.heap.size w w'):IntsD w' (Rd lo w') v xs:=⟨h.1.grB hb,h.2⟩
theorem ArrD.tcB {w w':World} {lo g sz:Nat} {v:Value} {rows:List (List Value)} (h:ArrD w (Rd lo w) sz v rows) (ht:Touch g w w') (hg:g < lo):ArrD w' (Rd lo w') sz v rows:=(h.kept fun b hb2 => ht.block b hb2.2 (by have:=hb2.1;omega)).weak fun b hb2 => ⟨hb2.1,Nat.lt_of_lt_of_le hb2.2 ht.size⟩
theorem IntsD.tcB {w w':World} {lo g:Nat} {v:Value} {xs:List Int} (h:IntsD w (Rd lo w) v xs) (ht:Touch g w w') (hg:g < lo):IntsD w' (Rd lo w') v xs:=⟨h.1.tcB ht hg,h.2⟩
def JobsP (w:World) (lo:Nat) (u:Value) (js:List TJ):Prop:=∃ D:List TJV,ArrD w (Rd lo w) 5 u (D.map tjRow) ∧ D.map (·.1) = js ∧ ∀ x ∈ D,IntsD w (Rd lo w) x.2 x.1.rsp.data
theorem JobsP.grB {w w':World} {lo:Nat} {u:Value} {js:List TJ} (h:JobsP w lo u js) (hb:Below w.heap.size w w'):JobsP w' lo u js:=let ⟨D,h1,h2,h3⟩:=h;⟨D,h1.grB hb,h2,fun x hx => (h3 x hx).grB hb⟩
theorem JobsP.tcB {w w':World} {lo g:Nat} {u:Value} {js:List TJ} (h:JobsP w lo u js) (ht:Touch g w w') (hg:g < lo):JobsP w' lo u js:=let ⟨D,h1,h2,h3⟩:=h;⟨D,h1.tcB ht hg,h2,fun x hx => (h3 x hx).tcB ht hg⟩
theorem JobsP.to {w:World} {lo:Nat} {u:Value} {js:List TJ} (h:JobsP w lo u js):JobsV w w.heap.size u js:=let ⟨D,h1,h2,h3⟩:=h;⟨D,h1.to fun _ h => h.2,h2,fun x hx => (h3 x hx).to fun _ h => h.2⟩
theorem arr_rd {α:Type} {w w':World} {e sz lo:Nat} {f:α → List Value} {v:Value} {xs:List α} (h:Owns w' w.heap.size e sz f v xs) (hf:∀ x,(f x).length = sz) (hlo:lo ≤ w.heap.size) (hn:xs.length ≤ 140737488351232):ArrD w' (Rd lo w') sz v (xs.map f) :=
 Owns.arrD h (fun k hk => ⟨Nat.le_trans hlo (OwnR.lt h k hk).1,(OwnR.lt h k hk).2⟩) hf hn
theorem ints_rd {w w':World} {e lo:Nat} {v:Value} {xs:List Int} (h:Owns w' w.heap.size e 1 rowI v xs) (hlo:lo ≤ w.heap.size) (hn:xs.length ≤ 140737488351232) (hx:∀ x ∈ xs,I64 x):IntsD w' (Rd lo w') v xs :=
 ⟨arr_rd h rowI_len hlo hn,hx⟩
theorem jobs_rd {w w':World} {lo:Nat} {u:Value} {D:List TJV} {js:List TJ} (o:Owns w' w.heap.size 88 5 tjRow u D) (hm:D.map (·.1) = js) (hd:∀ x ∈ D,IntsD w' (fun b => w.heap.size ≤ b ∧ b < w'.heap.size ∧ u.ownBlock ≠ some b) x.2 x.1.rsp.data) (hlo:lo ≤ w.heap.size) (hn:js.length ≤ 140737488351232):JobsP w' lo u js :=
 ⟨D,arr_rd o (fun _ => rfl) hlo (by rw [← hm,List.length_map] at hn;exact hn),hm,fun x hx => (hd x hx).weak fun b hb => ⟨Nat.le_trans hlo hb.1,hb.2.1⟩⟩
theorem arrD_sl {w:World} {P:Nat → Prop} {sz:Nat} {v:Value} {rows:List (List Value)} (h:ArrD w P sz v rows):∃ a n c,v = .slice a n c:=by obtain ⟨a,c,e,_⟩:=h;exact ⟨a,_,c,e⟩
theorem intsD_sl {w:World} {P:Nat → Prop} {v:Value} {xs:List Int} (h:IntsD w P v xs):∃ a n c,v = .slice a n c:=arrD_sl h.1
theorem jobsP_sl {w:World} {lo:Nat} {u:Value} {js:List TJ} (h:JobsP w lo u js):∃ a n c,u = .slice a n c:=let ⟨_,h1,_⟩:=h;arrD_sl h1
set_option maxRecDepth 20000 in
set_option maxHeartbeats 2000000 in
theorem wp_build6 {a:Act} {w:World} {K:Act → World → Prop} {Q:Exit → Act → World → Prop} (d:Option Nat) (ty:Nat) (pos:String) (aft:Array Edge) (t0 t1 t2 t3 t4:Nat)
  {a0 a1 a2 a3 a4 a5:Option Addr} {n0 n1 n2 n3 n4 n5 c0 c1 c2 c3 c4 c5:Nat} (h0:a.tmps.getD t0 undef = .agg #[.slice a0 n0 c0,.slice a1 n1 c1]) (h1:a.tmps.getD t1 undef = .slice a2 n2 c2) (h2:a.tmps.getD t2 undef = .slice a3 n3 c3) (h3:a.tmps.getD t3 undef = .slice a4 n4 c4) (h4:a.tmps.getD t4 undef = .slice a5 n5 c5)
  (h:K (a.put d (.agg #[.slice a0 n0 c0,.slice a1 n1 c1,.slice a2 n2 c2,.slice a3 n3 c3,.slice a4 n4 c4,.slice a5 n5 c5])) w) :
  Oper.wp Tryz.prog { dst:=d,op:=.build 106 #[(0,.tmp t0),(1,.tmp t1),(2,.tmp t2),(3,.tmp t3),(4,.tmp t4)],type:=ty,pos:=pos,after:=aft,guard:=none } a w K Q:=by
 obtain ⟨tmps,defers⟩:=a
 simp only [Array.getD_eq_getD_getElem?] at h0 h1 h2 h3 h4
 go_simp
 exact h
def tmA (i0:Value) (gS:Nat) (gR:Nat) (u3 u4 u5 u6 u7 u8 u9 u10 u11 u12 u13 u14 u15 u16 u17 u18:Value):Act:={ tmps:=#[i0,.pointer (some ⟨gS,0,none⟩),.pointer (some ⟨gR,0,none⟩),u3,u4,u5,u6,u7,u8,u9,u10,u11,u12,u13,u14,u15,u16,u17,u18],defers:=[] }
def tmI (i0:Value) (gS:Nat) (gR:Nat) (B:Nat) (va:Value) (vb:Value) (vc:Value) (vd:Value) (ve:Value) (vf:Value) (xs:List Int) (ys:List Int) (ks:List Nat) (J3:List TJ) (J4:List TJ) (J5:List TJ) (D3:List TJV) (D4:List TJV) (D5:List TJV) (wq:World) (listed:Array Bool) (a:Act) (w':World):Prop :=
 ∃ u3 u4 u5 u6 u7 u8 u9 u10 u11 u12 u13 u14 u15 u16 u17 u18:Value,a = tmA i0 gS gR u3 u4 u5 u6 u7 u8 u9 u10 u11 u12 u13 u14 u15 u16 u17 u18 ∧
   (listed.getD 0 false = true → u3 = .pointer (some ⟨gS,0,none⟩)) ∧
   (listed.getD 1 false = true → u4 = .agg #[va,vb]) ∧
   (listed.getD 2 false = true → ∃ qa qb,u5 = .agg #[qa,qb] ∧ IntsD w' (Rd wq.heap.size w') qa xs ∧ IntsD w' (Rd wq.heap.size w') qb ys) ∧
   (listed.getD 3 false = true → u6 = .pointer (some ⟨gS,2,none⟩)) ∧
   (listed.getD 4 false = true → u7 = vc) ∧
   (listed.getD 5 false = true → ArrD w' (Rd wq.heap.size w') 1 u8 (ks.map rowN)) ∧
   (listed.getD 6 false = true → u9 = .pointer (some ⟨gS,3,none⟩)) ∧
   (listed.getD 7 false = true → u10 = vd) ∧
   (listed.getD 8 false = true → JobsP w' wq.heap.size u11 J3) ∧
   (listed.getD 9 false = true → u12 = .pointer (some ⟨gS,4,none⟩)) ∧
   (listed.getD 10 false = true → u13 = ve) ∧
   (listed.getD 11 false = true → JobsP w' wq.heap.size u14 J4) ∧
   (listed.getD 12 false = true → u15 = .pointer (some ⟨gS,5,none⟩)) ∧
   (listed.getD 13 false = true → u16 = vf) ∧
   (listed.getD 14 false = true → JobsP w' wq.heap.size u17 J5) ∧
   (listed.getD 15 false = true → ∃ qa qb,u5 = .agg #[qa,qb] ∧ u18 = .agg #[qa,qb,u8,u11,u14,u17]) ∧
   (listed.getD 16 false = true → ∃ qa qb,u5 = .agg #[qa,qb] ∧ Bx w' gR [qa,qb,u8,u11,u14,u17]) ∧
   (listed.getD 16 false = false → Bx w' gR [vnil,vnil,vnil,vnil,vnil,vnil]) ∧
   Touch gR wq w'
noncomputable def tmCode:Code:=(Tryz.f105.body.bind (regIn2 1)).getD .skip
def TmP (gR:Nat) (xs ys:List Int) (ks:List Nat) (j3 j4 j5:List TJ) (wq w':World):Prop :=
 ∃ a b c d e f,Bx w' gR [a,b,c,d,e,f] ∧ IntsD w' (Rd wq.heap.size w') a xs ∧ IntsD w' (Rd wq.heap.size w') b ys ∧ ArrD w' (Rd wq.heap.size w') 1 c (ks.map rowN) ∧ JobsP w' wq.heap.size d j3 ∧ JobsP w' wq.heap.size e j4 ∧ JobsP w' wq.heap.size f j5 ∧ Touch gR wq w'
set_option maxRecDepth 100000 in
set_option maxHeartbeats 16000000 in
theorem tm_region (i0 j3 j4 j5 j6 j7 j8 j9 j10 j11 j12 j13 j14 j15 j16 j17 j18:Value) (gS:Nat) (gR:Nat) (B:Nat) (va:Value) (vb:Value) (vc:Value) (vd:Value) (ve:Value) (vf:Value) (xs:List Int) (ys:List Int) (ks:List Nat) (J3:List TJ) (J4:List TJ) (J5:List TJ) (D3:List TJV) (D4:List TJV) (D5:List TJV) (wq:World)
  (hS:Bx wq gS [va,vb,vc,vd,ve,vf]) (hR:Bx wq gR [vnil,vnil,vnil,vnil,vnil,vnil]) (hSR:gS ≠ gR) (hRlt:gR < wq.heap.size) (hBR:B ≤ gR) (hA:Ints wq B va xs) (hA2:Ints wq B vb ys) (hC:Arr wq B 1 vc (ks.map rowN)) (hJ3:Arr wq B 5 vd (D3.map tjRow)) (hE3:D3.map (·.1) = J3) (hK3:∀ x ∈ D3,Ints wq B x.2 x.1.rsp.data) (hl3:D3.length ≤ 1000 ∧ ∀ x ∈ D3,x.1.rsp.data.length ≤ 1000) (hJ4:Arr wq B 5 ve (D4.map tjRow)) (hE4:D4.map (·.1) = J4) (hK4:∀ x ∈ D4,Ints wq B x.2 x.1.rsp.data) (hl4:D4.length ≤ 1000 ∧ ∀ x ∈ D4,x.1.rsp.data.length ≤ 1000) (hJ5:Arr wq B 5 vf (D5.map tjRow)) (hE5:D5.map (·.1) = J5) (hK5:∀ x ∈ D5,Ints wq B x.2 x.1.rsp.data) (hl5:D5.length ≤ 1000 ∧ ∀ x ∈ D5,x.1.rsp.data.length ≤ 1000) (hl1:xs.length ≤ 1048576) (hl2:ys.length ≤ 1048576) (hl0:ks.length ≤ 1000)
  {Q:Exit → Act → World → Prop}
  (hK:∀ (u3 u4 u5 u6 u7 u8 u9 u10 u11 u12 u13 u14 u15 u16 u17 u18:Value) w', TmP gR xs ys ks J3 J4 J5 wq w' → Q .normal (tmA i0 gS gR u3 u4 u5 u6 u7 u8 u9 u10 u11 u12 u13 u14 u15 u16 u17 u18) w'):tmCode.wp Tryz.prog Q (tmA i0 gS gR j3 j4 j5 j6 j7 j8 j9 j10 j11 j12 j13 j14 j15 j16 j17 j18) wq:=by
 conv => arg 2;whnf
 refine wp_region_inv2 (tmI i0 gS gR B va vb vc vd ve vf xs ys ks J3 J4 J5 D3 D4 D5 wq) (by kernel_rfl) (by kernel_rfl) ?_ ?_ ?_
 ·exact ⟨_,_,_,_,_,_,_,_,_,_,_,_,_,_,_,_,rfl,(fun h => absurd h (by rw [getD_replicate_false];simp)),(fun h => absurd h (by rw [getD_replicate_false];simp)),(fun h => absurd h (by rw [getD_replicate_false];simp)),(fun h => absurd h (by rw [getD_replicate_false];simp)),(fun h => absurd h (by rw [getD_replicate_false];simp)),(fun h => absurd h (by rw [getD_replicate_false];simp)),(fun h => absurd h (by rw [getD_replicate_false];simp)),(fun h => absurd h (by rw [getD_replicate_false];simp)),(fun h => absurd h (by rw [getD_replicate_false];simp)),(fun h => absurd h (by rw [getD_replicate_false];simp)),(fun h => absurd h (by rw [getD_replicate_false];simp)),(fun h => absurd h (by rw [getD_replicate_false];simp)),(fun h => absurd h (by rw [getD_replicate_false];simp)),(fun h => absurd h (by rw [getD_replicate_false];simp)),(fun h => absurd h (by rw [getD_replicate_false];simp)),(fun h => absurd h (by rw [getD_replicate_false];simp)),(fun h => absurd h (by rw [getD_replicate_false];simp)),(fun _ => hR.kept rfl),(Touch.refl _ _).drewd⟩
 ·intro listed a w' i o hI hsz ho hl he hcl
  have hi:i < 17:=(Array.getElem?_eq_some_iff.1 ho).1
  have e:i = 0 ∨ i = 1 ∨ i = 2 ∨ i = 3 ∨ i = 4 ∨ i = 5 ∨ i = 6 ∨ i = 7 ∨ i = 8 ∨ i = 9 ∨ i = 10 ∨ i = 11 ∨ i = 12 ∨ i = 13 ∨ i = 14 ∨ i = 15 ∨ i = 16:=by omega
  clear hi
  rcases e with rfl | rfl | rfl | rfl | rfl | rfl | rfl | rfl | rfl | rfl | rfl | rfl | rfl | rfl | rfl | rfl | rfl
  all_goals (have ho2:=ho;obtain rfl:=Option.some.inj ho2.symm;clear ho2)
  ·as_aux_lemma =>
    obtain ⟨u3,u4,u5,u6,u7,u8,u9,u10,u11,u12,u13,u14,u15,u16,u17,u18,rfl,F0,F1,F2,F3,F4,F5,F6,F7,F8,F9,F10,F11,F12,F13,F14,F15,F16,N16,hx⟩:=hI
    refine wpOp_stepx ho rfl (fun K hK => ?_)
    unfold tmA
    go_simp
    exact hK _ _ ⟨_,_,_,_,_,_,_,_,_,_,_,_,_,_,_,_,rfl,fun _ => rfl,cy F1 rfl,cy F2 rfl,cy F3 rfl,cy F4 rfl,cy F5 rfl,cy F6 rfl,cy F7 rfl,cy F8 rfl,cy F9 rfl,cy F10 rfl,cy F11 rfl,cy F12 rfl,cy F13 rfl,cy F14 rfl,cy F15 rfl,cy F16 rfl,cy N16 rfl,hx⟩
  ·as_aux_lemma =>
    obtain ⟨u3,u4,u5,u6,u7,u8,u9,u10,u11,u12,u13,u14,u15,u16,u17,u18,rfl,F0,F1,F2,F3,F4,F5,F6,F7,F8,F9,F10,F11,F12,F13,F14,F15,F16,N16,hx⟩:=hI
    have l0:=he ⟨0,.data⟩ (by simp) rfl
    have e:=F0 l0;subst e
    have hgs:=hS.lt
    obtain ⟨⟨c0,c1,c2,c3,c4,c5⟩,_⟩:=(hS.kept (hx.block gS hgs hSR)).six
    refine wpOp_stepx ho rfl (fun K hK => ?_)
    unfold tmA
    go_simp
    exact hK _ _ ⟨_,_,_,_,_,_,_,_,_,_,_,_,_,_,_,_,rfl,cy F0 rfl,fun _ => rfl,cy F2 rfl,cy F3 rfl,cy F4 rfl,cy F5 rfl,cy F6 rfl,cy F7 rfl,cy F8 rfl,cy F9 rfl,cy F10 rfl,cy F11 rfl,cy F12 rfl,cy F13 rfl,cy F14 rfl,cy F15 rfl,cy F16 rfl,cy N16 rfl,hx⟩
  ·as_aux_lemma =>
    obtain ⟨u3,u4,u5,u6,u7,u8,u9,u10,u11,u12,u13,u14,u15,u16,u17,u18,rfl,F0,F1,F2,F3,F4,F5,F6,F7,F8,F9,F10,F11,F12,F13,F14,F15,F16,N16,hx⟩:=hI
    have l1:=he ⟨1,.data⟩ (by simp) rfl
    have e:=F1 l1;subst e
    refine wpOp_stepx ho rfl (fun K hK => ?_)
    unfold tmA
    go_simp
    (with_reducible refine (atmCopy_any _ xs ys B w' (atmV_ofI (hA.below (hx.below hBR (Nat.le_trans hBR (Nat.le_of_lt hRlt)))) (hA2.below (hx.below hBR (Nat.le_trans hBR (Nat.le_of_lt hRlt))))) (Nat.le_trans (Nat.le_trans hBR (Nat.le_of_lt hRlt)) hx.size) hl1 hl2).mono ?_)
    rintro e w'' ⟨qa,qb,rfl,o1,o2,ap,hb1⟩
    go_wp2_with fail
    exact ⟨_,_,_,_,_,_,_,_,_,_,_,_,_,_,_,_,rfl,cy F0 rfl,fun _ => rfl,fun _ => ⟨qa,qb,rfl,ints_rd o1 hx.size (by omega) hA.2,ints_rd o2 hx.size (by omega) hA2.2⟩,cy F3 rfl,cy F4 rfl,fun hj => absurd (hcl 5 _ rfl (by rwa [sgx (by decide)] at hj) ⟨2,.chain⟩ (by simp) rfl) (by rw [getD_both hl];simp),cy F6 rfl,cy F7 rfl,fun hj => absurd (hcl 5 _ rfl (hcl 8 _ rfl (by rwa [sgx (by decide)] at hj) ⟨5,.chain⟩ (by simp) rfl) ⟨2,.chain⟩ (by simp) rfl) (by rw [getD_both hl];simp),cy F9 rfl,cy F10 rfl,fun hj => absurd (hcl 5 _ rfl (hcl 8 _ rfl (hcl 11 _ rfl (by rwa [sgx (by decide)] at hj) ⟨8,.chain⟩ (by simp) rfl) ⟨5,.chain⟩ (by simp) rfl) ⟨2,.chain⟩ (by simp) rfl) (by rw [getD_both hl];simp),cy F12 rfl,cy F13 rfl,fun hj => absurd (hcl 5 _ rfl (hcl 8 _ rfl (hcl 11 _ rfl (hcl 14 _ rfl (by rwa [sgx (by decide)] at hj) ⟨11,.chain⟩ (by simp) rfl) ⟨8,.chain⟩ (by simp) rfl) ⟨5,.chain⟩ (by simp) rfl) ⟨2,.chain⟩ (by simp) rfl) (by rw [getD_both hl];simp),fun hj => absurd (hcl 15 _ rfl (by rwa [sgx (by decide)] at hj) ⟨2,.data⟩ (by simp) rfl) (by rw [getD_both hl];simp),fun hj => absurd (hcl 16 _ rfl (by rwa [sgx (by decide)] at hj) ⟨2,.phase⟩ (by simp) rfl) (by rw [getD_both hl];simp),fun hj => (cy N16 rfl hj).below hb1 (cy N16 rfl hj).lt,hx.trans (Touch.of_below hb1 (Nat.le_refl _))⟩
  ·as_aux_lemma =>
    obtain ⟨u3,u4,u5,u6,u7,u8,u9,u10,u11,u12,u13,u14,u15,u16,u17,u18,rfl,F0,F1,F2,F3,F4,F5,F6,F7,F8,F9,F10,F11,F12,F13,F14,F15,F16,N16,hx⟩:=hI
    refine wpOp_stepx ho rfl (fun K hK => ?_)
    unfold tmA
    go_simp
    exact hK _ _ ⟨_,_,_,_,_,_,_,_,_,_,_,_,_,_,_,_,rfl,cy F0 rfl,cy F1 rfl,cy F2 rfl,fun _ => rfl,cy F4 rfl,cy F5 rfl,cy F6 rfl,cy F7 rfl,cy F8 rfl,cy F9 rfl,cy F10 rfl,cy F11 rfl,cy F12 rfl,cy F13 rfl,cy F14 rfl,cy F15 rfl,cy F16 rfl,cy N16 rfl,hx⟩
  ·as_aux_lemma =>
    obtain ⟨u3,u4,u5,u6,u7,u8,u9,u10,u11,u12,u13,u14,u15,u16,u17,u18,rfl,F0,F1,F2,F3,F4,F5,F6,F7,F8,F9,F10,F11,F12,F13,F14,F15,F16,N16,hx⟩:=hI
    have l3:=he ⟨3,.data⟩ (by simp) rfl
    have e:=F3 l3;subst e
    have hgs:=hS.lt
    obtain ⟨⟨c0,c1,c2,c3,c4,c5⟩,_⟩:=(hS.kept (hx.block gS hgs hSR)).six
    refine wpOp_stepx ho rfl (fun K hK => ?_)
    unfold tmA
    go_simp
    exact hK _ _ ⟨_,_,_,_,_,_,_,_,_,_,_,_,_,_,_,_,rfl,cy F0 rfl,cy F1 rfl,cy F2 rfl,cy F3 rfl,fun _ => rfl,cy F5 rfl,cy F6 rfl,cy F7 rfl,cy F8 rfl,cy F9 rfl,cy F10 rfl,cy F11 rfl,cy F12 rfl,cy F13 rfl,cy F14 rfl,cy F15 rfl,cy F16 rfl,cy N16 rfl,hx⟩
  ·as_aux_lemma =>
    obtain ⟨u3,u4,u5,u6,u7,u8,u9,u10,u11,u12,u13,u14,u15,u16,u17,u18,rfl,F0,F1,F2,F3,F4,F5,F6,F7,F8,F9,F10,F11,F12,F13,F14,F15,F16,N16,hx⟩:=hI
    have l4:=he ⟨4,.data⟩ (by simp) rfl
    have l2:=he ⟨2,.chain⟩ (by simp) rfl
    have e:=F4 l4;subst e
    refine wpOp_stepx ho rfl (fun K hK => ?_)
    unfold tmA
    go_simp
    (with_reducible refine (clone_int rowN (fun _ => rfl) rowN_one _ ks B w' (hC.below (hx.below hBR (Nat.le_trans hBR (Nat.le_of_lt hRlt)))) (by omega)).mono ?_)
    rintro e w'' ⟨q,rfl,o1,hb1⟩
    go_wp2_with fail
    exact ⟨_,_,_,_,_,_,_,_,_,_,_,_,_,_,_,_,rfl,cy F0 rfl,cy F1 rfl,fun hj => (let ⟨qa,qb,e,o1,o2⟩:=(cy F2 rfl hj);⟨qa,qb,e,o1.grB hb1,o2.grB hb1⟩),cy F3 rfl,fun _ => rfl,fun _ => arr_rd o1 (fun _ => rfl) hx.size (by omega),cy F6 rfl,cy F7 rfl,fun hj => absurd (hcl 8 _ rfl (by rwa [sgx (by decide)] at hj) ⟨5,.chain⟩ (by simp) rfl) (by rw [getD_both hl];simp),cy F9 rfl,cy F10 rfl,fun hj => absurd (hcl 8 _ rfl (hcl 11 _ rfl (by rwa [sgx (by decide)] at hj) ⟨8,.chain⟩ (by simp) rfl) ⟨5,.chain⟩ (by simp) rfl) (by rw [getD_both hl];simp),cy F12 rfl,cy F13 rfl,fun hj => absurd (hcl 8 _ rfl (hcl 11 _ rfl (hcl 14 _ rfl (by rwa [sgx (by decide)] at hj) ⟨11,.chain⟩ (by simp) rfl) ⟨8,.chain⟩ (by simp) rfl) ⟨5,.chain⟩ (by simp) rfl) (by rw [getD_both hl];simp),fun hj => absurd (hcl 15 _ rfl (by rwa [sgx (by decide)] at hj) ⟨5,.data⟩ (by simp) rfl) (by rw [getD_both hl];simp),fun hj => absurd (hcl 16 _ rfl (by rwa [sgx (by decide)] at hj) ⟨5,.phase⟩ (by simp) rfl) (by rw [getD_both hl];simp),fun hj => (cy N16 rfl hj).below hb1 (cy N16 rfl hj).lt,hx.trans (Touch.of_below hb1 (Nat.le_refl _))⟩
  ·as_aux_lemma =>
    obtain ⟨u3,u4,u5,u6,u7,u8,u9,u10,u11,u12,u13,u14,u15,u16,u17,u18,rfl,F0,F1,F2,F3,F4,F5,F6,F7,F8,F9,F10,F11,F12,F13,F14,F15,F16,N16,hx⟩:=hI
    refine wpOp_stepx ho rfl (fun K hK => ?_)
    unfold tmA
    go_simp
    exact hK _ _ ⟨_,_,_,_,_,_,_,_,_,_,_,_,_,_,_,_,rfl,cy F0 rfl,cy F1 rfl,cy F2 rfl,cy F3 rfl,cy F4 rfl,cy F5 rfl,fun _ => rfl,cy F7 rfl,cy F8 rfl,cy F9 rfl,cy F10 rfl,cy F11 rfl,cy F12 rfl,cy F13 rfl,cy F14 rfl,cy F15 rfl,cy F16 rfl,cy N16 rfl,hx⟩
  ·as_aux_lemma =>
    obtain ⟨u3,u4,u5,u6,u7,u8,u9,u10,u11,u12,u13,u14,u15,u16,u17,u18,rfl,F0,F1,F2,F3,F4,F5,F6,F7,F8,F9,F10,F11,F12,F13,F14,F15,F16,N16,hx⟩:=hI
    have l6:=he ⟨6,.data⟩ (by simp) rfl
    have e:=F6 l6;subst e
    have hgs:=hS.lt
    obtain ⟨⟨c0,c1,c2,c3,c4,c5⟩,_⟩:=(hS.kept (hx.block gS hgs hSR)).six
    refine wpOp_stepx ho rfl (fun K hK => ?_)
    unfold tmA
    go_simp
    exact hK _ _ ⟨_,_,_,_,_,_,_,_,_,_,_,_,_,_,_,_,rfl,cy F0 rfl,cy F1 rfl,cy F2 rfl,cy F3 rfl,cy F4 rfl,cy F5 rfl,cy F6 rfl,fun _ => rfl,cy F8 rfl,cy F9 rfl,cy F10 rfl,cy F11 rfl,cy F12 rfl,cy F13 rfl,cy F14 rfl,cy F15 rfl,cy F16 rfl,cy N16 rfl,hx⟩
  ·as_aux_lemma =>
    obtain ⟨u3,u4,u5,u6,u7,u8,u9,u10,u11,u12,u13,u14,u15,u16,u17,u18,rfl,F0,F1,F2,F3,F4,F5,F6,F7,F8,F9,F10,F11,F12,F13,F14,F15,F16,N16,hx⟩:=hI
    have l7:=he ⟨7,.data⟩ (by simp) rfl
    have l5:=he ⟨5,.chain⟩ (by simp) rfl
    have e:=F7 l7;subst e
    refine wpOp_stepx ho rfl (fun K hK => ?_)
    unfold tmA
    go_simp
    (with_reducible refine (copyJobs_any D3 _ B w' (hJ3.below (hx.below hBR (Nat.le_trans hBR (Nat.le_of_lt hRlt)))) (fun x hx2 => (hK3 x hx2).below (hx.below hBR (Nat.le_trans hBR (Nat.le_of_lt hRlt)))) (Nat.le_trans (Nat.le_trans hBR (Nat.le_of_lt hRlt)) hx.size) hl3.1 hl3.2).mono ?_)
    rintro e w'' ⟨q,D1,rfl,o1,hm1,hd1,hb1⟩
    go_wp2_with fail
    exact ⟨_,_,_,_,_,_,_,_,_,_,_,_,_,_,_,_,rfl,cy F0 rfl,cy F1 rfl,fun hj => (let ⟨qa,qb,e,o1,o2⟩:=(cy F2 rfl hj);⟨qa,qb,e,o1.grB hb1,o2.grB hb1⟩),cy F3 rfl,cy F4 rfl,fun hj => (cy F5 rfl hj).grB hb1,cy F6 rfl,fun _ => rfl,fun _ => jobs_rd o1 (hm1.trans hE3) hd1 hx.size (by rw [← hE3,List.length_map];exact Nat.le_trans hl3.1 (by omega)),cy F9 rfl,cy F10 rfl,fun hj => absurd (hcl 11 _ rfl (by rwa [sgx (by decide)] at hj) ⟨8,.chain⟩ (by simp) rfl) (by rw [getD_both hl];simp),cy F12 rfl,cy F13 rfl,fun hj => absurd (hcl 11 _ rfl (hcl 14 _ rfl (by rwa [sgx (by decide)] at hj) ⟨11,.chain⟩ (by simp) rfl) ⟨8,.chain⟩ (by simp) rfl) (by rw [getD_both hl];simp),fun hj => absurd (hcl 15 _ rfl (by rwa [sgx (by decide)] at hj) ⟨8,.data⟩ (by simp) rfl) (by rw [getD_both hl];simp),fun hj => absurd (hcl 16 _ rfl (by rwa [sgx (by decide)] at hj) ⟨8,.phase⟩ (by simp) rfl) (by rw [getD_both hl];simp),fun hj => (cy N16 rfl hj).below hb1 (cy N16 rfl hj).lt,hx.trans (Touch.of_below hb1 (Nat.le_refl _))⟩
  ·as_aux_lemma =>
    obtain ⟨u3,u4,u5,u6,u7,u8,u9,u10,u11,u12,u13,u14,u15,u16,u17,u18,rfl,F0,F1,F2,F3,F4,F5,F6,F7,F8,F9,F10,F11,F12,F13,F14,F15,F16,N16,hx⟩:=hI
    refine wpOp_stepx ho rfl (fun K hK => ?_)
    unfold tmA
    go_simp
    exact hK _ _ ⟨_,_,_,_,_,_,_,_,_,_,_,_,_,_,_,_,rfl,cy F0 rfl,cy F1 rfl,cy F2 rfl,cy F3 rfl,cy F4 rfl,cy F5 rfl,cy F6 rfl,cy F7 rfl,cy F8 rfl,fun _ => rfl,cy F10 rfl,cy F11 rfl,cy F12 rfl,cy F13 rfl,cy F14 rfl,cy F15 rfl,cy F16 rfl,cy N16 rfl,hx⟩
  ·as_aux_lemma =>
    obtain ⟨u3,u4,u5,u6,u7,u8,u9,u10,u11,u12,u13,u14,u15,u16,u17,u18,rfl,F0,F1,F2,F3,F4,F5,F6,F7,F8,F9,F10,F11,F12,F13,F14,F15,F16,N16,hx⟩:=hI
    have l9:=he ⟨9,.data⟩ (by simp) rfl
    have e:=F9 l9;subst e
    have hgs:=hS.lt
    obtain ⟨⟨c0,c1,c2,c3,c4,c5⟩,_⟩:=(hS.kept (hx.block gS hgs hSR)).six
    refine wpOp_stepx ho rfl (fun K hK => ?_)
    unfold tmA
    go_simp
    exact hK _ _ ⟨_,_,_,_,_,_,_,_,_,_,_,_,_,_,_,_,rfl,cy F0 rfl,cy F1 rfl,cy F2 rfl,cy F3 rfl,cy F4 rfl,cy F5 rfl,cy F6 rfl,cy F7 rfl,cy F8 rfl,cy F9 rfl,fun _ => rfl,cy F11 rfl,cy F12 rfl,cy F13 rfl,cy F14 rfl,cy F15 rfl,cy F16 rfl,cy N16 rfl,hx⟩
  ·as_aux_lemma =>
    obtain ⟨u3,u4,u5,u6,u7,u8,u9,u10,u11,u12,u13,u14,u15,u16,u17,u18,rfl,F0,F1,F2,F3,F4,F5,F6,F7,F8,F9,F10,F11,F12,F13,F14,F15,F16,N16,hx⟩:=hI
    have l10:=he ⟨10,.data⟩ (by simp) rfl
    have l8:=he ⟨8,.chain⟩ (by simp) rfl
    have e:=F10 l10;subst e
    refine wpOp_stepx ho rfl (fun K hK => ?_)
    unfold tmA
    go_simp
    (with_reducible refine (copyJobs_any D4 _ B w' (hJ4.below (hx.below hBR (Nat.le_trans hBR (Nat.le_of_lt hRlt)))) (fun x hx2 => (hK4 x hx2).below (hx.below hBR (Nat.le_trans hBR (Nat.le_of_lt hRlt)))) (Nat.le_trans (Nat.le_trans hBR (Nat.le_of_lt hRlt)) hx.size) hl4.1 hl4.2).mono ?_)
    rintro e w'' ⟨q,D1,rfl,o1,hm1,hd1,hb1⟩
    go_wp2_with fail
    exact ⟨_,_,_,_,_,_,_,_,_,_,_,_,_,_,_,_,rfl,cy F0 rfl,cy F1 rfl,fun hj => (let ⟨qa,qb,e,o1,o2⟩:=(cy F2 rfl hj);⟨qa,qb,e,o1.grB hb1,o2.grB hb1⟩),cy F3 rfl,cy F4 rfl,fun hj => (cy F5 rfl hj).grB hb1,cy F6 rfl,cy F7 rfl,fun hj => (cy F8 rfl hj).grB hb1,cy F9 rfl,fun _ => rfl,fun _ => jobs_rd o1 (hm1.trans hE4) hd1 hx.size (by rw [← hE4,List.length_map];exact Nat.le_trans hl4.1 (by omega)),cy F12 rfl,cy F13 rfl,fun hj => absurd (hcl 14 _ rfl (by rwa [sgx (by decide)] at hj) ⟨11,.chain⟩ (by simp) rfl) (by rw [getD_both hl];simp),fun hj => absurd (hcl 15 _ rfl (by rwa [sgx (by decide)] at hj) ⟨11,.data⟩ (by simp) rfl) (by rw [getD_both hl];simp),fun hj => absurd (hcl 16 _ rfl (by rwa [sgx (by decide)] at hj) ⟨11,.phase⟩ (by simp) rfl) (by rw [getD_both hl];simp),fun hj => (cy N16 rfl hj).below hb1 (cy N16 rfl hj).lt,hx.trans (Touch.of_below hb1 (Nat.le_refl _))⟩
  ·as_aux_lemma =>
    obtain ⟨u3,u4,u5,u6,u7,u8,u9,u10,u11,u12,u13,u14,u15,u16,u17,u18,rfl,F0,F1,F2,F3,F4,F5,F6,F7,F8,F9,F10,F11,F12,F13,F14,F15,F16,N16,hx⟩:=hI
    refine wpOp_stepx ho rfl (fun K hK => ?_)
    unfold tmA
    go_simp
    exact hK _ _ ⟨_,_,_,_,_,_,_,_,_,_,_,_,_,_,_,_,rfl,cy F0 rfl,cy F1 rfl,cy F2 rfl,cy F3 rfl,cy F4 rfl,cy F5 rfl,cy F6 rfl,cy F7 rfl,cy F8 rfl,cy F9 rfl,cy F10 rfl,cy F11 rfl,fun _ => rfl,cy F13 rfl,cy F14 rfl,cy F15 rfl,cy F16 rfl,cy N16 rfl,hx⟩
  ·as_aux_lemma =>
    obtain ⟨u3,u4,u5,u6,u7,u8,u9,u10,u11,u12,u13,u14,u15,u16,u17,u18,rfl,F0,F1,F2,F3,F4,F5,F6,F7,F8,F9,F10,F11,F12,F13,F14,F15,F16,N16,hx⟩:=hI
    have l12:=he ⟨12,.data⟩ (by simp) rfl
    have e:=F12 l12;subst e
    have hgs:=hS.lt
    obtain ⟨⟨c0,c1,c2,c3,c4,c5⟩,_⟩:=(hS.kept (hx.block gS hgs hSR)).six
    refine wpOp_stepx ho rfl (fun K hK => ?_)
    unfold tmA
    go_simp
    exact hK _ _ ⟨_,_,_,_,_,_,_,_,_,_,_,_,_,_,_,_,rfl,cy F0 rfl,cy F1 rfl,cy F2 rfl,cy F3 rfl,cy F4 rfl,cy F5 rfl,cy F6 rfl,cy F7 rfl,cy F8 rfl,cy F9 rfl,cy F10 rfl,cy F11 rfl,cy F12 rfl,fun _ => rfl,cy F14 rfl,cy F15 rfl,cy F16 rfl,cy N16 rfl,hx⟩
  ·as_aux_lemma =>
    obtain ⟨u3,u4,u5,u6,u7,u8,u9,u10,u11,u12,u13,u14,u15,u16,u17,u18,rfl,F0,F1,F2,F3,F4,F5,F6,F7,F8,F9,F10,F11,F12,F13,F14,F15,F16,N16,hx⟩:=hI
    have l13:=he ⟨13,.data⟩ (by simp) rfl
    have l11:=he ⟨11,.chain⟩ (by simp) rfl
    have e:=F13 l13;subst e
    refine wpOp_stepx ho rfl (fun K hK => ?_)
    unfold tmA
    go_simp
    (with_reducible refine (copyJobs_any D5 _ B w' (hJ5.below (hx.below hBR (Nat.le_trans hBR (Nat.le_of_lt hRlt)))) (fun x hx2 => (hK5 x hx2).below (hx.below hBR (Nat.le_trans hBR (Nat.le_of_lt hRlt)))) (Nat.le_trans (Nat.le_trans hBR (Nat.le_of_lt hRlt)) hx.size) hl5.1 hl5.2).mono ?_)
    rintro e w'' ⟨q,D1,rfl,o1,hm1,hd1,hb1⟩
    go_wp2_with fail
    exact ⟨_,_,_,_,_,_,_,_,_,_,_,_,_,_,_,_,rfl,cy F0 rfl,cy F1 rfl,fun hj => (let ⟨qa,qb,e,o1,o2⟩:=(cy F2 rfl hj);⟨qa,qb,e,o1.grB hb1,o2.grB hb1⟩),cy F3 rfl,cy F4 rfl,fun hj => (cy F5 rfl hj).grB hb1,cy F6 rfl,cy F7 rfl,fun hj => (cy F8 rfl hj).grB hb1,cy F9 rfl,cy F10 rfl,fun hj => (cy F11 rfl hj).grB hb1,cy F12 rfl,fun _ => rfl,fun _ => jobs_rd o1 (hm1.trans hE5) hd1 hx.size (by rw [← hE5,List.length_map];exact Nat.le_trans hl5.1 (by omega)),fun hj => absurd (hcl 15 _ rfl (by rwa [sgx (by decide)] at hj) ⟨14,.data⟩ (by simp) rfl) (by rw [getD_both hl];simp),fun hj => absurd (hcl 16 _ rfl (by rwa [sgx (by decide)] at hj) ⟨14,.phase⟩ (by simp) rfl) (by rw [getD_both hl];simp),fun hj => (cy N16 rfl hj).below hb1 (cy N16 rfl hj).lt,hx.trans (Touch.of_below hb1 (Nat.le_refl _))⟩
  ·as_aux_lemma =>
    obtain ⟨u3,u4,u5,u6,u7,u8,u9,u10,u11,u12,u13,u14,u15,u16,u17,u18,rfl,F0,F1,F2,F3,F4,F5,F6,F7,F8,F9,F10,F11,F12,F13,F14,F15,F16,N16,hx⟩:=hI
    have l2:=he ⟨2,.data⟩ (by simp) rfl
    have l5:=he ⟨5,.data⟩ (by simp) rfl
    have l8:=he ⟨8,.data⟩ (by simp) rfl
    have l11:=he ⟨11,.data⟩ (by simp) rfl
    have l14:=he ⟨14,.data⟩ (by simp) rfl
    obtain ⟨qa,qb,hq,oa,ob⟩:=F2 l2
    have o5:=F5 l5
    have o8:=F8 l8
    have o11:=F11 l11
    have o14:=F14 l14
    obtain ⟨y1,y2,y3,e1⟩:=intsD_sl oa
    obtain ⟨z1,z2,z3,e2⟩:=intsD_sl ob
    obtain ⟨s1,s2,s3,e3⟩:=arrD_sl o5
    obtain ⟨t1,t2,t3,e4⟩:=jobsP_sl o8
    obtain ⟨v1,v2,v3,e5⟩:=jobsP_sl o11
    obtain ⟨x1,x2,x3,e6⟩:=jobsP_sl o14
    subst e1 e2 hq e3 e4 e5 e6
    clear oa ob o5 o8 o11 o14
    refine wpOp_stepx ho rfl (fun K hK => ?_)
    unfold tmA
    refine wp_build6 _ _ _ _ _ _ _ _ _ (a0:=y1) (n0:=y2) (c0:=y3) (a1:=z1) (n1:=z2) (c1:=z3) (a2:=s1) (n2:=s2) (c2:=s3) (a3:=t1) (n3:=t2) (c3:=t3) (a4:=v1) (n4:=v2) (c4:=v3) (a5:=x1) (n5:=x2) (c5:=x3) rfl rfl rfl rfl rfl ?_
    exact hK _ _ ⟨_,_,_,_,_,_,_,_,_,_,_,_,_,_,_,_,rfl,cy F0 rfl,cy F1 rfl,fun hj => F2 l2,cy F3 rfl,cy F4 rfl,fun hj => F5 l5,cy F6 rfl,cy F7 rfl,fun hj => F8 l8,cy F9 rfl,cy F10 rfl,fun hj => F11 l11,cy F12 rfl,cy F13 rfl,fun hj => F14 l14,fun _ => ⟨_,_,rfl,rfl⟩,cy F16 rfl,cy N16 rfl,hx⟩
  ·as_aux_lemma =>
    obtain ⟨u3,u4,u5,u6,u7,u8,u9,u10,u11,u12,u13,u14,u15,u16,u17,u18,rfl,F0,F1,F2,F3,F4,F5,F6,F7,F8,F9,F10,F11,F12,F13,F14,F15,F16,N16,hx⟩:=hI
    have l15:=he ⟨15,.data⟩ (by simp) rfl
    have l2:=hcl 15 _ rfl l15 ⟨2,.data⟩ (by simp) rfl
    have l5:=hcl 15 _ rfl l15 ⟨5,.data⟩ (by simp) rfl
    have l8:=hcl 15 _ rfl l15 ⟨8,.data⟩ (by simp) rfl
    have l11:=hcl 15 _ rfl l15 ⟨11,.data⟩ (by simp) rfl
    have l14:=hcl 15 _ rfl l15 ⟨14,.data⟩ (by simp) rfl
    obtain ⟨qa0,qb0,hq0,e15⟩:=F15 l15
    obtain ⟨qa,qb,hq,oa,ob⟩:=F2 l2
    have o5:=F5 l5
    have o8:=F8 l8
    have o11:=F11 l11
    have o14:=F14 l14
    obtain ⟨y1,y2,y3,e1⟩:=intsD_sl oa
    obtain ⟨z1,z2,z3,e2⟩:=intsD_sl ob
    obtain ⟨s1,s2,s3,e3⟩:=arrD_sl o5
    obtain ⟨t1,t2,t3,e4⟩:=jobsP_sl o8
    obtain ⟨v1,v2,v3,e5⟩:=jobsP_sl o11
    obtain ⟨x1,x2,x3,e6⟩:=jobsP_sl o14
    rw [hq] at hq0
    simp only [Value.agg.injEq,Array.mk.injEq,List.cons.injEq,and_true] at hq0
    obtain ⟨rfl,rfl⟩:=hq0
    subst e1 e2 hq e3 e4 e5 e6 e15
    have hB:=N16 (getD_both hl)
    obtain ⟨⟨k0,k1,k2,k3,k4,k5⟩,m0,m1,m2,m3,m4,m5⟩:=hB.six
    have OA:=hid oa;have OB:=hid ob;have O5:=hid o5;have O8:=hid o8;have O11:=hid o11;have O14:=hid o14
    clear oa ob o5 o8 o11 o14
    refine wpOp_stepx ho rfl (fun K hK => ?_)
    unfold tmA
    have ht:=touch6 gR w' (.slice y1 y2 y3) (.slice z1 z2 z3) (.slice s1 s2 s3) (.slice t1 t2 t3) (.slice v1 v2 v3) (.slice x1 x2 x3)
    go_simp
    exact hK _ _ ⟨_,_,_,_,_,_,_,_,_,_,_,_,_,_,_,_,rfl,cy F0 rfl,cy F1 rfl,fun hj => ⟨_,_,rfl,OA.out.tcB ht hRlt,OB.out.tcB ht hRlt⟩,cy F3 rfl,cy F4 rfl,fun hj => O5.out.tcB ht hRlt,cy F6 rfl,cy F7 rfl,fun hj => O8.out.tcB ht hRlt,cy F9 rfl,cy F10 rfl,fun hj => O11.out.tcB ht hRlt,cy F12 rfl,cy F13 rfl,fun hj => O14.out.tcB ht hRlt,fun hj => ⟨_,_,rfl,rfl⟩,fun _ => ⟨_,_,rfl,hB.put6 _ _ _ _ _ _⟩,fun hj => absurd hj (by rw [sgix hl];simp),hx.trans ht⟩
 ·intro listed a w' hI hd
  obtain ⟨u3,u4,u5,u6,u7,u8,u9,u10,u11,u12,u13,u14,u15,u16,u17,u18,rfl,F0,F1,F2,F3,F4,F5,F6,F7,F8,F9,F10,F11,F12,F13,F14,F15,F16,N16,hx⟩:=hI
  obtain ⟨qa,qb,hq,hB⟩:=F16 (hd 16 (by show 16 < 17;omega))
  obtain ⟨qa2,qb2,hq2,oa,ob⟩:=F2 (hd 2 (by show 2 < 17;omega))
  rw [hq] at hq2
  simp only [Value.agg.injEq,Array.mk.injEq,List.cons.injEq,and_true] at hq2
  obtain ⟨rfl,rfl⟩:=hq2
  exact hK _ _ _ _ _ _ _ _ _ _ _ _ _ _ _ _ w' ⟨qa,qb,_,_,_,_,hB,oa,ob,F5 (hd 5 (by show 5 < 17;omega)),F8 (hd 8 (by show 8 < 17;omega)),F11 (hd 11 (by show 11 < 17;omega)),F14 (hd 14 (by show 14 < 17;omega)),hx⟩
end Go.Proofs.YtenjbhbcacocjaaGreat
namespace Go.Proofs.YtenjbhbcacocjaaGreat
open Go.RowKit
theorem loadVar_tlm (w:World) (g:Nat) (a b c d e f:Value) (h0:w.cell? ⟨g,0,none⟩ = some a) (h1:w.cell? ⟨g,1,none⟩ = some b) (h2:w.cell? ⟨g,2,none⟩ = some c) (h3:w.cell? ⟨g,3,none⟩ = some d) (h4:w.cell? ⟨g,4,none⟩ = some e) (h5:w.cell? ⟨g,5,none⟩ = some f):(loadVar 106 ⟨g,0,none⟩).run Tryz.prog w = .ok (.agg #[a,b,c,d,e,f]) w:=by
 simp [loadVar,go_sem,h0,h1,h2,h3,h4,h5]
theorem Rd.low {lo lo':Nat} {w:World} (h:lo' ≤ lo):∀ b,Rd lo w b → Rd lo' w b:=fun _ hb => ⟨Nat.le_trans h hb.1,hb.2⟩
theorem JobsP.low {w:World} {lo lo':Nat} {u:Value} {js:List TJ} (h:JobsP w lo u js) (hl:lo' ≤ lo):JobsP w lo' u js:=let ⟨D,h1,h2,h3⟩:=h;⟨D,h1.weak (Rd.low hl),h2,fun x hx => (h3 x hx).weak (Rd.low hl)⟩
def TlCP (ws hs:List Int) (ks:List Nat) (j3 j4 j5:List TJ) (w:World) (en:Ending) (w':World):Prop :=
 ∃ y0 y1 y2 y3 y4 y5,en = .returned (.agg #[y0,y1,y2,y3,y4,y5]) ∧ IntsD w' (Rd w.heap.size w') y0 ws ∧ IntsD w' (Rd w.heap.size w') y1 hs ∧ ArrD w' (Rd w.heap.size w') 1 y2 (ks.map rowN) ∧ JobsP w' w.heap.size y3 j3 ∧ JobsP w' w.heap.size y4 j4 ∧ JobsP w' w.heap.size y5 j5 ∧ Below w.heap.size w w'
def ShortJ (js:List TJ):Prop:=js.length ≤ 1000 ∧ ∀ j ∈ js,j.rsp.data.length ≤ 1000
theorem ShortJ.of {js:List TJ} {D:List TJV} (hs:ShortJ js) (e:D.map (·.1) = js):D.length ≤ 1000 ∧ ∀ x ∈ D,x.1.rsp.data.length ≤ 1000:=⟨by have:=hs.1;rw [← e,List.length_map] at this;exact this,fun x hx => hs.2 x.1 (by rw [← e];exact List.mem_map.2 ⟨x,hx,rfl⟩)⟩
set_option maxRecDepth 8000 in
set_option maxHeartbeats 8000000 in
theorem tlmCopy_any {w:World} {B:Nat} {v0 v1 v2 v3 v4 v5:Value} {ws hs:List Int} {ks:List Nat} {j3 j4 j5:List TJ} (h0:Ints w B v0 ws) (h1:Ints w B v1 hs) (h2:Nats w B v2 ks) (h3:JobsV w B v3 j3) (h4:JobsV w B v4 j4) (h5:JobsV w B v5 j5) (hB:B ≤ w.heap.size)
  (l0:ws.length ≤ 1000) (l1:hs.length ≤ 1000) (l2:ks.length ≤ 1000) (l3:ShortJ j3) (l4:ShortJ j4) (l5:ShortJ j5) :
  Calls Tryz.prog 105 #[.agg #[v0,v1,v2,v3,v4,v5]] w (TlCP ws hs ks j3 j4 j5 w):=by
 have H0:=hid h0;have H1:=hid h1
 obtain ⟨a0,c0,rfl⟩:∃ a c,v0 = .slice a ws.length c:=by obtain ⟨a,c,e,_⟩:=h0.1;exact ⟨a,c,by simpa using e⟩
 obtain ⟨a1,c1,rfl⟩:∃ a c,v1 = .slice a hs.length c:=by obtain ⟨a,c,e,_⟩:=h1.1;exact ⟨a,c,by simpa using e⟩
 obtain ⟨a2,c2,rfl⟩:∃ a c,v2 = .slice a ks.length c:=by obtain ⟨a,c,e,_⟩:=h2;exact ⟨a,c,by simpa using e⟩
 have H2:=hid (show Arr w B 1 (.slice a2 ks.length c2) (ks.map rowN) from h2)
 obtain ⟨D3,k3,e3,i3⟩:=h3
 obtain ⟨D4,k4,e4,i4⟩:=h4
 obtain ⟨D5,k5,e5,i5⟩:=h5
 obtain ⟨a3,n3,c3,rfl⟩:∃ a n c,v3 = .slice a n c:=by obtain ⟨a,c,e,_⟩:=k3;exact ⟨a,_,c,e⟩
 obtain ⟨a4,n4,c4,rfl⟩:∃ a n c,v4 = .slice a n c:=by obtain ⟨a,c,e,_⟩:=k4;exact ⟨a,_,c,e⟩
 obtain ⟨a5,n5,c5,rfl⟩:∃ a n c,v5 = .slice a n c:=by obtain ⟨a,c,e,_⟩:=k5;exact ⟨a,_,c,e⟩
 have L3:=hid (l3.of e3);have L4:=hid (l4.of e4);have L5:=hid (l5.of e5)
 have K3:=hid k3;have K4:=hid k4;have K5:=hid k5
 have I3:=hid i3;have I4:=hid i4;have I5:=hid i5
 have E3:=hid e3;have E4:=hid e4;have E5:=hid e5
 clear h0 h1 h2 k3 k4 k5 i3 i4 i5 e3 e4 e5 l3 l4 l5
 obtain ⟨W2,hW2⟩:∃ W2,W2 = (w.alloc (.cells #[.slice a0 ws.length c0,.slice a1 hs.length c1,.slice a2 ks.length c2,.slice a3 n3 c3,.slice a4 n4 c4,.slice a5 n5 c5] 106)).alloc (.cells #[.slice none 0 0,.slice none 0 0,.slice none 0 0,.slice none 0 0,.slice none 0 0,.slice none 0 0] 106):=⟨_,rfl⟩
 have HW2:=hid (show Below w.heap.size w W2 by rw [hW2];exact (bx1 _ _).alloc (by simp) _)
 have HS:=hid (show Bx W2 w.heap.size [.slice a0 ws.length c0,.slice a1 hs.length c1,.slice a2 ks.length c2,.slice a3 n3 c3,.slice a4 n4 c4,.slice a5 n5 c5] by rw [hW2];exact (Bx.new w #[.slice a0 ws.length c0,.slice a1 hs.length c1,.slice a2 ks.length c2,.slice a3 n3 c3,.slice a4 n4 c4,.slice a5 n5 c5] _ (by simp)).below (bx1 _ _) (by simp))
 have HR:=hid (show Bx W2 (w.heap.size + 1) [vnil,vnil,vnil,vnil,vnil,vnil] by rw [hW2];have:=Bx.new (w.alloc (.cells #[.slice a0 ws.length c0,.slice a1 hs.length c1,.slice a2 ks.length c2,.slice a3 n3 c3,.slice a4 n4 c4,.slice a5 n5 c5] 106)) #[vnil,vnil,vnil,vnil,vnil,vnil] 106 (by simp);simpa using this)
 have HZ:=hid (show W2.heap.size = w.heap.size + 2 by rw [hW2];simp)
 have HBL:=hid (HW2.out.mono hB)
 go_enter Tryz.func105,Tryz.ntmps105
 go_upto_region 1 with fail
 rw [← hW2]
 clear hW2
 refine tm_region _ _ _ _ _ _ _ _ _ _ _ _ _ _ _ _ _ w.heap.size (w.heap.size + 1) B _ _ _ _ _ _ ws hs ks j3 j4 j5 D3 D4 D5 W2 HS.out HR.out (by omega) (by have:=HZ.out;omega) (by omega) (H0.out.below HBL.out) (H1.out.below HBL.out) (H2.out.below HBL.out) (K3.out.below HBL.out) E3.out (fun x hx => (I3.out x hx).below HBL.out) L3.out (K4.out.below HBL.out) E4.out (fun x hx => (I4.out x hx).below HBL.out) L4.out (K5.out.below HBL.out) E5.out (fun x hx => (I5.out x hx).below HBL.out) L5.out (by omega) (by omega) l2 ?_
 intro _ _ _ _ _ _ _ _ _ _ _ _ _ _ _ _ wz hP
 obtain ⟨b0,b1,b2,b3,b4,b5,hBx,o0,o1,o2,o3,o4,o5,ht⟩:=hP
 have hz:=HZ.out
 obtain ⟨⟨r0,r1,r2,r3,r4,r5⟩,_⟩:=hBx.six
 have OUT:=hid (show TlCP ws hs ks j3 j4 j5 w (.returned (.agg #[b0,b1,b2,b3,b4,b5])) wz from ⟨b0,b1,b2,b3,b4,b5,rfl,o0.weak (Rd.low HW2.out.size),o1.weak (Rd.low HW2.out.size),o2.weak (Rd.low HW2.out.size),o3.low HW2.out.size,o4.low HW2.out.size,o5.low HW2.out.size,HW2.out.trans (ht.below (by omega) (by omega))⟩)
 clear o0 o1 o2 o3 o4 o5 ht hBx
 unfold tmA
 go_wp2_with fail
 exact bodyPost_ret (results_c1 Tryz.results105 _ _ ⟨w.heap.size + 1,0,none⟩ (.agg #[b0,b1,b2,b3,b4,b5]) rfl (loadVar_tlm _ _ _ _ _ _ _ _ r0 r1 r2 r3 r4 r5)) rfl OUT.out
end Go.Proofs.YtenjbhbcacocjaaGreat
