/- CycState.copyOf of any bus: the drawn region of its stores (printed by wip/gen_cq.py). -/
import Derived.Test.YtenjbhbcacocjaaGreatGClInt
import Derived.Test.YtenjbhbcacocjaaGreatGY2
import Derived.Test.YtenjbhbcacocjaaGreatGXt
import Derived.Test.YtenjbhbcacocjaaGreatGCp1
import Derived.Test.YtenjbhbcacocjaaGreatGCp5
set_option linter.unusedVariables false
set_option linter.unusedSimpArgs false
namespace Go.Proofs.YtenjbhbcacocjaaGreat
open Go.RowKit
attribute [local go_sem ↓] Go.wp_at_zero Go.wp_at_succ
def cp10A (i0 i1 i2 i4 i5 i8 i9 i10 i11 i12 i13 i14 i15 i16 i17 i18 i19 i20 i21 i22 i23 i24 i25 i26 i27 i28 i29 i30 i31 i32 i33 i34 i35 i36 i37 i38 i39 i40 i41 i42 i43 i44 i45 i46 i47 i48 i49 i50 i51 i52 i53 i70 i71:Value) (g:Nat) (k:Nat) (gE:Nat) (u54 u55 u56 u57 u58 u59 u60 u61 u62 u63 u64 u65 u66 u67 u68 u69:Value):Act:={ tmps:=#[i0,i1,i2,.pointer (some ⟨g,0,none⟩),i4,i5,.int .i64 (k:Nat),.pointer (some ⟨gE,0,none⟩),i8,i9,i10,i11,i12,i13,i14,i15,i16,i17,i18,i19,i20,i21,i22,i23,i24,i25,i26,i27,i28,i29,i30,i31,i32,i33,i34,i35,i36,i37,i38,i39,i40,i41,i42,i43,i44,i45,i46,i47,i48,i49,i50,i51,i52,i53,u54,u55,u56,u57,u58,u59,u60,u61,u62,u63,u64,u65,u66,u67,u68,u69,i70,i71],defers:=[] }
def cp10I (i0 i1 i2 i4 i5 i8 i9 i10 i11 i12 i13 i14 i15 i16 i17 i18 i19 i20 i21 i22 i23 i24 i25 i26 i27 i28 i29 i30 i31 i32 i33 i34 i35 i36 i37 i38 i39 i40 i41 i42 i43 i44 i45 i46 i47 i48 i49 i50 i51 i52 i53 i70 i71:Value) (g:Nat) (k:Nat) (gE:Nat) (lo:Nat) (pb:Nat) (po:Nat) (pc:Nat) (B:Nat) (C:List Value) (c1:Value) (c2:Value) (qa:Option Addr) (qn:Nat) (qc:Nat) (oa:Option Addr) (on:Nat) (oc:Nat) (qs:List Jb) (js:List TJ) (D0:List TJV) (wq:World) (listed:Array Bool) (a:Act) (w':World):Prop :=
 ∃ u54 u55 u56 u57 u58 u59 u60 u61 u62 u63 u64 u65 u66 u67 u68 u69:Value,a = cp10A i0 i1 i2 i4 i5 i8 i9 i10 i11 i12 i13 i14 i15 i16 i17 i18 i19 i20 i21 i22 i23 i24 i25 i26 i27 i28 i29 i30 i31 i32 i33 i34 i35 i36 i37 i38 i39 i40 i41 i42 i43 i44 i45 i46 i47 i48 i49 i50 i51 i52 i53 i70 i71 g k gE u54 u55 u56 u57 u58 u59 u60 u61 u62 u63 u64 u65 u66 u67 u68 u69 ∧
   (listed.getD 0 false = true → u54 = .pointer (some ⟨g,3,none⟩)) ∧
   (listed.getD 1 false = true → u55 = .slice (some ⟨pb,po,none⟩) 4 pc) ∧
   (listed.getD 2 false = true → u56 = .int .i64 (k:Nat)) ∧
   (listed.getD 3 false = true → u57 = .pointer (some ⟨g,3,none⟩)) ∧
   (listed.getD 4 false = true → u58 = .slice (some ⟨pb,po,none⟩) 4 pc) ∧
   (listed.getD 5 false = true → u59 = .int .i64 (k:Nat)) ∧
   (listed.getD 6 false = true → u60 = .pointer (some ⟨gE,0,none⟩)) ∧
   (listed.getD 7 false = true → u61 = .slice qa qn qc) ∧
   (listed.getD 8 false = true → Owns w' wq.heap.size 64 3 jbRow u62 qs) ∧
   (listed.getD 9 false = true → u63 = .pointer (some ⟨gE,1,none⟩)) ∧
   (listed.getD 10 false = true → u64 = .slice oa on oc) ∧
   (listed.getD 11 false = true → ∃ m,∃ D1:List TJV,wq.heap.size ≤ m ∧ Owns w' m 88 5 tjRow u65 D1 ∧ D1.map (·.1) = js ∧ (∀ x ∈ D1,IntsD w' (fun b => m ≤ b ∧ b < w'.heap.size ∧ u65.ownBlock ≠ some b) x.2 x.1.rsp.data) ∧ Low m u62) ∧
   (listed.getD 12 false = true → u66 = .pointer (some ⟨pb,po + k * 3,none⟩)) ∧
   (listed.getD 13 false = true → u67 = .pointer (some ⟨pb,po + k * 3,none⟩)) ∧
   (listed.getD 14 false = true → listed.getD 17 false = false → OwnR w' lo 62 3 (.slice (some ⟨pb,po,none⟩) 4 pc) 4 (C.set (k * 3) u62)) ∧
   (listed.getD 15 false = true → u68 = .pointer (some ⟨pb,po + k * 3,none⟩)) ∧
   (listed.getD 16 false = true → u69 = .pointer (some ⟨pb,po + k * 3 + 1,none⟩)) ∧
   (listed.getD 17 false = true → OwnR w' lo 62 3 (.slice (some ⟨pb,po,none⟩) 4 pc) 4 ((C.set (k * 3) u62).set (k * 3 + 1) u65)) ∧
   (listed.getD 14 false = false → OwnR w' lo 62 3 (.slice (some ⟨pb,po,none⟩) 4 pc) 4 C) ∧
   Touch pb wq w'
noncomputable def cp10Code:Code:=(Tryz.f46.body.bind (regIn2 10)).getD .skip
def CrP (lo pb po pc k:Nat) (C:List Value) (qs:List Jb) (js:List TJ) (wq w':World):Prop:=∃ u v m,∃ D1:List TJV,Owns w' wq.heap.size 64 3 jbRow u qs ∧ wq.heap.size ≤ m ∧ Owns w' m 88 5 tjRow v D1 ∧ D1.map (·.1) = js ∧ (∀ x ∈ D1,IntsD w' (fun b => m ≤ b ∧ b < w'.heap.size ∧ v.ownBlock ≠ some b) x.2 x.1.rsp.data) ∧ Low m u ∧ OwnR w' lo 62 3 (.slice (some ⟨pb,po,none⟩) 4 pc) 4 ((C.set (k * 3) u).set (k * 3 + 1) v) ∧ Touch pb wq w'
set_option maxRecDepth 100000 in
set_option maxHeartbeats 16000000 in
theorem cp10_region (i0 i1 i2 i4 i5 i8 i9 i10 i11 i12 i13 i14 i15 i16 i17 i18 i19 i20 i21 i22 i23 i24 i25 i26 i27 i28 i29 i30 i31 i32 i33 i34 i35 i36 i37 i38 i39 i40 i41 i42 i43 i44 i45 i46 i47 i48 i49 i50 i51 i52 i53 i70 i71 j54 j55 j56 j57 j58 j59 j60 j61 j62 j63 j64 j65 j66 j67 j68 j69:Value) (g:Nat) (k:Nat) (gE:Nat) (lo:Nat) (pb:Nat) (po:Nat) (pc:Nat) (B:Nat) (C:List Value) (c1:Value) (c2:Value) (qa:Option Addr) (qn:Nat) (qc:Nat) (oa:Option Addr) (on:Nat) (oc:Nat) (qs:List Jb) (js:List TJ) (D0:List TJV) (wq:World)
  (hgp:g ≠ pb) (hgl:g < wq.heap.size) (hG:wq.cell? ⟨g,3,none⟩ = some (.slice (some ⟨pb,po,none⟩) 4 pc)) (hpl:pb < wq.heap.size) (hB:B ≤ pb) (hBs:B ≤ wq.heap.size) (hkn:k < 4) (hep:gE ≠ pb) (hel:gE < wq.heap.size) (hO:OwnR wq lo 62 3 (.slice (some ⟨pb,po,none⟩) 4 pc) 4 C) (hC1:C[k * 3]? = some c1) (hC2:C[k * 3 + 1]? = some c2) (hE0:wq.cell? ⟨gE,0,none⟩ = some (.slice qa qn qc)) (hE1:wq.cell? ⟨gE,1,none⟩ = some (.slice oa on oc)) (hQ:Jbs wq B (.slice qa qn qc) qs) (hJ1:Arr wq B 5 (.slice oa on oc) (D0.map tjRow)) (hJ2:D0.map (·.1) = js) (hJ3:∀ x ∈ D0,Ints wq B x.2 x.1.rsp.data) (hl1:qs.length ≤ 1048576) (hl5:D0.length ≤ 1000) (hl6:∀ x ∈ D0,x.1.rsp.data.length ≤ 1000)
  {Q:Exit → Act → World → Prop}
  (hK:∀ (u54 u55 u56 u57 u58 u59 u60 u61 u62 u63 u64 u65 u66 u67 u68 u69:Value) w', CrP lo pb po pc k C qs js wq w' → Q .normal (cp10A i0 i1 i2 i4 i5 i8 i9 i10 i11 i12 i13 i14 i15 i16 i17 i18 i19 i20 i21 i22 i23 i24 i25 i26 i27 i28 i29 i30 i31 i32 i33 i34 i35 i36 i37 i38 i39 i40 i41 i42 i43 i44 i45 i46 i47 i48 i49 i50 i51 i52 i53 i70 i71 g k gE u54 u55 u56 u57 u58 u59 u60 u61 u62 u63 u64 u65 u66 u67 u68 u69) w'):cp10Code.wp Tryz.prog Q (cp10A i0 i1 i2 i4 i5 i8 i9 i10 i11 i12 i13 i14 i15 i16 i17 i18 i19 i20 i21 i22 i23 i24 i25 i26 i27 i28 i29 i30 i31 i32 i33 i34 i35 i36 i37 i38 i39 i40 i41 i42 i43 i44 i45 i46 i47 i48 i49 i50 i51 i52 i53 i70 i71 g k gE j54 j55 j56 j57 j58 j59 j60 j61 j62 j63 j64 j65 j66 j67 j68 j69) wq:=by
 conv => arg 2;whnf
 refine wp_region_inv2 (cp10I i0 i1 i2 i4 i5 i8 i9 i10 i11 i12 i13 i14 i15 i16 i17 i18 i19 i20 i21 i22 i23 i24 i25 i26 i27 i28 i29 i30 i31 i32 i33 i34 i35 i36 i37 i38 i39 i40 i41 i42 i43 i44 i45 i46 i47 i48 i49 i50 i51 i52 i53 i70 i71 g k gE lo pb po pc B C c1 c2 qa qn qc oa on oc qs js D0 wq) (by kernel_rfl) (by kernel_rfl) ?_ ?_ ?_
 ·exact ⟨_,_,_,_,_,_,_,_,_,_,_,_,_,_,_,_,rfl,(fun h => absurd h (by rw [getD_replicate_false];simp)),(fun h => absurd h (by rw [getD_replicate_false];simp)),(fun h => absurd h (by rw [getD_replicate_false];simp)),(fun h => absurd h (by rw [getD_replicate_false];simp)),(fun h => absurd h (by rw [getD_replicate_false];simp)),(fun h => absurd h (by rw [getD_replicate_false];simp)),(fun h => absurd h (by rw [getD_replicate_false];simp)),(fun h => absurd h (by rw [getD_replicate_false];simp)),(fun h => absurd h (by rw [getD_replicate_false];simp)),(fun h => absurd h (by rw [getD_replicate_false];simp)),(fun h => absurd h (by rw [getD_replicate_false];simp)),(fun h => absurd h (by rw [getD_replicate_false];simp)),(fun h => absurd h (by rw [getD_replicate_false];simp)),(fun h => absurd h (by rw [getD_replicate_false];simp)),(fun h _ => absurd h (by rw [getD_replicate_false];simp)),(fun h => absurd h (by rw [getD_replicate_false];simp)),(fun h => absurd h (by rw [getD_replicate_false];simp)),(fun h => absurd h (by rw [getD_replicate_false];simp)),(fun _ => hO),(Touch.refl _ _).drewd⟩
 ·intro listed a w' i o hI hsz ho hl he hcl
  have hi:i < 18:=(Array.getElem?_eq_some_iff.1 ho).1
  have e:i = 0 ∨ i = 1 ∨ i = 2 ∨ i = 3 ∨ i = 4 ∨ i = 5 ∨ i = 6 ∨ i = 7 ∨ i = 8 ∨ i = 9 ∨ i = 10 ∨ i = 11 ∨ i = 12 ∨ i = 13 ∨ i = 14 ∨ i = 15 ∨ i = 16 ∨ i = 17:=by omega
  clear hi
  rcases e with rfl | rfl | rfl | rfl | rfl | rfl | rfl | rfl | rfl | rfl | rfl | rfl | rfl | rfl | rfl | rfl | rfl | rfl
  all_goals (have ho2:=ho;obtain rfl:=Option.some.inj ho2.symm;clear ho2)
  ·as_aux_lemma =>
    obtain ⟨u54,u55,u56,u57,u58,u59,u60,u61,u62,u63,u64,u65,u66,u67,u68,u69,rfl,F0,F1,F2,F3,F4,F5,F6,F7,F8,F9,F10,F11,F12,F13,F14,F15,F16,F17,N14,hx⟩:=hI
    refine wpOp_stepx ho rfl (fun K hK => ?_)
    unfold cp10A
    go_simp
    exact hK _ _ ⟨_,_,_,_,_,_,_,_,_,_,_,_,_,_,_,_,rfl,fun _ => rfl,cy F1 rfl,cy F2 rfl,cy F3 rfl,cy F4 rfl,cy F5 rfl,cy F6 rfl,cy F7 rfl,cy F8 rfl,cy F9 rfl,cy F10 rfl,cy F11 rfl,cy F12 rfl,cy F13 rfl,cyu F14 rfl rfl,cy F15 rfl,cy F16 rfl,cy F17 rfl,cy N14 rfl,hx⟩
  ·as_aux_lemma =>
    obtain ⟨u54,u55,u56,u57,u58,u59,u60,u61,u62,u63,u64,u65,u66,u67,u68,u69,rfl,F0,F1,F2,F3,F4,F5,F6,F7,F8,F9,F10,F11,F12,F13,F14,F15,F16,F17,N14,hx⟩:=hI
    have l0:=he ⟨0,.data⟩ (by simp) rfl
    have e:=F0 l0;subst e
    have q:=(hx.cell (p:=⟨g,3,none⟩) hgp hgl).trans hG
    refine wpOp_stepx ho rfl (fun K hK => ?_)
    unfold cp10A
    go_simp
    exact hK _ _ ⟨_,_,_,_,_,_,_,_,_,_,_,_,_,_,_,_,rfl,cy F0 rfl,fun _ => rfl,cy F2 rfl,cy F3 rfl,cy F4 rfl,cy F5 rfl,cy F6 rfl,cy F7 rfl,cy F8 rfl,cy F9 rfl,cy F10 rfl,cy F11 rfl,cy F12 rfl,cy F13 rfl,cyu F14 rfl rfl,cy F15 rfl,cy F16 rfl,cy F17 rfl,cy N14 rfl,hx⟩
  ·as_aux_lemma =>
    obtain ⟨u54,u55,u56,u57,u58,u59,u60,u61,u62,u63,u64,u65,u66,u67,u68,u69,rfl,F0,F1,F2,F3,F4,F5,F6,F7,F8,F9,F10,F11,F12,F13,F14,F15,F16,F17,N14,hx⟩:=hI
    refine wpOp_stepx ho rfl (fun K hK => ?_)
    unfold cp10A
    go_simp
    exact hK _ _ ⟨_,_,_,_,_,_,_,_,_,_,_,_,_,_,_,_,rfl,cy F0 rfl,cy F1 rfl,fun _ => rfl,cy F3 rfl,cy F4 rfl,cy F5 rfl,cy F6 rfl,cy F7 rfl,cy F8 rfl,cy F9 rfl,cy F10 rfl,cy F11 rfl,cy F12 rfl,cy F13 rfl,cyu F14 rfl rfl,cy F15 rfl,cy F16 rfl,cy F17 rfl,cy N14 rfl,hx⟩
  ·as_aux_lemma =>
    obtain ⟨u54,u55,u56,u57,u58,u59,u60,u61,u62,u63,u64,u65,u66,u67,u68,u69,rfl,F0,F1,F2,F3,F4,F5,F6,F7,F8,F9,F10,F11,F12,F13,F14,F15,F16,F17,N14,hx⟩:=hI
    refine wpOp_stepx ho rfl (fun K hK => ?_)
    unfold cp10A
    go_simp
    exact hK _ _ ⟨_,_,_,_,_,_,_,_,_,_,_,_,_,_,_,_,rfl,cy F0 rfl,cy F1 rfl,cy F2 rfl,fun _ => rfl,cy F4 rfl,cy F5 rfl,cy F6 rfl,cy F7 rfl,cy F8 rfl,cy F9 rfl,cy F10 rfl,cy F11 rfl,cy F12 rfl,cy F13 rfl,cyu F14 rfl rfl,cy F15 rfl,cy F16 rfl,cy F17 rfl,cy N14 rfl,hx⟩
  ·as_aux_lemma =>
    obtain ⟨u54,u55,u56,u57,u58,u59,u60,u61,u62,u63,u64,u65,u66,u67,u68,u69,rfl,F0,F1,F2,F3,F4,F5,F6,F7,F8,F9,F10,F11,F12,F13,F14,F15,F16,F17,N14,hx⟩:=hI
    have l3:=he ⟨3,.data⟩ (by simp) rfl
    have e:=F3 l3;subst e
    have q:=(hx.cell (p:=⟨g,3,none⟩) hgp hgl).trans hG
    refine wpOp_stepx ho rfl (fun K hK => ?_)
    unfold cp10A
    go_simp
    exact hK _ _ ⟨_,_,_,_,_,_,_,_,_,_,_,_,_,_,_,_,rfl,cy F0 rfl,cy F1 rfl,cy F2 rfl,cy F3 rfl,fun _ => rfl,cy F5 rfl,cy F6 rfl,cy F7 rfl,cy F8 rfl,cy F9 rfl,cy F10 rfl,cy F11 rfl,cy F12 rfl,cy F13 rfl,cyu F14 rfl rfl,cy F15 rfl,cy F16 rfl,cy F17 rfl,cy N14 rfl,hx⟩
  ·as_aux_lemma =>
    obtain ⟨u54,u55,u56,u57,u58,u59,u60,u61,u62,u63,u64,u65,u66,u67,u68,u69,rfl,F0,F1,F2,F3,F4,F5,F6,F7,F8,F9,F10,F11,F12,F13,F14,F15,F16,F17,N14,hx⟩:=hI
    refine wpOp_stepx ho rfl (fun K hK => ?_)
    unfold cp10A
    go_simp
    exact hK _ _ ⟨_,_,_,_,_,_,_,_,_,_,_,_,_,_,_,_,rfl,cy F0 rfl,cy F1 rfl,cy F2 rfl,cy F3 rfl,cy F4 rfl,fun _ => rfl,cy F6 rfl,cy F7 rfl,cy F8 rfl,cy F9 rfl,cy F10 rfl,cy F11 rfl,cy F12 rfl,cy F13 rfl,cyu F14 rfl rfl,cy F15 rfl,cy F16 rfl,cy F17 rfl,cy N14 rfl,hx⟩
  ·as_aux_lemma =>
    obtain ⟨u54,u55,u56,u57,u58,u59,u60,u61,u62,u63,u64,u65,u66,u67,u68,u69,rfl,F0,F1,F2,F3,F4,F5,F6,F7,F8,F9,F10,F11,F12,F13,F14,F15,F16,F17,N14,hx⟩:=hI
    refine wpOp_stepx ho rfl (fun K hK => ?_)
    unfold cp10A
    go_simp
    exact hK _ _ ⟨_,_,_,_,_,_,_,_,_,_,_,_,_,_,_,_,rfl,cy F0 rfl,cy F1 rfl,cy F2 rfl,cy F3 rfl,cy F4 rfl,cy F5 rfl,fun _ => rfl,cy F7 rfl,cy F8 rfl,cy F9 rfl,cy F10 rfl,cy F11 rfl,cy F12 rfl,cy F13 rfl,cyu F14 rfl rfl,cy F15 rfl,cy F16 rfl,cy F17 rfl,cy N14 rfl,hx⟩
  ·as_aux_lemma =>
    obtain ⟨u54,u55,u56,u57,u58,u59,u60,u61,u62,u63,u64,u65,u66,u67,u68,u69,rfl,F0,F1,F2,F3,F4,F5,F6,F7,F8,F9,F10,F11,F12,F13,F14,F15,F16,F17,N14,hx⟩:=hI
    have l6:=he ⟨6,.data⟩ (by simp) rfl
    have e:=F6 l6;subst e
    have q:=(hx.cell (p:=⟨gE,0,none⟩) hep hel).trans hE0
    refine wpOp_stepx ho rfl (fun K hK => ?_)
    unfold cp10A
    go_simp
    exact hK _ _ ⟨_,_,_,_,_,_,_,_,_,_,_,_,_,_,_,_,rfl,cy F0 rfl,cy F1 rfl,cy F2 rfl,cy F3 rfl,cy F4 rfl,cy F5 rfl,cy F6 rfl,fun _ => rfl,cy F8 rfl,cy F9 rfl,cy F10 rfl,cy F11 rfl,cy F12 rfl,cy F13 rfl,cyu F14 rfl rfl,cy F15 rfl,cy F16 rfl,cy F17 rfl,cy N14 rfl,hx⟩
  ·as_aux_lemma =>
    obtain ⟨u54,u55,u56,u57,u58,u59,u60,u61,u62,u63,u64,u65,u66,u67,u68,u69,rfl,F0,F1,F2,F3,F4,F5,F6,F7,F8,F9,F10,F11,F12,F13,F14,F15,F16,F17,N14,hx⟩:=hI
    have l7:=he ⟨7,.data⟩ (by simp) rfl
    have e:=F7 l7;subst e
    have hQx:Arr w' B 3 (.slice qa qn qc) (qs.map jbRow):=hQ.below (hx.below hB hBs)
    refine wpOp_stepx ho rfl (fun K hK => ?_)
    unfold cp10A
    go_simp
    (with_reducible refine (clone_CycJob jbRow (fun _ => rfl) jbRow_one _ qs B w' hQx (by omega)).mono ?_)
    rintro e w'' ⟨q,rfl,o1,hb1⟩
    go_wp2_with fail
    exact ⟨_,_,_,_,_,_,_,_,_,_,_,_,_,_,_,_,rfl,cy F0 rfl,cy F1 rfl,cy F2 rfl,cy F3 rfl,cy F4 rfl,cy F5 rfl,cy F6 rfl,fun _ => rfl,fun _ => o1.rebase hx.size,cy F9 rfl,cy F10 rfl,fun hj => absurd (hcl 11 _ rfl (by rwa [sgx (by decide)] at hj) ⟨8,.chain⟩ (by simp) rfl) (by rw [getD_both hl];simp),cy F12 rfl,cy F13 rfl,fun hj hu => absurd (hcl 14 _ rfl (by rwa [sgx (by decide)] at hj) ⟨8,.data⟩ (by simp) rfl) (by rw [getD_both hl];simp),cy F15 rfl,cy F16 rfl,fun hj => absurd (hcl 14 _ rfl (hcl 17 _ rfl (by rwa [sgx (by decide)] at hj) ⟨14,.chain⟩ (by simp) rfl) ⟨8,.data⟩ (by simp) rfl) (by rw [getD_both hl];simp),fun hj => OwnR.below (cy N14 rfl hj) hb1 (fun k hk => (OwnR.lt (cy N14 rfl hj) k hk).2),hx.trans (Touch.of_below hb1 (Nat.le_refl _))⟩
  ·as_aux_lemma =>
    obtain ⟨u54,u55,u56,u57,u58,u59,u60,u61,u62,u63,u64,u65,u66,u67,u68,u69,rfl,F0,F1,F2,F3,F4,F5,F6,F7,F8,F9,F10,F11,F12,F13,F14,F15,F16,F17,N14,hx⟩:=hI
    refine wpOp_stepx ho rfl (fun K hK => ?_)
    unfold cp10A
    go_simp
    exact hK _ _ ⟨_,_,_,_,_,_,_,_,_,_,_,_,_,_,_,_,rfl,cy F0 rfl,cy F1 rfl,cy F2 rfl,cy F3 rfl,cy F4 rfl,cy F5 rfl,cy F6 rfl,cy F7 rfl,cy F8 rfl,fun _ => rfl,cy F10 rfl,cy F11 rfl,cy F12 rfl,cy F13 rfl,cyu F14 rfl rfl,cy F15 rfl,cy F16 rfl,cy F17 rfl,cy N14 rfl,hx⟩
  ·as_aux_lemma =>
    obtain ⟨u54,u55,u56,u57,u58,u59,u60,u61,u62,u63,u64,u65,u66,u67,u68,u69,rfl,F0,F1,F2,F3,F4,F5,F6,F7,F8,F9,F10,F11,F12,F13,F14,F15,F16,F17,N14,hx⟩:=hI
    have l9:=he ⟨9,.data⟩ (by simp) rfl
    have e:=F9 l9;subst e
    have q:=(hx.cell (p:=⟨gE,1,none⟩) hep hel).trans hE1
    refine wpOp_stepx ho rfl (fun K hK => ?_)
    unfold cp10A
    go_simp
    exact hK _ _ ⟨_,_,_,_,_,_,_,_,_,_,_,_,_,_,_,_,rfl,cy F0 rfl,cy F1 rfl,cy F2 rfl,cy F3 rfl,cy F4 rfl,cy F5 rfl,cy F6 rfl,cy F7 rfl,cy F8 rfl,cy F9 rfl,fun _ => rfl,cy F11 rfl,cy F12 rfl,cy F13 rfl,cyu F14 rfl rfl,cy F15 rfl,cy F16 rfl,cy F17 rfl,cy N14 rfl,hx⟩
  ·as_aux_lemma =>
    obtain ⟨u54,u55,u56,u57,u58,u59,u60,u61,u62,u63,u64,u65,u66,u67,u68,u69,rfl,F0,F1,F2,F3,F4,F5,F6,F7,F8,F9,F10,F11,F12,F13,F14,F15,F16,F17,N14,hx⟩:=hI
    have l10:=he ⟨10,.data⟩ (by simp) rfl
    have l8:=he ⟨8,.chain⟩ (by simp) rfl
    have e:=F10 l10;subst e
    have o8:=F8 l8
    refine wpOp_stepx ho rfl (fun K hK => ?_)
    unfold cp10A
    go_simp
    (with_reducible refine (copyJobs_any D0 _ B w' (hJ1.below (hx.below hB hBs)) (fun x hx2 => (hJ3 x hx2).below (hx.below hB hBs)) (Nat.le_trans hBs hx.size) hl5 hl6).mono ?_)
    rintro e w'' ⟨q,D1,rfl,o1,hm1,hd1,hb1⟩
    go_wp2_with fail
    exact ⟨_,_,_,_,_,_,_,_,_,_,_,_,_,_,_,_,rfl,cy F0 rfl,cy F1 rfl,cy F2 rfl,cy F3 rfl,cy F4 rfl,cy F5 rfl,cy F6 rfl,cy F7 rfl,fun hj => OwnR.below (cy F8 rfl hj) hb1 (fun k hk => (OwnR.lt (cy F8 rfl hj) k hk).2),cy F9 rfl,fun _ => rfl,fun _ => ⟨w'.heap.size,D1,hx.size,o1,hm1.trans hJ2,hd1,(fun k hk => (OwnR.lt o8 k hk).2)⟩,cy F12 rfl,cy F13 rfl,fun hj hu => absurd (hcl 14 _ rfl (by rwa [sgx (by decide)] at hj) ⟨11,.chain⟩ (by simp) rfl) (by rw [getD_both hl];simp),cy F15 rfl,cy F16 rfl,fun hj => absurd (hcl 17 _ rfl (by rwa [sgx (by decide)] at hj) ⟨11,.data⟩ (by simp) rfl) (by rw [getD_both hl];simp),fun hj => OwnR.below (cy N14 rfl hj) hb1 (fun k hk => (OwnR.lt (cy N14 rfl hj) k hk).2),hx.trans (Touch.of_below hb1 (Nat.le_refl _))⟩
  ·as_aux_lemma =>
    obtain ⟨u54,u55,u56,u57,u58,u59,u60,u61,u62,u63,u64,u65,u66,u67,u68,u69,rfl,F0,F1,F2,F3,F4,F5,F6,F7,F8,F9,F10,F11,F12,F13,F14,F15,F16,F17,N14,hx⟩:=hI
    have l1:=he ⟨1,.data⟩ (by simp) rfl
    have l2:=he ⟨2,.data⟩ (by simp) rfl
    have e:=F1 l1;subst e
    have e:=F2 l2;subst e
    have hkx:=hkn
    have hki:(k:Int) < 4:=by omega
    refine wpOp_stepx ho rfl (fun K hK => ?_)
    unfold cp10A
    go_simp
    exact hK _ _ ⟨_,_,_,_,_,_,_,_,_,_,_,_,_,_,_,_,rfl,cy F0 rfl,cy F1 rfl,cy F2 rfl,cy F3 rfl,cy F4 rfl,cy F5 rfl,cy F6 rfl,cy F7 rfl,cy F8 rfl,cy F9 rfl,cy F10 rfl,cy F11 rfl,fun _ => rfl,cy F13 rfl,cyu F14 rfl rfl,cy F15 rfl,cy F16 rfl,cy F17 rfl,cy N14 rfl,hx⟩
  ·as_aux_lemma =>
    obtain ⟨u54,u55,u56,u57,u58,u59,u60,u61,u62,u63,u64,u65,u66,u67,u68,u69,rfl,F0,F1,F2,F3,F4,F5,F6,F7,F8,F9,F10,F11,F12,F13,F14,F15,F16,F17,N14,hx⟩:=hI
    have l12:=he ⟨12,.data⟩ (by simp) rfl
    have e:=F12 l12;subst e
    refine wpOp_stepx ho rfl (fun K hK => ?_)
    unfold cp10A
    go_simp
    exact hK _ _ ⟨_,_,_,_,_,_,_,_,_,_,_,_,_,_,_,_,rfl,cy F0 rfl,cy F1 rfl,cy F2 rfl,cy F3 rfl,cy F4 rfl,cy F5 rfl,cy F6 rfl,cy F7 rfl,cy F8 rfl,cy F9 rfl,cy F10 rfl,cy F11 rfl,cy F12 rfl,fun _ => rfl,cyu F14 rfl rfl,cy F15 rfl,cy F16 rfl,cy F17 rfl,cy N14 rfl,hx⟩
  ·as_aux_lemma =>
    obtain ⟨u54,u55,u56,u57,u58,u59,u60,u61,u62,u63,u64,u65,u66,u67,u68,u69,rfl,F0,F1,F2,F3,F4,F5,F6,F7,F8,F9,F10,F11,F12,F13,F14,F15,F16,F17,N14,hx⟩:=hI
    have l13:=he ⟨13,.data⟩ (by simp) rfl
    have l8:=he ⟨8,.data⟩ (by simp) rfl
    have l11:=he ⟨11,.chain⟩ (by simp) rfl
    have e:=F13 l13;subst e
    have own:=N14 (getD_both hl)
    have o8:=F8 l8
    obtain ⟨m,D1,m1,o11,hm11,hd11,r11⟩:=F11 l11
    have HM11:=hid hm11;have HD11:=hid hd11;have R11:=hid r11
    clear hm11 hd11 r11
    obtain ⟨y1,y3,e1,_,_⟩:=o8.shape
    subst e1
    have q:=(OwnR.get own (k * 3) (by omega)).trans (hC1)
    have q2:=OwnR.unfrozen own (po + k * 3)
    have hput:=OwnR.put own (k * 3) (by omega) (.slice y1 qs.length y3)
    have HPUT:=hid hput
    clear hput
    refine wpOp_stepx ho rfl (fun K hK => ?_)
    unfold cp10A
    go_simp
    exact hK _ _ ⟨_,_,_,_,_,_,_,_,_,_,_,_,_,_,_,_,rfl,cy F0 rfl,cy F1 rfl,cy F2 rfl,cy F3 rfl,cy F4 rfl,cy F5 rfl,cy F6 rfl,cy F7 rfl,fun hj => Owns.tchC o8 (Touch.setCell ..) (fun e => by have:=(OwnR.lt o8 pb e).1;omega),cy F9 rfl,cy F10 rfl,fun hj => ⟨m,D1,m1,Owns.tchC o11 (Touch.setCell ..) (fun e => by have:=(OwnR.lt o11 pb e).1;omega),HM11.out,fun x hx2 => ((HD11.out x hx2).kept fun b hb => Below.heap_setCell _ _ _ _ (show b ≠ pb by have:=hb.1;omega)).weak fun b hb => ⟨hb.1,by simpa using hb.2.1,hb.2.2⟩,R11.out⟩,cy F12 rfl,cy F13 rfl,fun _ _ => HPUT.out,cy F15 rfl,cy F16 rfl,fun hj => absurd (hcl 17 _ rfl (by rwa [sgx (by decide)] at hj) ⟨14,.chain⟩ (by simp) rfl) (by rw [getD_both hl];simp),fun hj => absurd hj (by rw [sgix hl];simp),hx.trans (Touch.setCell ..)⟩
  ·as_aux_lemma =>
    obtain ⟨u54,u55,u56,u57,u58,u59,u60,u61,u62,u63,u64,u65,u66,u67,u68,u69,rfl,F0,F1,F2,F3,F4,F5,F6,F7,F8,F9,F10,F11,F12,F13,F14,F15,F16,F17,N14,hx⟩:=hI
    have l4:=he ⟨4,.data⟩ (by simp) rfl
    have l5:=he ⟨5,.data⟩ (by simp) rfl
    have e:=F4 l4;subst e
    have e:=F5 l5;subst e
    have hkx:=hkn
    have hki:(k:Int) < 4:=by omega
    refine wpOp_stepx ho rfl (fun K hK => ?_)
    unfold cp10A
    go_simp
    exact hK _ _ ⟨_,_,_,_,_,_,_,_,_,_,_,_,_,_,_,_,rfl,cy F0 rfl,cy F1 rfl,cy F2 rfl,cy F3 rfl,cy F4 rfl,cy F5 rfl,cy F6 rfl,cy F7 rfl,cy F8 rfl,cy F9 rfl,cy F10 rfl,cy F11 rfl,cy F12 rfl,cy F13 rfl,cyu F14 rfl rfl,fun _ => rfl,cy F16 rfl,cy F17 rfl,cy N14 rfl,hx⟩
  ·as_aux_lemma =>
    obtain ⟨u54,u55,u56,u57,u58,u59,u60,u61,u62,u63,u64,u65,u66,u67,u68,u69,rfl,F0,F1,F2,F3,F4,F5,F6,F7,F8,F9,F10,F11,F12,F13,F14,F15,F16,F17,N14,hx⟩:=hI
    have l15:=he ⟨15,.data⟩ (by simp) rfl
    have e:=F15 l15;subst e
    refine wpOp_stepx ho rfl (fun K hK => ?_)
    unfold cp10A
    go_simp
    exact hK _ _ ⟨_,_,_,_,_,_,_,_,_,_,_,_,_,_,_,_,rfl,cy F0 rfl,cy F1 rfl,cy F2 rfl,cy F3 rfl,cy F4 rfl,cy F5 rfl,cy F6 rfl,cy F7 rfl,cy F8 rfl,cy F9 rfl,cy F10 rfl,cy F11 rfl,cy F12 rfl,cy F13 rfl,cyu F14 rfl rfl,cy F15 rfl,fun _ => rfl,cy F17 rfl,cy N14 rfl,hx⟩
  ·as_aux_lemma =>
    obtain ⟨u54,u55,u56,u57,u58,u59,u60,u61,u62,u63,u64,u65,u66,u67,u68,u69,rfl,F0,F1,F2,F3,F4,F5,F6,F7,F8,F9,F10,F11,F12,F13,F14,F15,F16,F17,N14,hx⟩:=hI
    have l16:=he ⟨16,.data⟩ (by simp) rfl
    have l11:=he ⟨11,.data⟩ (by simp) rfl
    have l14:=he ⟨14,.chain⟩ (by simp) rfl
    have e:=F16 l16;subst e
    have own:=F14 l14 (getD_both hl)
    have o8:=F8 (hcl 14 _ rfl l14 ⟨8,.data⟩ (by simp) rfl)
    obtain ⟨m,D1,m1,o11,hm11,hd11,r11⟩:=F11 l11
    have HM11:=hid hm11;have HD11:=hid hd11;have R11:=hid r11
    clear hm11 hd11 r11
    obtain ⟨y1,y3,e1,_,_⟩:=o11.shape
    subst e1
    have q:=(OwnR.get own (k * 3 + 1) (by omega)).trans ((show (C.set (k * 3) _)[k * 3 + 1]? = some c2 by rw [List.getElem?_set,if_neg (by omega)];exact hC2))
    have q2:=OwnR.unfrozen own (po + (k * 3 + 1))
    have hput:=OwnR.put own (k * 3 + 1) (by omega) (.slice y1 D1.length y3)
    rw [← Nat.add_assoc] at q q2 hput
    have HPUT:=hid hput
    clear hput
    refine wpOp_stepx ho rfl (fun K hK => ?_)
    unfold cp10A
    go_simp
    exact hK _ _ ⟨_,_,_,_,_,_,_,_,_,_,_,_,_,_,_,_,rfl,cy F0 rfl,cy F1 rfl,cy F2 rfl,cy F3 rfl,cy F4 rfl,cy F5 rfl,cy F6 rfl,cy F7 rfl,fun hj => Owns.tchC o8 (Touch.setCell ..) (fun e => by have:=(OwnR.lt o8 pb e).1;omega),cy F9 rfl,cy F10 rfl,fun hj => ⟨m,D1,m1,Owns.tchC o11 (Touch.setCell ..) (fun e => by have:=(OwnR.lt o11 pb e).1;omega),HM11.out,fun x hx2 => ((HD11.out x hx2).kept fun b hb => Below.heap_setCell _ _ _ _ (show b ≠ pb by have:=hb.1;omega)).weak fun b hb => ⟨hb.1,by simpa using hb.2.1,hb.2.2⟩,R11.out⟩,cy F12 rfl,cy F13 rfl,fun _ hu => absurd hu (by rw [sgix hl];simp),cy F15 rfl,cy F16 rfl,fun _ => HPUT.out,fun hj => absurd l14 (by rw [sgx (by decide)] at hj;rw [hj];simp),hx.trans (Touch.setCell ..)⟩
 ·intro listed a w' hI hd
  obtain ⟨u54,u55,u56,u57,u58,u59,u60,u61,u62,u63,u64,u65,u66,u67,u68,u69,rfl,F0,F1,F2,F3,F4,F5,F6,F7,F8,F9,F10,F11,F12,F13,F14,F15,F16,F17,N14,hx⟩:=hI
  have o8:=F8 (hd 8 (by show 8 < 18;omega))
  obtain ⟨m,D1,m1,o11,hm11,hd11,r11⟩:=F11 (hd 11 (by show 11 < 18;omega))
  exact hK _ _ _ _ _ _ _ _ _ _ _ _ _ _ _ _ w' ⟨_,_,m,D1,o8,m1,o11,hm11,hd11,r11,F17 (hd 17 (by show 17 < 18;omega)),hx⟩
end Go.Proofs.YtenjbhbcacocjaaGreat
