/- A bus while it is copied: the ports below i, and the stores below j, have their own lists (CpM). -/
import Derived.Test.YthnlalffjepdaaaGreatGFv
import Derived.Test.YthnlalffjepdaaaGreatGSa0
import Derived.Test.YthnlalffjepdaaaGreatGDr3
import Derived.Test.YthnlalffjepdaaaGreatGCv
import Derived.Test.YthnlalffjepdaaaGreatGCp5
set_option linter.unusedVariables false
set_option linter.unusedSimpArgs false
namespace Go.Proofs.YthnlalffjepdaaaGreat
open Go.RowKit
attribute [local go_sem ↓] Go.wp_at_zero Go.wp_at_succ
def cp10A (i0 i1 i2 i4 i5 i8 i9 i10 i11 i12 i13 i14 i15 i16 i17 i18 i19 i20 i21 i22 i23 i24 i25 i26 i27 i28 i29 i30 i31 i32 i33 i34 i35 i36 i37 i38 i39 i40 i41 i42 i43 i44 i45 i46 i47 i48 i49 i50 i51 i52 i53 i70 i71:Value) (g:Nat) (k:Nat) (gE:Nat) (u54 u55 u56 u57 u58 u59 u60 u61 u62 u63 u64 u65 u66 u67 u68 u69:Value):Act:={ tmps:=#[i0,i1,i2,.pointer (some ⟨g,0,none⟩),i4,i5,.int .i64 (k:Nat),.pointer (some ⟨gE,0,none⟩),i8,i9,i10,i11,i12,i13,i14,i15,i16,i17,i18,i19,i20,i21,i22,i23,i24,i25,i26,i27,i28,i29,i30,i31,i32,i33,i34,i35,i36,i37,i38,i39,i40,i41,i42,i43,i44,i45,i46,i47,i48,i49,i50,i51,i52,i53,u54,u55,u56,u57,u58,u59,u60,u61,u62,u63,u64,u65,u66,u67,u68,u69,i70,i71],defers:=[] }
def cp10I (i0 i1 i2 i4 i5 i8 i9 i10 i11 i12 i13 i14 i15 i16 i17 i18 i19 i20 i21 i22 i23 i24 i25 i26 i27 i28 i29 i30 i31 i32 i33 i34 i35 i36 i37 i38 i39 i40 i41 i42 i43 i44 i45 i46 i47 i48 i49 i50 i51 i52 i53 i70 i71:Value) (g:Nat) (k:Nat) (gE:Nat) (lo:Nat) (pb:Nat) (po:Nat) (pc:Nat) (B:Nat) (C:List Value) (c1:Value) (c2:Value) (qa:Option Addr) (qn:Nat) (qc:Nat) (oa:Option Addr) (on:Nat) (oc:Nat) (qs:List Jb) (js:List TJ) (D0:List TJV) (wq:World) (listed:Array Bool) (a:Act) (w':World):Prop :=
 ∃ u54 u55 u56 u57 u58 u59 u60 u61 u62 u63 u64 u65 u66 u67 u68 u69 : Value, a = cp10A i0 i1 i2 i4 i5 i8 i9 i10 i11 i12 i13 i14 i15 i16 i17 i18 i19 i20 i21 i22 i23 i24 i25 i26 i27 i28 i29 i30 i31 i32 i33 i34 i35 i36 i37 i38 i39 i40 i41 i42 i43 i44 i45 i46 i47 i48 i49 i50 i51 i52 i53 i70 i71 g k gE u54 u55 u56 u57 u58 u59 u60 u61 u62 u63 u64 u65 u66 u67 u68 u69 ∧
   (listed.getD 0 false=true→u54=.pointer (some ⟨g,3,none⟩)) ∧
   (listed.getD 1 false=true→u55=.slice (some ⟨pb,po,none⟩) 4 pc) ∧
   (listed.getD 2 false=true→u56=.int .i64 (k:Nat)) ∧
   (listed.getD 3 false=true→u57=.pointer (some ⟨g,3,none⟩)) ∧
   (listed.getD 4 false=true→u58=.slice (some ⟨pb,po,none⟩) 4 pc) ∧
   (listed.getD 5 false=true→u59=.int .i64 (k:Nat)) ∧
   (listed.getD 6 false=true→u60=.pointer (some ⟨gE,0,none⟩)) ∧
   (listed.getD 7 false=true→u61=.slice qa qn qc) ∧
   (listed.getD 8 false=true→Owns w' wq.heap.size 75 3 jbRow u62 qs) ∧
   (listed.getD 9 false=true→u63=.pointer (some ⟨gE,1,none⟩)) ∧
   (listed.getD 10 false=true→u64=.slice oa on oc) ∧
   (listed.getD 11 false=true→∃m,∃D1:List TJV,wq.heap.size≤m∧Owns w' m 85 5 tjRow u65 D1∧D1.map (·.1)=js∧(∀x∈D1,IntsD w' (fun b=>m≤b∧b<w'.heap.size∧u65.ownBlock≠some b) x.2 x.1.rsp.data)∧Low m u62) ∧
   (listed.getD 12 false=true→u66=.pointer (some ⟨pb,po+k * 3,none⟩)) ∧
   (listed.getD 13 false=true→u67=.pointer (some ⟨pb,po+k * 3,none⟩)) ∧
   (listed.getD 14 false=true→listed.getD 17 false=false→OwnR w' lo 50 3 (.slice (some ⟨pb,po,none⟩) 4 pc) 4 (C.set (k * 3) u62)) ∧
   (listed.getD 15 false=true→u68=.pointer (some ⟨pb,po+k * 3,none⟩)) ∧
   (listed.getD 16 false=true→u69=.pointer (some ⟨pb,po+k * 3+1,none⟩)) ∧
   (listed.getD 17 false=true→OwnR w' lo 50 3 (.slice (some ⟨pb,po,none⟩) 4 pc) 4 ((C.set (k * 3) u62).set (k * 3+1) u65)) ∧
   (listed.getD 14 false=false→OwnR w' lo 50 3 (.slice (some ⟨pb,po,none⟩) 4 pc) 4 C) ∧
   Touch pb wq w'
noncomputable def cp10Code:Code:=(Tryz.f65.body.bind (regIn2 10)).getD .skip
def CrP (lo pb po pc k:Nat) (C:List Value) (qs:List Jb) (js:List TJ) (wq w':World):Prop:=∃u v m,∃D1:List TJV,Owns w' wq.heap.size 75 3 jbRow u qs∧wq.heap.size≤m∧Owns w' m 85 5 tjRow v D1∧D1.map (·.1)=js∧(∀x∈D1,IntsD w' (fun b=>m≤b∧b<w'.heap.size∧v.ownBlock≠some b) x.2 x.1.rsp.data)∧Low m u∧OwnR w' lo 50 3 (.slice (some ⟨pb,po,none⟩) 4 pc) 4 ((C.set (k * 3) u).set (k * 3+1) v)∧Touch pb wq w'
set_option maxRecDepth 100000 in
set_option maxHeartbeats 16000000 in
theorem cp10_region (i0 i1 i2 i4 i5 i8 i9 i10 i11 i12 i13 i14 i15 i16 i17 i18 i19 i20 i21 i22 i23 i24 i25 i26 i27 i28 i29 i30 i31 i32 i33 i34 i35 i36 i37 i38 i39 i40 i41 i42 i43 i44 i45 i46 i47 i48 i49 i50 i51 i52 i53 i70 i71 j54 j55 j56 j57 j58 j59 j60 j61 j62 j63 j64 j65 j66 j67 j68 j69 : Value) (g : Nat) (k : Nat) (gE : Nat) (lo : Nat) (pb : Nat) (po : Nat) (pc : Nat) (B : Nat) (C : List Value) (c1 : Value) (c2 : Value) (qa : Option Addr) (qn : Nat) (qc : Nat) (oa : Option Addr) (on : Nat) (oc : Nat) (qs : List Jb) (js : List TJ) (D0 : List TJV) (wq : World)
  (hgp:g≠pb) (hgl:g<wq.heap.size) (hG:wq.cell? ⟨g,3,none⟩=some (.slice (some ⟨pb,po,none⟩) 4 pc)) (hpl:pb<wq.heap.size) (hB:B≤pb) (hBs:B≤wq.heap.size) (hkn:k<4) (hep:gE≠pb) (hel:gE<wq.heap.size) (hO:OwnR wq lo 50 3 (.slice (some ⟨pb,po,none⟩) 4 pc) 4 C) (hC1:C[k * 3]? = some c1) (hC2:C[k * 3+1]? = some c2) (hE0:wq.cell? ⟨gE,0,none⟩=some (.slice qa qn qc)) (hE1:wq.cell? ⟨gE,1,none⟩=some (.slice oa on oc)) (hQ:Jbs wq B (.slice qa qn qc) qs) (hJ1:Arr wq B 5 (.slice oa on oc) (D0.map tjRow)) (hJ2:D0.map (·.1)=js) (hJ3:∀x∈D0,Ints wq B x.2 x.1.rsp.data) (hl1:qs.length≤1048576) (hl5:D0.length≤1000) (hl6:∀x∈D0,x.1.rsp.data.length≤1000)
  {Q:Exit→Act→World→Prop}
  (hK:∀(u54 u55 u56 u57 u58 u59 u60 u61 u62 u63 u64 u65 u66 u67 u68 u69:Value) w', CrP lo pb po pc k C qs js wq w' → Q .normal (cp10A i0 i1 i2 i4 i5 i8 i9 i10 i11 i12 i13 i14 i15 i16 i17 i18 i19 i20 i21 i22 i23 i24 i25 i26 i27 i28 i29 i30 i31 i32 i33 i34 i35 i36 i37 i38 i39 i40 i41 i42 i43 i44 i45 i46 i47 i48 i49 i50 i51 i52 i53 i70 i71 g k gE u54 u55 u56 u57 u58 u59 u60 u61 u62 u63 u64 u65 u66 u67 u68 u69) w'):cp10Code.wp Tryz.prog Q (cp10A i0 i1 i2 i4 i5 i8 i9 i10 i11 i12 i13 i14 i15 i16 i17 i18 i19 i20 i21 i22 i23 i24 i25 i26 i27 i28 i29 i30 i31 i32 i33 i34 i35 i36 i37 i38 i39 i40 i41 i42 i43 i44 i45 i46 i47 i48 i49 i50 i51 i52 i53 i70 i71 g k gE j54 j55 j56 j57 j58 j59 j60 j61 j62 j63 j64 j65 j66 j67 j68 j69) wq:=by
 conv=>arg 2;whnf
 refine wp_region_inv2 (cp10I i0 i1 i2 i4 i5 i8 i9 i10 i11 i12 i13 i14 i15 i16 i17 i18 i19 i20 i21 i22 i23 i24 i25 i26 i27 i28 i29 i30 i31 i32 i33 i34 i35 i36 i37 i38 i39 i40 i41 i42 i43 i44 i45 i46 i47 i48 i49 i50 i51 i52 i53 i70 i71 g k gE lo pb po pc B C c1 c2 qa qn qc oa on oc qs js D0 wq) (by kernel_rfl) (by kernel_rfl) ?_ ?_ ?_
 ·exact⟨_,_,_,_,_,_,_,_,_,_,_,_,_,_,_,_,rfl,(fun h=>absurd h (by rw[getD_replicate_false];simp)),(fun h=>absurd h (by rw[getD_replicate_false];simp)),(fun h=>absurd h (by rw[getD_replicate_false];simp)),(fun h=>absurd h (by rw[getD_replicate_false];simp)),(fun h=>absurd h (by rw[getD_replicate_false];simp)),(fun h=>absurd h (by rw[getD_replicate_false];simp)),(fun h=>absurd h (by rw[getD_replicate_false];simp)),(fun h=>absurd h (by rw[getD_replicate_false];simp)),(fun h=>absurd h (by rw[getD_replicate_false];simp)),(fun h=>absurd h (by rw[getD_replicate_false];simp)),(fun h=>absurd h (by rw[getD_replicate_false];simp)),(fun h=>absurd h (by rw[getD_replicate_false];simp)),(fun h=>absurd h (by rw[getD_replicate_false];simp)),(fun h=>absurd h (by rw[getD_replicate_false];simp)),(fun h _=>absurd h (by rw[getD_replicate_false];simp)),(fun h=>absurd h (by rw[getD_replicate_false];simp)),(fun h=>absurd h (by rw[getD_replicate_false];simp)),(fun h=>absurd h (by rw[getD_replicate_false];simp)),(fun _=>hO),(Touch.refl _ _).drewd⟩
 ·intro listed a w' i o hI hsz ho hl he hcl;have hi:i<18:=(Array.getElem?_eq_some_iff.1 ho).1;have e:i=0∨i=1∨i=2∨i=3∨i=4∨i=5∨i=6∨i=7∨i=8∨i=9∨i=10∨i=11∨i=12∨i=13∨i=14∨i=15∨i=16∨i=17:=by omega
  clear hi;rcases e with rfl|rfl|rfl|rfl|rfl|rfl|rfl|rfl|rfl|rfl|rfl|rfl|rfl|rfl|rfl|rfl|rfl|rfl
  all_goals (have ho2:=ho;obtain rfl:=Option.some.inj ho2.symm;clear ho2)
  ·as_aux_lemma=>
    obtain⟨u54,u55,u56,u57,u58,u59,u60,u61,u62,u63,u64,u65,u66,u67,u68,u69,rfl,F0,F1,F2,F3,F4,F5,F6,F7,F8,F9,F10,F11,F12,F13,F14,F15,F16,F17,N14,hx⟩:=hI;refine wpOp_stepx ho rfl (fun K hK=>?_);unfold cp10A;go_simp;exact hK _ _ ⟨_,_,_,_,_,_,_,_,_,_,_,_,_,_,_,_,rfl,fun _=>rfl,cy F1 rfl,cy F2 rfl,cy F3 rfl,cy F4 rfl,cy F5 rfl,cy F6 rfl,cy F7 rfl,cy F8 rfl,cy F9 rfl,cy F10 rfl,cy F11 rfl,cy F12 rfl,cy F13 rfl,cyu F14 rfl rfl,cy F15 rfl,cy F16 rfl,cy F17 rfl,cy N14 rfl,hx⟩
  ·as_aux_lemma=>
    obtain⟨u54,u55,u56,u57,u58,u59,u60,u61,u62,u63,u64,u65,u66,u67,u68,u69,rfl,F0,F1,F2,F3,F4,F5,F6,F7,F8,F9,F10,F11,F12,F13,F14,F15,F16,F17,N14,hx⟩:=hI;have l0:=he ⟨0,.data⟩ (by simp) rfl;have e:=F0 l0;subst e;have q:=(hx.cell (p:=⟨g,3,none⟩) hgp hgl).trans hG;refine wpOp_stepx ho rfl (fun K hK=>?_);unfold cp10A;go_simp;exact hK _ _ ⟨_,_,_,_,_,_,_,_,_,_,_,_,_,_,_,_,rfl,cy F0 rfl,fun _=>rfl,cy F2 rfl,cy F3 rfl,cy F4 rfl,cy F5 rfl,cy F6 rfl,cy F7 rfl,cy F8 rfl,cy F9 rfl,cy F10 rfl,cy F11 rfl,cy F12 rfl,cy F13 rfl,cyu F14 rfl rfl,cy F15 rfl,cy F16 rfl,cy F17 rfl,cy N14 rfl,hx⟩
  ·as_aux_lemma=>
    obtain⟨u54,u55,u56,u57,u58,u59,u60,u61,u62,u63,u64,u65,u66,u67,u68,u69,rfl,F0,F1,F2,F3,F4,F5,F6,F7,F8,F9,F10,F11,F12,F13,F14,F15,F16,F17,N14,hx⟩:=hI;refine wpOp_stepx ho rfl (fun K hK=>?_);unfold cp10A;go_simp;exact hK _ _ ⟨_,_,_,_,_,_,_,_,_,_,_,_,_,_,_,_,rfl,cy F0 rfl,cy F1 rfl,fun _=>rfl,cy F3 rfl,cy F4 rfl,cy F5 rfl,cy F6 rfl,cy F7 rfl,cy F8 rfl,cy F9 rfl,cy F10 rfl,cy F11 rfl,cy F12 rfl,cy F13 rfl,cyu F14 rfl rfl,cy F15 rfl,cy F16 rfl,cy F17 rfl,cy N14 rfl,hx⟩
  ·as_aux_lemma=>
    obtain⟨u54,u55,u56,u57,u58,u59,u60,u61,u62,u63,u64,u65,u66,u67,u68,u69,rfl,F0,F1,F2,F3,F4,F5,F6,F7,F8,F9,F10,F11,F12,F13,F14,F15,F16,F17,N14,hx⟩:=hI;refine wpOp_stepx ho rfl (fun K hK=>?_);unfold cp10A;go_simp;exact hK _ _ ⟨_,_,_,_,_,_,_,_,_,_,_,_,_,_,_,_,rfl,cy F0 rfl,cy F1 rfl,cy F2 rfl,fun _=>rfl,cy F4 rfl,cy F5 rfl,cy F6 rfl,cy F7 rfl,cy F8 rfl,cy F9 rfl,cy F10 rfl,cy F11 rfl,cy F12 rfl,cy F13 rfl,cyu F14 rfl rfl,cy F15 rfl,cy F16 rfl,cy F17 rfl,cy N14 rfl,hx⟩
  ·as_aux_lemma=>
    obtain⟨u54,u55,u56,u57,u58,u59,u60,u61,u62,u63,u64,u65,u66,u67,u68,u69,rfl,F0,F1,F2,F3,F4,F5,F6,F7,F8,F9,F10,F11,F12,F13,F14,F15,F16,F17,N14,hx⟩:=hI;have l3:=he ⟨3,.data⟩ (by simp) rfl;have e:=F3 l3;subst e;have q:=(hx.cell (p:=⟨g,3,none⟩) hgp hgl).trans hG;refine wpOp_stepx ho rfl (fun K hK=>?_);unfold cp10A;go_simp;exact hK _ _ ⟨_,_,_,_,_,_,_,_,_,_,_,_,_,_,_,_,rfl,cy F0 rfl,cy F1 rfl,cy F2 rfl,cy F3 rfl,fun _=>rfl,cy F5 rfl,cy F6 rfl,cy F7 rfl,cy F8 rfl,cy F9 rfl,cy F10 rfl,cy F11 rfl,cy F12 rfl,cy F13 rfl,cyu F14 rfl rfl,cy F15 rfl,cy F16 rfl,cy F17 rfl,cy N14 rfl,hx⟩
  ·as_aux_lemma=>
    obtain⟨u54,u55,u56,u57,u58,u59,u60,u61,u62,u63,u64,u65,u66,u67,u68,u69,rfl,F0,F1,F2,F3,F4,F5,F6,F7,F8,F9,F10,F11,F12,F13,F14,F15,F16,F17,N14,hx⟩:=hI;refine wpOp_stepx ho rfl (fun K hK=>?_);unfold cp10A;go_simp;exact hK _ _ ⟨_,_,_,_,_,_,_,_,_,_,_,_,_,_,_,_,rfl,cy F0 rfl,cy F1 rfl,cy F2 rfl,cy F3 rfl,cy F4 rfl,fun _=>rfl,cy F6 rfl,cy F7 rfl,cy F8 rfl,cy F9 rfl,cy F10 rfl,cy F11 rfl,cy F12 rfl,cy F13 rfl,cyu F14 rfl rfl,cy F15 rfl,cy F16 rfl,cy F17 rfl,cy N14 rfl,hx⟩
  ·as_aux_lemma=>
    obtain⟨u54,u55,u56,u57,u58,u59,u60,u61,u62,u63,u64,u65,u66,u67,u68,u69,rfl,F0,F1,F2,F3,F4,F5,F6,F7,F8,F9,F10,F11,F12,F13,F14,F15,F16,F17,N14,hx⟩:=hI;refine wpOp_stepx ho rfl (fun K hK=>?_);unfold cp10A;go_simp;exact hK _ _ ⟨_,_,_,_,_,_,_,_,_,_,_,_,_,_,_,_,rfl,cy F0 rfl,cy F1 rfl,cy F2 rfl,cy F3 rfl,cy F4 rfl,cy F5 rfl,fun _=>rfl,cy F7 rfl,cy F8 rfl,cy F9 rfl,cy F10 rfl,cy F11 rfl,cy F12 rfl,cy F13 rfl,cyu F14 rfl rfl,cy F15 rfl,cy F16 rfl,cy F17 rfl,cy N14 rfl,hx⟩
  ·as_aux_lemma=>
    obtain⟨u54,u55,u56,u57,u58,u59,u60,u61,u62,u63,u64,u65,u66,u67,u68,u69,rfl,F0,F1,F2,F3,F4,F5,F6,F7,F8,F9,F10,F11,F12,F13,F14,F15,F16,F17,N14,hx⟩:=hI;have l6:=he ⟨6,.data⟩ (by simp) rfl;have e:=F6 l6;subst e;have q:=(hx.cell (p:=⟨gE,0,none⟩) hep hel).trans hE0;refine wpOp_stepx ho rfl (fun K hK=>?_);unfold cp10A;go_simp;exact hK _ _ ⟨_,_,_,_,_,_,_,_,_,_,_,_,_,_,_,_,rfl,cy F0 rfl,cy F1 rfl,cy F2 rfl,cy F3 rfl,cy F4 rfl,cy F5 rfl,cy F6 rfl,fun _=>rfl,cy F8 rfl,cy F9 rfl,cy F10 rfl,cy F11 rfl,cy F12 rfl,cy F13 rfl,cyu F14 rfl rfl,cy F15 rfl,cy F16 rfl,cy F17 rfl,cy N14 rfl,hx⟩
  ·as_aux_lemma=>
    obtain⟨u54,u55,u56,u57,u58,u59,u60,u61,u62,u63,u64,u65,u66,u67,u68,u69,rfl,F0,F1,F2,F3,F4,F5,F6,F7,F8,F9,F10,F11,F12,F13,F14,F15,F16,F17,N14,hx⟩:=hI;have l7:=he ⟨7,.data⟩ (by simp) rfl;have e:=F7 l7;subst e;have hQx:Arr w' B 3 (.slice qa qn qc) (qs.map jbRow):=hQ.below (hx.below hB hBs);refine wpOp_stepx ho rfl (fun K hK=>?_);unfold cp10A;go_simp
    (with_reducible refine(clone_CycJob jbRow (fun _=>rfl) jbRow_one _ qs B w' hQx (by omega)).mono ?_)
    rintro e w'' ⟨q,rfl,o1,hb1⟩
    go_wp2_with fail
    exact⟨_,_,_,_,_,_,_,_,_,_,_,_,_,_,_,_,rfl,cy F0 rfl,cy F1 rfl,cy F2 rfl,cy F3 rfl,cy F4 rfl,cy F5 rfl,cy F6 rfl,fun _=>rfl,fun _=>o1.rebase hx.size,cy F9 rfl,cy F10 rfl,fun hj=>absurd (hcl 11 _ rfl (by rwa [sgx (by decide)]at hj) ⟨8,.chain⟩ (by simp) rfl) (by rw[getD_both hl];simp),cy F12 rfl,cy F13 rfl,fun hj hu=>absurd (hcl 14 _ rfl (by rwa [sgx (by decide)]at hj) ⟨8,.data⟩ (by simp) rfl) (by rw[getD_both hl];simp),cy F15 rfl,cy F16 rfl,fun hj=>absurd (hcl 14 _ rfl (hcl 17 _ rfl (by rwa [sgx (by decide)]at hj) ⟨14,.chain⟩ (by simp) rfl) ⟨8,.data⟩ (by simp) rfl) (by rw[getD_both hl];simp),fun hj=>OwnR.below (cy N14 rfl hj) hb1 (fun k hk=>(OwnR.lt (cy N14 rfl hj) k hk).2),hx.trans (Touch.of_below hb1 (Nat.le_refl _))⟩
  ·as_aux_lemma=>
    obtain⟨u54,u55,u56,u57,u58,u59,u60,u61,u62,u63,u64,u65,u66,u67,u68,u69,rfl,F0,F1,F2,F3,F4,F5,F6,F7,F8,F9,F10,F11,F12,F13,F14,F15,F16,F17,N14,hx⟩:=hI;refine wpOp_stepx ho rfl (fun K hK=>?_);unfold cp10A;go_simp;exact hK _ _ ⟨_,_,_,_,_,_,_,_,_,_,_,_,_,_,_,_,rfl,cy F0 rfl,cy F1 rfl,cy F2 rfl,cy F3 rfl,cy F4 rfl,cy F5 rfl,cy F6 rfl,cy F7 rfl,cy F8 rfl,fun _=>rfl,cy F10 rfl,cy F11 rfl,cy F12 rfl,cy F13 rfl,cyu F14 rfl rfl,cy F15 rfl,cy F16 rfl,cy F17 rfl,cy N14 rfl,hx⟩
  ·as_aux_lemma=>
    obtain⟨u54,u55,u56,u57,u58,u59,u60,u61,u62,u63,u64,u65,u66,u67,u68,u69,rfl,F0,F1,F2,F3,F4,F5,F6,F7,F8,F9,F10,F11,F12,F13,F14,F15,F16,F17,N14,hx⟩:=hI;have l9:=he ⟨9,.data⟩ (by simp) rfl;have e:=F9 l9;subst e;have q:=(hx.cell (p:=⟨gE,1,none⟩) hep hel).trans hE1;refine wpOp_stepx ho rfl (fun K hK=>?_);unfold cp10A;go_simp;exact hK _ _ ⟨_,_,_,_,_,_,_,_,_,_,_,_,_,_,_,_,rfl,cy F0 rfl,cy F1 rfl,cy F2 rfl,cy F3 rfl,cy F4 rfl,cy F5 rfl,cy F6 rfl,cy F7 rfl,cy F8 rfl,cy F9 rfl,fun _=>rfl,cy F11 rfl,cy F12 rfl,cy F13 rfl,cyu F14 rfl rfl,cy F15 rfl,cy F16 rfl,cy F17 rfl,cy N14 rfl,hx⟩
  ·as_aux_lemma=>
    obtain⟨u54,u55,u56,u57,u58,u59,u60,u61,u62,u63,u64,u65,u66,u67,u68,u69,rfl,F0,F1,F2,F3,F4,F5,F6,F7,F8,F9,F10,F11,F12,F13,F14,F15,F16,F17,N14,hx⟩:=hI;have l10:=he ⟨10,.data⟩ (by simp) rfl;have l8:=he ⟨8,.chain⟩ (by simp) rfl;have e:=F10 l10;subst e;have o8:=F8 l8;refine wpOp_stepx ho rfl (fun K hK=>?_);unfold cp10A;go_simp
    (with_reducible refine(copyJobs_any D0 _ B w' (hJ1.below (hx.below hB hBs)) (fun x hx2=>(hJ3 x hx2).below (hx.below hB hBs)) (Nat.le_trans hBs hx.size) hl5 hl6).mono ?_)
    rintro e w'' ⟨q,D1,rfl,o1,hm1,hd1,hb1⟩
    go_wp2_with fail
    exact⟨_,_,_,_,_,_,_,_,_,_,_,_,_,_,_,_,rfl,cy F0 rfl,cy F1 rfl,cy F2 rfl,cy F3 rfl,cy F4 rfl,cy F5 rfl,cy F6 rfl,cy F7 rfl,fun hj=>OwnR.below (cy F8 rfl hj) hb1 (fun k hk=>(OwnR.lt (cy F8 rfl hj) k hk).2),cy F9 rfl,fun _=>rfl,fun _=>⟨w'.heap.size,D1,hx.size,o1,hm1.trans hJ2,hd1,(fun k hk=>(OwnR.lt o8 k hk).2)⟩,cy F12 rfl,cy F13 rfl,fun hj hu=>absurd (hcl 14 _ rfl (by rwa [sgx (by decide)]at hj) ⟨11,.chain⟩ (by simp) rfl) (by rw[getD_both hl];simp),cy F15 rfl,cy F16 rfl,fun hj=>absurd (hcl 17 _ rfl (by rwa [sgx (by decide)]at hj) ⟨11,.data⟩ (by simp) rfl) (by rw[getD_both hl];simp),fun hj=>OwnR.below (cy N14 rfl hj) hb1 (fun k hk=>(OwnR.lt (cy N14 rfl hj) k hk).2),hx.trans (Touch.of_below hb1 (Nat.le_refl _))⟩
  ·as_aux_lemma=>
    obtain⟨u54,u55,u56,u57,u58,u59,u60,u61,u62,u63,u64,u65,u66,u67,u68,u69,rfl,F0,F1,F2,F3,F4,F5,F6,F7,F8,F9,F10,F11,F12,F13,F14,F15,F16,F17,N14,hx⟩:=hI;have l1:=he ⟨1,.data⟩ (by simp) rfl;have l2:=he ⟨2,.data⟩ (by simp) rfl;have e:=F1 l1;subst e;have e:=F2 l2;subst e;have hkx:=hkn;have hki:(k:Int)<4:=by omega
    refine wpOp_stepx ho rfl (fun K hK=>?_);unfold cp10A;go_simp;exact hK _ _ ⟨_,_,_,_,_,_,_,_,_,_,_,_,_,_,_,_,rfl,cy F0 rfl,cy F1 rfl,cy F2 rfl,cy F3 rfl,cy F4 rfl,cy F5 rfl,cy F6 rfl,cy F7 rfl,cy F8 rfl,cy F9 rfl,cy F10 rfl,cy F11 rfl,fun _=>rfl,cy F13 rfl,cyu F14 rfl rfl,cy F15 rfl,cy F16 rfl,cy F17 rfl,cy N14 rfl,hx⟩
  ·as_aux_lemma=>
    obtain⟨u54,u55,u56,u57,u58,u59,u60,u61,u62,u63,u64,u65,u66,u67,u68,u69,rfl,F0,F1,F2,F3,F4,F5,F6,F7,F8,F9,F10,F11,F12,F13,F14,F15,F16,F17,N14,hx⟩:=hI;have l12:=he ⟨12,.data⟩ (by simp) rfl;have e:=F12 l12;subst e;refine wpOp_stepx ho rfl (fun K hK=>?_);unfold cp10A;go_simp;exact hK _ _ ⟨_,_,_,_,_,_,_,_,_,_,_,_,_,_,_,_,rfl,cy F0 rfl,cy F1 rfl,cy F2 rfl,cy F3 rfl,cy F4 rfl,cy F5 rfl,cy F6 rfl,cy F7 rfl,cy F8 rfl,cy F9 rfl,cy F10 rfl,cy F11 rfl,cy F12 rfl,fun _=>rfl,cyu F14 rfl rfl,cy F15 rfl,cy F16 rfl,cy F17 rfl,cy N14 rfl,hx⟩
  ·as_aux_lemma=>
    obtain⟨u54,u55,u56,u57,u58,u59,u60,u61,u62,u63,u64,u65,u66,u67,u68,u69,rfl,F0,F1,F2,F3,F4,F5,F6,F7,F8,F9,F10,F11,F12,F13,F14,F15,F16,F17,N14,hx⟩:=hI;have l13:=he ⟨13,.data⟩ (by simp) rfl;have l8:=he ⟨8,.data⟩ (by simp) rfl;have l11:=he ⟨11,.chain⟩ (by simp) rfl;have e:=F13 l13;subst e;have own:=N14 (getD_both hl);have o8:=F8 l8;obtain⟨m,D1,m1,o11,hm11,hd11,r11⟩:=F11 l11;have HM11:=hid hm11;have HD11:=hid hd11;have R11:=hid r11;clear hm11 hd11 r11;obtain⟨y1,y3,e1,_,_⟩:=o8.shape;subst e1;have q:=(OwnR.get own (k * 3) (by omega)).trans (hC1);have q2:=OwnR.unfrozen own (po+k * 3);have hput:=OwnR.put own (k * 3) (by omega) (.slice y1 qs.length y3);have HPUT:=hid hput;clear hput;refine wpOp_stepx ho rfl (fun K hK=>?_);unfold cp10A;go_simp;exact hK _ _ ⟨_,_,_,_,_,_,_,_,_,_,_,_,_,_,_,_,rfl,cy F0 rfl,cy F1 rfl,cy F2 rfl,cy F3 rfl,cy F4 rfl,cy F5 rfl,cy F6 rfl,cy F7 rfl,fun hj=>Owns.tchC o8 (Touch.setCell ..) (fun e=>by have:=(OwnR.lt o8 pb e).1;omega),cy F9 rfl,cy F10 rfl,fun hj=>⟨m,D1,m1,Owns.tchC o11 (Touch.setCell ..) (fun e=>by have:=(OwnR.lt o11 pb e).1;omega),HM11.out,fun x hx2=>((HD11.out x hx2).kept fun b hb=>Below.heap_setCell _ _ _ _ (show b≠pb by have:=hb.1;omega)).weak fun b hb=>⟨hb.1,by simpa using hb.2.1,hb.2.2⟩,R11.out⟩,cy F12 rfl,cy F13 rfl,fun _ _=>HPUT.out,cy F15 rfl,cy F16 rfl,fun hj=>absurd (hcl 17 _ rfl (by rwa [sgx (by decide)]at hj) ⟨14,.chain⟩ (by simp) rfl) (by rw[getD_both hl];simp),fun hj=>absurd hj (by rw[sgix hl];simp),hx.trans (Touch.setCell ..)⟩
  ·as_aux_lemma=>
    obtain⟨u54,u55,u56,u57,u58,u59,u60,u61,u62,u63,u64,u65,u66,u67,u68,u69,rfl,F0,F1,F2,F3,F4,F5,F6,F7,F8,F9,F10,F11,F12,F13,F14,F15,F16,F17,N14,hx⟩:=hI;have l4:=he ⟨4,.data⟩ (by simp) rfl;have l5:=he ⟨5,.data⟩ (by simp) rfl;have e:=F4 l4;subst e;have e:=F5 l5;subst e;have hkx:=hkn;have hki:(k:Int)<4:=by omega
    refine wpOp_stepx ho rfl (fun K hK=>?_);unfold cp10A;go_simp;exact hK _ _ ⟨_,_,_,_,_,_,_,_,_,_,_,_,_,_,_,_,rfl,cy F0 rfl,cy F1 rfl,cy F2 rfl,cy F3 rfl,cy F4 rfl,cy F5 rfl,cy F6 rfl,cy F7 rfl,cy F8 rfl,cy F9 rfl,cy F10 rfl,cy F11 rfl,cy F12 rfl,cy F13 rfl,cyu F14 rfl rfl,fun _=>rfl,cy F16 rfl,cy F17 rfl,cy N14 rfl,hx⟩
  ·as_aux_lemma=>
    obtain⟨u54,u55,u56,u57,u58,u59,u60,u61,u62,u63,u64,u65,u66,u67,u68,u69,rfl,F0,F1,F2,F3,F4,F5,F6,F7,F8,F9,F10,F11,F12,F13,F14,F15,F16,F17,N14,hx⟩:=hI;have l15:=he ⟨15,.data⟩ (by simp) rfl;have e:=F15 l15;subst e;refine wpOp_stepx ho rfl (fun K hK=>?_);unfold cp10A;go_simp;exact hK _ _ ⟨_,_,_,_,_,_,_,_,_,_,_,_,_,_,_,_,rfl,cy F0 rfl,cy F1 rfl,cy F2 rfl,cy F3 rfl,cy F4 rfl,cy F5 rfl,cy F6 rfl,cy F7 rfl,cy F8 rfl,cy F9 rfl,cy F10 rfl,cy F11 rfl,cy F12 rfl,cy F13 rfl,cyu F14 rfl rfl,cy F15 rfl,fun _=>rfl,cy F17 rfl,cy N14 rfl,hx⟩
  ·as_aux_lemma=>
    obtain⟨u54,u55,u56,u57,u58,u59,u60,u61,u62,u63,u64,u65,u66,u67,u68,u69,rfl,F0,F1,F2,F3,F4,F5,F6,F7,F8,F9,F10,F11,F12,F13,F14,F15,F16,F17,N14,hx⟩:=hI;have l16:=he ⟨16,.data⟩ (by simp) rfl;have l11:=he ⟨11,.data⟩ (by simp) rfl;have l14:=he ⟨14,.chain⟩ (by simp) rfl;have e:=F16 l16;subst e;have own:=F14 l14 (getD_both hl);have o8:=F8 (hcl 14 _ rfl l14 ⟨8,.data⟩ (by simp) rfl);obtain⟨m,D1,m1,o11,hm11,hd11,r11⟩:=F11 l11;have HM11:=hid hm11;have HD11:=hid hd11;have R11:=hid r11;clear hm11 hd11 r11;obtain⟨y1,y3,e1,_,_⟩:=o11.shape;subst e1;have q:=(OwnR.get own (k * 3+1) (by omega)).trans ((show(C.set (k * 3) _)[k * 3+1]? = some c2 by rw[List.getElem?_set,if_neg (by omega)];exact hC2));have q2:=OwnR.unfrozen own (po+(k * 3+1));have hput:=OwnR.put own (k * 3+1) (by omega) (.slice y1 D1.length y3);rw[←Nat.add_assoc]at q q2 hput;have HPUT:=hid hput;clear hput;refine wpOp_stepx ho rfl (fun K hK=>?_);unfold cp10A;go_simp;exact hK _ _ ⟨_,_,_,_,_,_,_,_,_,_,_,_,_,_,_,_,rfl,cy F0 rfl,cy F1 rfl,cy F2 rfl,cy F3 rfl,cy F4 rfl,cy F5 rfl,cy F6 rfl,cy F7 rfl,fun hj=>Owns.tchC o8 (Touch.setCell ..) (fun e=>by have:=(OwnR.lt o8 pb e).1;omega),cy F9 rfl,cy F10 rfl,fun hj=>⟨m,D1,m1,Owns.tchC o11 (Touch.setCell ..) (fun e=>by have:=(OwnR.lt o11 pb e).1;omega),HM11.out,fun x hx2=>((HD11.out x hx2).kept fun b hb=>Below.heap_setCell _ _ _ _ (show b≠pb by have:=hb.1;omega)).weak fun b hb=>⟨hb.1,by simpa using hb.2.1,hb.2.2⟩,R11.out⟩,cy F12 rfl,cy F13 rfl,fun _ hu=>absurd hu (by rw[sgix hl];simp),cy F15 rfl,cy F16 rfl,fun _=>HPUT.out,fun hj=>absurd l14 (by rw[sgx (by decide)]at hj;rw[hj];simp),hx.trans (Touch.setCell ..)⟩
 ·intro listed a w' hI hd;obtain⟨u54,u55,u56,u57,u58,u59,u60,u61,u62,u63,u64,u65,u66,u67,u68,u69,rfl,F0,F1,F2,F3,F4,F5,F6,F7,F8,F9,F10,F11,F12,F13,F14,F15,F16,F17,N14,hx⟩:=hI;have o8:=F8 (hd 8 (by show 8<18;omega));obtain⟨m,D1,m1,o11,hm11,hd11,r11⟩:=F11 (hd 11 (by show 11<18;omega));exact hK _ _ _ _ _ _ _ _ _ _ _ _ _ _ _ _ w' ⟨_,_,m,D1,o8,m1,o11,hm11,hd11,r11,F17 (hd 17 (by show 17<18;omega)),hx⟩
end Go.Proofs.YthnlalffjepdaaaGreat
namespace Go.Proofs.YthnlalffjepdaaaGreat
open Go.RowKit
def prow (V:Nat→Value) (st:Cy) (P:List PS) (i k:Nat):List Value:=if k<i then ptRow V (st.ports k) k else rowPS (P.getD k default)
def srow (V:Nat→Value) (st:Cy) (Q:List SS) (j k:Nat):List Value:=if k<j then svRow V (st.slaves k) k else rowSS (Q.getD k default)
structure CpM (w:World) (base:Nat) (st:Cy) (P:List PS) (Q:List SS) (i j:Nat) (V:Nat→Value) (N:Nat→Nat) (C:Nat→List Value) (D:Nat→List TJV):Prop where
 raw:Raw w base V N C
 n0:N 0=st.ws.length
 c0:C 0=st.ws.flatMap rowI
 n1:N 1=st.hs.length
 c1:C 1=st.hs.flatMap rowI
 n2:N 2=3
 c2:C 2=prow V st P i 0++prow V st P i 1++prow V st P i 2
 n3:N 3=4
 c3:C 3=srow V st Q j 0++srow V st Q j 1++srow V st Q j 2++srow V st Q j 3
 n4:N 4=st.told.length
 c4:C 4=(D 4).flatMap tjRow
 t4:(D 4).map (·.1)=st.told
 q:∀k,k<i→N (5+k)=(st.ports k).queue.length∧C (5+k)=(st.ports k).queue.flatMap rowN∧N (8+k)=(st.ports k).out.length∧C (8+k)=(st.ports k).out.flatMap jbRow
 s:∀k,k<j→N (11+k)=(st.slaves k).pipe.length∧C (11+k)=(st.slaves k).pipe.flatMap jbRow∧N (15+k)=(st.slaves k).done.length∧C (15+k)=(D (15+k)).flatMap tjRow∧(D (15+k)).map (·.1)=(st.slaves k).done
 e:V 19=vnil∧N 19=0∧C 19=[]
 dat:∀κ,κ<20→∀x∈D κ,IntsD w (fun b=>base≤b∧b<w.heap.size∧Free V b) x.2 x.1.rsp.data
theorem CpM.fin {w:World} {base:Nat} {st:Cy} {P:List PS} {Q:List SS} {V:Nat→Value} {N:Nat→Nat} {C:Nat→List Value} {D:Nat→List TJV} (h:CpM w base st P Q 3 4 V N C D):CyR w base st V N C D :=
 ⟨h.raw,⟨h.n0,h.c0,h.n1,h.c1,h.n2,by rw[h.c2];simp[prow],h.n3,by rw[h.c3];simp[srow],h.n4,h.c4,h.t4,fun i hi=>(h.q i hi).1,fun i hi=>(h.q i hi).2.1,fun i hi=>(h.q i hi).2.2.1,fun i hi=>(h.q i hi).2.2.2,fun s hs=>(h.s s hs).1,fun s hs=>(h.s s hs).2.1,fun s hs=>(h.s s hs).2.2.1,fun s hs=>(h.s s hs).2.2.2.1,fun s hs=>(h.s s hs).2.2.2.2,h.e.2.1,h.e.2.2⟩,h.e.1,h.dat⟩
theorem CpM.below {w w':World} {base:Nat} {st:Cy} {P:List PS} {Q:List SS} {i j:Nat} {V:Nat→Value} {N:Nat→Nat} {C:Nat→List Value} {D:Nat→List TJV} (h:CpM w base st P Q i j V N C D) (hb:Below w.heap.size w w'):CpM w' base st P Q i j V N C D :=
 { h with raw:=h.raw.below hb,dat:=fun κ hκ x hx=>((h.dat κ hκ x hx).kept fun b hb2=>hb.block b hb2.2.1).weak fun b hb2=>⟨hb2.1,Nat.lt_of_lt_of_le hb2.2.1 hb.size,hb2.2.2⟩ }
theorem CpM.addr2 {w:World} {base:Nat} {st:Cy} {P:List PS} {Q:List SS} {i j:Nat} {V:Nat→Value} {N:Nat→Nat} {C:Nat→List Value} {D:Nat→List TJV} (h:CpM w base st P Q i j V N C D):∃g off cap,V 2=.slice (some ⟨g,off,none⟩) 3 cap∧base≤g∧g<w.heap.size:=by
 have:=h.raw.own 2 (by omega);rw[h.n2]at this;obtain⟨g,off,cap,e,_,_,hb,hz⟩:=OwnR.addr this (by omega);exact⟨g,off,cap,e,hb,hz⟩
theorem CpM.addr3 {w:World} {base:Nat} {st:Cy} {P:List PS} {Q:List SS} {i j:Nat} {V:Nat→Value} {N:Nat→Nat} {C:Nat→List Value} {D:Nat→List TJV} (h:CpM w base st P Q i j V N C D):∃g off cap,V 3=.slice (some ⟨g,off,none⟩) 4 cap∧base≤g∧g<w.heap.size:=by
 have:=h.raw.own 3 (by omega);rw[h.n3]at this;obtain⟨g,off,cap,e,_,_,hb,hz⟩:=OwnR.addr this (by omega);exact⟨g,off,cap,e,hb,hz⟩
theorem CpM.start {w' : World} {base m : Nat} {a b p s t : Value} {st : Cy} {P : List PS} {Q : List SS} {D1 : List TJV} (hO : CpO w' base a b p s st.ws st.hs P Q) (hP : P.length = 3) (hQ : Q.length = 4) (hm : base ≤ m) (ho : Owns w' m 85 5 tjRow t D1) (hD : D1.map (·.1) = st.told)
  (hd:∀x∈D1,IntsD w' (fun b=>m≤b∧b<w'.heap.size∧t.ownBlock≠some b) x.2 x.1.rsp.data) (hl:Low m a∧Low m b∧Low m p∧Low m s) :
  ∃V N C D,CpM w' base st P Q 0 0 V N C D∧V 0=a∧V 1=b∧V 2=p∧V 3=s∧V 4=t:=by
 obtain⟨P0,P1,P2,rfl⟩:∃x y z,P=[x,y,z]:=by
  rcases P with _|⟨x,_|⟨y,_|⟨z,_|⟨u,r⟩⟩⟩⟩ <;> simp at hP
  exact⟨x,y,z,rfl⟩
 obtain⟨Q0,Q1,Q2,Q3,rfl⟩:∃x y z u,Q=[x,y,z,u]:=by
  rcases Q with _|⟨x,_|⟨y,_|⟨z,_|⟨u,_|⟨v,r⟩⟩⟩⟩⟩ <;> simp at hQ
  exact⟨x,y,z,u,rfl⟩
 have lt:∀k,t.ownBlock=some k→m≤k:=fun k hk=>(OwnR.lt ho k hk).1
 have at1:∀{v:Value},Low m v→Apart v t:=fun h k h1 h2=>by have:=h k h1;have:=lt k h2;omega
 have dl:D1.length=st.told.length:=by rw[←hD,List.length_map]
 refine ⟨fun κ => match κ with | 0 => a | 1 => b | 2 => p | 3 => s | 4 => t | _ => vnil, fun κ => match κ with | 0 => st.ws.length | 1 => st.hs.length | 2 => 3 | 3 => 4 | 4 => st.told.length | _ => 0,
  fun κ=>match κ with|0=>st.ws.flatMap rowI|1=>st.hs.flatMap rowI|2=>rowPS P0++rowPS P1++rowPS P2|3=>rowSS Q0++rowSS Q1++rowSS Q2++rowSS Q3|4=>D1.flatMap tjRow|_=>[],fun κ=>if κ=4 then D1 else[],?_,rfl,rfl,rfl,rfl,rfl⟩
 refine⟨⟨fun κ hκ=>?_,fun κ μ hκ hμ hne=>?_⟩,rfl,rfl,rfl,rfl,rfl,by simp[prow,List.getD],rfl,by simp[srow,List.getD],rfl,by simp,by simp;exact hD,fun k hk=>by omega,fun k hk=>by omega,⟨rfl,rfl,rfl⟩,fun κ hκ x hx=>?_⟩
 ·rcases κ with _|_|_|_|_|κ
  ·exact hO.oa
  ·exact hO.ob
  ·have:=hO.op;unfold Owns at this;simpa[ety,esz]using this
  ·have:=hO.os;unfold Owns at this;simpa[ety,esz]using this
  ·have:=OwnR.rebase ho hm;rw[dl]at this;exact this
  ·exact⟨by simp,.inl ⟨rfl,rfl⟩⟩
 ·have hx:∀v:Value,Apart v vnil:=fun v k _ h2=>by simp[vnil,Value.ownBlock]at h2
  have hx':∀v:Value,Apart vnil v:=fun v k h2 _=>by simp[vnil,Value.ownBlock]at h2
  rcases κ with _|_|_|_|_|κ <;> rcases μ with _|_|_|_|_|μ <;> first|exact absurd rfl hne|exact hx _|exact hx' _|exact hO.ab|exact hO.ab.symm|exact hO.pq|exact hO.pq.symm|exact hO.ap|exact hO.ap.symm|exact hO.aq|exact hO.aq.symm|exact hO.bp|exact hO.bp.symm|exact hO.bq|exact hO.bq.symm|exact at1 hl.1|exact(at1 hl.1).symm|exact at1 hl.2.1|exact(at1 hl.2.1).symm|exact at1 hl.2.2.1|exact(at1 hl.2.2.1).symm|exact at1 hl.2.2.2|exact(at1 hl.2.2.2).symm
 ·by_cases e:κ=4
  ·rw[if_pos e]at hx;refine(hd x hx).weak fun b hb=>⟨by have:=hb.1;omega,hb.2.1,fun κ hκ=>?_⟩
   have hb1:=hb.1;rcases κ with _|_|_|_|_|κ
   ·exact fun e=>by have:=hl.1 b e;omega
   ·exact fun e=>by have:=hl.2.1 b e;omega
   ·exact fun e=>by have:=hl.2.2.1 b e;omega
   ·exact fun e=>by have:=hl.2.2.2 b e;omega
   ·exact hb.2.2
   ·exact fun e=>by simp[vnil,Value.ownBlock]at e
  ·rw[if_neg e]at hx;simp at hx
theorem CpM.port {w w' : World} {base : Nat} {st : Cy} {P : List PS} {Q : List SS} {k pb po pc : Nat} {V : Nat → Value} {N : Nat → Nat} {C : Nat → List Value} {D : Nat → List TJV} (h : CpM w base st P Q k 0 V N C D) (hk : k < 3) (hV : V 2 = .slice (some ⟨pb, po, none⟩) 3 pc)
  (hn:(P.getD k default).next=(st.ports k).next∧(P.getD k default).last=(st.ports k).last) (hc:CqP base pb po pc k (C 2) (st.ports k).queue (st.ports k).out w w') (hbase:base≤w.heap.size) :
  ∃V' N' C', CpM w' base st P Q (k+1) 0 V' N' C' D∧V' 0=V 0∧V' 1=V 1∧V' 2=V 2∧V' 3=V 3∧V' 4=V 4:=by
 obtain⟨u,v,o1,o2,ap,o3,ht⟩:=hc;have hg:(V 2).ownBlock=some pb:=by rw[hV];rfl
 have hkk:∀b,b<w.heap.size→b≠pb→w'.heap[b]? = w.heap[b]?:=fun b h1 h2=>ht.block b h1 h2
 have hr:=h.raw.two (κ:=5+k) (ρ:=8+k) (μ:=2) (g:=pb) (by omega) (by omega) (by omega) (by omega) (by omega) (by omega) hg hkk (by rw[hV,h.n2];exact o3) (by rw[(ety_q hk).1,(ety_q hk).2];exact OwnR.rebase o1 hbase) (by rw[(ety_o hk).1,(ety_o hk).2];exact OwnR.rebase o2 hbase) (fun b hb=>(OwnR.lt o1 b hb).1) (fun b hb=>(OwnR.lt o2 b hb).1) ap;have eV:∀i,i≠5+k→i≠8+k→upd (upd V (5+k) u) (8+k) v i=V i:=fun i h1 h2=>by rw[upd_other _ _ h2,upd_other _ _ h1]
 have eN:∀i,i≠5+k→i≠8+k→upd (upd N (5+k) (st.ports k).queue.length) (8+k) (st.ports k).out.length i=N i:=fun i h1 h2=>by rw[upd_other _ _ h2,upd_other _ _ h1]
 have eC:∀i,i≠5+k→i≠8+k→i≠2→upd (upd (upd C (5+k) ((st.ports k).queue.flatMap rowN)) (8+k) ((st.ports k).out.flatMap jbRow)) 2 (((C 2).set (k * 4+1) u).set (k * 4+2) v) i=C i:=fun i h1 h2 h3=>by rw[upd_other _ _ h3,upd_other _ _ h2,upd_other _ _ h1]
 have eq5:upd (upd V (5+k) u) (8+k) v (5+k)=u:=by rw[upd_other _ _ (by omega),upd_same]
 have eq8:upd (upd V (5+k) u) (8+k) v (8+k)=v:=upd_same _ _ _;refine⟨_,_,_,⟨hr,?_,?_,?_,?_,?_,?_,?_,?_,?_,?_,h.t4,fun i hi=>?_,fun i hi=>by omega,?_,fun κ hκ x hx=>?_⟩,eV 0 (by omega) (by omega),eV 1 (by omega) (by omega),eV 2 (by omega) (by omega),eV 3 (by omega) (by omega),eV 4 (by omega) (by omega)⟩
 ·rw[eN 0 (by omega) (by omega)];exact h.n0
 ·rw[eC 0 (by omega) (by omega) (by omega)];exact h.c0
 ·rw[eN 1 (by omega) (by omega)];exact h.n1
 ·rw[eC 1 (by omega) (by omega) (by omega)];exact h.c1
 ·rw[eN 2 (by omega) (by omega)];exact h.n2
 ·rw[upd_same,h.c2];have old:∀i,i<k→ptRow (upd (upd V (5+k) u) (8+k) v) (st.ports i) i=ptRow V (st.ports i) i:=fun i hi=>by
   simp only[ptRow,eV (5+i) (by omega) (by omega),eV (8+i) (by omega) (by omega)]
  rcases(show k=0∨k=1∨k=2 by omega)with rfl|rfl|rfl
  ·simp[prow,ptRow,rowPS,eq5,eq8,upd];exact⟨congrArg (fun n:Nat=>(n:Int)) hn.1,congrArg (fun n:Nat=>(n:Int)) hn.2⟩
  ·rw[show prow V st P 1 0=ptRow V (st.ports 0) 0 by simp[prow],show prow (upd (upd V (5+1) u) (8+1) v) st P (1+1) 0=ptRow V (st.ports 0) 0 by rw[←old 0 (by omega)];simp[prow]];simp[prow,ptRow,rowPS,upd];exact⟨congrArg (fun n:Nat=>(n:Int)) hn.1,congrArg (fun n:Nat=>(n:Int)) hn.2⟩
  ·rw[show prow V st P 2 0=ptRow V (st.ports 0) 0 by simp[prow],show prow V st P 2 1=ptRow V (st.ports 1) 1 by simp[prow],show prow (upd (upd V (5+2) u) (8+2) v) st P (2+1) 0=ptRow V (st.ports 0) 0 by rw[←old 0 (by omega)];simp[prow],show prow (upd (upd V (5+2) u) (8+2) v) st P (2+1) 1=ptRow V (st.ports 1) 1 by rw[←old 1 (by omega)];simp[prow]];simp[prow,ptRow,rowPS,upd];exact⟨congrArg (fun n:Nat=>(n:Int)) hn.1,congrArg (fun n:Nat=>(n:Int)) hn.2⟩
 ·rw[eN 3 (by omega) (by omega)];exact h.n3
 ·rw[eC 3 (by omega) (by omega) (by omega)];exact h.c3
 ·rw[eN 4 (by omega) (by omega)];exact h.n4
 ·rw[eC 4 (by omega) (by omega) (by omega)];exact h.c4
 ·by_cases e:i=k
  ·subst e;refine⟨?_,?_,upd_same _ _ _,?_⟩
   ·rw[upd_other _ _ (by omega),upd_same]
   ·rw[upd_other _ _ (by omega),upd_other _ _ (by omega),upd_same]
   ·rw[upd_other _ _ (by omega),upd_same]
  ·obtain⟨h1,h2,h3,h4⟩:=h.q i (by omega);rw[eN (5+i) (by omega) (by omega),eN (8+i) (by omega) (by omega),eC (5+i) (by omega) (by omega) (by omega),eC (8+i) (by omega) (by omega) (by omega)];exact⟨h1,h2,h3,h4⟩
 ·rw[eV 19 (by omega) (by omega),eN 19 (by omega) (by omega),eC 19 (by omega) (by omega) (by omega)];exact h.e
 ·refine((h.dat κ hκ x hx).kept fun b hb=>hkk b hb.2.1 fun e=>hb.2.2 2 (by omega) (by rw[hg,e])).weak fun b hb=>⟨hb.1,Nat.lt_of_lt_of_le hb.2.1 ht.size,fun μ hμ=>?_⟩
  by_cases e2:μ=8+k
  ·subst e2;rw[eq8];exact fun e=>by have:=(OwnR.lt o2 b e).1;have:=hb.2.1;omega
  ·by_cases e1:μ=5+k
   ·subst e1;rw[eq5];exact fun e=>by have:=(OwnR.lt o1 b e).1;have:=hb.2.1;omega
   ·rw[eV μ e1 e2];exact hb.2.2 μ hμ
theorem CpM.store {w w' : World} {base : Nat} {st : Cy} {P : List PS} {Q : List SS} {k pb po pc : Nat} {V : Nat → Value} {N : Nat → Nat} {C : Nat → List Value} {D : Nat → List TJV} (h : CpM w base st P Q 3 k V N C D) (hk : k < 4) (hV : V 3 = .slice (some ⟨pb, po, none⟩) 4 pc)
  (hn:(Q.getD k default).last=(st.slaves k).last) (hc:CrP base pb po pc k (C 3) (st.slaves k).pipe (st.slaves k).done w w') (hbase:base≤w.heap.size) :
  ∃V' N' C' D', CpM w' base st P Q 3 (k+1) V' N' C' D' ∧ V' 0=V 0∧V' 1=V 1∧V' 2=V 2∧V' 3=V 3∧V' 4=V 4:=by
 obtain⟨u,v,m,D1,o1,hm,o2,hD1,hd1,hlu,o3,ht⟩:=hc;have hg:(V 3).ownBlock=some pb:=by rw[hV];rfl
 have hkk:∀b,b<w.heap.size→b≠pb→w'.heap[b]? = w.heap[b]?:=fun b h1 h2=>ht.block b h1 h2
 have dl:D1.length=(st.slaves k).done.length:=by rw[←hD1,List.length_map]
 have ap:Apart u v:=fun b h1 h2=>by have:=hlu b h1;have:=(OwnR.lt o2 b h2).1;omega
 have hr:=h.raw.two (κ:=11+k) (ρ:=15+k) (μ:=3) (g:=pb) (by omega) (by omega) (by omega) (by omega) (by omega) (by omega) hg hkk (by rw[hV,h.n3];exact o3) (by rw[(ety_p hk).1,(ety_p hk).2];exact OwnR.rebase o1 hbase) (by rw[(ety_d hk).1,(ety_d hk).2];exact OwnR.rebase o2 (Nat.le_trans hbase hm)) (fun b hb=>(OwnR.lt o1 b hb).1) (fun b hb=>Nat.le_trans hm (OwnR.lt o2 b hb).1) ap;have eV:∀i,i≠11+k→i≠15+k→upd (upd V (11+k) u) (15+k) v i=V i:=fun i h1 h2=>by rw[upd_other _ _ h2,upd_other _ _ h1]
 have eN:∀i,i≠11+k→i≠15+k→upd (upd N (11+k) (st.slaves k).pipe.length) (15+k) D1.length i=N i:=fun i h1 h2=>by rw[upd_other _ _ h2,upd_other _ _ h1]
 have eC:∀i,i≠11+k→i≠15+k→i≠3→upd (upd (upd C (11+k) ((st.slaves k).pipe.flatMap jbRow)) (15+k) (D1.flatMap tjRow)) 3 (((C 3).set (k * 3) u).set (k * 3+1) v) i=C i:=fun i h1 h2 h3=>by rw[upd_other _ _ h3,upd_other _ _ h2,upd_other _ _ h1]
 have eq5:upd (upd V (11+k) u) (15+k) v (11+k)=u:=by rw[upd_other _ _ (by omega),upd_same]
 have eq8:upd (upd V (11+k) u) (15+k) v (15+k)=v:=upd_same _ _ _;refine⟨_,_,_,upd D (15+k) D1,⟨hr,?_,?_,?_,?_,?_,?_,?_,?_,?_,?_,?_,fun i hi=>?_,fun i hi=>?_,?_,fun κ hκ x hx=>?_⟩,eV 0 (by omega) (by omega),eV 1 (by omega) (by omega),eV 2 (by omega) (by omega),eV 3 (by omega) (by omega),eV 4 (by omega) (by omega)⟩
 ·rw[eN 0 (by omega) (by omega)];exact h.n0
 ·rw[eC 0 (by omega) (by omega) (by omega)];exact h.c0
 ·rw[eN 1 (by omega) (by omega)];exact h.n1
 ·rw[eC 1 (by omega) (by omega) (by omega)];exact h.c1
 ·rw[eN 2 (by omega) (by omega)];exact h.n2
 ·rw[eC 2 (by omega) (by omega) (by omega),h.c2];have old:∀i,i<3→ptRow (upd (upd V (11+k) u) (15+k) v) (st.ports i) i=ptRow V (st.ports i) i:=fun i hi=>by
   simp only[ptRow,eV (5+i) (by omega) (by omega),eV (8+i) (by omega) (by omega)]
  simp only[prow,if_pos (show(0:Nat)<3 by omega),if_pos (show(1:Nat)<3 by omega),if_pos (show(2:Nat)<3 by omega),old 0 (by omega),old 1 (by omega),old 2 (by omega)]
 ·rw[eN 3 (by omega) (by omega)];exact h.n3
 ·rw[upd_same,h.c3];have old:∀i,i<k→srow (upd (upd V (11+k) u) (15+k) v) st Q (k+1) i=srow V st Q k i:=fun i hi=>by
   simp only[srow,if_pos (show i<k+1 by omega),if_pos hi,svRow,eV (11+i) (by omega) (by omega),eV (15+i) (by omega) (by omega)]
  have new:∀i,k<i→srow (upd (upd V (11+k) u) (15+k) v) st Q (k+1) i=rowSS (Q.getD i default):=fun i hi=>by
   simp only[srow,if_neg (show ¬i<k+1 by omega)]
  have new':∀i,k≤i→srow V st Q k i=rowSS (Q.getD i default):=fun i hi=>by
   simp only[srow,if_neg (show ¬i<k by omega)]
  have row:∀i,∃x y z,srow V st Q k i=[x,y,z]:=fun i=>by
   unfold srow;split
   ·exact⟨_,_,_,rfl⟩
   ·exact⟨_,_,_,rfl⟩
  have mid:srow (upd (upd V (11+k) u) (15+k) v) st Q (k+1) k=[u,v,.int .i64 (st.slaves k).last]:=by
   simp only[srow,if_pos (show k<k+1 by omega),svRow,eq5,eq8]
  have last:srow V st Q k k=[sl (Q.getD k default).p,sl (Q.getD k default).d,.int .i64 (st.slaves k).last]:=by
   rw[new' k (Nat.le_refl _),rowSS,hn]
  rcases(show k=0∨k=1∨k=2∨k=3 by omega)with rfl|rfl|rfl|rfl
  ·rw[mid,last,new 1 (by omega),new 2 (by omega),new 3 (by omega),new' 1 (by omega),new' 2 (by omega),new' 3 (by omega)];rfl
  ·obtain⟨x,y,z,e0⟩:=row 0;rw[mid,last,old 0 (by omega),new 2 (by omega),new 3 (by omega),new' 2 (by omega),new' 3 (by omega),e0];rfl
  ·obtain⟨x,y,z,e0⟩:=row 0;obtain⟨x1,y1,z1,e1⟩:=row 1;rw[mid,last,old 0 (by omega),old 1 (by omega),new 3 (by omega),new' 3 (by omega),e0,e1];rfl
  ·obtain⟨x,y,z,e0⟩:=row 0;obtain⟨x1,y1,z1,e1⟩:=row 1;obtain⟨x2,y2,z2,e2⟩:=row 2;rw[mid,last,old 0 (by omega),old 1 (by omega),old 2 (by omega),e0,e1,e2];rfl
 ·rw[eN 4 (by omega) (by omega)];exact h.n4
 ·rw[eC 4 (by omega) (by omega) (by omega),upd_other _ _ (by omega)];exact h.c4
 ·rw[upd_other _ _ (by omega)];exact h.t4
 ·obtain⟨h1,h2,h3,h4⟩:=h.q i hi;rw[eN (5+i) (by omega) (by omega),eN (8+i) (by omega) (by omega),eC (5+i) (by omega) (by omega) (by omega),eC (8+i) (by omega) (by omega) (by omega)];exact⟨h1,h2,h3,h4⟩
 ·by_cases e:i=k
  ·subst e;refine⟨?_,?_,?_,?_,?_⟩
   ·rw[upd_other _ _ (by omega),upd_same]
   ·rw[upd_other _ _ (by omega),upd_other _ _ (by omega),upd_same]
   ·rw[upd_same,dl]
   ·rw[upd_other _ _ (by omega),upd_same,upd_same]
   ·rw[upd_same];exact hD1
  ·obtain⟨h1,h2,h3,h4,h5⟩:=h.s i (by omega);rw[eN (11+i) (by omega) (by omega),eN (15+i) (by omega) (by omega),eC (11+i) (by omega) (by omega) (by omega),eC (15+i) (by omega) (by omega) (by omega),upd_other D D1 (by omega)];exact⟨h1,h2,h3,h4,h5⟩
 ·rw[eV 19 (by omega) (by omega),eN 19 (by omega) (by omega),eC 19 (by omega) (by omega) (by omega)];exact h.e
 ·by_cases eκ:κ=15+k
  ·subst eκ;rw[upd_same]at hx;refine(hd1 x hx).weak fun b hb=>⟨by have:=hb.1;omega,hb.2.1,fun μ hμ=>?_⟩
   have hb1:=hb.1;by_cases e2:μ=15+k
   ·subst e2;rw[eq8];exact hb.2.2
   ·by_cases e1:μ=11+k
    ·subst e1;rw[eq5];exact fun e=>by have:=hlu b e;omega
    ·rw[eV μ e1 e2];exact fun e=>by have:=(h.raw.lt hμ e).2;omega
  ·rw[upd_other _ _ eκ]at hx;refine((h.dat κ hκ x hx).kept fun b hb=>hkk b hb.2.1 fun e=>hb.2.2 3 (by omega) (by rw[hg,e])).weak fun b hb=>⟨hb.1,Nat.lt_of_lt_of_le hb.2.1 ht.size,fun μ hμ=>?_⟩
   have hb2:=hb.2.1;by_cases e2:μ=15+k
   ·subst e2;rw[eq8];exact fun e=>by have:=(OwnR.lt o2 b e).1;omega
   ·by_cases e1:μ=11+k
    ·subst e1;rw[eq5];exact fun e=>by have:=(OwnR.lt o1 b e).1;omega
    ·rw[eV μ e1 e2];exact hb.2.2 μ hμ
end Go.Proofs.YthnlalffjepdaaaGreat
