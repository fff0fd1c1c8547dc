/- A bus that is drawn: l20Bus of the reference. -/
import Derived.Test.YthnlalffjepdaaaGreatGDq1
import Derived.Test.YthnlalffjepdaaaGreatGDr3
import Derived.Test.YthnlalffjepdaaaGreatGTh
import Derived.Outline
import Derived.Deep.Cut
import Derived.Deep.CutRange
set_option linter.unusedVariables false
set_option linter.unusedSimpArgs false
namespace Go.Proofs.YthnlalffjepdaaaGreat
open Go.RowKit
attribute [local go_sem ↓] Go.wp_at_zero Go.wp_at_succ
def lb17A (i1 i2 i3 i4 i6 i7 i9 i10 i11 i12 i13 i14 i15 i16 i17 i18 i19 i20 i21 i22 i23 i24 i25 i26 i27 i28 i29 i30 i31 i32 i33 i34 i35 i36 i37 i38 i39 i40 i41 i42 i43 i44 i45 i46 i47 i48 i49 i50 i51 i52 i53 i54 i55 i56 i57 i58 i59 i60 i61 i62 i63 i64 i75:Value) (g:Nat) (r:Nat) (vb:Nat) (vo:Nat) (n:Nat) (vc:Nat) (u65 u66 u67 u68 u69 u70 u71 u72 u73 u74:Value):Act:={ tmps:=#[.pointer (some ⟨r,0,none⟩),i1,i2,i3,i4,.pointer (some ⟨g,0,none⟩),i6,i7,.slice (some ⟨vb,vo,none⟩) n vc,i9,i10,i11,i12,i13,i14,i15,i16,i17,i18,i19,i20,i21,i22,i23,i24,i25,i26,i27,i28,i29,i30,i31,i32,i33,i34,i35,i36,i37,i38,i39,i40,i41,i42,i43,i44,i45,i46,i47,i48,i49,i50,i51,i52,i53,i54,i55,i56,i57,i58,i59,i60,i61,i62,i63,i64,u65,u66,u67,u68,u69,u70,u71,u72,u73,u74,i75],defers:=[] }
def lb17I (i1 i2 i3 i4 i6 i7 i9 i10 i11 i12 i13 i14 i15 i16 i17 i18 i19 i20 i21 i22 i23 i24 i25 i26 i27 i28 i29 i30 i31 i32 i33 i34 i35 i36 i37 i38 i39 i40 i41 i42 i43 i44 i45 i46 i47 i48 i49 i50 i51 i52 i53 i54 i55 i56 i57 i58 i59 i60 i61 i62 i63 i64 i75:Value) (g:Nat) (r:Nat) (vb:Nat) (vo:Nat) (n:Nat) (vc:Nat) (w0:World) (lo:Nat) (mid:Nat) (B:Nat) (bs:List Nat) (av:Value) (bv:Value) (pv:Value) (us:List Value) (ls:List (List Rq)) (ms:List MR) (lat:List Int) (q:Nat) (mn:Nat) (qs:List Rq) (vs:List (Value×Value)) (wq:World) (listed:Array Bool) (a:Act) (w':World):Prop :=
 ∃ u65 u66 u67 u68 u69 u70 u71 u72 u73 u74 : Value, a = lb17A i1 i2 i3 i4 i6 i7 i9 i10 i11 i12 i13 i14 i15 i16 i17 i18 i19 i20 i21 i22 i23 i24 i25 i26 i27 i28 i29 i30 i31 i32 i33 i34 i35 i36 i37 i38 i39 i40 i41 i42 i43 i44 i45 i46 i47 i48 i49 i50 i51 i52 i53 i54 i55 i56 i57 i58 i59 i60 i61 i62 i63 i64 i75 g r vb vo n vc u65 u66 u67 u68 u69 u70 u71 u72 u73 u74 ∧
   (listed.getD 0 false=true→u65=.pointer (some ⟨g,2,none⟩)) ∧
   (listed.getD 1 false=true→u66=pv) ∧
   (listed.getD 2 false=true→u67=.slice (some ⟨vb,vo,none⟩) n vc) ∧
   (listed.getD 3 false=true→u68=.slice (some ⟨vb,vo,none⟩) n vc) ∧
   (listed.getD 4 false=true→u69=.int .i64 (n:Nat)) ∧
   (listed.getD 5 false=true→u70=.int .i64 (mn:Nat)) ∧
   (listed.getD 6 false=true→u71=.slice (some ⟨vb,vo,none⟩) mn vc) ∧
   (listed.getD 7 false=true→listed.getD 8 false=false→∃g2,u72=.slice (some ⟨g2,0,none⟩) 1 1∧w'.cell? ⟨g2,0,none⟩=some (.slice (some ⟨vb,vo,none⟩) mn vc)) ∧
   (listed.getD 8 false=true→listed.getD 10 false=false→LbS w0 lo mid g r B bs av bv bv pv u73 (us++[.slice (some ⟨vb,vo,none⟩) mn vc]) (ls++[qs.take mn]) ms lat q w') ∧
   (listed.getD 9 false=true→u74=.pointer (some ⟨g,2,none⟩)) ∧
   (listed.getD 10 false=true→LbS w0 lo mid g r B bs av bv bv u73 u73 (us++[.slice (some ⟨vb,vo,none⟩) mn vc]) (ls++[qs.take mn]) ms lat q w') ∧
   (listed.getD 8 false=false→(LbS w0 lo mid g r B bs av bv bv pv pv us ls ms lat q w' ∧ RdO w' mid (.slice (some ⟨vb,vo,none⟩) n vc) qs vs)) ∧
   (listed.getD 10 false=false→BoxB w' g av bv pv) ∧
   True
noncomputable def lb17Code:Code:=(Tryz.f56.body.bind (regIn2 17)).getD .skip
def LcP (w0:World) (lo mid g r B:Nat) (bs:List Nat) (av bv:Value) (us:List Value) (ls:List (List Rq)) (ms:List MR) (lat:List Int) (q:Nat) (v:Value) (x:List Rq) (w':World):Prop:=∃u:Value,LbS w0 lo mid g r B bs av bv bv u u (us++[v]) (ls++[x]) ms lat q w'
set_option maxRecDepth 100000 in
set_option maxHeartbeats 16000000 in
theorem lb17_region (i1 i2 i3 i4 i6 i7 i9 i10 i11 i12 i13 i14 i15 i16 i17 i18 i19 i20 i21 i22 i23 i24 i25 i26 i27 i28 i29 i30 i31 i32 i33 i34 i35 i36 i37 i38 i39 i40 i41 i42 i43 i44 i45 i46 i47 i48 i49 i50 i51 i52 i53 i54 i55 i56 i57 i58 i59 i60 i61 i62 i63 i64 i75 j65 j66 j67 j68 j69 j70 j71 j72 j73 j74 : Value) (g : Nat) (r : Nat) (vb : Nat) (vo : Nat) (n : Nat) (vc : Nat) (w0 : World) (lo : Nat) (mid : Nat) (B : Nat) (bs : List Nat) (av : Value) (bv : Value) (pv : Value) (us : List Value) (ls : List (List Rq)) (ms : List MR) (lat : List Int) (q : Nat) (mn : Nat) (qs : List Rq) (vs : List (Value × Value)) (wq : World)
  (hS:LbS w0 lo mid g r B bs av bv bv pv pv us ls ms lat q wq) (hR:RdO wq mid (.slice (some ⟨vb,vo,none⟩) n vc) qs vs) (hmi:(if(12:Int)<(n:Int) then(12:Int) else(n:Int))=(mn:Int)) (hmc:mn≤vc) (hmq:mn≤qs.length) (hap:∀i,i<ls.length→Apart (us.getD i vnil) (.slice (some ⟨vb,vo,none⟩) mn vc)) (hll:ls.length≤100)
  {Q:Exit→Act→World→Prop}
  (hK:∀(u65 u66 u67 u68 u69 u70 u71 u72 u73 u74:Value) w', LcP w0 lo mid g r B bs av bv us ls ms lat q (.slice (some ⟨vb,vo,none⟩) mn vc) (qs.take mn) w' → Q .normal (lb17A i1 i2 i3 i4 i6 i7 i9 i10 i11 i12 i13 i14 i15 i16 i17 i18 i19 i20 i21 i22 i23 i24 i25 i26 i27 i28 i29 i30 i31 i32 i33 i34 i35 i36 i37 i38 i39 i40 i41 i42 i43 i44 i45 i46 i47 i48 i49 i50 i51 i52 i53 i54 i55 i56 i57 i58 i59 i60 i61 i62 i63 i64 i75 g r vb vo n vc u65 u66 u67 u68 u69 u70 u71 u72 u73 u74) w'):lb17Code.wp Tryz.prog Q (lb17A i1 i2 i3 i4 i6 i7 i9 i10 i11 i12 i13 i14 i15 i16 i17 i18 i19 i20 i21 i22 i23 i24 i25 i26 i27 i28 i29 i30 i31 i32 i33 i34 i35 i36 i37 i38 i39 i40 i41 i42 i43 i44 i45 i46 i47 i48 i49 i50 i51 i52 i53 i54 i55 i56 i57 i58 i59 i60 i61 i62 i63 i64 i75 g r vb vo n vc j65 j66 j67 j68 j69 j70 j71 j72 j73 j74) wq:=by
 conv=>arg 2;whnf
 refine wp_region_inv2 (lb17I i1 i2 i3 i4 i6 i7 i9 i10 i11 i12 i13 i14 i15 i16 i17 i18 i19 i20 i21 i22 i23 i24 i25 i26 i27 i28 i29 i30 i31 i32 i33 i34 i35 i36 i37 i38 i39 i40 i41 i42 i43 i44 i45 i46 i47 i48 i49 i50 i51 i52 i53 i54 i55 i56 i57 i58 i59 i60 i61 i62 i63 i64 i75 g r vb vo n vc w0 lo mid B bs av bv pv us ls ms lat q mn qs vs wq) (by kernel_rfl) (by kernel_rfl) ?_ ?_ ?_
 ·exact⟨_,_,_,_,_,_,_,_,_,_,rfl,(fun h=>absurd h (by rw[getD_replicate_false];simp)),(fun h=>absurd h (by rw[getD_replicate_false];simp)),(fun h=>absurd h (by rw[getD_replicate_false];simp)),(fun h=>absurd h (by rw[getD_replicate_false];simp)),(fun h=>absurd h (by rw[getD_replicate_false];simp)),(fun h=>absurd h (by rw[getD_replicate_false];simp)),(fun h=>absurd h (by rw[getD_replicate_false];simp)),(fun h _=>absurd h (by rw[getD_replicate_false];simp)),(fun h _=>absurd h (by rw[getD_replicate_false];simp)),(fun h=>absurd h (by rw[getD_replicate_false];simp)),(fun h=>absurd h (by rw[getD_replicate_false];simp)),(fun _=>⟨hS.touch (Touch.refl _ _).drewd hS.rd.drewd,hR.kept fun _ _ _=>rfl⟩),(fun _=>hS.box),trivial⟩
 ·intro listed a w' i o hI hsz ho hl he hcl;have hi:i<11:=(Array.getElem?_eq_some_iff.1 ho).1;have e:i=0∨i=1∨i=2∨i=3∨i=4∨i=5∨i=6∨i=7∨i=8∨i=9∨i=10:=by omega
  clear hi;rcases e with rfl|rfl|rfl|rfl|rfl|rfl|rfl|rfl|rfl|rfl|rfl
  all_goals (have ho2:=ho;obtain rfl:=Option.some.inj ho2.symm;clear ho2)
  ·as_aux_lemma=>
    obtain⟨u65,u66,u67,u68,u69,u70,u71,u72,u73,u74,rfl,F0,F1,F2,F3,F4,F5,F6,F7,F8,F9,F10,N8,N10,hx⟩:=hI;refine wpOp_stepx ho rfl (fun K hK=>?_);unfold lb17A;go_simp;exact hK _ _ ⟨_,_,_,_,_,_,_,_,_,_,rfl,fun _=>rfl,cy F1 rfl,cy F2 rfl,cy F3 rfl,cy F4 rfl,cy F5 rfl,cy F6 rfl,cyu F7 rfl rfl,cyu F8 rfl rfl,cy F9 rfl,cy F10 rfl,cy N8 rfl,cy N10 rfl,hx⟩
  ·as_aux_lemma=>
    obtain⟨u65,u66,u67,u68,u69,u70,u71,u72,u73,u74,rfl,F0,F1,F2,F3,F4,F5,F6,F7,F8,F9,F10,N8,N10,hx⟩:=hI;have l0:=he ⟨0,.data⟩ (by simp) rfl;have e:=F0 l0;subst e;obtain⟨⟨c0,c1,c2⟩,_⟩:=(N10 (Bool.eq_false_iff.2 fun hk=>absurd (hcl 10 _ rfl hk ⟨1,.phase⟩ (by simp) rfl) (by rw[getD_both hl];simp))).bx.three;refine wpOp_stepx ho rfl (fun K hK=>?_);unfold lb17A;go_simp;exact hK _ _ ⟨_,_,_,_,_,_,_,_,_,_,rfl,cy F0 rfl,fun _=>rfl,cy F2 rfl,cy F3 rfl,cy F4 rfl,cy F5 rfl,cy F6 rfl,cyu F7 rfl rfl,cyu F8 rfl rfl,cy F9 rfl,cy F10 rfl,cy N8 rfl,cy N10 rfl,hx⟩
  ·as_aux_lemma=>
    obtain⟨u65,u66,u67,u68,u69,u70,u71,u72,u73,u74,rfl,F0,F1,F2,F3,F4,F5,F6,F7,F8,F9,F10,N8,N10,hx⟩:=hI;refine wpOp_stepx ho rfl (fun K hK=>?_);unfold lb17A;go_simp;exact hK _ _ ⟨_,_,_,_,_,_,_,_,_,_,rfl,cy F0 rfl,cy F1 rfl,fun _=>rfl,cy F3 rfl,cy F4 rfl,cy F5 rfl,cy F6 rfl,cyu F7 rfl rfl,cyu F8 rfl rfl,cy F9 rfl,cy F10 rfl,cy N8 rfl,cy N10 rfl,hx⟩
  ·as_aux_lemma=>
    obtain⟨u65,u66,u67,u68,u69,u70,u71,u72,u73,u74,rfl,F0,F1,F2,F3,F4,F5,F6,F7,F8,F9,F10,N8,N10,hx⟩:=hI;refine wpOp_stepx ho rfl (fun K hK=>?_);unfold lb17A;go_simp;exact hK _ _ ⟨_,_,_,_,_,_,_,_,_,_,rfl,cy F0 rfl,cy F1 rfl,cy F2 rfl,fun _=>rfl,cy F4 rfl,cy F5 rfl,cy F6 rfl,cyu F7 rfl rfl,cyu F8 rfl rfl,cy F9 rfl,cy F10 rfl,cy N8 rfl,cy N10 rfl,hx⟩
  ·as_aux_lemma=>
    obtain⟨u65,u66,u67,u68,u69,u70,u71,u72,u73,u74,rfl,F0,F1,F2,F3,F4,F5,F6,F7,F8,F9,F10,N8,N10,hx⟩:=hI;have l3:=he ⟨3,.data⟩ (by simp) rfl;have e:=F3 l3;subst e;refine wpOp_stepx ho rfl (fun K hK=>?_);unfold lb17A;go_simp;exact hK _ _ ⟨_,_,_,_,_,_,_,_,_,_,rfl,cy F0 rfl,cy F1 rfl,cy F2 rfl,cy F3 rfl,fun _=>rfl,cy F5 rfl,cy F6 rfl,cyu F7 rfl rfl,cyu F8 rfl rfl,cy F9 rfl,cy F10 rfl,cy N8 rfl,cy N10 rfl,hx⟩
  ·as_aux_lemma=>
    obtain⟨u65,u66,u67,u68,u69,u70,u71,u72,u73,u74,rfl,F0,F1,F2,F3,F4,F5,F6,F7,F8,F9,F10,N8,N10,hx⟩:=hI;have l4:=he ⟨4,.data⟩ (by simp) rfl;have e:=F4 l4;subst e;refine wpOp_stepx ho rfl (fun K hK=>?_);unfold lb17A;go_simp;exact hK _ _ ⟨_,_,_,_,_,_,_,_,_,_,rfl,cy F0 rfl,cy F1 rfl,cy F2 rfl,cy F3 rfl,cy F4 rfl,fun _=>by first|rfl|rw[hmi],cy F6 rfl,cyu F7 rfl rfl,cyu F8 rfl rfl,cy F9 rfl,cy F10 rfl,cy N8 rfl,cy N10 rfl,hx⟩
  ·as_aux_lemma=>
    obtain⟨u65,u66,u67,u68,u69,u70,u71,u72,u73,u74,rfl,F0,F1,F2,F3,F4,F5,F6,F7,F8,F9,F10,N8,N10,hx⟩:=hI;have l2:=he ⟨2,.data⟩ (by simp) rfl;have l5:=he ⟨5,.data⟩ (by simp) rfl;have e:=F2 l2;subst e;have e:=F5 l5;subst e;have h1:mn≤vc:=hmc;refine wpOp_stepx ho rfl (fun K hK=>?_);unfold lb17A;go_simp;exact hK _ _ ⟨_,_,_,_,_,_,_,_,_,_,rfl,cy F0 rfl,cy F1 rfl,cy F2 rfl,cy F3 rfl,cy F4 rfl,cy F5 rfl,fun _=>rfl,cyu F7 rfl rfl,cyu F8 rfl rfl,cy F9 rfl,cy F10 rfl,cy N8 rfl,cy N10 rfl,hx⟩
  ·as_aux_lemma=>
    obtain⟨u65,u66,u67,u68,u69,u70,u71,u72,u73,u74,rfl,F0,F1,F2,F3,F4,F5,F6,F7,F8,F9,F10,N8,N10,hx⟩:=hI;have l6:=he ⟨6,.data⟩ (by simp) rfl;have e:=F6 l6;subst e;refine wpOp_stepx ho rfl (fun K hK=>?_);unfold lb17A;have hb1:Below w'.heap.size w' (w'.alloc (.cells #[.slice (some ⟨vb,vo,none⟩) mn vc] 70)):=(Below.refl _ _).alloc (Nat.le_refl _) _;go_simp;exact hK _ _ ⟨_,_,_,_,_,_,_,_,_,_,rfl,cy F0 rfl,cy F1 rfl,cy F2 rfl,cy F3 rfl,cy F4 rfl,cy F5 rfl,cy F6 rfl,fun _ _=>⟨_,rfl,by rw[World.cell?_alloc_at _ _ _ _ rfl];rfl⟩,fun hj hu=>absurd (hcl 8 _ rfl (by rwa [sgx (by decide)]at hj) ⟨7,.data⟩ (by simp) rfl) (by rw[getD_both hl];simp),cy F9 rfl,fun hj=>absurd (hcl 10 _ rfl (by rwa [sgx (by decide)]at hj) ⟨7,.phase⟩ (by simp) rfl) (by rw[getD_both hl];simp),fun hj=>⟨(cy N8 rfl hj).1.below hb1,(cy N8 rfl hj).2.below hb1⟩,fun hj=>(cy N10 rfl hj).below hb1 (cy N10 rfl hj).lt,trivial⟩
  ·as_aux_lemma=>
    obtain⟨u65,u66,u67,u68,u69,u70,u71,u72,u73,u74,rfl,F0,F1,F2,F3,F4,F5,F6,F7,F8,F9,F10,N8,N10,hx⟩:=hI;have l1:=he ⟨1,.data⟩ (by simp) rfl;have l7:=he ⟨7,.data⟩ (by simp) rfl;have e:=F1 l1;subst e;obtain⟨g2,e2,hc⟩:=F7 l7 (getD_both hl);subst e2;obtain⟨hS', hR⟩:=N8 (getD_both hl);refine wpOp_stepx ho rfl (fun K hK=>?_);unfold lb17A;refine wp_pushG elem_PP row1 row1_len (.slice (some ⟨vb,vo,none⟩) mn vc) (one1 _ _ _) w' _ _ rfl lo _ us rfl hS'.op g2 1 rfl (news1 hc) (by have:=hS'.len;omega) (by have:=hS'.len;omega) (by have:=hS'.lg;have:=hS'.box.lt;omega) ?_;intro v' w'' o1 hk hz hb;exact hK _ _ ⟨_,_,_,_,_,_,_,_,_,_,rfl,cy F0 rfl,cy F1 rfl,cy F2 rfl,cy F3 rfl,cy F4 rfl,cy F5 rfl,cy F6 rfl,fun _ hu=>absurd hu (by rw[sgix hl];simp),fun _ _=>hS'.list hR hmq hap o1 hk hb,cy F9 rfl,fun hj=>absurd (hcl 10 _ rfl (by rwa [sgx (by decide)]at hj) ⟨8,.data⟩ (by simp) rfl) (by rw[getD_both hl];simp),fun hj=>absurd hj (by rw[sgix hl];simp),fun hj=>(cy N10 rfl hj).keep (hk g (cy N10 rfl hj).lt (hS'.op.notB hS'.box (by decide))),trivial⟩
  ·as_aux_lemma=>
    obtain⟨u65,u66,u67,u68,u69,u70,u71,u72,u73,u74,rfl,F0,F1,F2,F3,F4,F5,F6,F7,F8,F9,F10,N8,N10,hx⟩:=hI;refine wpOp_stepx ho rfl (fun K hK=>?_);unfold lb17A;go_simp;exact hK _ _ ⟨_,_,_,_,_,_,_,_,_,_,rfl,cy F0 rfl,cy F1 rfl,cy F2 rfl,cy F3 rfl,cy F4 rfl,cy F5 rfl,cy F6 rfl,cyu F7 rfl rfl,cyu F8 rfl rfl,fun _=>rfl,cy F10 rfl,cy N8 rfl,cy N10 rfl,hx⟩
  ·as_aux_lemma=>
    obtain⟨u65,u66,u67,u68,u69,u70,u71,u72,u73,u74,rfl,F0,F1,F2,F3,F4,F5,F6,F7,F8,F9,F10,N8,N10,hx⟩:=hI;have l9:=he ⟨9,.data⟩ (by simp) rfl;have l8:=he ⟨8,.data⟩ (by simp) rfl;have e:=F9 l9;subst e;have hS':=F8 l8 (getD_both hl);obtain⟨y1,y2,e1,_,_⟩:=hS'.op.shape;rw[List.length_append,List.length_singleton]at e1;subst e1;obtain⟨⟨k0,k1,k2⟩,m0,m1,m2⟩:=hS'.box.bx.three;refine wpOp_stepx ho rfl (fun K hK=>?_);unfold lb17A;go_simp;exact hK _ _ ⟨_,_,_,_,_,_,_,_,_,_,rfl,cy F0 rfl,cy F1 rfl,cy F2 rfl,cy F3 rfl,cy F4 rfl,cy F5 rfl,cy F6 rfl,fun hj hu=>absurd l8 (by rw[sgx (by decide)]at hu;rw[hu];simp),fun _ hu=>absurd hu (by rw[sgix hl];simp),cy F9 rfl,fun _=>hS'.put2 _,fun hj=>absurd l8 (by rw[sgx (by decide)]at hj;rw[hj];simp),fun hj=>absurd hj (by rw[sgix hl];simp),trivial⟩
 ·intro listed a w' hI hd;obtain⟨u65,u66,u67,u68,u69,u70,u71,u72,u73,u74,rfl,F0,F1,F2,F3,F4,F5,F6,F7,F8,F9,F10,N8,N10,hx⟩:=hI;have h:=F10 (hd 10 (by show 10<11;omega));exact hK _ _ _ _ _ _ _ _ _ _ w' ⟨_,h⟩
end Go.Proofs.YthnlalffjepdaaaGreat
namespace Go.Proofs.YthnlalffjepdaaaGreat
open Go.RowKit
structure LbO (w:World) (lo mid:Nat) (a bo po:Value) (us:List Value) (ls:List (List Rq)) (ms:List MR) (lat:List Int):Prop where
 oa:Owns w lo 158 4 rowM a ms
 ob:Owns w lo 3 1 rowI bo lat
 op:Owns w lo 70 1 row1 po us
 len:us.length=ls.length
 pg:∀j,j<ls.length→∃qs vs n c x,RdO w mid (.slice x n c) qs vs∧us.getD j vnil=.slice x (ls.getD j []).length c∧(ls.getD j [])=qs.take (ls.getD j []).length
 ap:∀i j,i<j→j<ls.length→Apart (us.getD i vnil) (us.getD j vnil)
 bm:∀k,bo.ownBlock=some k→k<mid
 ml:lo≤mid
theorem LbS.toO {w0 w W:World} {lo mid g r B:Nat} {bs:List Nat} {a bx bo px po:Value} {us:List Value} {ls:List (List Rq)} {ms:List MR} {lat:List Int} {q:Nat} (h:LbS w0 lo mid g r B bs a bx bo px po us ls ms lat q w) (hkw:∀k,lo≤k→W.heap[k]? = w.heap[k]?):LbO W lo mid a bo po us ls ms lat :=
 ⟨OwnR.kept h.oa fun k hk2 => hkw k (OwnR.lt h.oa k hk2).1, OwnR.kept h.ob fun k hk2 => hkw k (OwnR.lt h.ob k hk2).1, OwnR.kept h.op fun k hk2 => hkw k (OwnR.lt h.op k hk2).1, h.len,
  fun j hj=>let ⟨qs,vs,n,c,x,k1,k2⟩:=h.pg j hj;⟨qs,vs,n,c,x,k1.kept fun k h4 _=>hkw k (Nat.le_trans h.ml h4),k2⟩,h.ap,h.bm,h.ml⟩
def Good1 (x:List Rq):Prop:=∀q∈x,reqOk q=true∧RqFit q
theorem Good1.snoc {x:List Rq} {q:Rq} (h:Good1 x) (hq:reqOk q=true∧RqFit q):Good1 (x++[q]):=by
 intro y hy;rcases List.mem_append.1 hy with hy|hy
 ·exact h y hy
 ·rw[List.mem_singleton.1 hy];exact hq
structure DrB (ms:List MR) (lat:List Int) (ls:List (List Rq)):Prop where
 m:mapOk ms=true
 m7:ms.length≤7
 m6:∀x∈ms,MR64 x
 l:lat.length=4
 l4:∀x∈lat,0≤x∧x<4
 p:ls.length=3
 q:∀x∈ls,x.length≤12∧Good1 x
theorem DrB.fit {ms:List MR} {lat:List Int} {ls:List (List Rq)} (h:DrB ms lat ls):BFit ms lat ls :=
 ⟨by have:=h.m7;omega,h.m6,by have:=h.l;omega,fun x hx=>by have:=h.l4 x hx;unfold I64;omega,by have:=h.p;omega,fun p hp=>⟨by have:=(h.q p hp).1;omega,fun q hq=>((h.q p hp).2 q hq).2⟩⟩
theorem DrB.ok {ms:List MR} {lat:List Int} {ls:List (List Rq)} (h:DrB ms lat ls):busOk ms lat ls=true:=by
 simp only[busOk,Bool.and_eq_true,decide_eq_true_eq,List.all_eq_true];refine⟨⟨⟨⟨h.m,h.l⟩,fun x hx=>by have:=h.l4 x hx;simp[inB];omega⟩,h.p⟩,fun p hp=>?_⟩;simp only[progOk,Bool.and_eq_true,decide_eq_true_eq,List.all_eq_true];exact⟨(h.q p hp).1,fun q hq=>((h.q p hp).2 q hq).1⟩
def BusDr (r B:Nat) (bs:List Nat) (p:Nat) (w:World) (e:Ending) (w':World):Prop :=
 ∃a b pv us ls ms lat q lo mid,e=.returned (.agg #[a,b,pv])∧LbO w' lo mid a b pv us ls ms lat∧w.heap.size<lo∧DrB ms lat ls∧q≤p+40000∧RdAt w' r B bs q∧Touch r w w'
theorem hold_good {id addr:Int} {q:Rq} (h:reqOk q=true) (e1:id=q.id) (e2:addr=q.addr) (hf:RqFit q):reqOk ⟨id,3,addr,1,false,[],[]⟩=true∧RqFit ⟨id,3,addr,1,false,[],[]⟩:=by
 subst e1 e2;obtain⟨h1,h2,h3,h4,h5⟩:=reqOk_parts h;have h6:inB q.addr 0 63=true:=by simp only[adrOk,Bool.and_eq_true]at h3;exact h3.1.1
 have h7:0≤q.addr∧q.addr≤63:=by simpa[inB]using h6
 refine⟨?_,⟨by simp,by simp⟩,by simp,by simp,hf.2.2.2.1,by simp[I64],hf.2.2.2.2.2.1,by simp[I64]⟩;have h8:0≤q.id∧q.id≤1:=by simpa[inB]using h1
 simp[reqOk,adrOk,rqWrites,inB];omega
structure LbJ (wo W:World) (r B:Nat) (bs:List Nat) (q:Nat) (v:Value) (qs:List Rq) (vs:List (Value×Value)) (y:Rq) (d l:Value) (bx:Nat):Prop where
 t:Touch r wo W
 rd:RdAt W r B bs q
 rows:RdO W wo.heap.size v qs vs
 hd:Owns W wo.heap.size 3 1 rowI d y.data
 hl:Owns W wo.heap.size 3 1 rowI l y.lanes
 box:BoxQ W bx y d l
 bl:wo.heap.size≤bx
 vb:v.ownBlock≠some bx
 r0:r<wo.heap.size
theorem LbJ.touch {wo W W':World} {r B q q':Nat} {bs:List Nat} {v d l:Value} {qs:List Rq} {vs:List (Value×Value)} {y:Rq} {bx:Nat} (h:LbJ wo W r B bs q v qs vs y d l bx) (ht:Touch r W W') (hr:RdAt W' r B bs q'):LbJ wo W' r B bs q' v qs vs y d l bx:=by
 have h0:=h.r0;have key:∀k,wo.heap.size≤k→k<W.heap.size→W'.heap[k]? = W.heap[k]?:=fun k h1 h2=>ht.block k h2 (by omega)
 exact { h with t:=h.t.trans ht,rd:=hr,rows:=h.rows.kept key,hd:=OwnR.kept h.hd fun k hk=>key k (OwnR.lt h.hd k hk).1 (OwnR.lt h.hd k hk).2,hl:=OwnR.kept h.hl fun k hk=>key k (OwnR.lt h.hl k hk).1 (OwnR.lt h.hl k hk).2,box:=h.box.keep (key bx h.bl h.box.lt) }
theorem LbJ.push {wo W w9 : World} {r B q : Nat} {bs : List Nat} {v v' d l d' l' : Value} {qs : List Rq} {vs : List (Value × Value)} {y z : Rq} {bx : Nat} (h : LbJ wo W r B bs q v qs vs y d l bx) (hd : Owns W wo.heap.size 3 1 rowI d' z.data) (hl : Owns W wo.heap.size 3 1 rowI l' z.lanes)
  (ho:Owns w9 wo.heap.size 69 7 rowQ v' (zipQ qs vs++[(z,d', l')])) (hk:∀b,b<W.heap.size→v.ownBlock≠some b→w9.heap[b]? = W.heap[b]?) (hv:v'.ownBlock=v.ownBlock∨∃k,W.heap.size≤k∧v'.ownBlock=some k) (hb:Below wo.heap.size W w9) :
  LbJ wo w9 r B bs q v' (qs++[z]) (vs++[(d', l')]) y d l bx∧(v.ownBlock≠none→v'.ownBlock≠none):=by
 have key:∀{u:Value} {xs:List Int},Owns W wo.heap.size 3 1 rowI u xs→Owns w9 wo.heap.size 3 1 rowI u xs:=fun hu=>OwnR.kept hu fun j hj=>hk j (OwnR.lt hu j hj).2 (fun e=>Owns.apartT hu h.rows.rows (by decide) j hj e)
 refine⟨⟨h.t.bel hb (Nat.le_refl _),h.rd.kept hb h.r0,h.rows.snoc ho (fun j cs T hc hT=>hk j (heap_lt hc) (h.rows.rows.notB hc (by rw[hT];decide))) (key hd) (key hl),key h.hd,key h.hl,h.box.keep (hk bx h.box.lt h.vb),h.bl,?_,h.r0⟩,fun hn=>?_⟩
 ·rcases hv with hv|⟨k,hk2,hv⟩
  ·rw[hv];exact h.vb
  ·rw[hv];have:=h.box.lt;intro e;simp only[Option.some.injEq]at e;omega
 ·rcases hv with hv|⟨k,_,hv⟩
  ·rw[hv];exact hn
  ·rw[hv];simp
set_option maxRecDepth 8000 in
set_option maxHeartbeats 32000000 in
theorem l20Bus_any (r B : Nat) (bs : List Nat) (p n : Nat) (w : World) (hr0 : RdAt w r B bs p) (hp : p ≤ 100000) (hn : n ≤ 100) :
  Calls Tryz.prog 56 #[.pointer (some ⟨r,0,none⟩),.int .i64 (n:Nat)] w (BusDr r B bs p w):=by
 have hrw:=hr0.lt;have HR0:=hid hr0;clear hr0
 go_enter Tryz.func56,Tryz.ntmps56
 go_wp2_with fail
 refine at_world (fun W=>RdAt W r B bs p∧Touch r w W∧Bx W w.heap.size [vnil,vnil,vnil]∧W.heap.size=w.heap.size+1) ⟨HR0.out.alloc _,(Touch.refl r w).alloc _,Bx.new w #[vnil,vnil,vnil] _ (by simp),by simp⟩ ?_;rintro W1 ⟨hrd,ht,hres,hz1⟩;refine(l20Map_any r B bs p 99999 W1 hrd (by omega) (by omega) (by omega)).mono ?_;rintro e w2 ⟨v,ms,q1,rfl,om,hm6,hml,hmok,hq1,hrd2,ht2⟩;obtain⟨ma,mc,rfl,_,_⟩:=om.shape;have HW:=hid (And.intro hrd2 (And.intro (ht.trans ht2) (hres.kept (ht2.block _ hres.lt (by omega)))));have HOM:=hid om;have HMS:=hid (And.intro hm6 (And.intro hml (hmok (by omega))));have HQ1:=hid hq1;have HZ2:=hid ht2.size;have HZ1:=hid hz1;clear hrd ht hres hrd2 ht2 om hm6 hml hmok hq1 HR0 hz1
 go_wp2_with fail
 obtain⟨W3,hW3⟩:∃W3,W3=w2.alloc (.cells #[.slice ma ms.length mc,.slice none 0 0,.slice none 0 0] 27):=⟨_,rfl⟩
 rw[←hW3]
 have HS0 := hid (show LbS w W1.heap.size W3.heap.size w2.heap.size r B bs (.slice ma ms.length mc) vnil vnil vnil vnil [] [] ms [] q1 W3 from by
  have hb:Below w2.heap.size w2 W3:=by rw[hW3];exact bx1 _ _
  have hz:=HZ1.out;have hz2:=HZ2.out;exact⟨by rw[hW3];exact BoxB.new _ _ _ _,HOM.out.below hb,Owns.zero,Owns.zero,rfl,fun j hj=>absurd hj (by simp),fun i j _ hj=>absurd hj (by simp),fun k hk=>by simp[Value.ownBlock]at hk,HW.out.1.kept hb HW.out.1.lt,HW.out.2.1.bel hb HW.out.2.1.size,HW.out.2.2.below hb HW.out.2.2.lt,hrw,by omega,by omega,by have:=hb.size;omega,Nat.le_refl _⟩)
 clear hW3 HOM HW
 go_loopw [6] (fun i wr=>∃(k mid:Nat) (bv:Value) (lat:List Int),i=.int .i64 (k:Nat)∧k≤4∧lat.length=k∧(∀x∈lat,0≤x∧x<4)∧LbS w W1.heap.size mid w2.heap.size r B bs (.slice ma ms.length mc) bv bv vnil vnil [] [] ms lat (q1+k) wr) (fun i _=>4 - (intOf i).toNat)
 case atStart=>exact⟨0,_,_,[],rfl,by omega,rfl,by simp,HS0.out⟩
 case round=>
  obtain⟨k,mid,bv,lat,rfl,hk,hlk,hl4,hS⟩:=hrel;have HS:=hid hS;have HLK:=hid hlk;have HL4:=hid hl4;clear hS hlk hl4 HS0;obtain⟨bb,bc,hbv,_,_⟩:=HS.out.ob.shape;by_cases hlt:k<4
  ·have h1:(k:Int)≤3:=by omega
   clear hbv
   go_upto_region 5 with fail
   refine lb5_region _ _ _ _ _ _ _ _ _ _ _ _ _ _ _ _ _ _ _ _ _ _ _ _ _ _ _ _ _ _ _ _ _ _ _ _ _ _ _ _ _ _ _ _ _ _ _ _ _ _ _ _ _ _ _ _ _ _ _ _ _ _ _ _ _ _ _ _ _ _ _ _ _ _ w2.heap.size r w W1.heap.size mid B bs (.slice ma ms.length mc) bv vnil ms lat (q1+k) _ HS.out (by have:=HQ1.out;omega) (by have:=HLK.out;omega) ?_;intro u18 u19 u20 u21 u22 u23 u24 wc hcut;obtain⟨x,m', u,x0,x4,hS'⟩:=hcut;have HS':=hid hS';clear hS';unfold lb5A
   go_wp2_with fail
   go_roundw
   case rel => exact ⟨k + 1, m', u, lat ++ [x], by go_num, by omega, by rw [List.length_append, List.length_singleton, HLK.out], fun y hy => by
    rcases List.mem_append.1 hy with hy|hy
    ·exact HL4.out y hy
    ·rw[List.mem_singleton.1 hy];exact⟨x0,x4⟩,HS'.out⟩
   case measure=>simp[intOf];omega
  ·obtain rfl:k=4:=by omega
   clear hbv;rw[show(((4:Nat):Int))=4 from rfl]
   go_wp2_with fail
   have HST:=hid HS.out
   go_loopw [7] (fun i wr=>∃(k q:Nat) (pv:Value) (us:List Value) (ls:List (List Rq)),i=.int .i64 (k:Nat)∧k≤3∧ls.length=k∧(∀x∈ls,x.length≤12∧Good1 x)∧q≤q1+4+k * 10201∧LbS w W1.heap.size mid w2.heap.size r B bs (.slice ma ms.length mc) bv bv pv pv us ls ms lat q wr) (fun i _=>3 - (intOf i).toNat)
   case atStart=>exact⟨0,_,_,[],[],rfl,by omega,rfl,by simp,by omega,HS.out⟩
   case round=>
    clear HS HST;obtain⟨k,q,pv,us,ls,rfl,hk,hlk,hgs,hq,hS⟩:=hrel;have HS:=hid hS;have HLS:=hid hlk;have HGS:=hid hgs;clear hS hlk hgs;obtain⟨wo,hwo⟩:∃W,W=wr:=⟨_,rfl⟩
    subst hwo;have hro:r<wo.heap.size:=HS.out.rd.lt;by_cases hlt:k<3
    ·have hlt3:(k:Int)<3:=by omega
     have hqb:q≤1000000:=by have:=HQ1.out;omega
     have HRD0:=hid (HS.out.rd.alloc (.cells #[] 69))
     go_wp2_with (go_at_call 103;go_loud ((with_reducible refine(pick_p r B bs q ((n:Int)+1) _ HRD0.out (by omega) (by omega) (by omega)).mono ?_);rintro e w5 ⟨x,rfl,x0,x1,hrd5,ht5⟩))
     obtain⟨m0,rfl⟩:=Int.eq_ofNat_of_zero_le x0;have HI0:=hid (show RdO w5 wo.heap.size (.slice (some ⟨wo.heap.size,0,none⟩) 0 0) [] [] from(show RdO (wo.alloc (.cells #[] 69)) wo.heap.size (.slice (some ⟨wo.heap.size,0,none⟩) 0 0) [] [] from⟨rfl,Owns.lit (Nat.le_refl _),by simp,by simp⟩).kept fun j h1 h2=>ht5.block j h2 (by omega));have HT0:=hid (show Touch r wo w5 from((Touch.refl r wo).alloc _).trans ht5);have HRD1:=hid hrd5;clear hrd5 ht5 HRD0
     go_loopw [8,9] (fun lv i wx=>∃(m q':Nat) (qs:List Rq) (vs:List (Value×Value)),i=.int .i64 (m:Nat)∧m≤m0∧q' ≤ q+1+(m0 - m) * 101∧Touch r wo wx∧RdAt wx r B bs q' ∧ lv.ownBlock≠none∧RdO wx wo.heap.size lv qs vs∧Good1 qs∧qs.length≤2 * (m0 - m)) (fun _ i _=>(intOf i).toNat)
     case atStart=>exact⟨m0,_,[],[],rfl,by omega,by omega,HT0.out,HRD1.out,by simp[Value.ownBlock],HI0.out,by intro y hy;simp at hy,by simp⟩
     case round=>
      clear HI0 HT0 HRD1;obtain⟨m,q', qs,vs,rfl,hm,hq', htx,hrdx,hvn,hrx,hgx,hqx⟩:=hrel;have HTX:=hid htx;have HRDX:=hid hrdx;have HVN:=hid hvn;have HRX:=hid hrx;have HGX:=hid hgx;have HQL:=hid hqx;clear htx hrdx hvn hrx hgx hqx;by_cases hm0:0<m
      ·have hm0':(0:Int)<(m:Int):=by omega
       go_upto_region 14 with(go_at_call 104;go_loud ((with_reducible refine(l20Req_any r B bs q' 99999 _ HRDX.out (by omega) (by omega) (by omega)).mono ?_);rintro e w8 ⟨dv,lv', rq,q4,rfl,o1,o2,⟨i1,i2,i3,i4,i5,i6⟩,n1,n2,hok,hq4,hrd8,ht8⟩;obtain⟨da,dc,rfl,_,_⟩:=o1.shape;obtain⟨la,lc,rfl,_,_⟩:=o2.shape))
       have HRQ:=hid (show reqOk rq=true∧RqFit rq from⟨hok (by omega),⟨by omega,by omega⟩,i5,i6,i1,i2,i3,i4⟩);have HQ4:=hid hq4;obtain⟨W8,hW8⟩:∃W8,W8=w8.alloc (.cells #[.int .i64 rq.id,.int .i64 rq.kind,.int .i64 rq.addr,.int .i64 rq.many,.bool rq.wrap,.slice da rq.data.length dc,.slice la rq.lanes.length lc] 69):=⟨_,rfl⟩
       rw[←hW8];have hbel:Below w8.heap.size w8 W8:=by rw[hW8];exact bx1 _ _
       have HJ := hid (show LbJ wo W8 r B bs q4 u8 qs vs rq (.slice da rq.data.length dc) (.slice la rq.lanes.length lc) w8.heap.size from
        ⟨(HTX.out.trans ht8).bel hbel (HTX.out.trans ht8).size,hrd8.kept hbel hrd8.lt,(HRX.out.kept fun j h1 h2=>ht8.block j h2 (by omega)).below hbel,OwnR.rebase (OwnR.below o1 hbel fun j hj=>(OwnR.lt o1 j hj).2) HTX.out.size,OwnR.rebase (OwnR.below o2 hbel fun j hj=>(OwnR.lt o2 j hj).2) HTX.out.size,by rw[hW8];exact BoxQ.new _ _ _ _,(HTX.out.trans ht8).size,fun e=>by have:=(OwnR.lt HRX.out.rows _ e).2;have:=ht8.size;omega,hro⟩)
       obtain⟨vb,vo,vc,hv⟩:∃b o c,u8=.slice (some ⟨b,o,none⟩) qs.length c:=by
        rcases HRX.out.rows.cases2 with⟨e,_⟩|⟨b,o,c,e⟩
        ·exact absurd (show u8.ownBlock=none by rw[e];rfl) HVN.out
        ·rw[zipQ_len HRX.out.len]at e;exact⟨b,o,c,e⟩
       subst hv;clear hW8 hbel o1 o2 i1 i2 i3 i4 i5 i6 n1 n2 hok hq4 hrd8 ht8;have HQS:=hid (show qs.length≤200 by have:=HQL.out;omega);by_cases hk4:rq.kind=4
       ·obtain⟨⟨e0,e1,e2,e3,e4,e5,e6⟩,_⟩:=HJ.out.box.bx.seven;have hk4':(rq.kind==4)=true:=by simp[hk4]
        clear hk4;by_cases hl0:0<qs.length
        ·have hl0':(0:Int)<(qs.length:Int):=by omega
         have hq4b:q4≤2000000:=by have:=HQ4.out;omega
         go_upto_if 52 with(go_at_call 103;go_loud ((with_reducible refine(pick_p r B bs q4 2 W8 HJ.out.rd (by omega) (by omega) (by omega)).mono ?_);rintro e w10 ⟨x,rfl,x0,x2,hrd10,ht10⟩;have HJ10:=hid (HJ.out.touch ht10 hrd10);clear hrd10 ht10))
         clear e0 e1 e2 e3 e4 e5 e6 hk4';rcases(show x=0∨x=1 by omega)with rfl|rfl
         ·obtain⟨⟨e0,e1,e2,e3,e4,e5,e6⟩,_⟩:=HJ10.out.box.bx.seven
          go_upto_region 16 with (first
           |((with_reducible refine wpList_lit7q _ _ _ _ _ rfl ?_ ?_);rfl)
           |(at_builtin;go_must (refine wpList_push2 elem_ReqReq rowQ rowQ_len (⟨rq.id,3,rq.addr,1,false,[],[]⟩,.slice none 0 0,.slice none 0 0) (one7r ⟨rq.id,3,rq.addr,1,false,[],[]⟩ none none 0 0 0 0) w10 rfl _ _ rfl wo.heap.size _ (zipQ qs vs) (by rfl) HJ10.out.rows.rows _ (by rfl) (by rfl) (by rw[zipQ_len HJ10.out.rows.len];have:=HQS.out;omega) (by rw[zipQ_len HJ10.out.rows.len];have:=HQS.out;omega) HJ10.out.t.size ?_;intro v' w11 ho9 hz9 hk9 hv9 hb9;have HP:=hid (HJ10.out.push (z:=⟨rq.id,3,rq.addr,1,false,[],[]⟩) Owns.zero Owns.zero ho9 hk9 hv9 hb9);obtain⟨vb,vd,hve,_,_⟩:=ho9.shape;rw[List.length_append,zipQ_len HJ10.out.rows.len,List.length_singleton]at hve;subst hve;clear ho9 hz9 hk9 hv9 hb9)))
          clear e0 e1 e2 e3 e4 e5 e6;have HJ11:=hid HP.out.1;have HVN11:=hid (HP.out.2 HVN.out);have HGX2:=hid (Good1.snoc HGX.out (hold_good HRQ.out.1 rfl rfl HRQ.out.2));obtain⟨⟨e0,e1,e2,e3,e4,e5,e6⟩,_⟩:=HJ11.out.box.bx.seven
          go_wp2_with (first
           |((with_reducible refine wpList_lit7q _ _ _ _ _ rfl ?_ ?_);rfl)
           |(at_builtin;go_must (refine wpList_push2 elem_ReqReq rowQ rowQ_len (rq,.slice da rq.data.length dc,.slice la rq.lanes.length lc) (one7r _ _ _ _ _ _ _) w11 rfl _ _ rfl wo.heap.size _ (zipQ (qs++[⟨rq.id,3,rq.addr,1,false,[],[]⟩]) (vs++[(.slice none 0 0,.slice none 0 0)])) (by rfl) HJ11.out.rows.rows _ (by rfl) (by rfl) (by rw[zipQ_len HJ11.out.rows.len];have:=HQL.out;rw[List.length_append,List.length_singleton];omega) (by rw[zipQ_len HJ11.out.rows.len];have:=HQL.out;rw[List.length_append,List.length_singleton];omega) HJ11.out.t.size ?_;intro v' w9 ho9 hz9 hk9 hv9 hb9)))
          have HN:=hid (HJ11.out.push HJ11.out.hd HJ11.out.hl ho9 hk9 hv9 hb9);clear ho9 hz9 hk9 hv9 hb9
          go_roundw
          case rel=>exact⟨m - 1,_,_,_,by congr 1;omega,by omega,by have:=HQ4.out;omega,HN.out.1.t,HN.out.1.rd,HN.out.2 (HVN11.out),HN.out.1.rows,Good1.snoc HGX2.out HRQ.out,by have:=HQL.out;rw[List.length_append,List.length_singleton];simp;omega⟩
          case measure=>simp[intOf];omega
         ·skip
          obtain⟨⟨e0,e1,e2,e3,e4,e5,e6⟩,_⟩:=HJ10.out.box.bx.seven
          go_wp2_with (first
           |((with_reducible refine wpList_lit7q _ _ _ _ _ rfl ?_ ?_);rfl)
           |(at_builtin;go_must (refine wpList_push2 elem_ReqReq rowQ rowQ_len (rq,.slice da rq.data.length dc,.slice la rq.lanes.length lc) (one7r _ _ _ _ _ _ _) w10 rfl _ _ rfl wo.heap.size _ (zipQ (qs) (vs)) (by rfl) HJ10.out.rows.rows _ (by rfl) (by rfl) (by rw[zipQ_len HJ10.out.rows.len];have:=HQL.out;omega) (by rw[zipQ_len HJ10.out.rows.len];have:=HQL.out;omega) HJ10.out.t.size ?_;intro v' w9 ho9 hz9 hk9 hv9 hb9)))
          have HN:=hid (HJ10.out.push HJ10.out.hd HJ10.out.hl ho9 hk9 hv9 hb9);clear ho9 hz9 hk9 hv9 hb9
          go_roundw
          case rel=>exact⟨m - 1,_,_,_,by congr 1;omega,by omega,by have:=HQ4.out;omega,HN.out.1.t,HN.out.1.rd,HN.out.2 (HVN.out),HN.out.1.rows,Good1.snoc HGX.out HRQ.out,by have:=HQL.out;simp;omega⟩
          case measure=>simp[intOf];omega
        ·have hl0d:decide (0<qs.length)=false:=by rw[decide_eq_false_iff_not];exact hl0
         clear hl0
         go_upto_if 52 with fail
         clear e0 e1 e2 e3 e4 e5 e6 hk4' hl0d;obtain⟨⟨e0,e1,e2,e3,e4,e5,e6⟩,_⟩:=HJ.out.box.bx.seven
         go_wp2_with (first
          |((with_reducible refine wpList_lit7q _ _ _ _ _ rfl ?_ ?_);rfl)
          |(at_builtin;go_must (refine wpList_push2 elem_ReqReq rowQ rowQ_len (rq,.slice da rq.data.length dc,.slice la rq.lanes.length lc) (one7r _ _ _ _ _ _ _) W8 rfl _ _ rfl wo.heap.size _ (zipQ (qs) (vs)) (by rfl) HJ.out.rows.rows _ (by rfl) (by rfl) (by rw[zipQ_len HJ.out.rows.len];have:=HQL.out;omega) (by rw[zipQ_len HJ.out.rows.len];have:=HQL.out;omega) HJ.out.t.size ?_;intro v' w9 ho9 hz9 hk9 hv9 hb9)))
         have HN:=hid (HJ.out.push HJ.out.hd HJ.out.hl ho9 hk9 hv9 hb9);clear ho9 hz9 hk9 hv9 hb9
         go_roundw
         case rel=>exact⟨m - 1,_,_,_,by congr 1;omega,by omega,by have:=HQ4.out;omega,HN.out.1.t,HN.out.1.rd,HN.out.2 (HVN.out),HN.out.1.rows,Good1.snoc HGX.out HRQ.out,by have:=HQL.out;simp;omega⟩
         case measure=>simp[intOf];omega
       ·obtain⟨⟨e0,e1,e2,e3,e4,e5,e6⟩,_⟩:=HJ.out.box.bx.seven;have hk4':(rq.kind==4)=false:=by simp[hk4]
        clear hk4
        go_upto_if 52 with fail
        clear e0 e1 e2 e3 e4 e5 e6 hk4';obtain⟨⟨e0,e1,e2,e3,e4,e5,e6⟩,_⟩:=HJ.out.box.bx.seven
        go_wp2_with (first
         |((with_reducible refine wpList_lit7q _ _ _ _ _ rfl ?_ ?_);rfl)
         |(at_builtin;go_must (refine wpList_push2 elem_ReqReq rowQ rowQ_len (rq,.slice da rq.data.length dc,.slice la rq.lanes.length lc) (one7r _ _ _ _ _ _ _) W8 rfl _ _ rfl wo.heap.size _ (zipQ (qs) (vs)) (by rfl) HJ.out.rows.rows _ (by rfl) (by rfl) (by rw[zipQ_len HJ.out.rows.len];have:=HQL.out;omega) (by rw[zipQ_len HJ.out.rows.len];have:=HQL.out;omega) HJ.out.t.size ?_;intro v' w9 ho9 hz9 hk9 hv9 hb9)))
        have HN:=hid (HJ.out.push HJ.out.hd HJ.out.hl ho9 hk9 hv9 hb9);clear ho9 hz9 hk9 hv9 hb9
        go_roundw
        case rel=>exact⟨m - 1,_,_,_,by congr 1;omega,by omega,by have:=HQ4.out;omega,HN.out.1.t,HN.out.1.rd,HN.out.2 (HVN.out),HN.out.1.rows,Good1.snoc HGX.out HRQ.out,by have:=HQL.out;simp;omega⟩
        case measure=>simp[intOf];omega
      ·obtain rfl:m=0:=by omega
       obtain⟨vb,vo,vc,hv⟩:∃b o c,u8=.slice (some ⟨b,o,none⟩) qs.length c:=by
        rcases HRX.out.rows.cases2 with⟨e,_⟩|⟨b,o,c,e⟩
        ·exact absurd (show u8.ownBlock=none by rw[e];rfl) HVN.out
        ·rw[zipQ_len HRX.out.len]at e;exact⟨b,o,c,e⟩
       subst hv;obtain⟨x1,x2,hx,hxl,hxc⟩:=HRX.out.rows.shape;rw[zipQ_len HRX.out.len]at hx hxl;simp only[Value.slice.injEq,true_and]at hx;obtain⟨_,rfl⟩:=hx;have HSX:=hid (HS.out.touch HTX.out HRDX.out);have HVB:=hid (show wo.heap.size≤vb from(OwnR.lt HRX.out.rows vb rfl).1);have HXL:=hid hxl;have HQS:=hid (show qs.length≤200 by have:=HQL.out;omega);clear hxl hxc;have HSM:=hid (show LbS w W1.heap.size mid w2.heap.size r B bs (.slice ma ms.length mc) bv bv pv pv us ls ms lat q' wr from HSX.out);obtain⟨mn,hmn⟩:∃mn,mn=min qs.length 12:=⟨_,rfl⟩
       have HMN:=hid (show mn≤qs.length∧mn≤12 by omega);have HMI:=hid (show(if(12:Int)<(qs.length:Int) then(12:Int) else(qs.length:Int))=(mn:Int) by split <;> omega);have HTK:=hid (show(qs.take mn).length=mn by rw[List.length_take];have:=HMN.out;omega);clear hmn
       go_upto_region 17 with fail
       refine lb17_region _ _ _ _ _ _ _ _ _ _ _ _ _ _ _ _ _ _ _ _ _ _ _ _ _ _ _ _ _ _ _ _ _ _ _ _ _ _ _ _ _ _ _ _ _ _ _ _ _ _ _ _ _ _ _ _ _ _ _ _ _ _ _ _ _ _ _ _ _ _ _ _ _ w2.heap.size r vb vo qs.length vc w W1.heap.size mid B bs (.slice ma ms.length mc) bv pv us ls ms lat q' mn qs vs wr HSX.out (HRX.out.rebase HS.out.mle) HMI.out (by have:=HMN.out.1;have:=HXL.out;omega) HMN.out.1 (fun i hi=>Apart.of_lt (HS.out.own i hi) (fun k hk2=>by have:=HVB.out;simp only[Value.ownBlock,Option.some.injEq]at hk2;omega)) (by have:=HLS.out;omega) ?_;intro u65 u66 u67 u68 u69 u70 u71 u72 u73 u74 wc hcut;obtain⟨u,hS'⟩:=hcut;have HS':=hid hS';clear hS';unfold lb17A
       go_wp2_with fail
       go_roundw
       case rel => exact ⟨k + 1, q', u, _, ls ++ [qs.take mn], by go_num, by omega, by rw [List.length_append, List.length_singleton, HLS.out], fun y hy => by
        rcases List.mem_append.1 hy with hy|hy
        ·exact HGS.out y hy
        ·rw[List.mem_singleton.1 hy,HTK.out];exact⟨HMN.out.2,fun z hz=>HGX.out z (List.mem_of_mem_take hz)⟩,by omega,HS'.out⟩
       case measure=>simp[intOf];omega
    ·obtain rfl:k=3:=by omega
     obtain⟨⟨s0,s1,s2⟩,_⟩:=HS.out.box.bx.three;obtain⟨⟨t0,t1,t2⟩,f0,f1,f2⟩:=HS.out.res.three;have hrl:=HS.out.res.lt;obtain⟨ba,bc,rfl,_,_⟩:=HS.out.ob.shape;obtain⟨pa,pc,rfl,_,_⟩:=HS.out.op.shape;have HLO:=hid HS.out.l0
     go_wp2_with fail
     refine bodyPost_ret (results_c1 Tryz.results56 _ _ ⟨w.heap.size,0,none⟩ (.agg #[.slice ma ms.length mc,.slice ba lat.length bc,.slice pa us.length pc]) rfl (loadVar_bus _ _ _ _ _ (by simp[go_sem, *]) (by simp[go_sem, *]) (by simp[go_sem, *]))) rfl ⟨_,_,_,us,ls,ms,lat,q,W1.heap.size,mid,rfl,HS.out.toO (fun j hj=>?_),HLO.out,⟨HMS.out.2.2,HMS.out.2.1,HMS.out.1,HLK.out,HL4.out,HLS.out,HGS.out⟩,by have:=HQ1.out;omega,?_,?_⟩
     ·have n1:j≠w.heap.size:=by have:=HLO.out;omega
      exact(Below.heap_setCell _ _ _ _ n1).trans ((Below.heap_setCell _ _ _ _ n1).trans (Below.heap_setCell _ _ _ _ n1))
     ·exact((HS.out.rd.setNew HS.out.r0 (Nat.le_refl _) _ _).setNew HS.out.r0 (Nat.le_refl _) _ _).setNew HS.out.r0 (Nat.le_refl _) _ _
     ·exact((HS.out.t.setNew (Nat.le_refl _) _).setNew (Nat.le_refl _) _).setNew (Nat.le_refl _) _
end Go.Proofs.YthnlalffjepdaaaGreat
