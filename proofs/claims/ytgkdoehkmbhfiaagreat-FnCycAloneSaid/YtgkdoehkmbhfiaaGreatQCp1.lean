/- A bus while it is copied: the ports below i, and the stores below j, have their own lists (CpM). -/
import Derived.Test.YtgkdoehkmbhfiaaGreatQFl
import Derived.Test.YtgkdoehkmbhfiaaGreatQLib
import Derived.Test.YtgkdoehkmbhfiaaGreatQDl
set_option linter.unusedVariables false
set_option linter.unusedSimpArgs false
set_option maxHeartbeats 16000000
namespace Go.Proofs.YtgkdoehkmbhfiaaGreat
open Go.RowKit
attribute [local go_sem ↓] Go.wp_at_zero Go.wp_at_succ
def Low (m:Nat) (v:Value):Prop:=∀k,v.ownBlock=some k→k<m
theorem IntsD.notC {w:World} {P:Nat→Prop} {v:Value} {xs:List Int} {g:Nat} (h:IntsD w P v xs) (hB:BoxC w g vnil vnil vnil vnil vnil):IntsD w (fun b=>P b∧b≠g) v xs:=by
 obtain⟨⟨ao,cap,hv,h1,h2,h0,h9,h3⟩,hx⟩:=h;refine⟨⟨ao,cap,hv,h1,h2,h0,h9,fun hn=>?_⟩,hx⟩;obtain⟨b,off,ha,hP,hc⟩:=h3 hn;refine⟨b,off,ha,⟨hP,?_⟩,hc⟩;rintro rfl;have e:=hc 0 (by omega) 0 (by omega);rcases xs with _|⟨x,xs⟩
 ·simp at hn
 ·unfold BoxC at hB;simp[World.cell?,hB,rowI,List.getD]at e;rcases(show off=0∨off=1∨off=2∨off=3∨off=4∨5≤off by omega)with rfl|rfl|rfl|rfl|rfl|h5
  ·simp at e
  ·simp at e
  ·simp at e
  ·simp at e
  ·simp at e
  ·obtain⟨m,rfl⟩:∃m,off=m+5:=⟨off - 5,by omega⟩
   simp at e
def cp1A (i0 i2 i4 i5 i6 i7 i21 i22 i23 i24 i25 i26 i27 i28 i29 i30 i31 i32 i33 i34 i35 i36 i37 i38 i39 i40 i41 i42 i43 i44 i45 i46 i47 i48 i49 i50 i51 i52 i53 i54 i55 i56 i57 i58 i59 i60 i61 i62 i63 i64 i65 i66 i67 i68 i69 i70 i71:Value) (gS:Nat) (u3 u8 u9 u10 u11 u12 u13 u14 u15 u16 u17 u18 u19 u20:Value):Act:={ tmps:=#[i0,.pointer (some ⟨gS,0,none⟩),i2,u3,i4,i5,i6,i7,u8,u9,u10,u11,u12,u13,u14,u15,u16,u17,u18,u19,u20,i21,i22,i23,i24,i25,i26,i27,i28,i29,i30,i31,i32,i33,i34,i35,i36,i37,i38,i39,i40,i41,i42,i43,i44,i45,i46,i47,i48,i49,i50,i51,i52,i53,i54,i55,i56,i57,i58,i59,i60,i61,i62,i63,i64,i65,i66,i67,i68,i69,i70,i71],defers:=[] }
def cp1I (i0 i2 i4 i5 i6 i7 i21 i22 i23 i24 i25 i26 i27 i28 i29 i30 i31 i32 i33 i34 i35 i36 i37 i38 i39 i40 i41 i42 i43 i44 i45 i46 i47 i48 i49 i50 i51 i52 i53 i54 i55 i56 i57 i58 i59 i60 i61 i62 i63 i64 i65 i66 i67 i68 i69 i70 i71:Value) (gS:Nat) (va:Value) (vb:Value) (vp:Value) (vs:Value) (vt:Value) (xs:List Int) (ys:List Int) (ps:List PS) (ss:List SS) (js:List TJ) (D0:List TJV) (wq:World) (listed:Array Bool) (a:Act) (w':World):Prop :=
 ∃ u3 u8 u9 u10 u11 u12 u13 u14 u15 u16 u17 u18 u19 u20 : Value, a = cp1A i0 i2 i4 i5 i6 i7 i21 i22 i23 i24 i25 i26 i27 i28 i29 i30 i31 i32 i33 i34 i35 i36 i37 i38 i39 i40 i41 i42 i43 i44 i45 i46 i47 i48 i49 i50 i51 i52 i53 i54 i55 i56 i57 i58 i59 i60 i61 i62 i63 i64 i65 i66 i67 i68 i69 i70 i71 gS u3 u8 u9 u10 u11 u12 u13 u14 u15 u16 u17 u18 u19 u20 ∧
   (listed.getD 0 false=true→u8=.pointer (some ⟨gS,0,none⟩)) ∧
   (listed.getD 1 false=true→u9=.agg #[va,vb]) ∧
   (listed.getD 2 false=true→∃qa qb,u10=.agg #[qa,qb]∧Owns w' wq.heap.size 3 1 rowI qa xs∧Owns w' wq.heap.size 3 1 rowI qb ys∧Apart qa qb) ∧
   (listed.getD 3 false=true→u11=.pointer (some ⟨gS,2,none⟩)) ∧
   (listed.getD 4 false=true→u12=vp) ∧
   (listed.getD 5 false=true→Owns w' wq.heap.size 48 4 rowPS u13 ps∧∃qa qb,u10=.agg #[qa,qb]∧Apart qa u13∧Apart qb u13) ∧
   (listed.getD 6 false=true→u14=.pointer (some ⟨gS,3,none⟩)) ∧
   (listed.getD 7 false=true→u15=vs) ∧
   (listed.getD 8 false=true→Owns w' wq.heap.size 94 3 rowSS u16 ss∧Apart u13 u16∧∃qa qb,u10=.agg #[qa,qb]∧Apart qa u16∧Apart qb u16) ∧
   (listed.getD 9 false=true→u17=.pointer (some ⟨gS,4,none⟩)) ∧
   (listed.getD 10 false=true→u18=vt) ∧
   (listed.getD 11 false=true→∃m,∃D1:List TJV,wq.heap.size≤m∧Owns w' m 65 5 tjRow u19 D1∧D1.map (·.1)=js∧(∀x∈D1,IntsD w' (fun b=>m≤b∧b<w'.heap.size∧u19.ownBlock≠some b) x.2 x.1.rsp.data)∧Low m u16∧Low m u13∧∃qa qb,u10=.agg #[qa,qb]∧Low m qa∧Low m qb) ∧
   (listed.getD 12 false=true→∃qa qb,u10=.agg #[qa,qb]∧u20=.agg #[qa,qb,u13,u16,u19]) ∧
   (listed.getD 13 false=true→listed.getD 14 false=false→∃g,u3=.pointer (some ⟨g,0,none⟩)∧wq.heap.size≤g∧BoxC w' g vnil vnil vnil vnil vnil) ∧
   (listed.getD 14 false=true→∃g qa qb,u3=.pointer (some ⟨g,0,none⟩)∧wq.heap.size≤g∧u10=.agg #[qa,qb]∧BoxC w' g qa qb u13 u16 u19) ∧
   Below wq.heap.size wq w'
noncomputable def cp1Code:Code:=(Tryz.f45.body.bind (zH0 1)).getD .skip
structure CpO (w:World) (base:Nat) (a b p s:Value) (xs ys:List Int) (ps:List PS) (ss:List SS):Prop where
 oa:Owns w base 3 1 rowI a xs
 ob:Owns w base 3 1 rowI b ys
 op:Owns w base 48 4 rowPS p ps
 os:Owns w base 94 3 rowSS s ss
 ab:Apart a b
 pq:Apart p s
 ap:Apart a p
 aq:Apart a s
 bp:Apart b p
 bq:Apart b s
def CpP (u:Value) (xs ys:List Int) (ps:List PS) (ss:List SS) (js:List TJ) (wq w':World):Prop :=
 ∃g a b p s t m,∃D1:List TJV,u=.pointer (some ⟨g,0,none⟩)∧wq.heap.size≤g∧BoxC w' g a b p s t∧CpO w' wq.heap.size a b p s xs ys ps ss∧wq.heap.size≤m∧Owns w' m 65 5 tjRow t D1∧D1.map (·.1)=js∧(∀x∈D1,IntsD w' (fun b=>m≤b∧b<w'.heap.size∧t.ownBlock≠some b) x.2 x.1.rsp.data)∧(Low m a∧Low m b∧Low m p∧Low m s)∧Below wq.heap.size wq w'
set_option maxRecDepth 100000 in
theorem cp1_region (i0 i2 i4 i5 i6 i7 i21 i22 i23 i24 i25 i26 i27 i28 i29 i30 i31 i32 i33 i34 i35 i36 i37 i38 i39 i40 i41 i42 i43 i44 i45 i46 i47 i48 i49 i50 i51 i52 i53 i54 i55 i56 i57 i58 i59 i60 i61 i62 i63 i64 i65 i66 i67 i68 i69 i70 i71 j3 j8 j9 j10 j11 j12 j13 j14 j15 j16 j17 j18 j19 j20 : Value) (gS : Nat) (va : Value) (vb : Value) (vp : Value) (vs : Value) (vt : Value) (xs : List Int) (ys : List Int) (ps : List PS) (ss : List SS) (js : List TJ) (D0 : List TJV) (wq : World)
  (hS:Bx wq gS [va,vb,vp,vs,vt]) (hA:AtmV wq wq.heap.size (.agg #[va,vb]) xs ys) (hP:Arr wq wq.heap.size 4 vp (ps.map rowPS)) (hT:Arr wq wq.heap.size 3 vs (ss.map rowSS)) (hJ1:Arr wq wq.heap.size 5 vt (D0.map tjRow)) (hJ2:D0.map (·.1)=js) (hJ3:∀x∈D0,Ints wq wq.heap.size x.2 x.1.rsp.data) (hl1:xs.length≤1048576) (hl2:ys.length≤1048576) (hl3:ps.length≤1048576) (hl4:ss.length≤1048576) (hl5:D0.length≤1000) (hl6:∀x∈D0,x.1.rsp.data.length≤1000)
  {Q:Exit→Act→World→Prop}
  (hK:∀(u3 u8 u9 u10 u11 u12 u13 u14 u15 u16 u17 u18 u19 u20:Value) w', CpP u3 xs ys ps ss js wq w' → Q .normal (cp1A i0 i2 i4 i5 i6 i7 i21 i22 i23 i24 i25 i26 i27 i28 i29 i30 i31 i32 i33 i34 i35 i36 i37 i38 i39 i40 i41 i42 i43 i44 i45 i46 i47 i48 i49 i50 i51 i52 i53 i54 i55 i56 i57 i58 i59 i60 i61 i62 i63 i64 i65 i66 i67 i68 i69 i70 i71 gS u3 u8 u9 u10 u11 u12 u13 u14 u15 u16 u17 u18 u19 u20) w'):cp1Code.wp Tryz.prog Q (cp1A i0 i2 i4 i5 i6 i7 i21 i22 i23 i24 i25 i26 i27 i28 i29 i30 i31 i32 i33 i34 i35 i36 i37 i38 i39 i40 i41 i42 i43 i44 i45 i46 i47 i48 i49 i50 i51 i52 i53 i54 i55 i56 i57 i58 i59 i60 i61 i62 i63 i64 i65 i66 i67 i68 i69 i70 i71 gS j3 j8 j9 j10 j11 j12 j13 j14 j15 j16 j17 j18 j19 j20) wq:=by
 conv=>arg 2;whnf
 refine zE7 (cp1I i0 i2 i4 i5 i6 i7 i21 i22 i23 i24 i25 i26 i27 i28 i29 i30 i31 i32 i33 i34 i35 i36 i37 i38 i39 i40 i41 i42 i43 i44 i45 i46 i47 i48 i49 i50 i51 i52 i53 i54 i55 i56 i57 i58 i59 i60 i61 i62 i63 i64 i65 i66 i67 i68 i69 i70 i71 gS va vb vp vs vt xs ys ps ss js D0 wq) (by kernel_rfl) (by kernel_rfl) ?_ ?_ ?_
 ·exact⟨_,_,_,_,_,_,_,_,_,_,_,_,_,_,rfl,nf,nf,nf,nf,nf,nf,nf,nf,nf,nf,nf,nf,nf,(fun h _=>absurd h (by rw[getD_replicate_false];simp)),nf,(Below.refl _ _).drew⟩
 ·intro listed a w' i o hI hsz ho hl he hcl;obtain⟨u3,u8,u9,u10,u11,u12,u13,u14,u15,u16,u17,u18,u19,u20,rfl,F0,F1,F2,F3,F4,F5,F6,F7,F8,F9,F10,F11,F12,F13,F14,hx⟩:=hI;have hi:i<15:=(Array.getElem?_eq_some_iff.1 ho).1;have e:i=0∨i=1∨i=2∨i=3∨i=4∨i=5∨i=6∨i=7∨i=8∨i=9∨i=10∨i=11∨i=12∨i=13∨i=14:=by omega
  clear hi;rcases e with rfl|rfl|rfl|rfl|rfl|rfl|rfl|rfl|rfl|rfl|rfl|rfl|rfl|rfl|rfl
  all_goals (have ho2:=ho;obtain rfl:=Option.some.inj ho2.symm;clear ho2)
  ·as_aux_lemma=>
    refine zA2 ho rfl (fun K hK=>?_);unfold cp1A;go_simp;refine hK _ _ ⟨_,_,_,_,_,_,_,_,_,_,_,_,_,_,rfl,?_,?_,?_,?_,?_,?_,?_,?_,?_,?_,?_,?_,?_,?_,?_,hx⟩ <;> first|exact cy ‹_› rfl|exact fun _=>rfl|exact cyu ‹_› rfl rfl
  ·as_aux_lemma=>
    have l0:=he ⟨0,.data⟩ (by simp) rfl;have e:=F0 l0;subst e;obtain⟨⟨c0,c1,c2,c3,c4⟩,_⟩:=(hS.below hx hS.lt).five;refine zA2 ho rfl (fun K hK=>?_);unfold cp1A;go_simp;refine hK _ _ ⟨_,_,_,_,_,_,_,_,_,_,_,_,_,_,rfl,?_,?_,?_,?_,?_,?_,?_,?_,?_,?_,?_,?_,?_,?_,?_,hx⟩ <;> first|exact cy ‹_› rfl|exact fun _=>rfl|exact cyu ‹_› rfl rfl
  ·as_aux_lemma=>
    have l1:=he ⟨1,.data⟩ (by simp) rfl;have e:=F1 l1;subst e;refine zA2 ho rfl (fun K hK=>?_);unfold cp1A;go_simp
    (with_reducible refine(atmCopy_any _ xs ys w'.heap.size w' ((hA.below hx).mono hx.size) (Nat.le_refl _) hl1 hl2).mono ?_)
    rintro e w'' ⟨qa,qb,rfl,o1,o2,ap,hb1⟩
    go_wp2_with fail
    exact⟨_,_,_,_,_,_,_,_,_,_,_,_,_,_,rfl,cy F0 rfl,fun _=>rfl,fun _=>⟨qa,qb,rfl,o1.rebase hx.size,o2.rebase hx.size,ap⟩,cy F3 rfl,cy F4 rfl,fun hj=>absurd (hcl 5 _ rfl (by rwa [sgx (by decide)]at hj) ⟨2,.chain⟩ (by simp) rfl) (by rw[getD_both hl];simp),cy F6 rfl,cy F7 rfl,fun hj=>absurd (hcl 5 _ rfl (hcl 8 _ rfl (by rwa [sgx (by decide)]at hj) ⟨5,.chain⟩ (by simp) rfl) ⟨2,.chain⟩ (by simp) rfl) (by rw[getD_both hl];simp),cy F9 rfl,cy F10 rfl,fun hj=>absurd (hcl 5 _ rfl (hcl 8 _ rfl (hcl 11 _ rfl (by rwa [sgx (by decide)]at hj) ⟨8,.chain⟩ (by simp) rfl) ⟨5,.chain⟩ (by simp) rfl) ⟨2,.chain⟩ (by simp) rfl) (by rw[getD_both hl];simp),fun hj=>absurd (hcl 12 _ rfl (by rwa [sgx (by decide)]at hj) ⟨2,.data⟩ (by simp) rfl) (by rw[getD_both hl];simp),fun hj hu=>(let ⟨g,e1,e2,e3⟩:=(cyu F13 rfl rfl hj hu);⟨g,e1,e2,e3.below hb1 e3.lt⟩),fun hj=>absurd (hcl 14 _ rfl (by rwa [sgx (by decide)]at hj) ⟨2,.phase⟩ (by simp) rfl) (by rw[getD_both hl];simp),hx.trans (hb1.mono hx.size)⟩
  ·as_aux_lemma=>
    refine zA2 ho rfl (fun K hK=>?_);unfold cp1A;go_simp;refine hK _ _ ⟨_,_,_,_,_,_,_,_,_,_,_,_,_,_,rfl,?_,?_,?_,?_,?_,?_,?_,?_,?_,?_,?_,?_,?_,?_,?_,hx⟩ <;> first|exact cy ‹_› rfl|exact fun _=>rfl|exact cyu ‹_› rfl rfl
  ·as_aux_lemma=>
    have l3:=he ⟨3,.data⟩ (by simp) rfl;have e:=F3 l3;subst e;obtain⟨⟨c0,c1,c2,c3,c4⟩,_⟩:=(hS.below hx hS.lt).five;refine zA2 ho rfl (fun K hK=>?_);unfold cp1A;go_simp;refine hK _ _ ⟨_,_,_,_,_,_,_,_,_,_,_,_,_,_,rfl,?_,?_,?_,?_,?_,?_,?_,?_,?_,?_,?_,?_,?_,?_,?_,hx⟩ <;> first|exact cy ‹_› rfl|exact fun _=>rfl|exact cyu ‹_› rfl rfl
  ·as_aux_lemma=>
    have l4:=he ⟨4,.data⟩ (by simp) rfl;have l2:=he ⟨2,.chain⟩ (by simp) rfl;have e:=F4 l4;subst e;obtain⟨qa,qb,hq,oa,ob,ap⟩:=F2 l2;have HQ:=hid hq;clear hq;refine zA2 ho rfl (fun K hK=>?_);unfold cp1A;go_simp
    (with_reducible refine(clone_CycPort rowPS rowPS_len rowPS_one _ ps w'.heap.size w' ((hP.below hx).mono hx.size) (by omega)).mono ?_)
    rintro e w'' ⟨q,rfl,o1,hb1⟩
    go_wp2_with fail
    exact⟨_,_,_,_,_,_,_,_,_,_,_,_,_,_,rfl,cy F0 rfl,cy F1 rfl,fun hj=>(let ⟨qa,qb,e,o1,o2,ap⟩:=(cy F2 rfl hj);⟨qa,qb,e,OwnR.below o1 hb1 (fun k hk=>(OwnR.lt o1 k hk).2),OwnR.below o2 hb1 (fun k hk=>(OwnR.lt o2 k hk).2),ap⟩),cy F3 rfl,fun _=>rfl,fun _=>⟨o1.rebase hx.size,qa,qb,HQ.out,zK8 oa o1,zK8 ob o1⟩,cy F6 rfl,cy F7 rfl,fun hj=>absurd (hcl 8 _ rfl (by rwa [sgx (by decide)]at hj) ⟨5,.chain⟩ (by simp) rfl) (by rw[getD_both hl];simp),cy F9 rfl,cy F10 rfl,fun hj=>absurd (hcl 8 _ rfl (hcl 11 _ rfl (by rwa [sgx (by decide)]at hj) ⟨8,.chain⟩ (by simp) rfl) ⟨5,.chain⟩ (by simp) rfl) (by rw[getD_both hl];simp),fun hj=>absurd (hcl 12 _ rfl (by rwa [sgx (by decide)]at hj) ⟨5,.data⟩ (by simp) rfl) (by rw[getD_both hl];simp),fun hj hu=>(let ⟨g,e1,e2,e3⟩:=(cyu F13 rfl rfl hj hu);⟨g,e1,e2,e3.below hb1 e3.lt⟩),fun hj=>absurd (hcl 14 _ rfl (by rwa [sgx (by decide)]at hj) ⟨5,.phase⟩ (by simp) rfl) (by rw[getD_both hl];simp),hx.trans (hb1.mono hx.size)⟩
  ·as_aux_lemma=>
    refine zA2 ho rfl (fun K hK=>?_);unfold cp1A;go_simp;refine hK _ _ ⟨_,_,_,_,_,_,_,_,_,_,_,_,_,_,rfl,?_,?_,?_,?_,?_,?_,?_,?_,?_,?_,?_,?_,?_,?_,?_,hx⟩ <;> first|exact cy ‹_› rfl|exact fun _=>rfl|exact cyu ‹_› rfl rfl
  ·as_aux_lemma=>
    have l6:=he ⟨6,.data⟩ (by simp) rfl;have e:=F6 l6;subst e;obtain⟨⟨c0,c1,c2,c3,c4⟩,_⟩:=(hS.below hx hS.lt).five;refine zA2 ho rfl (fun K hK=>?_);unfold cp1A;go_simp;refine hK _ _ ⟨_,_,_,_,_,_,_,_,_,_,_,_,_,_,rfl,?_,?_,?_,?_,?_,?_,?_,?_,?_,?_,?_,?_,?_,?_,?_,hx⟩ <;> first|exact cy ‹_› rfl|exact fun _=>rfl|exact cyu ‹_› rfl rfl
  ·as_aux_lemma=>
    have l7:=he ⟨7,.data⟩ (by simp) rfl;have l5:=he ⟨5,.chain⟩ (by simp) rfl;have e:=F7 l7;subst e;obtain⟨op,qa,qb,hq,a1,a2⟩:=F5 l5;obtain⟨qa2,qb2,hq2,oa,ob,_⟩:=F2 (hcl 5 _ rfl l5 ⟨2,.chain⟩ (by simp) rfl);have HQ2:=hid hq2;clear hq hq2;refine zA2 ho rfl (fun K hK=>?_);unfold cp1A;go_simp
    (with_reducible refine(clone_CycSlave rowSS rowSS_len rowSS_one _ ss w'.heap.size w' ((hT.below hx).mono hx.size) (by omega)).mono ?_)
    rintro e w'' ⟨q,rfl,o1,hb1⟩
    go_wp2_with fail
    exact⟨_,_,_,_,_,_,_,_,_,_,_,_,_,_,rfl,cy F0 rfl,cy F1 rfl,fun hj=>(let ⟨qa,qb,e,o1,o2,ap⟩:=(cy F2 rfl hj);⟨qa,qb,e,OwnR.below o1 hb1 (fun k hk=>(OwnR.lt o1 k hk).2),OwnR.below o2 hb1 (fun k hk=>(OwnR.lt o2 k hk).2),ap⟩),cy F3 rfl,cy F4 rfl,fun hj=>⟨OwnR.below (cy F5 rfl hj).1 hb1 (fun k hk=>(OwnR.lt (cy F5 rfl hj).1 k hk).2),(cy F5 rfl hj).2⟩,cy F6 rfl,fun _=>rfl,fun _=>⟨o1.rebase hx.size,zK8 op o1,qa2,qb2,HQ2.out,zK8 oa o1,zK8 ob o1⟩,cy F9 rfl,cy F10 rfl,fun hj=>absurd (hcl 11 _ rfl (by rwa [sgx (by decide)]at hj) ⟨8,.chain⟩ (by simp) rfl) (by rw[getD_both hl];simp),fun hj=>absurd (hcl 12 _ rfl (by rwa [sgx (by decide)]at hj) ⟨8,.data⟩ (by simp) rfl) (by rw[getD_both hl];simp),fun hj hu=>(let ⟨g,e1,e2,e3⟩:=(cyu F13 rfl rfl hj hu);⟨g,e1,e2,e3.below hb1 e3.lt⟩),fun hj=>absurd (hcl 14 _ rfl (by rwa [sgx (by decide)]at hj) ⟨8,.phase⟩ (by simp) rfl) (by rw[getD_both hl];simp),hx.trans (hb1.mono hx.size)⟩
  ·as_aux_lemma=>
    refine zA2 ho rfl (fun K hK=>?_);unfold cp1A;go_simp;refine hK _ _ ⟨_,_,_,_,_,_,_,_,_,_,_,_,_,_,rfl,?_,?_,?_,?_,?_,?_,?_,?_,?_,?_,?_,?_,?_,?_,?_,hx⟩ <;> first|exact cy ‹_› rfl|exact fun _=>rfl|exact cyu ‹_› rfl rfl
  ·as_aux_lemma=>
    have l9:=he ⟨9,.data⟩ (by simp) rfl;have e:=F9 l9;subst e;obtain⟨⟨c0,c1,c2,c3,c4⟩,_⟩:=(hS.below hx hS.lt).five;refine zA2 ho rfl (fun K hK=>?_);unfold cp1A;go_simp;refine hK _ _ ⟨_,_,_,_,_,_,_,_,_,_,_,_,_,_,rfl,?_,?_,?_,?_,?_,?_,?_,?_,?_,?_,?_,?_,?_,?_,?_,hx⟩ <;> first|exact cy ‹_› rfl|exact fun _=>rfl|exact cyu ‹_› rfl rfl
  ·as_aux_lemma=>
    have l10:=he ⟨10,.data⟩ (by simp) rfl;have l8:=he ⟨8,.chain⟩ (by simp) rfl;have e:=F10 l10;subst e;obtain⟨o8,_,qa8,qb8,hq8,_⟩:=F8 l8;obtain⟨o5,qa5,qb5,hq5,_⟩:=F5 (hcl 8 _ rfl l8 ⟨5,.chain⟩ (by simp) rfl);obtain⟨qa2,qb2,hq2,oa,ob,_⟩:=F2 (hcl 5 _ rfl (hcl 8 _ rfl l8 ⟨5,.chain⟩ (by simp) rfl) ⟨2,.chain⟩ (by simp) rfl);have HQ2:=hid hq2;clear hq2 hq5 hq8;refine zA2 ho rfl (fun K hK=>?_);unfold cp1A;go_simp
    (with_reducible refine(zH3 D0 _ wq.heap.size w' (hJ1.below hx) (fun x hx2=>(hJ3 x hx2).below hx) hx.size hl5 hl6).mono ?_)
    rintro e w'' ⟨q,D1,rfl,o1,hm1,hd1,hb1⟩
    go_wp2_with fail
    exact⟨_,_,_,_,_,_,_,_,_,_,_,_,_,_,rfl,cy F0 rfl,cy F1 rfl,fun hj=>(let ⟨qa,qb,e,o1,o2,ap⟩:=(cy F2 rfl hj);⟨qa,qb,e,OwnR.below o1 hb1 (fun k hk=>(OwnR.lt o1 k hk).2),OwnR.below o2 hb1 (fun k hk=>(OwnR.lt o2 k hk).2),ap⟩),cy F3 rfl,cy F4 rfl,fun hj=>⟨OwnR.below (cy F5 rfl hj).1 hb1 (fun k hk=>(OwnR.lt (cy F5 rfl hj).1 k hk).2),(cy F5 rfl hj).2⟩,cy F6 rfl,cy F7 rfl,fun hj=>⟨OwnR.below (cy F8 rfl hj).1 hb1 (fun k hk=>(OwnR.lt (cy F8 rfl hj).1 k hk).2),(cy F8 rfl hj).2⟩,cy F9 rfl,fun _=>rfl,fun _=>⟨w'.heap.size,D1,hx.size,o1,hm1.trans hJ2,hd1,(fun k hk=>(OwnR.lt o8 k hk).2),(fun k hk=>(OwnR.lt o5 k hk).2),qa2,qb2,HQ2.out,(fun k hk=>(OwnR.lt oa k hk).2),(fun k hk=>(OwnR.lt ob k hk).2)⟩,fun hj=>absurd (hcl 12 _ rfl (by rwa [sgx (by decide)]at hj) ⟨11,.data⟩ (by simp) rfl) (by rw[getD_both hl];simp),fun hj hu=>(let ⟨g,e1,e2,e3⟩:=(cyu F13 rfl rfl hj hu);⟨g,e1,e2,e3.below hb1 e3.lt⟩),fun hj=>absurd (hcl 14 _ rfl (by rwa [sgx (by decide)]at hj) ⟨11,.phase⟩ (by simp) rfl) (by rw[getD_both hl];simp),hx.trans (hb1.mono hx.size)⟩
  ·as_aux_lemma=>
    have l2:=he ⟨2,.data⟩ (by simp) rfl;have l5:=he ⟨5,.data⟩ (by simp) rfl;have l8:=he ⟨8,.data⟩ (by simp) rfl;have l11:=he ⟨11,.data⟩ (by simp) rfl;have F2':=F2 l2;obtain⟨qa,qb,hq,oa,ob,ap⟩:=F2';have F5':=F5 l5;have F8':=F8 l8;have F11':=F11 l11;obtain⟨m,D1,m1,o11,h11⟩:=F11';obtain⟨y1,y2,e1,_,_⟩:=oa.shape;obtain⟨z1,z2,e2,_,_⟩:=ob.shape;obtain⟨s1,s2,e3,_,_⟩:=F5'.1.shape;obtain⟨t1,t2,e4,_,_⟩:=F8'.1.shape;obtain⟨v1,v2,e5,_,_⟩:=o11.shape;subst e1 e2 hq e3 e4 e5;clear F5' F8' oa ob ap o11 h11;refine zA2 ho rfl (fun K hK=>?_);unfold cp1A;go_simp;refine hK _ _ ⟨_,_,_,_,_,_,_,_,_,_,_,_,_,_,rfl,?_,?_,fun hj=>F2 l2,?_,?_,fun hj=>F5 l5,?_,?_,fun hj=>F8 l8,?_,?_,fun hj=>F11 l11,fun _=>⟨_,_,rfl,rfl⟩,?_,?_,hx⟩ <;> first|exact cy ‹_› rfl|exact fun _=>rfl|exact cyu ‹_› rfl rfl
  ·as_aux_lemma=>
    refine zA2 ho rfl (fun K hK=>?_);unfold cp1A;have hb1:Below w'.heap.size w' (w'.alloc (.cells #[.slice none 0 0,.slice none 0 0,.slice none 0 0,.slice none 0 0,.slice none 0 0] 39)):=(Below.refl _ _).alloc (Nat.le_refl _) _;go_simp;refine hK _ _ ⟨_,_,_,_,_,_,_,_,_,_,_,_,_,_,rfl,?_,?_,fun hj=>(let ⟨qa,qb,e,o1,o2,ap⟩:=(cy F2 rfl hj);⟨qa,qb,e,OwnR.below o1 hb1 (fun k hk=>(OwnR.lt o1 k hk).2),OwnR.below o2 hb1 (fun k hk=>(OwnR.lt o2 k hk).2),ap⟩),?_,?_,fun hj=>⟨OwnR.below (cy F5 rfl hj).1 hb1 (fun k hk=>(OwnR.lt (cy F5 rfl hj).1 k hk).2),(cy F5 rfl hj).2⟩,?_,?_,fun hj=>⟨OwnR.below (cy F8 rfl hj).1 hb1 (fun k hk=>(OwnR.lt (cy F8 rfl hj).1 k hk).2),(cy F8 rfl hj).2⟩,?_,?_,fun hj=>(let ⟨m,D1,m1,o,h2,h3,r⟩:=(cy F11 rfl hj);⟨m,D1,m1,OwnR.below o hb1 (fun k hk=>(OwnR.lt o k hk).2),h2,fun x hx2=>((h3 x hx2).kept fun b hb=>hb1.block b hb.2.1).weak fun b hb=>⟨hb.1,Nat.lt_of_lt_of_le hb.2.1 hb1.size,hb.2.2⟩,r⟩),?_,fun _ _=>⟨_,rfl,hx.size,BoxC.new _ _ _ _ _ _⟩,fun hj=>absurd (hcl 14 _ rfl (by rwa [sgx (by decide)]at hj) ⟨13,.data⟩ (by simp) rfl) (by rw[getD_both hl];simp),hx.trans (hb1.mono hx.size)⟩ <;> first|exact cy ‹_› rfl|exact fun _=>rfl
  ·as_aux_lemma=>
    have l13:=he ⟨13,.data⟩ (by simp) rfl;have l12:=he ⟨12,.data⟩ (by simp) rfl;have l11:=he ⟨11,.chain⟩ (by simp) rfl;obtain⟨g,rfl,g1,hB⟩:=F13 l13 (getD_both hl);obtain⟨qa,qb,hq,e12⟩:=F12 l12;have l2:=hcl 12 _ rfl l12 ⟨2,.data⟩ (by simp) rfl;have l5:=hcl 12 _ rfl l12 ⟨5,.data⟩ (by simp) rfl;have l8:=hcl 12 _ rfl l12 ⟨8,.data⟩ (by simp) rfl;obtain⟨qa2,qb2,hq2,oa,ob,ap⟩:=F2 l2;rw[hq]at hq2;simp only[Value.agg.injEq,Array.mk.injEq,List.cons.injEq,and_true]at hq2;obtain⟨rfl,rfl⟩:=hq2;obtain⟨op,F5'⟩:=F5 l5;obtain⟨os,F8'⟩:=F8 l8;obtain⟨m,D1,m1,o11,hm11,hd11,r11⟩:=F11 l11;obtain⟨y1,y2,e1,_,_⟩:=oa.shape;obtain⟨z1,z2,e2,_,_⟩:=ob.shape;obtain⟨s1,s2,e3,_,_⟩:=op.shape;obtain⟨t1,t2,e4,_,_⟩:=os.shape;obtain⟨v1,v2,e5,_,_⟩:=o11.shape;subst e1 e2 hq e3 e4 e5 e12;obtain⟨⟨k0,k1,k2,k3,k4⟩,m0,m1', m2,m3,m4⟩:=hB.bx.five;have HD11:=hid hd11;have R11:=hid r11;have HM11:=hid hm11;clear hd11 r11 hm11;refine zA2 ho rfl (fun K hK=>?_);unfold cp1A;have ht:=touchC g w' (.slice y1 xs.length y2) (.slice z1 ys.length z2) (.slice s1 ps.length s2) (.slice t1 ss.length t2) (.slice v1 D1.length v2);go_simp;refine hK _ _ ⟨_,_,_,_,_,_,_,_,_,_,_,_,_,_,rfl,?_,?_,fun hj=>⟨_,_,rfl,oa.boxC hB (by decide) ht,ob.boxC hB (by decide) ht,ap⟩,?_,?_,fun hj=>⟨op.boxC hB (by decide) ht,F5'⟩,?_,?_,fun hj=>⟨os.boxC hB (by decide) ht,F8'⟩,?_,?_,fun hj=>⟨m,D1,m1,o11.boxC hB (by decide) ht,HM11.out,fun x hx2=>(((HD11.out x hx2).notC hB).kept fun b hb=>ht.block b hb.1.2.1 hb.2).weak fun b hb=>⟨hb.1.1,Nat.lt_of_lt_of_le hb.1.2.1 ht.size,hb.1.2.2⟩,R11.out⟩,fun hj=>⟨_,_,rfl,rfl⟩,fun _ hu=>absurd hu (by rw[sgix hl];simp),fun _=>⟨g,_,_,rfl,g1,rfl,hB.put _ _ _ _ _⟩,Below.touchN hx ht g1 (Nat.le_refl _)⟩ <;> first|exact cy ‹_› rfl|exact fun _=>rfl
 ·intro listed a w' hI hd;obtain⟨u3,u8,u9,u10,u11,u12,u13,u14,u15,u16,u17,u18,u19,u20,rfl,F0,F1,F2,F3,F4,F5,F6,F7,F8,F9,F10,F11,F12,F13,F14,hx⟩:=hI;obtain⟨g,qa,qb,h3,g1,hq,hB⟩:=F14 (hd 14 (by show 14<15;omega));obtain⟨qa2,qb2,hq2,oa,ob,ap⟩:=F2 (hd 2 (by show 2<15;omega));obtain⟨op,qa3,qb3,hq3,a1,a2⟩:=F5 (hd 5 (by show 5<15;omega));obtain⟨os,a3,qa4,qb4,hq4,a4,a5⟩:=F8 (hd 8 (by show 8<15;omega));obtain⟨m,D1,m1,o11,hm11,hd11,r1,r2,qa6,qb6,hq6,r3,r4⟩:=F11 (hd 11 (by show 11<15;omega));rw[hq]at hq2 hq3 hq4 hq6;simp only[Value.agg.injEq,Array.mk.injEq,List.cons.injEq,and_true]at hq2 hq3 hq4 hq6;obtain⟨rfl,rfl⟩:=hq2;obtain⟨rfl,rfl⟩:=hq3;obtain⟨rfl,rfl⟩:=hq4;obtain⟨rfl,rfl⟩:=hq6;exact hK _ _ _ _ _ _ _ _ _ _ _ _ _ _ w' ⟨g,qa,qb,_,_,_,m,D1,h3,g1,hB,⟨oa,ob,op,os,ap,a3,a1,a4,a2,a5⟩,m1,o11,hm11,hd11,⟨r3,r4,r2,r1⟩,hx⟩
end Go.Proofs.YtgkdoehkmbhfiaaGreat
namespace Go.Proofs.YtgkdoehkmbhfiaaGreat
open Go.RowKit
theorem elem_CycJob:Elem 46 101 3 24:=zF1 Tryz.underlying46 (z:=.agg #[.int .i64 0,.int .i64 0,.int .i64 0]) (by kernel_rfl) rfl (by omega)
theorem sClone_CycJob {α : Type} (f : α → List Value) (hf : ∀ x, (f x).length = 3) (h1 : ∀ x, ∀ u ∈ f x, u.oneCell' = true) (v : Value) (ys : List α) (B : Nat) (w : World) (ha : Arr w B 3 v (ys.map f)) (hlen : ys.length * 24 ≤ 140737488355328) :
  Calls Tryz.prog 142 #[v] w (zL0 f 101 3 ys w):=by
 have ha0:=hid ha;obtain⟨ao,cap,rfl,g1,g2,g0,g9,g3⟩:=ha;simp only[List.length_map]at g1 g2 g0 ⊢;clear g3;cases ao with
 |none=>
  obtain rfl:=g9 rfl;have hy:ys=[]:=by
   rcases ys with _|⟨y,ys⟩
   ·rfl
   ·simp at g1
  subst hy;have he:=fun w=>Lib.run_eql_slice_nil (P:=Tryz.prog) w 46 101 none 0 0 0 0 Tryz.underlying46
  go_enter Tryz.func142,Tryz.ntmps142
  go_wp2_with fail
  go_ret
  exact⟨_,rfl,Owns.zero,Below.refl _ _⟩
 |some ad=>
  have he:=fun w=>Lib.run_eql_slice_nil (P:=Tryz.prog) w 46 101 (some ad) ys.length cap 0 0 Tryz.underlying46
  clear g9
  go_enter Tryz.func142,Tryz.ntmps142
  go_wp2_with (at_builtin;go_must (refine zG2 elem_CycJob f hf h1 _ rfl _ _ rfl w.heap.size _ [] (by rfl) (Owns.lit (Nat.le_refl _)) _ ys (min B w.heap.size) (by rfl) (by have:=(ha0.out).fit (by omega) (by intro r hr;obtain⟨y,_,rfl⟩:=List.mem_map.1 hr;exact hf y);simp only[List.length_map]at this;exact this.below ((Below.refl _ _).alloc (Nat.min_le_right _ _) _)) (by simpa using hlen) (by simp;omega) (by simp) ?_);intro v' w1 hown1 hb1 _)
  go_ret
  exact⟨v', rfl,by simpa using hown1,((Below.refl _ _).alloc (Nat.le_refl _) _).trans hb1⟩
theorem sClip_CycJob (a:Option Addr) (n c:Nat) (w:World) (hc:n≤c) (hm:c≤9223372036854775807):Calls Tryz.prog 141 #[.slice a n c] w fun e w' => e=.returned (.slice a n n)∧w=w':=by
 go_enter Tryz.func141,Tryz.ntmps141
 go_wp2_with fail
 go_ret
 exact⟨rfl,rfl⟩
theorem clone_CycJob {α : Type} (f : α → List Value) (hf : ∀ x, (f x).length = 3) (h1 : ∀ x, ∀ u ∈ f x, u.oneCell' = true) (v : Value) (ys : List α) (B : Nat) (w : World) (ha : Arr w B 3 v (ys.map f)) (hlen : ys.length * 24 ≤ 140737488355328) :
  Calls Tryz.prog 89 #[v] w (zL0 f 101 3 ys w):=by
 go_enter Tryz.func89,Tryz.ntmps89
 go_wp2_with fail
 refine(sClone_CycJob f hf h1 v ys B w ha hlen).mono ?_;rintro e w1 ⟨u,rfl,hown,hb⟩;obtain⟨a,c,rfl,hc1,hc2⟩:=hown.shape
 go_wp2_with fail
 refine(sClip_CycJob a ys.length c _ hc1 hc2).mono ?_;rintro e w2 ⟨rfl,rfl⟩
 go_wp2_with fail
 go_ret
 exact⟨_,rfl,hown.clip,hb⟩
end Go.Proofs.YtgkdoehkmbhfiaaGreat
namespace Go.Proofs.YtgkdoehkmbhfiaaGreat
open Go.RowKit
attribute [local go_sem ↓] Go.wp_at_zero Go.wp_at_succ
theorem Owns.tchC {α:Type} {w w':World} {base e sz g:Nat} {f:α→List Value} {v:Value} {xs:List α} (h:Owns w base e sz f v xs) (ht:Touch g w w') (hg:v.ownBlock≠some g):Owns w' base e sz f v xs :=
 OwnR.kept h fun k hk=>ht.block k (OwnR.lt h k hk).2 (fun e=>hg (by rw[hk,e]))
theorem rowN_len (x:Nat):(rowN x).length=1:=rfl
theorem rowN_oneC (x:Nat):∀u∈rowN x,u.oneCell' = true:=by
 intro u hu;simp only[rowN,List.mem_singleton]at hu;subst hu;rfl
theorem Nats.below {w w':World} {B:Nat} {v:Value} {xs:List Nat} (h:Nats w B v xs) (hb:Below B w w'):Nats w' B v xs:=Arr.below h hb
theorem Nats.mono {w:World} {B B':Nat} {v:Value} {xs:List Nat} (h:Nats w B v xs) (hb:B≤B'):Nats w B' v xs:=Arr.mono h hb
def cp5A (i0 i1 i2 i6 i7 i8 i9 i10 i11 i12 i13 i14 i15 i16 i17 i18 i19 i20 i21 i22 i23 i24 i25 i26 i27 i28 i45 i46 i47 i48 i49 i50 i51 i52 i53 i54 i55 i56 i57 i58 i59 i60 i61 i62 i63 i64 i65 i66 i67 i68 i69 i70 i71:Value) (g:Nat) (k:Nat) (gE:Nat) (u29 u30 u31 u32 u33 u34 u35 u36 u37 u38 u39 u40 u41 u42 u43 u44:Value):Act:={ tmps:=#[i0,i1,i2,.pointer (some ⟨g,0,none⟩),.int .i64 (k:Nat),.pointer (some ⟨gE,0,none⟩),i6,i7,i8,i9,i10,i11,i12,i13,i14,i15,i16,i17,i18,i19,i20,i21,i22,i23,i24,i25,i26,i27,i28,u29,u30,u31,u32,u33,u34,u35,u36,u37,u38,u39,u40,u41,u42,u43,u44,i45,i46,i47,i48,i49,i50,i51,i52,i53,i54,i55,i56,i57,i58,i59,i60,i61,i62,i63,i64,i65,i66,i67,i68,i69,i70,i71],defers:=[] }
noncomputable def cp5Code:Code:=(Tryz.f45.body.bind (zH0 5)).getD .skip
def CqP (lo pb po pc k:Nat) (C:List Value) (qs:List Nat) (os:List Jb) (wq w':World):Prop:=∃u v,Owns w' wq.heap.size 3 1 rowN u qs∧Owns w' wq.heap.size 101 3 jbRow v os∧Apart u v∧OwnR w' lo 48 4 (.slice (some ⟨pb,po,none⟩) 3 pc) 3 ((C.set (k * 4+1) u).set (k * 4+2) v)∧Touch pb wq w'
def cp5C (lo pb po pc k : Nat) (C : List Value) (qs : List Nat) (os : List Jb) (wq : World) (us : List Value) (W : World) : Prop := Touch pb wq W ∧ match us with
 |[]=>OwnR W lo 48 4 (.slice (some ⟨pb,po,none⟩) 3 pc) 3 C
 |[u]=>OwnR W lo 48 4 (.slice (some ⟨pb,po,none⟩) 3 pc) 3 C∧Owns W wq.heap.size 3 1 rowN u qs
 |[u,v]=>OwnR W lo 48 4 (.slice (some ⟨pb,po,none⟩) 3 pc) 3 C∧Owns W wq.heap.size 3 1 rowN u qs∧Owns W wq.heap.size 101 3 jbRow v os∧Apart u v
 |[u,v,_]=>OwnR W lo 48 4 (.slice (some ⟨pb,po,none⟩) 3 pc) 3 (C.set (k * 4+1) u)∧Owns W wq.heap.size 3 1 rowN u qs∧Owns W wq.heap.size 101 3 jbRow v os∧Apart u v
 |[_,_,_,_]=>CqP lo pb po pc k C qs os wq W
 |_=>False
set_option maxRecDepth 100000 in
theorem cp5_region (i0 i1 i2 i6 i7 i8 i9 i10 i11 i12 i13 i14 i15 i16 i17 i18 i19 i20 i21 i22 i23 i24 i25 i26 i27 i28 i45 i46 i47 i48 i49 i50 i51 i52 i53 i54 i55 i56 i57 i58 i59 i60 i61 i62 i63 i64 i65 i66 i67 i68 i69 i70 i71 j29 j30 j31 j32 j33 j34 j35 j36 j37 j38 j39 j40 j41 j42 j43 j44 : Value) (g : Nat) (k : Nat) (gE : Nat) (lo : Nat) (pb : Nat) (po : Nat) (pc : Nat) (B : Nat) (C : List Value) (c1 : Value) (c2 : Value) (qa : Option Addr) (qn : Nat) (qc : Nat) (oa : Option Addr) (on : Nat) (oc : Nat) (qs : List Nat) (os : List Jb) (wq : World)
    (hgp:g≠pb) (hgl:g<wq.heap.size) (hG:wq.cell? ⟨g,2,none⟩=some (.slice (some ⟨pb,po,none⟩) 3 pc)) (hpl:pb<wq.heap.size) (hB:B≤pb) (hBs:B≤wq.heap.size) (hkn:k<3) (hep:gE≠pb) (hel:gE<wq.heap.size) (hO:OwnR wq lo 48 4 (.slice (some ⟨pb,po,none⟩) 3 pc) 3 C) (hC1:C[k * 4+1]? = some c1) (hC2:C[k * 4+2]? = some c2) (hE1:wq.cell? ⟨gE,1,none⟩=some (.slice qa qn qc)) (hE2:wq.cell? ⟨gE,2,none⟩=some (.slice oa on oc)) (hQ:Nats wq B (.slice qa qn qc) qs) (hJ:Jbs wq B (.slice oa on oc) os) (hl1:qs.length≤1048576) (hl2:os.length≤1048576)
    {Q:Exit→Act→World→Prop}
    (hK:∀(u29 u30 u31 u32 u33 u34 u35 u36 u37 u38 u39 u40 u41 u42 u43 u44:Value) w', CqP lo pb po pc k C qs os wq w' → Q .normal (cp5A i0 i1 i2 i6 i7 i8 i9 i10 i11 i12 i13 i14 i15 i16 i17 i18 i19 i20 i21 i22 i23 i24 i25 i26 i27 i28 i45 i46 i47 i48 i49 i50 i51 i52 i53 i54 i55 i56 i57 i58 i59 i60 i61 i62 i63 i64 i65 i66 i67 i68 i69 i70 i71 g k gE u29 u30 u31 u32 u33 u34 u35 u36 u37 u38 u39 u40 u41 u42 u43 u44) w'):cp5Code.wp Tryz.prog Q (cp5A i0 i1 i2 i6 i7 i8 i9 i10 i11 i12 i13 i14 i15 i16 i17 i18 i19 i20 i21 i22 i23 i24 i25 i26 i27 i28 i45 i46 i47 i48 i49 i50 i51 i52 i53 i54 i55 i56 i57 i58 i59 i60 i61 i62 i63 i64 i65 i66 i67 i68 i69 i70 i71 g k gE j29 j30 j31 j32 j33 j34 j35 j36 j37 j38 j39 j40 j41 j42 j43 j44) wq:=by
  conv=>arg 2;whnf
  obtain⟨CC,hCC⟩:∃CC,CC=cp5C lo pb po pc k C qs os wq:=⟨_,rfl⟩
  have hC0:CC [] wq.drew:=by rw[hCC];exact⟨(Touch.refl _ _).drewd,hO⟩
  have hTC:∀us W,CC us W→Touch pb wq W:=by rw[hCC];exact fun us W h=>h.1
  have HCC:=hid hCC;have hne:Nonempty (Ph CC):=⟨⟨([],wq.drew),hC0⟩⟩
  have pc9:∀{p:Addr} {v:Value},p.block≠pb→wq.cell? p=some v→∀x:Ph CC,x.1.2.cell? p=some v:=fun hp hc x=>by
    rw[←hc];simp only[World.cell?,(hTC _ _ x.2).block _ (World.block_lt_of_cell? wq _ hc) hp]
  replace hG:=pc9 hgp hG;replace hE1:=pc9 hep hE1;replace hE2:=pc9 hep hE2;clear hCC pc9;have hki:(k:Int)<3:=by omega
  unfold cp5A;refine zA9 CC [(8,false),(11,false),(14,false),(17,false)] [] (by kernel_rfl) (by kernel_rfl) hC0 ?_
  iterate 4
    repeat (
      (with_reducible refine wq1_q ⟨rfl,rfl⟩ (fun K hK=>?_))
      go_simp
      first
        |((with_reducible refine hK _ ?_);clear hK K)
        |((with_reducible refine zA7 (by simp[undef]) (hK _ ?_));clear hK K)
        | (apply Exists.intro
           (with_reducible refine⟨fun _=>?_,hK _ ?_⟩)
           (fail)
           clear hK K))
    refine wq1_v rfl ?_
  refine zF4 ?_;clear hG hE1 hE2 hne;refine wq2_v _ rfl rfl ?_ ?_
  · intro W hW KA hKA
    rw[HCC.out]at hW;obtain⟨hT,own⟩:=hW;have hHB:=hT.below hB hBs;have hQx:Arr W B 1 (.slice qa qn qc) (qs.map rowN):=hQ.below hHB;go_simp
    (with_reducible refine(zH4 rowN rowN_len rowN_oneC _ qs B W hQx (by omega)).mono ?_)
    rintro e w'' ⟨q,rfl,o1,hb1⟩;go_simp;exact hKA _ _ _ (by rw[HCC.out];exact⟨hT.trans (Touch.of_below hb1 (Nat.le_refl _)),OwnR.below own hb1 (fun k hk=>(OwnR.lt own k hk).2),o1.rebase hT.size⟩) rfl
  intro v0 KA hKA;go_simp;refine hKA _ ?_;clear hKA KA;refine wq2_v _ rfl rfl ?_ ?_
  · intro W hW KA hKA
    rw[HCC.out]at hW;obtain⟨hT,own,o8⟩:=hW;have hHB:=hT.below hB hBs;have hJx:Arr W B 3 (.slice oa on oc) (os.map jbRow):=hJ.below hHB;go_simp
    (with_reducible refine(clone_CycJob jbRow (fun _=>rfl) jbRow_one _ os B W hJx (by omega)).mono ?_)
    rintro e w'' ⟨q,rfl,o1,hb1⟩;go_simp;exact hKA _ _ _ (by rw[HCC.out];exact⟨hT.trans (Touch.of_below hb1 (Nat.le_refl _)),OwnR.below own hb1 (fun k hk=>(OwnR.lt own k hk).2),OwnR.below o8 hb1 (fun k hk=>(OwnR.lt o8 k hk).2),o1.rebase hT.size,zK8 o8 o1⟩) rfl
  intro v1 KA hKA;go_simp;refine hKA _ ?_;clear hKA KA;refine wq2_v _ rfl rfl ?_ ?_
  · intro W hW KA hKA
    rw[HCC.out]at hW;obtain⟨hT,own,o8,o11,ap⟩:=hW;obtain⟨y1,y3,e1,_,_⟩:=o8.shape;subst e1;have q:=(OwnR.get own (k * 4+1) (by omega)).trans (hC1);have q2:=OwnR.unfrozen own (po+(k * 4+1));have hput:=OwnR.put own (k * 4+1) (by omega) (.slice y1 qs.length y3);rw[←Nat.add_assoc]at q q2 hput;have HPUT:=hid hput;clear hput;go_simp;exact hKA undef _ _ (by rw[HCC.out];exact⟨hT.trans (Touch.setCell ..),HPUT.out,Owns.tchC o8 (Touch.setCell ..) (fun e=>by have:=(OwnR.lt o8 pb e).1;omega),Owns.tchC o11 (Touch.setCell ..) (fun e=>by have:=(OwnR.lt o11 pb e).1;omega),ap⟩) rfl
  intro v2 KA hKA;go_simp;refine hKA _ ?_;clear hKA KA;refine wq2_v _ rfl rfl ?_ ?_
  · intro W hW KA hKA
    rw[HCC.out]at hW;obtain⟨hT,own,o8,o11,ap⟩:=hW;obtain⟨y1,y3,e1,_,_⟩:=o11.shape;subst e1;have q:=(OwnR.get own (k * 4+2) (by omega)).trans ((show(C.set (k * 4+1) _)[k * 4+2]? = some c2 by rw[List.getElem?_set,if_neg (by omega)];exact hC2));have q2:=OwnR.unfrozen own (po+(k * 4+2));have hput:=OwnR.put own (k * 4+2) (by omega) (.slice y1 os.length y3);rw[←Nat.add_assoc]at q q2 hput;have HPUT:=hid hput;clear hput;go_simp;exact hKA undef _ _ (by rw[HCC.out];exact⟨hT.trans (Touch.setCell ..),_,_,Owns.tchC o8 (Touch.setCell ..) (fun e=>by have:=(OwnR.lt o8 pb e).1;omega),Owns.tchC o11 (Touch.setCell ..) (fun e=>by have:=(OwnR.lt o11 pb e).1;omega),ap,HPUT.out,hT.trans (Touch.setCell ..)⟩) rfl
  intro v3 KA hKA;go_simp;refine hKA _ ?_;clear hKA KA;refine zF3 ?_;intro wz hwz;rw[HCC.out]at hwz;exact hK _ _ _ _ _ _ _ _ _ _ _ _ _ _ _ _ wz hwz.2
end Go.Proofs.YtgkdoehkmbhfiaaGreat
namespace Go.Proofs.YtgkdoehkmbhfiaaGreat
open Go.RowKit
attribute [local go_sem ↓] Go.wp_at_zero Go.wp_at_succ
def cp10A (i0 i1 i2 i4 i5 i8 i9 i10 i11 i12 i13 i14 i15 i16 i17 i18 i19 i20 i21 i22 i23 i24 i25 i26 i27 i28 i29 i30 i31 i32 i33 i34 i35 i36 i37 i38 i39 i40 i41 i42 i43 i44 i45 i46 i47 i48 i49 i50 i51 i52 i53 i70 i71:Value) (g:Nat) (k:Nat) (gE:Nat) (u54 u55 u56 u57 u58 u59 u60 u61 u62 u63 u64 u65 u66 u67 u68 u69:Value):Act:={ tmps:=#[i0,i1,i2,.pointer (some ⟨g,0,none⟩),i4,i5,.int .i64 (k:Nat),.pointer (some ⟨gE,0,none⟩),i8,i9,i10,i11,i12,i13,i14,i15,i16,i17,i18,i19,i20,i21,i22,i23,i24,i25,i26,i27,i28,i29,i30,i31,i32,i33,i34,i35,i36,i37,i38,i39,i40,i41,i42,i43,i44,i45,i46,i47,i48,i49,i50,i51,i52,i53,u54,u55,u56,u57,u58,u59,u60,u61,u62,u63,u64,u65,u66,u67,u68,u69,i70,i71],defers:=[] }
noncomputable def cp10Code:Code:=(Tryz.f45.body.bind (zH0 10)).getD .skip
def CrP (lo pb po pc k:Nat) (C:List Value) (qs:List Jb) (js:List TJ) (wq w':World):Prop:=∃u v m,∃D1:List TJV,Owns w' wq.heap.size 101 3 jbRow u qs∧wq.heap.size≤m∧Owns w' m 65 5 tjRow v D1∧D1.map (·.1)=js∧(∀x∈D1,IntsD w' (fun b=>m≤b∧b<w'.heap.size∧v.ownBlock≠some b) x.2 x.1.rsp.data)∧Low m u∧OwnR w' lo 94 3 (.slice (some ⟨pb,po,none⟩) 4 pc) 4 ((C.set (k * 3) u).set (k * 3+1) v)∧Touch pb wq w'
def cp10C (lo pb po pc k : Nat) (C : List Value) (qs : List Jb) (js : List TJ) (wq : World) (us : List Value) (W : World) : Prop := Touch pb wq W ∧ match us with
 |[]=>OwnR W lo 94 3 (.slice (some ⟨pb,po,none⟩) 4 pc) 4 C
 |[u]=>OwnR W lo 94 3 (.slice (some ⟨pb,po,none⟩) 4 pc) 4 C∧Owns W wq.heap.size 101 3 jbRow u qs
 |[u,v]=>OwnR W lo 94 3 (.slice (some ⟨pb,po,none⟩) 4 pc) 4 C∧Owns W wq.heap.size 101 3 jbRow u qs∧∃m,∃D1:List TJV,wq.heap.size≤m∧Owns W m 65 5 tjRow v D1∧D1.map (·.1)=js∧(∀x∈D1,IntsD W (fun b=>m≤b∧b<W.heap.size∧v.ownBlock≠some b) x.2 x.1.rsp.data)∧Low m u
 |[u,v,_]=>OwnR W lo 94 3 (.slice (some ⟨pb,po,none⟩) 4 pc) 4 (C.set (k * 3) u)∧Owns W wq.heap.size 101 3 jbRow u qs∧∃m,∃D1:List TJV,wq.heap.size≤m∧Owns W m 65 5 tjRow v D1∧D1.map (·.1)=js∧(∀x∈D1,IntsD W (fun b=>m≤b∧b<W.heap.size∧v.ownBlock≠some b) x.2 x.1.rsp.data)∧Low m u
 |[_,_,_,_]=>CrP lo pb po pc k C qs js wq W
 |_=>False
set_option maxRecDepth 100000 in
theorem cp10_region (i0 i1 i2 i4 i5 i8 i9 i10 i11 i12 i13 i14 i15 i16 i17 i18 i19 i20 i21 i22 i23 i24 i25 i26 i27 i28 i29 i30 i31 i32 i33 i34 i35 i36 i37 i38 i39 i40 i41 i42 i43 i44 i45 i46 i47 i48 i49 i50 i51 i52 i53 i70 i71 j54 j55 j56 j57 j58 j59 j60 j61 j62 j63 j64 j65 j66 j67 j68 j69 : Value) (g : Nat) (k : Nat) (gE : Nat) (lo : Nat) (pb : Nat) (po : Nat) (pc : Nat) (B : Nat) (C : List Value) (c1 : Value) (c2 : Value) (qa : Option Addr) (qn : Nat) (qc : Nat) (oa : Option Addr) (on : Nat) (oc : Nat) (qs : List Jb) (js : List TJ) (D0 : List TJV) (wq : World)
    (hgp:g≠pb) (hgl:g<wq.heap.size) (hG:wq.cell? ⟨g,3,none⟩=some (.slice (some ⟨pb,po,none⟩) 4 pc)) (hpl:pb<wq.heap.size) (hB:B≤pb) (hBs:B≤wq.heap.size) (hkn:k<4) (hep:gE≠pb) (hel:gE<wq.heap.size) (hO:OwnR wq lo 94 3 (.slice (some ⟨pb,po,none⟩) 4 pc) 4 C) (hC1:C[k * 3]? = some c1) (hC2:C[k * 3+1]? = some c2) (hE0:wq.cell? ⟨gE,0,none⟩=some (.slice qa qn qc)) (hE1:wq.cell? ⟨gE,1,none⟩=some (.slice oa on oc)) (hQ:Jbs wq B (.slice qa qn qc) qs) (hJ1:Arr wq B 5 (.slice oa on oc) (D0.map tjRow)) (hJ2:D0.map (·.1)=js) (hJ3:∀x∈D0,Ints wq B x.2 x.1.rsp.data) (hl1:qs.length≤1048576) (hl5:D0.length≤1000) (hl6:∀x∈D0,x.1.rsp.data.length≤1000)
    {Q:Exit→Act→World→Prop}
    (hK:∀(u54 u55 u56 u57 u58 u59 u60 u61 u62 u63 u64 u65 u66 u67 u68 u69:Value) w', CrP lo pb po pc k C qs js wq w' → Q .normal (cp10A i0 i1 i2 i4 i5 i8 i9 i10 i11 i12 i13 i14 i15 i16 i17 i18 i19 i20 i21 i22 i23 i24 i25 i26 i27 i28 i29 i30 i31 i32 i33 i34 i35 i36 i37 i38 i39 i40 i41 i42 i43 i44 i45 i46 i47 i48 i49 i50 i51 i52 i53 i70 i71 g k gE u54 u55 u56 u57 u58 u59 u60 u61 u62 u63 u64 u65 u66 u67 u68 u69) w'):cp10Code.wp Tryz.prog Q (cp10A i0 i1 i2 i4 i5 i8 i9 i10 i11 i12 i13 i14 i15 i16 i17 i18 i19 i20 i21 i22 i23 i24 i25 i26 i27 i28 i29 i30 i31 i32 i33 i34 i35 i36 i37 i38 i39 i40 i41 i42 i43 i44 i45 i46 i47 i48 i49 i50 i51 i52 i53 i70 i71 g k gE j54 j55 j56 j57 j58 j59 j60 j61 j62 j63 j64 j65 j66 j67 j68 j69) wq:=by
  conv=>arg 2;whnf
  obtain⟨CC,hCC⟩:∃CC,CC=cp10C lo pb po pc k C qs js wq:=⟨_,rfl⟩
  have hC0:CC [] wq.drew:=by rw[hCC];exact⟨(Touch.refl _ _).drewd,hO⟩
  have hTC:∀us W,CC us W→Touch pb wq W:=by rw[hCC];exact fun us W h=>h.1
  have HCC:=hid hCC;have hne:Nonempty (Ph CC):=⟨⟨([],wq.drew),hC0⟩⟩
  have pc9:∀{p:Addr} {v:Value},p.block≠pb→wq.cell? p=some v→∀x:Ph CC,x.1.2.cell? p=some v:=fun hp hc x=>by
    rw[←hc];simp only[World.cell?,(hTC _ _ x.2).block _ (World.block_lt_of_cell? wq _ hc) hp]
  replace hG:=pc9 hgp hG;replace hE0:=pc9 hep hE0;replace hE1:=pc9 hep hE1;clear hCC pc9;have hki:(k:Int)<4:=by omega
  unfold cp10A;refine zA9 CC [(8,false),(11,false),(14,false),(17,false)] [] (by kernel_rfl) (by kernel_rfl) hC0 ?_
  iterate 4
    repeat (
      (with_reducible refine wq1_q ⟨rfl,rfl⟩ (fun K hK=>?_))
      go_simp
      first
        |((with_reducible refine hK _ ?_);clear hK K)
        |((with_reducible refine zA7 (by simp[undef]) (hK _ ?_));clear hK K)
        | (apply Exists.intro
           (with_reducible refine⟨fun _=>?_,hK _ ?_⟩)
           (fail)
           clear hK K))
    refine wq1_v rfl ?_
  refine zF4 ?_;clear hG hE0 hE1 hne;refine wq2_v _ rfl rfl ?_ ?_
  · intro W hW KA hKA
    rw[HCC.out]at hW;obtain⟨hT,own⟩:=hW;have hHB:=hT.below hB hBs;have hQx:Arr W B 3 (.slice qa qn qc) (qs.map jbRow):=hQ.below hHB;go_simp
    (with_reducible refine(clone_CycJob jbRow (fun _=>rfl) jbRow_one _ qs B W hQx (by omega)).mono ?_)
    rintro e w'' ⟨q,rfl,o1,hb1⟩;go_simp;exact hKA _ _ _ (by rw[HCC.out];exact⟨hT.trans (Touch.of_below hb1 (Nat.le_refl _)),OwnR.below own hb1 (fun k hk=>(OwnR.lt own k hk).2),o1.rebase hT.size⟩) rfl
  intro v0 KA hKA;go_simp;refine hKA _ ?_;clear hKA KA;refine wq2_v _ rfl rfl ?_ ?_
  · intro W hW KA hKA
    rw[HCC.out]at hW;obtain⟨hT,own,o8⟩:=hW;have hHB:=hT.below hB hBs;have hqq:=Nat.le_trans hBs hT.size;go_simp
    (with_reducible refine(zH3 D0 _ B W (hJ1.below hHB) (fun x hx2=>(hJ3 x hx2).below hHB) hqq hl5 hl6).mono ?_)
    rintro e w'' ⟨q,D1,rfl,o1,hm1,hd1,hb1⟩;go_simp;exact hKA _ _ _ (by rw[HCC.out];exact⟨hT.trans (Touch.of_below hb1 (Nat.le_refl _)),OwnR.below own hb1 (fun k hk=>(OwnR.lt own k hk).2),OwnR.below o8 hb1 (fun k hk=>(OwnR.lt o8 k hk).2),W.heap.size,D1,hT.size,o1,hm1.trans hJ2,hd1,(fun k hk=>(OwnR.lt o8 k hk).2)⟩) rfl
  intro v1 KA hKA;go_simp;refine hKA _ ?_;clear hKA KA;refine wq2_v _ rfl rfl ?_ ?_
  · intro W hW KA hKA
    rw[HCC.out]at hW;obtain⟨hT,own,o8,m,D1,m1,o11,hm11,hd11,r11⟩:=hW;have HM11:=hid hm11;have HD11:=hid hd11;have R11:=hid r11;clear hm11 hd11 r11;obtain⟨y1,y3,e1,_,_⟩:=o8.shape;subst e1;have q:=(OwnR.get own (k * 3) (by omega)).trans (hC1);have q2:=OwnR.unfrozen own (po+(k * 3));have hput:=OwnR.put own (k * 3) (by omega) (.slice y1 qs.length y3);have HPUT:=hid hput;clear hput;go_simp;exact hKA undef _ _ (by rw[HCC.out];exact⟨hT.trans (Touch.setCell ..),HPUT.out,Owns.tchC o8 (Touch.setCell ..) (fun e=>by have:=(OwnR.lt o8 pb e).1;omega),m,D1,m1,Owns.tchC o11 (Touch.setCell ..) (fun e=>by have:=(OwnR.lt o11 pb e).1;omega),HM11.out,fun x hx2=>((HD11.out x hx2).kept fun b hb=>Below.heap_setCell _ _ _ _ (show b≠pb by have:=hb.1;omega)).weak fun b hb=>⟨hb.1,by simpa using hb.2.1,hb.2.2⟩,R11.out⟩) rfl
  intro v2 KA hKA;go_simp;refine hKA _ ?_;clear hKA KA;refine wq2_v _ rfl rfl ?_ ?_
  · intro W hW KA hKA
    rw[HCC.out]at hW;obtain⟨hT,own,o8,m,D1,m1,o11,hm11,hd11,r11⟩:=hW;have HM11:=hid hm11;have HD11:=hid hd11;have R11:=hid r11;clear hm11 hd11 r11;obtain⟨y1,y3,e1,_,_⟩:=o11.shape;subst e1;have q:=(OwnR.get own (k * 3+1) (by omega)).trans ((show(C.set (k * 3) _)[k * 3+1]? = some c2 by rw[List.getElem?_set,if_neg (by omega)];exact hC2));have q2:=OwnR.unfrozen own (po+(k * 3+1));have hput:=OwnR.put own (k * 3+1) (by omega) (.slice y1 D1.length y3);rw[←Nat.add_assoc]at q q2 hput;have HPUT:=hid hput;clear hput;go_simp;exact hKA undef _ _ (by rw[HCC.out];exact⟨hT.trans (Touch.setCell ..),_,_,m,D1,Owns.tchC o8 (Touch.setCell ..) (fun e=>by have:=(OwnR.lt o8 pb e).1;omega),m1,Owns.tchC o11 (Touch.setCell ..) (fun e=>by have:=(OwnR.lt o11 pb e).1;omega),HM11.out,fun x hx2=>((HD11.out x hx2).kept fun b hb=>Below.heap_setCell _ _ _ _ (show b≠pb by have:=hb.1;omega)).weak fun b hb=>⟨hb.1,by simpa using hb.2.1,hb.2.2⟩,R11.out,HPUT.out,hT.trans (Touch.setCell ..)⟩) rfl
  intro v3 KA hKA;go_simp;refine hKA _ ?_;clear hKA KA;refine zF3 ?_;intro wz hwz;rw[HCC.out]at hwz;exact hK _ _ _ _ _ _ _ _ _ _ _ _ _ _ _ _ wz hwz.2
end Go.Proofs.YtgkdoehkmbhfiaaGreat
namespace Go.Proofs.YtgkdoehkmbhfiaaGreat
open Go.RowKit
def prow (V:Nat→Value) (st:Cy) (P:List PS) (i k:Nat):List Value:=if k<i then ptRow V (st.ports k) k else rowPS (P.getD k default)
def srow (V:Nat→Value) (st:Cy) (Q:List SS) (j k:Nat):List Value:=if k<j then svRow V (st.slaves k) k else rowSS (Q.getD k default)
structure CpM (w:World) (base:Nat) (st:Cy) (P:List PS) (Q:List SS) (i j:Nat) (V:Nat→Value) (N:Nat→Nat) (C:Nat→List Value) (D:Nat→List TJV):Prop where
 raw:Raw w base V N C
 n0:N 0=st.ws.length
 c0:C 0=st.ws.flatMap rowI
 n1:N 1=st.hs.length
 c1:C 1=st.hs.flatMap rowI
 n2:N 2=3
 c2:C 2=prow V st P i 0++prow V st P i 1++prow V st P i 2
 n3:N 3=4
 c3:C 3=srow V st Q j 0++srow V st Q j 1++srow V st Q j 2++srow V st Q j 3
 n4:N 4=st.told.length
 c4:C 4=(D 4).flatMap tjRow
 t4:(D 4).map (·.1)=st.told
 q:∀k,k<i→N (5+k)=(st.ports k).queue.length∧C (5+k)=(st.ports k).queue.flatMap rowN∧N (8+k)=(st.ports k).out.length∧C (8+k)=(st.ports k).out.flatMap jbRow
 s:∀k,k<j→N (11+k)=(st.slaves k).pipe.length∧C (11+k)=(st.slaves k).pipe.flatMap jbRow∧N (15+k)=(st.slaves k).done.length∧C (15+k)=(D (15+k)).flatMap tjRow∧(D (15+k)).map (·.1)=(st.slaves k).done
 e:V 19=vnil∧N 19=0∧C 19=[]
 dat:∀κ,κ<20→∀x∈D κ,IntsD w (fun b=>base≤b∧b<w.heap.size∧Free V b) x.2 x.1.rsp.data
theorem CpM.fin {w:World} {base:Nat} {st:Cy} {P:List PS} {Q:List SS} {V:Nat→Value} {N:Nat→Nat} {C:Nat→List Value} {D:Nat→List TJV} (h:CpM w base st P Q 3 4 V N C D):CyR w base st V N C D :=
 ⟨h.raw,⟨h.n0,h.c0,h.n1,h.c1,h.n2,by rw[h.c2];simp[prow],h.n3,by rw[h.c3];simp[srow],h.n4,h.c4,h.t4,fun i hi=>(h.q i hi).1,fun i hi=>(h.q i hi).2.1,fun i hi=>(h.q i hi).2.2.1,fun i hi=>(h.q i hi).2.2.2,fun s hs=>(h.s s hs).1,fun s hs=>(h.s s hs).2.1,fun s hs=>(h.s s hs).2.2.1,fun s hs=>(h.s s hs).2.2.2.1,fun s hs=>(h.s s hs).2.2.2.2,h.e.2.1,h.e.2.2⟩,h.e.1,h.dat⟩
theorem CpM.below {w w':World} {base:Nat} {st:Cy} {P:List PS} {Q:List SS} {i j:Nat} {V:Nat→Value} {N:Nat→Nat} {C:Nat→List Value} {D:Nat→List TJV} (h:CpM w base st P Q i j V N C D) (hb:Below w.heap.size w w'):CpM w' base st P Q i j V N C D :=
 { h with raw:=h.raw.below hb,dat:=fun κ hκ x hx=>((h.dat κ hκ x hx).kept fun b hb2=>hb.block b hb2.2.1).weak fun b hb2=>⟨hb2.1,Nat.lt_of_lt_of_le hb2.2.1 hb.size,hb2.2.2⟩ }
theorem CpM.addr2 {w:World} {base:Nat} {st:Cy} {P:List PS} {Q:List SS} {i j:Nat} {V:Nat→Value} {N:Nat→Nat} {C:Nat→List Value} {D:Nat→List TJV} (h:CpM w base st P Q i j V N C D):∃g off cap,V 2=.slice (some ⟨g,off,none⟩) 3 cap∧base≤g∧g<w.heap.size:=by
 have:=h.raw.own 2 (by omega);rw[h.n2]at this;obtain⟨g,off,cap,e,_,_,hb,hz⟩:=OwnR.addr this (by omega);exact⟨g,off,cap,e,hb,hz⟩
theorem CpM.addr3 {w:World} {base:Nat} {st:Cy} {P:List PS} {Q:List SS} {i j:Nat} {V:Nat→Value} {N:Nat→Nat} {C:Nat→List Value} {D:Nat→List TJV} (h:CpM w base st P Q i j V N C D):∃g off cap,V 3=.slice (some ⟨g,off,none⟩) 4 cap∧base≤g∧g<w.heap.size:=by
 have:=h.raw.own 3 (by omega);rw[h.n3]at this;obtain⟨g,off,cap,e,_,_,hb,hz⟩:=OwnR.addr this (by omega);exact⟨g,off,cap,e,hb,hz⟩
theorem CpM.start {w' : World} {base m : Nat} {a b p s t : Value} {st : Cy} {P : List PS} {Q : List SS} {D1 : List TJV} (hO : CpO w' base a b p s st.ws st.hs P Q) (hP : P.length = 3) (hQ : Q.length = 4) (hm : base ≤ m) (ho : Owns w' m 65 5 tjRow t D1) (hD : D1.map (·.1) = st.told)
  (hd:∀x∈D1,IntsD w' (fun b=>m≤b∧b<w'.heap.size∧t.ownBlock≠some b) x.2 x.1.rsp.data) (hl:Low m a∧Low m b∧Low m p∧Low m s) :
  ∃V N C D,CpM w' base st P Q 0 0 V N C D∧V 0=a∧V 1=b∧V 2=p∧V 3=s∧V 4=t:=by
 obtain⟨P0,P1,P2,rfl⟩:∃x y z,P=[x,y,z]:=by
  rcases P with _|⟨x,_|⟨y,_|⟨z,_|⟨u,r⟩⟩⟩⟩ <;> simp at hP
  exact⟨x,y,z,rfl⟩
 obtain⟨Q0,Q1,Q2,Q3,rfl⟩:∃x y z u,Q=[x,y,z,u]:=by
  rcases Q with _|⟨x,_|⟨y,_|⟨z,_|⟨u,_|⟨v,r⟩⟩⟩⟩⟩ <;> simp at hQ
  exact⟨x,y,z,u,rfl⟩
 have lt:∀k,t.ownBlock=some k→m≤k:=fun k hk=>(OwnR.lt ho k hk).1
 have at1:∀{v:Value},Low m v→Apart v t:=fun h k h1 h2=>by have:=h k h1;have:=lt k h2;omega
 have dl:D1.length=st.told.length:=by rw[←hD,List.length_map]
 refine ⟨fun κ => match κ with | 0 => a | 1 => b | 2 => p | 3 => s | 4 => t | _ => vnil, fun κ => match κ with | 0 => st.ws.length | 1 => st.hs.length | 2 => 3 | 3 => 4 | 4 => st.told.length | _ => 0,
  fun κ=>match κ with|0=>st.ws.flatMap rowI|1=>st.hs.flatMap rowI|2=>rowPS P0++rowPS P1++rowPS P2|3=>rowSS Q0++rowSS Q1++rowSS Q2++rowSS Q3|4=>D1.flatMap tjRow|_=>[],fun κ=>if κ=4 then D1 else[],?_,rfl,rfl,rfl,rfl,rfl⟩
 refine⟨⟨fun κ hκ=>?_,fun κ μ hκ hμ hne=>?_⟩,rfl,rfl,rfl,rfl,rfl,by simp[prow,List.getD],rfl,by simp[srow,List.getD],rfl,by simp,by simp;exact hD,fun k hk=>by omega,fun k hk=>by omega,⟨rfl,rfl,rfl⟩,fun κ hκ x hx=>?_⟩
 ·rcases κ with _|_|_|_|_|κ
  ·exact hO.oa
  ·exact hO.ob
  ·have:=hO.op;unfold Owns at this;simpa[ety,esz]using this
  ·have:=hO.os;unfold Owns at this;simpa[ety,esz]using this
  ·have:=OwnR.rebase ho hm;rw[dl]at this;exact this
  ·exact⟨by simp,.inl ⟨rfl,rfl⟩⟩
 ·have hx:∀v:Value,Apart v vnil:=fun v k _ h2=>by simp[vnil,Value.ownBlock]at h2
  have hx':∀v:Value,Apart vnil v:=fun v k h2 _=>by simp[vnil,Value.ownBlock]at h2
  rcases κ with _|_|_|_|_|κ <;> rcases μ with _|_|_|_|_|μ <;> first|exact absurd rfl hne|exact hx _|exact hx' _|exact hO.ab|exact hO.ab.symm|exact hO.pq|exact hO.pq.symm|exact hO.ap|exact hO.ap.symm|exact hO.aq|exact hO.aq.symm|exact hO.bp|exact hO.bp.symm|exact hO.bq|exact hO.bq.symm|exact at1 hl.1|exact(at1 hl.1).symm|exact at1 hl.2.1|exact(at1 hl.2.1).symm|exact at1 hl.2.2.1|exact(at1 hl.2.2.1).symm|exact at1 hl.2.2.2|exact(at1 hl.2.2.2).symm
 ·by_cases e:κ=4
  ·rw[if_pos e]at hx;refine(hd x hx).weak fun b hb=>⟨by have:=hb.1;omega,hb.2.1,fun κ hκ=>?_⟩
   have hb1:=hb.1;rcases κ with _|_|_|_|_|κ
   ·exact fun e=>by have:=hl.1 b e;omega
   ·exact fun e=>by have:=hl.2.1 b e;omega
   ·exact fun e=>by have:=hl.2.2.1 b e;omega
   ·exact fun e=>by have:=hl.2.2.2 b e;omega
   ·exact hb.2.2
   ·exact fun e=>by simp[vnil,Value.ownBlock]at e
  ·rw[if_neg e]at hx;simp at hx
theorem CpM.port {w w' : World} {base : Nat} {st : Cy} {P : List PS} {Q : List SS} {k pb po pc : Nat} {V : Nat → Value} {N : Nat → Nat} {C : Nat → List Value} {D : Nat → List TJV} (h : CpM w base st P Q k 0 V N C D) (hk : k < 3) (hV : V 2 = .slice (some ⟨pb, po, none⟩) 3 pc)
  (hn:(P.getD k default).next=(st.ports k).next∧(P.getD k default).last=(st.ports k).last) (hc:CqP base pb po pc k (C 2) (st.ports k).queue (st.ports k).out w w') (hbase:base≤w.heap.size) :
  ∃V' N' C', CpM w' base st P Q (k+1) 0 V' N' C' D∧V' 0=V 0∧V' 1=V 1∧V' 2=V 2∧V' 3=V 3∧V' 4=V 4:=by
 obtain⟨u,v,o1,o2,ap,o3,ht⟩:=hc;have hg:(V 2).ownBlock=some pb:=by rw[hV];rfl
 have hkk:∀b,b<w.heap.size→b≠pb→w'.heap[b]? = w.heap[b]?:=fun b h1 h2=>ht.block b h1 h2
 have hr:=h.raw.two (κ:=5+k) (ρ:=8+k) (μ:=2) (g:=pb) (by omega) (by omega) (by omega) (by omega) (by omega) (by omega) hg hkk (by rw[hV,h.n2];exact o3) (by rw[(ety_q hk).1,(ety_q hk).2];exact OwnR.rebase o1 hbase) (by rw[(ety_o hk).1,(ety_o hk).2];exact OwnR.rebase o2 hbase) (fun b hb=>(OwnR.lt o1 b hb).1) (fun b hb=>(OwnR.lt o2 b hb).1) ap;have eV:∀i,i≠5+k→i≠8+k→upd (upd V (5+k) u) (8+k) v i=V i:=fun i h1 h2=>by rw[zA0 _ _ h2,zA0 _ _ h1]
 have eN:∀i,i≠5+k→i≠8+k→upd (upd N (5+k) (st.ports k).queue.length) (8+k) (st.ports k).out.length i=N i:=fun i h1 h2=>by rw[zA0 _ _ h2,zA0 _ _ h1]
 have eC:∀i,i≠5+k→i≠8+k→i≠2→upd (upd (upd C (5+k) ((st.ports k).queue.flatMap rowN)) (8+k) ((st.ports k).out.flatMap jbRow)) 2 (((C 2).set (k * 4+1) u).set (k * 4+2) v) i=C i:=fun i h1 h2 h3=>by rw[zA0 _ _ h3,zA0 _ _ h2,zA0 _ _ h1]
 have eq5:upd (upd V (5+k) u) (8+k) v (5+k)=u:=by rw[zA0 _ _ (by omega),zA1]
 have eq8:upd (upd V (5+k) u) (8+k) v (8+k)=v:=zA1 _ _ _;refine⟨_,_,_,⟨hr,?_,?_,?_,?_,?_,?_,?_,?_,?_,?_,h.t4,fun i hi=>?_,fun i hi=>by omega,?_,fun κ hκ x hx=>?_⟩,eV 0 (by omega) (by omega),eV 1 (by omega) (by omega),eV 2 (by omega) (by omega),eV 3 (by omega) (by omega),eV 4 (by omega) (by omega)⟩
 ·rw[eN 0 (by omega) (by omega)];exact h.n0
 ·rw[eC 0 (by omega) (by omega) (by omega)];exact h.c0
 ·rw[eN 1 (by omega) (by omega)];exact h.n1
 ·rw[eC 1 (by omega) (by omega) (by omega)];exact h.c1
 ·rw[eN 2 (by omega) (by omega)];exact h.n2
 ·rw[zA1,h.c2];have old:∀i,i<k→ptRow (upd (upd V (5+k) u) (8+k) v) (st.ports i) i=ptRow V (st.ports i) i:=fun i hi=>by
   simp only[ptRow,eV (5+i) (by omega) (by omega),eV (8+i) (by omega) (by omega)]
  rcases(show k=0∨k=1∨k=2 by omega)with rfl|rfl|rfl
  ·simp[prow,ptRow,rowPS,eq5,eq8,upd];exact⟨congrArg (fun n:Nat=>(n:Int)) hn.1,congrArg (fun n:Nat=>(n:Int)) hn.2⟩
  ·rw[show prow V st P 1 0=ptRow V (st.ports 0) 0 by simp[prow],show prow (upd (upd V (5+1) u) (8+1) v) st P (1+1) 0=ptRow V (st.ports 0) 0 by rw[←old 0 (by omega)];simp[prow]];simp[prow,ptRow,rowPS,upd];exact⟨congrArg (fun n:Nat=>(n:Int)) hn.1,congrArg (fun n:Nat=>(n:Int)) hn.2⟩
  ·rw[show prow V st P 2 0=ptRow V (st.ports 0) 0 by simp[prow],show prow V st P 2 1=ptRow V (st.ports 1) 1 by simp[prow],show prow (upd (upd V (5+2) u) (8+2) v) st P (2+1) 0=ptRow V (st.ports 0) 0 by rw[←old 0 (by omega)];simp[prow],show prow (upd (upd V (5+2) u) (8+2) v) st P (2+1) 1=ptRow V (st.ports 1) 1 by rw[←old 1 (by omega)];simp[prow]];simp[prow,ptRow,rowPS,upd];exact⟨congrArg (fun n:Nat=>(n:Int)) hn.1,congrArg (fun n:Nat=>(n:Int)) hn.2⟩
 ·rw[eN 3 (by omega) (by omega)];exact h.n3
 ·rw[eC 3 (by omega) (by omega) (by omega)];exact h.c3
 ·rw[eN 4 (by omega) (by omega)];exact h.n4
 ·rw[eC 4 (by omega) (by omega) (by omega)];exact h.c4
 ·by_cases e:i=k
  ·subst e;refine⟨?_,?_,zA1 _ _ _,?_⟩
   ·rw[zA0 _ _ (by omega),zA1]
   ·rw[zA0 _ _ (by omega),zA0 _ _ (by omega),zA1]
   ·rw[zA0 _ _ (by omega),zA1]
  ·obtain⟨h1,h2,h3,h4⟩:=h.q i (by omega);rw[eN (5+i) (by omega) (by omega),eN (8+i) (by omega) (by omega),eC (5+i) (by omega) (by omega) (by omega),eC (8+i) (by omega) (by omega) (by omega)];exact⟨h1,h2,h3,h4⟩
 ·rw[eV 19 (by omega) (by omega),eN 19 (by omega) (by omega),eC 19 (by omega) (by omega) (by omega)];exact h.e
 ·refine((h.dat κ hκ x hx).kept fun b hb=>hkk b hb.2.1 fun e=>hb.2.2 2 (by omega) (by rw[hg,e])).weak fun b hb=>⟨hb.1,Nat.lt_of_lt_of_le hb.2.1 ht.size,fun μ hμ=>?_⟩
  by_cases e2:μ=8+k
  ·subst e2;rw[eq8];exact fun e=>by have:=(OwnR.lt o2 b e).1;have:=hb.2.1;omega
  ·by_cases e1:μ=5+k
   ·subst e1;rw[eq5];exact fun e=>by have:=(OwnR.lt o1 b e).1;have:=hb.2.1;omega
   ·rw[eV μ e1 e2];exact hb.2.2 μ hμ
theorem CpM.store {w w' : World} {base : Nat} {st : Cy} {P : List PS} {Q : List SS} {k pb po pc : Nat} {V : Nat → Value} {N : Nat → Nat} {C : Nat → List Value} {D : Nat → List TJV} (h : CpM w base st P Q 3 k V N C D) (hk : k < 4) (hV : V 3 = .slice (some ⟨pb, po, none⟩) 4 pc)
  (hn:(Q.getD k default).last=(st.slaves k).last) (hc:CrP base pb po pc k (C 3) (st.slaves k).pipe (st.slaves k).done w w') (hbase:base≤w.heap.size) :
  ∃V' N' C' D', CpM w' base st P Q 3 (k+1) V' N' C' D' ∧ V' 0=V 0∧V' 1=V 1∧V' 2=V 2∧V' 3=V 3∧V' 4=V 4:=by
 obtain⟨u,v,m,D1,o1,hm,o2,hD1,hd1,hlu,o3,ht⟩:=hc;have hg:(V 3).ownBlock=some pb:=by rw[hV];rfl
 have hkk:∀b,b<w.heap.size→b≠pb→w'.heap[b]? = w.heap[b]?:=fun b h1 h2=>ht.block b h1 h2
 have dl:D1.length=(st.slaves k).done.length:=by rw[←hD1,List.length_map]
 have ap:Apart u v:=fun b h1 h2=>by have:=hlu b h1;have:=(OwnR.lt o2 b h2).1;omega
 have hr:=h.raw.two (κ:=11+k) (ρ:=15+k) (μ:=3) (g:=pb) (by omega) (by omega) (by omega) (by omega) (by omega) (by omega) hg hkk (by rw[hV,h.n3];exact o3) (by rw[(ety_p hk).1,(ety_p hk).2];exact OwnR.rebase o1 hbase) (by rw[(ety_d hk).1,(ety_d hk).2];exact OwnR.rebase o2 (Nat.le_trans hbase hm)) (fun b hb=>(OwnR.lt o1 b hb).1) (fun b hb=>Nat.le_trans hm (OwnR.lt o2 b hb).1) ap;have eV:∀i,i≠11+k→i≠15+k→upd (upd V (11+k) u) (15+k) v i=V i:=fun i h1 h2=>by rw[zA0 _ _ h2,zA0 _ _ h1]
 have eN:∀i,i≠11+k→i≠15+k→upd (upd N (11+k) (st.slaves k).pipe.length) (15+k) D1.length i=N i:=fun i h1 h2=>by rw[zA0 _ _ h2,zA0 _ _ h1]
 have eC:∀i,i≠11+k→i≠15+k→i≠3→upd (upd (upd C (11+k) ((st.slaves k).pipe.flatMap jbRow)) (15+k) (D1.flatMap tjRow)) 3 (((C 3).set (k * 3) u).set (k * 3+1) v) i=C i:=fun i h1 h2 h3=>by rw[zA0 _ _ h3,zA0 _ _ h2,zA0 _ _ h1]
 have eq5:upd (upd V (11+k) u) (15+k) v (11+k)=u:=by rw[zA0 _ _ (by omega),zA1]
 have eq8:upd (upd V (11+k) u) (15+k) v (15+k)=v:=zA1 _ _ _;refine⟨_,_,_,upd D (15+k) D1,⟨hr,?_,?_,?_,?_,?_,?_,?_,?_,?_,?_,?_,fun i hi=>?_,fun i hi=>?_,?_,fun κ hκ x hx=>?_⟩,eV 0 (by omega) (by omega),eV 1 (by omega) (by omega),eV 2 (by omega) (by omega),eV 3 (by omega) (by omega),eV 4 (by omega) (by omega)⟩
 ·rw[eN 0 (by omega) (by omega)];exact h.n0
 ·rw[eC 0 (by omega) (by omega) (by omega)];exact h.c0
 ·rw[eN 1 (by omega) (by omega)];exact h.n1
 ·rw[eC 1 (by omega) (by omega) (by omega)];exact h.c1
 ·rw[eN 2 (by omega) (by omega)];exact h.n2
 ·rw[eC 2 (by omega) (by omega) (by omega),h.c2];have old:∀i,i<3→ptRow (upd (upd V (11+k) u) (15+k) v) (st.ports i) i=ptRow V (st.ports i) i:=fun i hi=>by
   simp only[ptRow,eV (5+i) (by omega) (by omega),eV (8+i) (by omega) (by omega)]
  simp only[prow,if_pos (show(0:Nat)<3 by omega),if_pos (show(1:Nat)<3 by omega),if_pos (show(2:Nat)<3 by omega),old 0 (by omega),old 1 (by omega),old 2 (by omega)]
 ·rw[eN 3 (by omega) (by omega)];exact h.n3
 ·rw[zA1,h.c3];have old:∀i,i<k→srow (upd (upd V (11+k) u) (15+k) v) st Q (k+1) i=srow V st Q k i:=fun i hi=>by
   simp only[srow,if_pos (show i<k+1 by omega),if_pos hi,svRow,eV (11+i) (by omega) (by omega),eV (15+i) (by omega) (by omega)]
  have new:∀i,k<i→srow (upd (upd V (11+k) u) (15+k) v) st Q (k+1) i=rowSS (Q.getD i default):=fun i hi=>by
   simp only[srow,if_neg (show ¬i<k+1 by omega)]
  have new':∀i,k≤i→srow V st Q k i=rowSS (Q.getD i default):=fun i hi=>by
   simp only[srow,if_neg (show ¬i<k by omega)]
  have row:∀i,∃x y z,srow V st Q k i=[x,y,z]:=fun i=>by
   unfold srow;split
   ·exact⟨_,_,_,rfl⟩
   ·exact⟨_,_,_,rfl⟩
  have mid:srow (upd (upd V (11+k) u) (15+k) v) st Q (k+1) k=[u,v,.int .i64 (st.slaves k).last]:=by
   simp only[srow,if_pos (show k<k+1 by omega),svRow,eq5,eq8]
  have last:srow V st Q k k=[sl (Q.getD k default).p,sl (Q.getD k default).d,.int .i64 (st.slaves k).last]:=by
   rw[new' k (Nat.le_refl _),rowSS,hn]
  rcases(show k=0∨k=1∨k=2∨k=3 by omega)with rfl|rfl|rfl|rfl
  ·rw[mid,last,new 1 (by omega),new 2 (by omega),new 3 (by omega),new' 1 (by omega),new' 2 (by omega),new' 3 (by omega)];rfl
  ·obtain⟨x,y,z,e0⟩:=row 0;rw[mid,last,old 0 (by omega),new 2 (by omega),new 3 (by omega),new' 2 (by omega),new' 3 (by omega),e0];rfl
  ·obtain⟨x,y,z,e0⟩:=row 0;obtain⟨x1,y1,z1,e1⟩:=row 1;rw[mid,last,old 0 (by omega),old 1 (by omega),new 3 (by omega),new' 3 (by omega),e0,e1];rfl
  ·obtain⟨x,y,z,e0⟩:=row 0;obtain⟨x1,y1,z1,e1⟩:=row 1;obtain⟨x2,y2,z2,e2⟩:=row 2;rw[mid,last,old 0 (by omega),old 1 (by omega),old 2 (by omega),e0,e1,e2];rfl
 ·rw[eN 4 (by omega) (by omega)];exact h.n4
 ·rw[eC 4 (by omega) (by omega) (by omega),zA0 _ _ (by omega)];exact h.c4
 ·rw[zA0 _ _ (by omega)];exact h.t4
 ·obtain⟨h1,h2,h3,h4⟩:=h.q i hi;rw[eN (5+i) (by omega) (by omega),eN (8+i) (by omega) (by omega),eC (5+i) (by omega) (by omega) (by omega),eC (8+i) (by omega) (by omega) (by omega)];exact⟨h1,h2,h3,h4⟩
 ·by_cases e:i=k
  ·subst e;refine⟨?_,?_,?_,?_,?_⟩
   ·rw[zA0 _ _ (by omega),zA1]
   ·rw[zA0 _ _ (by omega),zA0 _ _ (by omega),zA1]
   ·rw[zA1,dl]
   ·rw[zA0 _ _ (by omega),zA1,zA1]
   ·rw[zA1];exact hD1
  ·obtain⟨h1,h2,h3,h4,h5⟩:=h.s i (by omega);rw[eN (11+i) (by omega) (by omega),eN (15+i) (by omega) (by omega),eC (11+i) (by omega) (by omega) (by omega),eC (15+i) (by omega) (by omega) (by omega),zA0 D D1 (by omega)];exact⟨h1,h2,h3,h4,h5⟩
 ·rw[eV 19 (by omega) (by omega),eN 19 (by omega) (by omega),eC 19 (by omega) (by omega) (by omega)];exact h.e
 ·by_cases eκ:κ=15+k
  ·subst eκ;rw[zA1]at hx;refine(hd1 x hx).weak fun b hb=>⟨by have:=hb.1;omega,hb.2.1,fun μ hμ=>?_⟩
   have hb1:=hb.1;by_cases e2:μ=15+k
   ·subst e2;rw[eq8];exact hb.2.2
   ·by_cases e1:μ=11+k
    ·subst e1;rw[eq5];exact fun e=>by have:=hlu b e;omega
    ·rw[eV μ e1 e2];exact fun e=>by have:=(h.raw.lt hμ e).2;omega
  ·rw[zA0 _ _ eκ]at hx;refine((h.dat κ hκ x hx).kept fun b hb=>hkk b hb.2.1 fun e=>hb.2.2 3 (by omega) (by rw[hg,e])).weak fun b hb=>⟨hb.1,Nat.lt_of_lt_of_le hb.2.1 ht.size,fun μ hμ=>?_⟩
   have hb2:=hb.2.1;by_cases e2:μ=15+k
   ·subst e2;rw[eq8];exact fun e=>by have:=(OwnR.lt o2 b e).1;omega
   ·by_cases e1:μ=11+k
    ·subst e1;rw[eq5];exact fun e=>by have:=(OwnR.lt o1 b e).1;omega
    ·rw[eV μ e1 e2];exact hb.2.2 μ hμ
end Go.Proofs.YtgkdoehkmbhfiaaGreat
