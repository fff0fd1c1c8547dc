/- Regions that draw, most of whose operations only read, and a few of which, in one forced order, turn the world (flips): one walk in the order of the text serves every order. -/
import Derived.Test.YtgkdoehkmbhfiaaGreatGIv3
import Derived.Test.YtgkdoehkmbhfiaaGreatGLib
import Derived.Test.YtgkdoehkmbhfiaaGreatGDl
import Derived.Deep.QuietTactic
set_option linter.unusedVariables false
set_option linter.unusedSimpArgs false
set_option maxHeartbeats 16000000
namespace Go.Proofs.YtgkdoehkmbhfiaaGreat
open Go.RowKit
attribute [local go_sem ↓] Go.wp_at_zero Go.wp_at_succ
def Low (m:Nat) (v:Value):Prop:=∀k,v.ownBlock=some k→k<m
theorem IntsD.notC {w:World} {P:Nat→Prop} {v:Value} {xs:List Int} {g:Nat} (h:IntsD w P v xs) (hB:BoxC w g vnil vnil vnil vnil vnil):IntsD w (fun b=>P b∧b≠g) v xs:=by
 obtain⟨⟨ao,cap,hv,h1,h2,h0,h9,h3⟩,hx⟩:=h;refine⟨⟨ao,cap,hv,h1,h2,h0,h9,fun hn=>?_⟩,hx⟩;obtain⟨b,off,ha,hP,hc⟩:=h3 hn;refine⟨b,off,ha,⟨hP,?_⟩,hc⟩;rintro rfl;have e:=hc 0 (by omega) 0 (by omega);rcases xs with _|⟨x,xs⟩
 ·simp at hn
 ·unfold BoxC at hB;simp[World.cell?,hB,rowI,List.getD]at e;rcases(show off=0∨off=1∨off=2∨off=3∨off=4∨5≤off by omega)with rfl|rfl|rfl|rfl|rfl|h5
  ·simp at e
  ·simp at e
  ·simp at e
  ·simp at e
  ·simp at e
  ·obtain⟨m,rfl⟩:∃m,off=m+5:=⟨off - 5,by omega⟩
   simp at e
def cp1A (i0 i2 i4 i5 i6 i7 i21 i22 i23 i24 i25 i26 i27 i28 i29 i30 i31 i32 i33 i34 i35 i36 i37 i38 i39 i40 i41 i42 i43 i44 i45 i46 i47 i48 i49 i50 i51 i52 i53 i54 i55 i56 i57 i58 i59 i60 i61 i62 i63 i64 i65 i66 i67 i68 i69 i70 i71:Value) (gS:Nat) (u3 u8 u9 u10 u11 u12 u13 u14 u15 u16 u17 u18 u19 u20:Value):Act:={ tmps:=#[i0,.pointer (some ⟨gS,0,none⟩),i2,u3,i4,i5,i6,i7,u8,u9,u10,u11,u12,u13,u14,u15,u16,u17,u18,u19,u20,i21,i22,i23,i24,i25,i26,i27,i28,i29,i30,i31,i32,i33,i34,i35,i36,i37,i38,i39,i40,i41,i42,i43,i44,i45,i46,i47,i48,i49,i50,i51,i52,i53,i54,i55,i56,i57,i58,i59,i60,i61,i62,i63,i64,i65,i66,i67,i68,i69,i70,i71],defers:=[] }
def cp1I (i0 i2 i4 i5 i6 i7 i21 i22 i23 i24 i25 i26 i27 i28 i29 i30 i31 i32 i33 i34 i35 i36 i37 i38 i39 i40 i41 i42 i43 i44 i45 i46 i47 i48 i49 i50 i51 i52 i53 i54 i55 i56 i57 i58 i59 i60 i61 i62 i63 i64 i65 i66 i67 i68 i69 i70 i71:Value) (gS:Nat) (va:Value) (vb:Value) (vp:Value) (vs:Value) (vt:Value) (xs:List Int) (ys:List Int) (ps:List PS) (ss:List SS) (js:List TJ) (D0:List TJV) (wq:World) (listed:Array Bool) (a:Act) (w':World):Prop :=
 ∃ u3 u8 u9 u10 u11 u12 u13 u14 u15 u16 u17 u18 u19 u20 : Value, a = cp1A i0 i2 i4 i5 i6 i7 i21 i22 i23 i24 i25 i26 i27 i28 i29 i30 i31 i32 i33 i34 i35 i36 i37 i38 i39 i40 i41 i42 i43 i44 i45 i46 i47 i48 i49 i50 i51 i52 i53 i54 i55 i56 i57 i58 i59 i60 i61 i62 i63 i64 i65 i66 i67 i68 i69 i70 i71 gS u3 u8 u9 u10 u11 u12 u13 u14 u15 u16 u17 u18 u19 u20 ∧
   (listed.getD 0 false=true→u8=.pointer (some ⟨gS,0,none⟩)) ∧
   (listed.getD 1 false=true→u9=.agg #[va,vb]) ∧
   (listed.getD 2 false=true→∃qa qb,u10=.agg #[qa,qb]∧Owns w' wq.heap.size 3 1 rowI qa xs∧Owns w' wq.heap.size 3 1 rowI qb ys∧Apart qa qb) ∧
   (listed.getD 3 false=true→u11=.pointer (some ⟨gS,2,none⟩)) ∧
   (listed.getD 4 false=true→u12=vp) ∧
   (listed.getD 5 false=true→Owns w' wq.heap.size 48 4 rowPS u13 ps∧∃qa qb,u10=.agg #[qa,qb]∧Apart qa u13∧Apart qb u13) ∧
   (listed.getD 6 false=true→u14=.pointer (some ⟨gS,3,none⟩)) ∧
   (listed.getD 7 false=true→u15=vs) ∧
   (listed.getD 8 false=true→Owns w' wq.heap.size 94 3 rowSS u16 ss∧Apart u13 u16∧∃qa qb,u10=.agg #[qa,qb]∧Apart qa u16∧Apart qb u16) ∧
   (listed.getD 9 false=true→u17=.pointer (some ⟨gS,4,none⟩)) ∧
   (listed.getD 10 false=true→u18=vt) ∧
   (listed.getD 11 false=true→∃m,∃D1:List TJV,wq.heap.size≤m∧Owns w' m 65 5 tjRow u19 D1∧D1.map (·.1)=js∧(∀x∈D1,IntsD w' (fun b=>m≤b∧b<w'.heap.size∧u19.ownBlock≠some b) x.2 x.1.rsp.data)∧Low m u16∧Low m u13∧∃qa qb,u10=.agg #[qa,qb]∧Low m qa∧Low m qb) ∧
   (listed.getD 12 false=true→∃qa qb,u10=.agg #[qa,qb]∧u20=.agg #[qa,qb,u13,u16,u19]) ∧
   (listed.getD 13 false=true→listed.getD 14 false=false→∃g,u3=.pointer (some ⟨g,0,none⟩)∧wq.heap.size≤g∧BoxC w' g vnil vnil vnil vnil vnil) ∧
   (listed.getD 14 false=true→∃g qa qb,u3=.pointer (some ⟨g,0,none⟩)∧wq.heap.size≤g∧u10=.agg #[qa,qb]∧BoxC w' g qa qb u13 u16 u19) ∧
   Below wq.heap.size wq w'
noncomputable def cp1Code:Code:=(Tryz.f45.body.bind (zI8 1)).getD .skip
structure CpO (w:World) (base:Nat) (a b p s:Value) (xs ys:List Int) (ps:List PS) (ss:List SS):Prop where
 oa:Owns w base 3 1 rowI a xs
 ob:Owns w base 3 1 rowI b ys
 op:Owns w base 48 4 rowPS p ps
 os:Owns w base 94 3 rowSS s ss
 ab:Apart a b
 pq:Apart p s
 ap:Apart a p
 aq:Apart a s
 bp:Apart b p
 bq:Apart b s
def CpP (u:Value) (xs ys:List Int) (ps:List PS) (ss:List SS) (js:List TJ) (wq w':World):Prop :=
 ∃g a b p s t m,∃D1:List TJV,u=.pointer (some ⟨g,0,none⟩)∧wq.heap.size≤g∧BoxC w' g a b p s t∧CpO w' wq.heap.size a b p s xs ys ps ss∧wq.heap.size≤m∧Owns w' m 65 5 tjRow t D1∧D1.map (·.1)=js∧(∀x∈D1,IntsD w' (fun b=>m≤b∧b<w'.heap.size∧t.ownBlock≠some b) x.2 x.1.rsp.data)∧(Low m a∧Low m b∧Low m p∧Low m s)∧Below wq.heap.size wq w'
set_option maxRecDepth 100000 in
theorem cp1_region (i0 i2 i4 i5 i6 i7 i21 i22 i23 i24 i25 i26 i27 i28 i29 i30 i31 i32 i33 i34 i35 i36 i37 i38 i39 i40 i41 i42 i43 i44 i45 i46 i47 i48 i49 i50 i51 i52 i53 i54 i55 i56 i57 i58 i59 i60 i61 i62 i63 i64 i65 i66 i67 i68 i69 i70 i71 j3 j8 j9 j10 j11 j12 j13 j14 j15 j16 j17 j18 j19 j20 : Value) (gS : Nat) (va : Value) (vb : Value) (vp : Value) (vs : Value) (vt : Value) (xs : List Int) (ys : List Int) (ps : List PS) (ss : List SS) (js : List TJ) (D0 : List TJV) (wq : World)
  (hS:Bx wq gS [va,vb,vp,vs,vt]) (hA:AtmV wq wq.heap.size (.agg #[va,vb]) xs ys) (hP:Arr wq wq.heap.size 4 vp (ps.map rowPS)) (hT:Arr wq wq.heap.size 3 vs (ss.map rowSS)) (hJ1:Arr wq wq.heap.size 5 vt (D0.map tjRow)) (hJ2:D0.map (·.1)=js) (hJ3:∀x∈D0,Ints wq wq.heap.size x.2 x.1.rsp.data) (hl1:xs.length≤1048576) (hl2:ys.length≤1048576) (hl3:ps.length≤1048576) (hl4:ss.length≤1048576) (hl5:D0.length≤1000) (hl6:∀x∈D0,x.1.rsp.data.length≤1000)
  {Q:Exit→Act→World→Prop}
  (hK:∀(u3 u8 u9 u10 u11 u12 u13 u14 u15 u16 u17 u18 u19 u20:Value) w', CpP u3 xs ys ps ss js wq w' → Q .normal (cp1A i0 i2 i4 i5 i6 i7 i21 i22 i23 i24 i25 i26 i27 i28 i29 i30 i31 i32 i33 i34 i35 i36 i37 i38 i39 i40 i41 i42 i43 i44 i45 i46 i47 i48 i49 i50 i51 i52 i53 i54 i55 i56 i57 i58 i59 i60 i61 i62 i63 i64 i65 i66 i67 i68 i69 i70 i71 gS u3 u8 u9 u10 u11 u12 u13 u14 u15 u16 u17 u18 u19 u20) w'):cp1Code.wp Tryz.prog Q (cp1A i0 i2 i4 i5 i6 i7 i21 i22 i23 i24 i25 i26 i27 i28 i29 i30 i31 i32 i33 i34 i35 i36 i37 i38 i39 i40 i41 i42 i43 i44 i45 i46 i47 i48 i49 i50 i51 i52 i53 i54 i55 i56 i57 i58 i59 i60 i61 i62 i63 i64 i65 i66 i67 i68 i69 i70 i71 gS j3 j8 j9 j10 j11 j12 j13 j14 j15 j16 j17 j18 j19 j20) wq:=by
 conv=>arg 2;whnf
 refine zG3 (cp1I i0 i2 i4 i5 i6 i7 i21 i22 i23 i24 i25 i26 i27 i28 i29 i30 i31 i32 i33 i34 i35 i36 i37 i38 i39 i40 i41 i42 i43 i44 i45 i46 i47 i48 i49 i50 i51 i52 i53 i54 i55 i56 i57 i58 i59 i60 i61 i62 i63 i64 i65 i66 i67 i68 i69 i70 i71 gS va vb vp vs vt xs ys ps ss js D0 wq) (by kernel_rfl) (by kernel_rfl) ?_ ?_ ?_
 ·exact⟨_,_,_,_,_,_,_,_,_,_,_,_,_,_,rfl,(fun h=>absurd h (by rw[getD_replicate_false];simp)),(fun h=>absurd h (by rw[getD_replicate_false];simp)),(fun h=>absurd h (by rw[getD_replicate_false];simp)),(fun h=>absurd h (by rw[getD_replicate_false];simp)),(fun h=>absurd h (by rw[getD_replicate_false];simp)),(fun h=>absurd h (by rw[getD_replicate_false];simp)),(fun h=>absurd h (by rw[getD_replicate_false];simp)),(fun h=>absurd h (by rw[getD_replicate_false];simp)),(fun h=>absurd h (by rw[getD_replicate_false];simp)),(fun h=>absurd h (by rw[getD_replicate_false];simp)),(fun h=>absurd h (by rw[getD_replicate_false];simp)),(fun h=>absurd h (by rw[getD_replicate_false];simp)),(fun h=>absurd h (by rw[getD_replicate_false];simp)),(fun h _=>absurd h (by rw[getD_replicate_false];simp)),(fun h=>absurd h (by rw[getD_replicate_false];simp)),(Below.refl _ _).drew⟩
 ·intro listed a w' i o hI hsz ho hl he hcl;have hi:i<15:=(Array.getElem?_eq_some_iff.1 ho).1;have e:i=0∨i=1∨i=2∨i=3∨i=4∨i=5∨i=6∨i=7∨i=8∨i=9∨i=10∨i=11∨i=12∨i=13∨i=14:=by omega
  clear hi;rcases e with rfl|rfl|rfl|rfl|rfl|rfl|rfl|rfl|rfl|rfl|rfl|rfl|rfl|rfl|rfl
  all_goals (have ho2:=ho;obtain rfl:=Option.some.inj ho2.symm;clear ho2)
  ·as_aux_lemma=>
    obtain⟨u3,u8,u9,u10,u11,u12,u13,u14,u15,u16,u17,u18,u19,u20,rfl,F0,F1,F2,F3,F4,F5,F6,F7,F8,F9,F10,F11,F12,F13,F14,hx⟩:=hI;refine zA3 ho rfl (fun K hK=>?_);unfold cp1A;go_simp;exact hK _ _ ⟨_,_,_,_,_,_,_,_,_,_,_,_,_,_,rfl,fun _=>rfl,cy F1 rfl,cy F2 rfl,cy F3 rfl,cy F4 rfl,cy F5 rfl,cy F6 rfl,cy F7 rfl,cy F8 rfl,cy F9 rfl,cy F10 rfl,cy F11 rfl,cy F12 rfl,cyu F13 rfl rfl,cy F14 rfl,hx⟩
  ·as_aux_lemma=>
    obtain⟨u3,u8,u9,u10,u11,u12,u13,u14,u15,u16,u17,u18,u19,u20,rfl,F0,F1,F2,F3,F4,F5,F6,F7,F8,F9,F10,F11,F12,F13,F14,hx⟩:=hI;have l0:=he ⟨0,.data⟩ (by simp) rfl;have e:=F0 l0;subst e;obtain⟨⟨c0,c1,c2,c3,c4⟩,_⟩:=(hS.below hx hS.lt).five;refine zA3 ho rfl (fun K hK=>?_);unfold cp1A;go_simp;exact hK _ _ ⟨_,_,_,_,_,_,_,_,_,_,_,_,_,_,rfl,cy F0 rfl,fun _=>rfl,cy F2 rfl,cy F3 rfl,cy F4 rfl,cy F5 rfl,cy F6 rfl,cy F7 rfl,cy F8 rfl,cy F9 rfl,cy F10 rfl,cy F11 rfl,cy F12 rfl,cyu F13 rfl rfl,cy F14 rfl,hx⟩
  ·as_aux_lemma=>
    obtain⟨u3,u8,u9,u10,u11,u12,u13,u14,u15,u16,u17,u18,u19,u20,rfl,F0,F1,F2,F3,F4,F5,F6,F7,F8,F9,F10,F11,F12,F13,F14,hx⟩:=hI;have l1:=he ⟨1,.data⟩ (by simp) rfl;have e:=F1 l1;subst e;refine zA3 ho rfl (fun K hK=>?_);unfold cp1A;go_simp
    (with_reducible refine(atmCopy_any _ xs ys w'.heap.size w' ((hA.below hx).mono hx.size) (Nat.le_refl _) hl1 hl2).mono ?_)
    rintro e w'' ⟨qa,qb,rfl,o1,o2,ap,hb1⟩
    go_wp2_with fail
    exact⟨_,_,_,_,_,_,_,_,_,_,_,_,_,_,rfl,cy F0 rfl,fun _=>rfl,fun _=>⟨qa,qb,rfl,o1.rebase hx.size,o2.rebase hx.size,ap⟩,cy F3 rfl,cy F4 rfl,fun hj=>absurd (hcl 5 _ rfl (by rwa [sgx (by decide)]at hj) ⟨2,.chain⟩ (by simp) rfl) (by rw[getD_both hl];simp),cy F6 rfl,cy F7 rfl,fun hj=>absurd (hcl 5 _ rfl (hcl 8 _ rfl (by rwa [sgx (by decide)]at hj) ⟨5,.chain⟩ (by simp) rfl) ⟨2,.chain⟩ (by simp) rfl) (by rw[getD_both hl];simp),cy F9 rfl,cy F10 rfl,fun hj=>absurd (hcl 5 _ rfl (hcl 8 _ rfl (hcl 11 _ rfl (by rwa [sgx (by decide)]at hj) ⟨8,.chain⟩ (by simp) rfl) ⟨5,.chain⟩ (by simp) rfl) ⟨2,.chain⟩ (by simp) rfl) (by rw[getD_both hl];simp),fun hj=>absurd (hcl 12 _ rfl (by rwa [sgx (by decide)]at hj) ⟨2,.data⟩ (by simp) rfl) (by rw[getD_both hl];simp),fun hj hu=>(let ⟨g,e1,e2,e3⟩:=(cyu F13 rfl rfl hj hu);⟨g,e1,e2,e3.below hb1 e3.lt⟩),fun hj=>absurd (hcl 14 _ rfl (by rwa [sgx (by decide)]at hj) ⟨2,.phase⟩ (by simp) rfl) (by rw[getD_both hl];simp),hx.trans (hb1.mono hx.size)⟩
  ·as_aux_lemma=>
    obtain⟨u3,u8,u9,u10,u11,u12,u13,u14,u15,u16,u17,u18,u19,u20,rfl,F0,F1,F2,F3,F4,F5,F6,F7,F8,F9,F10,F11,F12,F13,F14,hx⟩:=hI;refine zA3 ho rfl (fun K hK=>?_);unfold cp1A;go_simp;exact hK _ _ ⟨_,_,_,_,_,_,_,_,_,_,_,_,_,_,rfl,cy F0 rfl,cy F1 rfl,cy F2 rfl,fun _=>rfl,cy F4 rfl,cy F5 rfl,cy F6 rfl,cy F7 rfl,cy F8 rfl,cy F9 rfl,cy F10 rfl,cy F11 rfl,cy F12 rfl,cyu F13 rfl rfl,cy F14 rfl,hx⟩
  ·as_aux_lemma=>
    obtain⟨u3,u8,u9,u10,u11,u12,u13,u14,u15,u16,u17,u18,u19,u20,rfl,F0,F1,F2,F3,F4,F5,F6,F7,F8,F9,F10,F11,F12,F13,F14,hx⟩:=hI;have l3:=he ⟨3,.data⟩ (by simp) rfl;have e:=F3 l3;subst e;obtain⟨⟨c0,c1,c2,c3,c4⟩,_⟩:=(hS.below hx hS.lt).five;refine zA3 ho rfl (fun K hK=>?_);unfold cp1A;go_simp;exact hK _ _ ⟨_,_,_,_,_,_,_,_,_,_,_,_,_,_,rfl,cy F0 rfl,cy F1 rfl,cy F2 rfl,cy F3 rfl,fun _=>rfl,cy F5 rfl,cy F6 rfl,cy F7 rfl,cy F8 rfl,cy F9 rfl,cy F10 rfl,cy F11 rfl,cy F12 rfl,cyu F13 rfl rfl,cy F14 rfl,hx⟩
  ·as_aux_lemma=>
    obtain⟨u3,u8,u9,u10,u11,u12,u13,u14,u15,u16,u17,u18,u19,u20,rfl,F0,F1,F2,F3,F4,F5,F6,F7,F8,F9,F10,F11,F12,F13,F14,hx⟩:=hI;have l4:=he ⟨4,.data⟩ (by simp) rfl;have l2:=he ⟨2,.chain⟩ (by simp) rfl;have e:=F4 l4;subst e;obtain⟨qa,qb,hq,oa,ob,ap⟩:=F2 l2;have HQ:=hid hq;clear hq;refine zA3 ho rfl (fun K hK=>?_);unfold cp1A;go_simp
    (with_reducible refine(clone_CycPort rowPS rowPS_len rowPS_one _ ps w'.heap.size w' ((hP.below hx).mono hx.size) (by omega)).mono ?_)
    rintro e w'' ⟨q,rfl,o1,hb1⟩
    go_wp2_with fail
    exact⟨_,_,_,_,_,_,_,_,_,_,_,_,_,_,rfl,cy F0 rfl,cy F1 rfl,fun hj=>(let ⟨qa,qb,e,o1,o2,ap⟩:=(cy F2 rfl hj);⟨qa,qb,e,OwnR.below o1 hb1 (fun k hk=>(OwnR.lt o1 k hk).2),OwnR.below o2 hb1 (fun k hk=>(OwnR.lt o2 k hk).2),ap⟩),cy F3 rfl,fun _=>rfl,fun _=>⟨o1.rebase hx.size,qa,qb,HQ.out,zM5 oa o1,zM5 ob o1⟩,cy F6 rfl,cy F7 rfl,fun hj=>absurd (hcl 8 _ rfl (by rwa [sgx (by decide)]at hj) ⟨5,.chain⟩ (by simp) rfl) (by rw[getD_both hl];simp),cy F9 rfl,cy F10 rfl,fun hj=>absurd (hcl 8 _ rfl (hcl 11 _ rfl (by rwa [sgx (by decide)]at hj) ⟨8,.chain⟩ (by simp) rfl) ⟨5,.chain⟩ (by simp) rfl) (by rw[getD_both hl];simp),fun hj=>absurd (hcl 12 _ rfl (by rwa [sgx (by decide)]at hj) ⟨5,.data⟩ (by simp) rfl) (by rw[getD_both hl];simp),fun hj hu=>(let ⟨g,e1,e2,e3⟩:=(cyu F13 rfl rfl hj hu);⟨g,e1,e2,e3.below hb1 e3.lt⟩),fun hj=>absurd (hcl 14 _ rfl (by rwa [sgx (by decide)]at hj) ⟨5,.phase⟩ (by simp) rfl) (by rw[getD_both hl];simp),hx.trans (hb1.mono hx.size)⟩
  ·as_aux_lemma=>
    obtain⟨u3,u8,u9,u10,u11,u12,u13,u14,u15,u16,u17,u18,u19,u20,rfl,F0,F1,F2,F3,F4,F5,F6,F7,F8,F9,F10,F11,F12,F13,F14,hx⟩:=hI;refine zA3 ho rfl (fun K hK=>?_);unfold cp1A;go_simp;exact hK _ _ ⟨_,_,_,_,_,_,_,_,_,_,_,_,_,_,rfl,cy F0 rfl,cy F1 rfl,cy F2 rfl,cy F3 rfl,cy F4 rfl,cy F5 rfl,fun _=>rfl,cy F7 rfl,cy F8 rfl,cy F9 rfl,cy F10 rfl,cy F11 rfl,cy F12 rfl,cyu F13 rfl rfl,cy F14 rfl,hx⟩
  ·as_aux_lemma=>
    obtain⟨u3,u8,u9,u10,u11,u12,u13,u14,u15,u16,u17,u18,u19,u20,rfl,F0,F1,F2,F3,F4,F5,F6,F7,F8,F9,F10,F11,F12,F13,F14,hx⟩:=hI;have l6:=he ⟨6,.data⟩ (by simp) rfl;have e:=F6 l6;subst e;obtain⟨⟨c0,c1,c2,c3,c4⟩,_⟩:=(hS.below hx hS.lt).five;refine zA3 ho rfl (fun K hK=>?_);unfold cp1A;go_simp;exact hK _ _ ⟨_,_,_,_,_,_,_,_,_,_,_,_,_,_,rfl,cy F0 rfl,cy F1 rfl,cy F2 rfl,cy F3 rfl,cy F4 rfl,cy F5 rfl,cy F6 rfl,fun _=>rfl,cy F8 rfl,cy F9 rfl,cy F10 rfl,cy F11 rfl,cy F12 rfl,cyu F13 rfl rfl,cy F14 rfl,hx⟩
  ·as_aux_lemma=>
    obtain⟨u3,u8,u9,u10,u11,u12,u13,u14,u15,u16,u17,u18,u19,u20,rfl,F0,F1,F2,F3,F4,F5,F6,F7,F8,F9,F10,F11,F12,F13,F14,hx⟩:=hI;have l7:=he ⟨7,.data⟩ (by simp) rfl;have l5:=he ⟨5,.chain⟩ (by simp) rfl;have e:=F7 l7;subst e;obtain⟨op,qa,qb,hq,a1,a2⟩:=F5 l5;obtain⟨qa2,qb2,hq2,oa,ob,_⟩:=F2 (hcl 5 _ rfl l5 ⟨2,.chain⟩ (by simp) rfl);have HQ2:=hid hq2;clear hq hq2;refine zA3 ho rfl (fun K hK=>?_);unfold cp1A;go_simp
    (with_reducible refine(clone_CycSlave rowSS rowSS_len rowSS_one _ ss w'.heap.size w' ((hT.below hx).mono hx.size) (by omega)).mono ?_)
    rintro e w'' ⟨q,rfl,o1,hb1⟩
    go_wp2_with fail
    exact⟨_,_,_,_,_,_,_,_,_,_,_,_,_,_,rfl,cy F0 rfl,cy F1 rfl,fun hj=>(let ⟨qa,qb,e,o1,o2,ap⟩:=(cy F2 rfl hj);⟨qa,qb,e,OwnR.below o1 hb1 (fun k hk=>(OwnR.lt o1 k hk).2),OwnR.below o2 hb1 (fun k hk=>(OwnR.lt o2 k hk).2),ap⟩),cy F3 rfl,cy F4 rfl,fun hj=>⟨OwnR.below (cy F5 rfl hj).1 hb1 (fun k hk=>(OwnR.lt (cy F5 rfl hj).1 k hk).2),(cy F5 rfl hj).2⟩,cy F6 rfl,fun _=>rfl,fun _=>⟨o1.rebase hx.size,zM5 op o1,qa2,qb2,HQ2.out,zM5 oa o1,zM5 ob o1⟩,cy F9 rfl,cy F10 rfl,fun hj=>absurd (hcl 11 _ rfl (by rwa [sgx (by decide)]at hj) ⟨8,.chain⟩ (by simp) rfl) (by rw[getD_both hl];simp),fun hj=>absurd (hcl 12 _ rfl (by rwa [sgx (by decide)]at hj) ⟨8,.data⟩ (by simp) rfl) (by rw[getD_both hl];simp),fun hj hu=>(let ⟨g,e1,e2,e3⟩:=(cyu F13 rfl rfl hj hu);⟨g,e1,e2,e3.below hb1 e3.lt⟩),fun hj=>absurd (hcl 14 _ rfl (by rwa [sgx (by decide)]at hj) ⟨8,.phase⟩ (by simp) rfl) (by rw[getD_both hl];simp),hx.trans (hb1.mono hx.size)⟩
  ·as_aux_lemma=>
    obtain⟨u3,u8,u9,u10,u11,u12,u13,u14,u15,u16,u17,u18,u19,u20,rfl,F0,F1,F2,F3,F4,F5,F6,F7,F8,F9,F10,F11,F12,F13,F14,hx⟩:=hI;refine zA3 ho rfl (fun K hK=>?_);unfold cp1A;go_simp;exact hK _ _ ⟨_,_,_,_,_,_,_,_,_,_,_,_,_,_,rfl,cy F0 rfl,cy F1 rfl,cy F2 rfl,cy F3 rfl,cy F4 rfl,cy F5 rfl,cy F6 rfl,cy F7 rfl,cy F8 rfl,fun _=>rfl,cy F10 rfl,cy F11 rfl,cy F12 rfl,cyu F13 rfl rfl,cy F14 rfl,hx⟩
  ·as_aux_lemma=>
    obtain⟨u3,u8,u9,u10,u11,u12,u13,u14,u15,u16,u17,u18,u19,u20,rfl,F0,F1,F2,F3,F4,F5,F6,F7,F8,F9,F10,F11,F12,F13,F14,hx⟩:=hI;have l9:=he ⟨9,.data⟩ (by simp) rfl;have e:=F9 l9;subst e;obtain⟨⟨c0,c1,c2,c3,c4⟩,_⟩:=(hS.below hx hS.lt).five;refine zA3 ho rfl (fun K hK=>?_);unfold cp1A;go_simp;exact hK _ _ ⟨_,_,_,_,_,_,_,_,_,_,_,_,_,_,rfl,cy F0 rfl,cy F1 rfl,cy F2 rfl,cy F3 rfl,cy F4 rfl,cy F5 rfl,cy F6 rfl,cy F7 rfl,cy F8 rfl,cy F9 rfl,fun _=>rfl,cy F11 rfl,cy F12 rfl,cyu F13 rfl rfl,cy F14 rfl,hx⟩
  ·as_aux_lemma=>
    obtain⟨u3,u8,u9,u10,u11,u12,u13,u14,u15,u16,u17,u18,u19,u20,rfl,F0,F1,F2,F3,F4,F5,F6,F7,F8,F9,F10,F11,F12,F13,F14,hx⟩:=hI;have l10:=he ⟨10,.data⟩ (by simp) rfl;have l8:=he ⟨8,.chain⟩ (by simp) rfl;have e:=F10 l10;subst e;obtain⟨o8,_,qa8,qb8,hq8,_⟩:=F8 l8;obtain⟨o5,qa5,qb5,hq5,_⟩:=F5 (hcl 8 _ rfl l8 ⟨5,.chain⟩ (by simp) rfl);obtain⟨qa2,qb2,hq2,oa,ob,_⟩:=F2 (hcl 5 _ rfl (hcl 8 _ rfl l8 ⟨5,.chain⟩ (by simp) rfl) ⟨2,.chain⟩ (by simp) rfl);have HQ2:=hid hq2;clear hq2 hq5 hq8;refine zA3 ho rfl (fun K hK=>?_);unfold cp1A;go_simp
    (with_reducible refine(zG8 D0 _ wq.heap.size w' (hJ1.below hx) (fun x hx2=>(hJ3 x hx2).below hx) hx.size hl5 hl6).mono ?_)
    rintro e w'' ⟨q,D1,rfl,o1,hm1,hd1,hb1⟩
    go_wp2_with fail
    exact⟨_,_,_,_,_,_,_,_,_,_,_,_,_,_,rfl,cy F0 rfl,cy F1 rfl,fun hj=>(let ⟨qa,qb,e,o1,o2,ap⟩:=(cy F2 rfl hj);⟨qa,qb,e,OwnR.below o1 hb1 (fun k hk=>(OwnR.lt o1 k hk).2),OwnR.below o2 hb1 (fun k hk=>(OwnR.lt o2 k hk).2),ap⟩),cy F3 rfl,cy F4 rfl,fun hj=>⟨OwnR.below (cy F5 rfl hj).1 hb1 (fun k hk=>(OwnR.lt (cy F5 rfl hj).1 k hk).2),(cy F5 rfl hj).2⟩,cy F6 rfl,cy F7 rfl,fun hj=>⟨OwnR.below (cy F8 rfl hj).1 hb1 (fun k hk=>(OwnR.lt (cy F8 rfl hj).1 k hk).2),(cy F8 rfl hj).2⟩,cy F9 rfl,fun _=>rfl,fun _=>⟨w'.heap.size,D1,hx.size,o1,hm1.trans hJ2,hd1,(fun k hk=>(OwnR.lt o8 k hk).2),(fun k hk=>(OwnR.lt o5 k hk).2),qa2,qb2,HQ2.out,(fun k hk=>(OwnR.lt oa k hk).2),(fun k hk=>(OwnR.lt ob k hk).2)⟩,fun hj=>absurd (hcl 12 _ rfl (by rwa [sgx (by decide)]at hj) ⟨11,.data⟩ (by simp) rfl) (by rw[getD_both hl];simp),fun hj hu=>(let ⟨g,e1,e2,e3⟩:=(cyu F13 rfl rfl hj hu);⟨g,e1,e2,e3.below hb1 e3.lt⟩),fun hj=>absurd (hcl 14 _ rfl (by rwa [sgx (by decide)]at hj) ⟨11,.phase⟩ (by simp) rfl) (by rw[getD_both hl];simp),hx.trans (hb1.mono hx.size)⟩
  ·as_aux_lemma=>
    obtain⟨u3,u8,u9,u10,u11,u12,u13,u14,u15,u16,u17,u18,u19,u20,rfl,F0,F1,F2,F3,F4,F5,F6,F7,F8,F9,F10,F11,F12,F13,F14,hx⟩:=hI;have l2:=he ⟨2,.data⟩ (by simp) rfl;have l5:=he ⟨5,.data⟩ (by simp) rfl;have l8:=he ⟨8,.data⟩ (by simp) rfl;have l11:=he ⟨11,.data⟩ (by simp) rfl;have F2':=F2 l2;obtain⟨qa,qb,hq,oa,ob,ap⟩:=F2';have F5':=F5 l5;have F8':=F8 l8;have F11':=F11 l11;obtain⟨m,D1,m1,o11,h11⟩:=F11';obtain⟨y1,y2,e1,_,_⟩:=oa.shape;obtain⟨z1,z2,e2,_,_⟩:=ob.shape;obtain⟨s1,s2,e3,_,_⟩:=F5'.1.shape;obtain⟨t1,t2,e4,_,_⟩:=F8'.1.shape;obtain⟨v1,v2,e5,_,_⟩:=o11.shape;subst e1 e2 hq e3 e4 e5;clear F5' F8' oa ob ap o11 h11;refine zA3 ho rfl (fun K hK=>?_);unfold cp1A;go_simp;exact hK _ _ ⟨_,_,_,_,_,_,_,_,_,_,_,_,_,_,rfl,cy F0 rfl,cy F1 rfl,fun hj=>F2 l2,cy F3 rfl,cy F4 rfl,fun hj=>F5 l5,cy F6 rfl,cy F7 rfl,fun hj=>F8 l8,cy F9 rfl,cy F10 rfl,fun hj=>F11 l11,fun _=>⟨_,_,rfl,rfl⟩,cyu F13 rfl rfl,cy F14 rfl,hx⟩
  ·as_aux_lemma=>
    obtain⟨u3,u8,u9,u10,u11,u12,u13,u14,u15,u16,u17,u18,u19,u20,rfl,F0,F1,F2,F3,F4,F5,F6,F7,F8,F9,F10,F11,F12,F13,F14,hx⟩:=hI;refine zA3 ho rfl (fun K hK=>?_);unfold cp1A;have hb1:Below w'.heap.size w' (w'.alloc (.cells #[.slice none 0 0,.slice none 0 0,.slice none 0 0,.slice none 0 0,.slice none 0 0] 39)):=(Below.refl _ _).alloc (Nat.le_refl _) _;go_simp;exact hK _ _ ⟨_,_,_,_,_,_,_,_,_,_,_,_,_,_,rfl,cy F0 rfl,cy F1 rfl,fun hj=>(let ⟨qa,qb,e,o1,o2,ap⟩:=(cy F2 rfl hj);⟨qa,qb,e,OwnR.below o1 hb1 (fun k hk=>(OwnR.lt o1 k hk).2),OwnR.below o2 hb1 (fun k hk=>(OwnR.lt o2 k hk).2),ap⟩),cy F3 rfl,cy F4 rfl,fun hj=>⟨OwnR.below (cy F5 rfl hj).1 hb1 (fun k hk=>(OwnR.lt (cy F5 rfl hj).1 k hk).2),(cy F5 rfl hj).2⟩,cy F6 rfl,cy F7 rfl,fun hj=>⟨OwnR.below (cy F8 rfl hj).1 hb1 (fun k hk=>(OwnR.lt (cy F8 rfl hj).1 k hk).2),(cy F8 rfl hj).2⟩,cy F9 rfl,cy F10 rfl,fun hj=>(let ⟨m,D1,m1,o,h2,h3,r⟩:=(cy F11 rfl hj);⟨m,D1,m1,OwnR.below o hb1 (fun k hk=>(OwnR.lt o k hk).2),h2,fun x hx2=>((h3 x hx2).kept fun b hb=>hb1.block b hb.2.1).weak fun b hb=>⟨hb.1,Nat.lt_of_lt_of_le hb.2.1 hb1.size,hb.2.2⟩,r⟩),cy F12 rfl,fun _ _=>⟨_,rfl,hx.size,BoxC.new _ _ _ _ _ _⟩,fun hj=>absurd (hcl 14 _ rfl (by rwa [sgx (by decide)]at hj) ⟨13,.data⟩ (by simp) rfl) (by rw[getD_both hl];simp),hx.trans (hb1.mono hx.size)⟩
  ·as_aux_lemma=>
    obtain⟨u3,u8,u9,u10,u11,u12,u13,u14,u15,u16,u17,u18,u19,u20,rfl,F0,F1,F2,F3,F4,F5,F6,F7,F8,F9,F10,F11,F12,F13,F14,hx⟩:=hI;have l13:=he ⟨13,.data⟩ (by simp) rfl;have l12:=he ⟨12,.data⟩ (by simp) rfl;have l11:=he ⟨11,.chain⟩ (by simp) rfl;obtain⟨g,rfl,g1,hB⟩:=F13 l13 (getD_both hl);obtain⟨qa,qb,hq,e12⟩:=F12 l12;have l2:=hcl 12 _ rfl l12 ⟨2,.data⟩ (by simp) rfl;have l5:=hcl 12 _ rfl l12 ⟨5,.data⟩ (by simp) rfl;have l8:=hcl 12 _ rfl l12 ⟨8,.data⟩ (by simp) rfl;obtain⟨qa2,qb2,hq2,oa,ob,ap⟩:=F2 l2;rw[hq]at hq2;simp only[Value.agg.injEq,Array.mk.injEq,List.cons.injEq,and_true]at hq2;obtain⟨rfl,rfl⟩:=hq2;obtain⟨op,F5'⟩:=F5 l5;obtain⟨os,F8'⟩:=F8 l8;obtain⟨m,D1,m1,o11,hm11,hd11,r11⟩:=F11 l11;obtain⟨y1,y2,e1,_,_⟩:=oa.shape;obtain⟨z1,z2,e2,_,_⟩:=ob.shape;obtain⟨s1,s2,e3,_,_⟩:=op.shape;obtain⟨t1,t2,e4,_,_⟩:=os.shape;obtain⟨v1,v2,e5,_,_⟩:=o11.shape;subst e1 e2 hq e3 e4 e5 e12;obtain⟨⟨k0,k1,k2,k3,k4⟩,m0,m1', m2,m3,m4⟩:=hB.bx.five;have HD11:=hid hd11;have R11:=hid r11;have HM11:=hid hm11;clear hd11 r11 hm11;refine zA3 ho rfl (fun K hK=>?_);unfold cp1A;have ht:=touchC g w' (.slice y1 xs.length y2) (.slice z1 ys.length z2) (.slice s1 ps.length s2) (.slice t1 ss.length t2) (.slice v1 D1.length v2);go_simp;exact hK _ _ ⟨_,_,_,_,_,_,_,_,_,_,_,_,_,_,rfl,cy F0 rfl,cy F1 rfl,fun hj=>⟨_,_,rfl,oa.boxC hB (by decide) ht,ob.boxC hB (by decide) ht,ap⟩,cy F3 rfl,cy F4 rfl,fun hj=>⟨op.boxC hB (by decide) ht,F5'⟩,cy F6 rfl,cy F7 rfl,fun hj=>⟨os.boxC hB (by decide) ht,F8'⟩,cy F9 rfl,cy F10 rfl,fun hj=>⟨m,D1,m1,o11.boxC hB (by decide) ht,HM11.out,fun x hx2=>(((HD11.out x hx2).notC hB).kept fun b hb=>ht.block b hb.1.2.1 hb.2).weak fun b hb=>⟨hb.1.1,Nat.lt_of_lt_of_le hb.1.2.1 ht.size,hb.1.2.2⟩,R11.out⟩,fun hj=>⟨_,_,rfl,rfl⟩,fun _ hu=>absurd hu (by rw[sgix hl];simp),fun _=>⟨g,_,_,rfl,g1,rfl,hB.put _ _ _ _ _⟩,Below.touchN hx ht g1 (Nat.le_refl _)⟩
 ·intro listed a w' hI hd;obtain⟨u3,u8,u9,u10,u11,u12,u13,u14,u15,u16,u17,u18,u19,u20,rfl,F0,F1,F2,F3,F4,F5,F6,F7,F8,F9,F10,F11,F12,F13,F14,hx⟩:=hI;obtain⟨g,qa,qb,h3,g1,hq,hB⟩:=F14 (hd 14 (by show 14<15;omega));obtain⟨qa2,qb2,hq2,oa,ob,ap⟩:=F2 (hd 2 (by show 2<15;omega));obtain⟨op,qa3,qb3,hq3,a1,a2⟩:=F5 (hd 5 (by show 5<15;omega));obtain⟨os,a3,qa4,qb4,hq4,a4,a5⟩:=F8 (hd 8 (by show 8<15;omega));obtain⟨m,D1,m1,o11,hm11,hd11,r1,r2,qa6,qb6,hq6,r3,r4⟩:=F11 (hd 11 (by show 11<15;omega));rw[hq]at hq2 hq3 hq4 hq6;simp only[Value.agg.injEq,Array.mk.injEq,List.cons.injEq,and_true]at hq2 hq3 hq4 hq6;obtain⟨rfl,rfl⟩:=hq2;obtain⟨rfl,rfl⟩:=hq3;obtain⟨rfl,rfl⟩:=hq4;obtain⟨rfl,rfl⟩:=hq6;exact hK _ _ _ _ _ _ _ _ _ _ _ _ _ _ w' ⟨g,qa,qb,_,_,_,m,D1,h3,g1,hB,⟨oa,ob,op,os,ap,a3,a1,a4,a2,a5⟩,m1,o11,hm11,hd11,⟨r3,r4,r2,r1⟩,hx⟩
end Go.Proofs.YtgkdoehkmbhfiaaGreat
namespace Go.Proofs.YtgkdoehkmbhfiaaGreat
open Go.RowKit
theorem elem_CycJob:Elem 46 101 3 24:=zF7 Tryz.underlying46 (z:=.agg #[.int .i64 0,.int .i64 0,.int .i64 0]) (by kernel_rfl) rfl (by omega)
theorem sClone_CycJob {α : Type} (f : α → List Value) (hf : ∀ x, (f x).length = 3) (h1 : ∀ x, ∀ u ∈ f x, u.oneCell' = true) (v : Value) (ys : List α) (B : Nat) (w : World) (ha : Arr w B 3 v (ys.map f)) (hlen : ys.length * 24 ≤ 140737488355328) :
  Calls Tryz.prog 142 #[v] w (CloneP f 101 3 ys w):=by
 have ha0:=hid ha;obtain⟨ao,cap,rfl,g1,g2,g0,g9,g3⟩:=ha;simp only[List.length_map]at g1 g2 g0 ⊢;clear g3;cases ao with
 |none=>
  obtain rfl:=g9 rfl;have hy:ys=[]:=by
   rcases ys with _|⟨y,ys⟩
   ·rfl
   ·simp at g1
  subst hy;have he:=fun w=>Lib.run_eql_slice_nil (P:=Tryz.prog) w 46 101 none 0 0 0 0 Tryz.underlying46
  go_enter Tryz.func142,Tryz.ntmps142
  go_wp2_with fail
  go_ret
  exact⟨_,rfl,Owns.zero,Below.refl _ _⟩
 |some ad=>
  have he:=fun w=>Lib.run_eql_slice_nil (P:=Tryz.prog) w 46 101 (some ad) ys.length cap 0 0 Tryz.underlying46
  clear g9
  go_enter Tryz.func142,Tryz.ntmps142
  go_wp2_with (at_builtin;go_must (refine zH5 elem_CycJob f hf h1 _ rfl _ _ rfl w.heap.size _ [] (by rfl) (Owns.lit (Nat.le_refl _)) _ ys (min B w.heap.size) (by rfl) (by have:=(ha0.out).fit (by omega) (by intro r hr;obtain⟨y,_,rfl⟩:=List.mem_map.1 hr;exact hf y);simp only[List.length_map]at this;exact this.below ((Below.refl _ _).alloc (Nat.min_le_right _ _) _)) (by simpa using hlen) (by simp;omega) (by simp) ?_);intro v' w1 hown1 hb1 _)
  go_ret
  exact⟨v', rfl,by simpa using hown1,((Below.refl _ _).alloc (Nat.le_refl _) _).trans hb1⟩
theorem sClip_CycJob (a:Option Addr) (n c:Nat) (w:World) (hc:n≤c) (hm:c≤9223372036854775807):Calls Tryz.prog 141 #[.slice a n c] w fun e w' => e=.returned (.slice a n n)∧w=w':=by
 go_enter Tryz.func141,Tryz.ntmps141
 go_wp2_with fail
 go_ret
 exact⟨rfl,rfl⟩
theorem clone_CycJob {α : Type} (f : α → List Value) (hf : ∀ x, (f x).length = 3) (h1 : ∀ x, ∀ u ∈ f x, u.oneCell' = true) (v : Value) (ys : List α) (B : Nat) (w : World) (ha : Arr w B 3 v (ys.map f)) (hlen : ys.length * 24 ≤ 140737488355328) :
  Calls Tryz.prog 89 #[v] w (CloneP f 101 3 ys w):=by
 go_enter Tryz.func89,Tryz.ntmps89
 go_wp2_with fail
 refine(sClone_CycJob f hf h1 v ys B w ha hlen).mono ?_;rintro e w1 ⟨u,rfl,hown,hb⟩;obtain⟨a,c,rfl,hc1,hc2⟩:=hown.shape
 go_wp2_with fail
 refine(sClip_CycJob a ys.length c _ hc1 hc2).mono ?_;rintro e w2 ⟨rfl,rfl⟩
 go_wp2_with fail
 go_ret
 exact⟨_,rfl,hown.clip,hb⟩
end Go.Proofs.YtgkdoehkmbhfiaaGreat
namespace Go.Proofs.YtgkdoehkmbhfiaaGreat
open Go.RowKit
section
variable {P : Program} {ops : Array Oper} {C : List Value → World → Prop} {fl : List (Nat × Bool)} {bd : List (Nat × Nat)}
def Ph (C:List Value→World→Prop):Type:={x:List Value×World // C x.1 x.2}
def zC2 (fl:List (Nat×Bool)) (i:Nat):Option Bool:=(fl.find? fun x=>x.1==i).map (·.2)
def bdOf (bd:List (Nat×Nat)) (i:Nat):Option Nat:=(bd.find? fun x=>x.1==i).map (·.2)
def lims (C : List Value → World → Prop) : Option Nat → List Value → World → Prop
 |none=>C
 |some b=>fun us W=>C us W∧us.length≤b
def quietF (P:Program) (C:List Value→World→Prop) (b:Option Nat) (o:Oper) (a:Act) (v:Value):Prop:=∀x:Ph (lims C b),o.quietAt P a (C x.1.1) x.1.2 v
def wq1 (P : Program) (ops : Array Oper) (C : List Value → World → Prop) (fl : List (Nat × Bool)) (bd : List (Nat × Nat)) (K : Act → Prop) : Nat → List Oper → Act → Prop
 |_,[],a=>K a
 | i, o :: rest, a => match zC2 fl i with
  |none=>if Region.wanted o (yielded ops a.tmps) then ∃v,quietF P C (bdOf bd i) o a v∧wq1 P ops C fl bd K (i+1) rest (a.put o.dst v) else wq1 P ops C fl bd K (i+1) rest (a.put o.dst undef)
  |some true=>∃v,wq1 P ops C fl bd K (i+1) rest (a.put o.dst v)
  |some false=>wq1 P ops C fl bd K (i+1) rest a
def wq2 (P : Program) (ops : Array Oper) (C : List Value → World → Prop) (K : List Value → Act → Prop) : List (Nat × Bool) → List Value → Act → Prop
 |[],us,a=>K us a
 | (i, fx) :: rest, us, a => ∃ o, ops[i]? = some o ∧ Region.wanted o (yielded ops a.tmps) = true ∧
   (∀W,C us W→∀K':Act→World→Prop,(∀v a' W', C (us++[v]) W' → a' = a.put o.dst v→(fx=true→a' = a)→K' a' W')→o.wp P a W K' (fun _ _ _=>False)) ∧
   ∀v,wq2 P ops C K rest (us++[v]) (if fx then a else a.put o.dst v)
theorem zL1 {K:Act→Prop} {i:Nat} {a:Act} (h:K a):wq1 P ops C fl bd K i [] a:=h
theorem wq1_q {K : Act → Prop} {i : Nat} {a : Act} {o : Oper} {rest : List Oper} (hk : zC2 fl i = none ∧ bdOf bd i = none)
  (h:∀K':Act→Prop,(∀a,wq1 P ops C fl bd K (i+1) rest a→K' a)→if Region.wanted o (yielded ops a.tmps) then ∃v,(∀x:Ph C,o.quietAt P a (C x.1.1) x.1.2 v)∧K' (a.put o.dst v) else K' (a.put o.dst undef)):wq1 P ops C fl bd K i (o::rest) a:=by
 unfold wq1;rw[hk.1];simp only[hk.2];exact h _ fun _ h=>h
theorem wq1_b {K : Act → Prop} {i b : Nat} {a : Act} {o : Oper} {rest : List Oper} (hk : zC2 fl i = none ∧ bdOf bd i = some b)
  (h:∀K':Act→Prop,(∀a,wq1 P ops C fl bd K (i+1) rest a→K' a)→if Region.wanted o (yielded ops a.tmps) then ∃v,(∀x:Ph (lims C (some b)),o.quietAt P a (C x.1.1) x.1.2 v)∧K' (a.put o.dst v) else K' (a.put o.dst undef)):wq1 P ops C fl bd K i (o::rest) a:=by
 unfold wq1;rw[hk.1];simp only[hk.2];exact h _ fun _ h=>h
theorem callsF {f:FuncId} {args:Array Value} {x:Ph C} {v:Value} (h:Calls P f args x.1.2 fun e w' => e=.returned v∧x.1.2=w'):Calls P f args x.1.2 fun e w'' => e=.returned v∧C x.1.1 w'' :=
 h.mono fun _ _ ⟨he,hm⟩=>⟨he,hm▸x.2⟩
theorem wq1_x {K:Act→Prop} {i:Nat} {a:Act} {o:Oper} {rest:List Oper} (hk:zC2 fl i=some true) (v:Value) (h:∀K':Act→Prop,(∀a,wq1 P ops C fl bd K (i+1) rest a→K' a)→K' (a.put o.dst v)):wq1 P ops C fl bd K i (o::rest) a:=by
 unfold wq1;rw[hk];exact⟨v,h _ fun _ h=>h⟩
theorem wq1_v {K:Act→Prop} {i:Nat} {a:Act} {o:Oper} {rest:List Oper} (hk:zC2 fl i=some false) (h:wq1 P ops C fl bd K (i+1) rest a):wq1 P ops C fl bd K i (o::rest) a:=by
 unfold wq1;rw[hk];exact h
theorem zL0 {K:List Value→Act→Prop} {us:List Value} {a:Act} (h:K us a):wq2 P ops C K [] us a:=h
theorem wq2_x {K : List Value → Act → Prop} {us : List Value} {a : Act} {i : Nat} {rest : List (Nat × Bool)} (o : Oper) (ho : ops[i]? = some o) (hw : Region.wanted o (yielded ops a.tmps) = true)
  (hf:∀W,C us W→∀K':Act→World→Prop,(∀v a' W', C (us++[v]) W' → a' = a→a' = a.put o.dst v→K' a' W')→o.wp P a W K' (fun _ _ _=>False))
  (h:∀v,wq2 P ops C K rest (us++[v]) a):wq2 P ops C K ((i,true)::rest) us a :=
 ⟨o,ho,hw,fun W hW K' hK=>hf W hW K' fun v a' W' hC e1 e2=>hK v a' W' hC e2 fun _=>e1,fun v=>by rw[if_pos rfl];exact h v⟩
theorem wq2_v {K : List Value → Act → Prop} {us : List Value} {a : Act} {i : Nat} {rest : List (Nat × Bool)} (o : Oper) (ho : ops[i]? = some o) (hw : Region.wanted o (yielded ops a.tmps) = true)
  (hf:∀W,C us W→∀K':Act→World→Prop,(∀v a' W', C (us++[v]) W' → a' = a.put o.dst v→K' a' W')→o.wp P a W K' (fun _ _ _=>False))
  (h:∀v (K':Act→Prop),(∀a', wq2 P ops C K rest (us++[v]) a' → K' a')→K' (a.put o.dst v)):wq2 P ops C K ((i,false)::rest) us a :=
 ⟨o,ho,hw,fun W hW K' hK=>hf W hW K' fun v a' W' hC e=>hK v a' W' hC e (fun h=>by cases h),fun v=>by rw[if_neg (by simp)];exact h v _ fun _ h=>h⟩
def edgeB (o:Oper) (j:Nat):Bool:=o.after.any fun e=>e.on==j&&Region.binds .any e
def flowB (ops:Array Oper) (fl:List (Nat×Bool)) (bd:List (Nat×Nat)) (n:Nat):Bool :=
 (bd.all fun x=>match fl[x.2]? with|some (j,_)=>(match ops[j]? with|some o=>edgeB o x.1|none=>false)|none=>false) &&
 (  backB .any ops && Region.noSelect ops &&
 ((List.range ops.size).all fun i => (List.range ops.size).all fun j => match ops[i]?, ops[j]? with
  | some o, some oj => (match oj.dst with
    | some d => decide (d < n) && (decide (i = j) || decide (o.dst ≠ some d)) &&
      (!(o.looksAt ops).contains d || (edgeB o j&&!(zC2 fl i==none&&zC2 fl j==some false)) || (edgeB oj i&&zC2 fl i==none))
    |none=>true)
  |_,_=>true) &&
 ((List.range fl.length).all fun p => match fl[p]? with
  | some (i, fx) => decide (i < ops.size) && (zC2 fl i == some fx) && (match p with
    |0=>true
    |q+1=>(match fl[q]?,ops[i]? with|some (j,_),some o=>edgeB o j|_,_=>false))
  |none=>true))
theorem zI2 {o:Oper} {j:Nat} (h:edgeB o j=true):∃e∈o.after,Region.binds .any e=true∧e.on=j:=by
 unfold edgeB at h;rw[Array.any_eq_true']at h;obtain⟨e,he,h⟩:=h;simp only[Bool.and_eq_true,beq_iff_eq]at h;exact⟨e,he,h.2,h.1⟩
structure FlowOk (ops:Array Oper) (fl:List (Nat×Bool)) (bd:List (Nat×Nat)) (n:Nat):Prop where
 bd:∀i b,bdOf bd i=some b→∃(j:Nat) (fx:Bool) (o:Oper),fl[b]? = some (j,fx)∧ops[j]? = some o∧edgeB o i=true
 back:backB .any ops=true
 sel:Region.noSelect ops=true
 inn:∀(j:Nat) oj d,ops[j]? = some oj→oj.dst=some d→d<n
 dis:∀(i j:Nat) oi oj d,ops[i]? = some oi→ops[j]? = some oj→oi.dst=some d→oj.dst=some d→i=j
 rd : ∀ (i j : Nat) o oj d, ops[i]? = some o → ops[j]? = some oj → oj.dst = some d → d ∈ o.looksAt ops →
  (edgeB o j=true∧(zC2 fl i=none→zC2 fl j≠some false))∨(edgeB oj i=true∧zC2 fl i=none)
 fk:∀(p i:Nat) fx,fl[p]? = some (i,fx)→zC2 fl i=some fx∧i<ops.size
 ch:∀(q j:Nat) fj (i:Nat) fx o,fl[q]? = some (j,fj)→fl[q+1]? = some (i,fx)→ops[i]? = some o→edgeB o j=true
theorem flowOk_of {n:Nat} (h:flowB ops fl bd n=true):FlowOk ops fl bd n:=by
 unfold flowB at h;rw[Bool.and_eq_true]at h;obtain⟨h0,h⟩:=h;have hb:∀i b,bdOf bd i=some b→∃(j:Nat) (fx:Bool) (o:Oper),fl[b]? = some (j,fx)∧ops[j]? = some o∧edgeB o i=true:=fun i b hi=>by
  unfold bdOf at hi;rw[Option.map_eq_some_iff]at hi;obtain⟨⟨j,b'⟩,g1,g2⟩:=hi;have g3:=List.find?_some g1;simp only[beq_iff_eq]at g3 g2;subst g3 g2;have h1:=List.all_eq_true.1 h0 _ (List.mem_of_find?_eq_some g1);simp only at h1
  split at h1
  ·rename_i k fx hk
   split at h1
   ·rename_i o ho;exact⟨k,fx,o,hk,ho,h1⟩
   ·cases h1
  ·cases h1
 simp only[Bool.and_eq_true,List.all_eq_true,List.mem_range]at h;obtain⟨⟨⟨h1,h2⟩,h3⟩,h4⟩:=h;have key:∀(i j:Nat) o oj d,ops[i]? = some o→ops[j]? = some oj→oj.dst=some d→d<n∧(i=j∨o.dst≠some d)∧(d ∉ o.looksAt ops∨(edgeB o j=true∧(zC2 fl i=none→zC2 fl j≠some false))∨(edgeB oj i=true∧zC2 fl i=none)):=by
  intro i j o oj d hi hj hd;have h:=h3 i (Array.getElem?_eq_some_iff.1 hi).1 j (Array.getElem?_eq_some_iff.1 hj).1;simp only[hi,hj,hd,Bool.and_eq_true,Bool.or_eq_true,decide_eq_true_eq,Bool.not_eq_true', beq_iff_eq,List.contains_eq_mem,decide_eq_false_iff_not,Bool.and_eq_false_imp]at h;refine⟨h.1.1,h.1.2,?_⟩;rcases h.2 with(h5|h5)|h5
  ·exact .inl h5
  ·exact .inr (.inl ⟨h5.1,fun hn hf=>by have:=h5.2 hn;simp[hf]at this⟩)
  ·exact .inr (.inr h5)
 refine⟨hb,h1,h2,fun j oj d hj hd=>(key j j oj oj d hj hj hd).1,fun i j oi oj d hi hj hdi hdj=>?_,fun i j o oj d hi hj hd hm=>?_,fun p i fx hp=>?_,fun q j fj i fx o hq hp ho=>?_⟩
 ·rcases(key i j oi oj d hi hj hdj).2.1 with e|e
  ·exact e
  ·exact absurd hdi e
 ·rcases(key i j o oj d hi hj hd).2.2 with h5|h5
  ·exact absurd hm h5
  ·exact h5
 ·have h:=h4 p (List.getElem?_eq_some_iff.1 hp).1;simp only[hp,Bool.and_eq_true,decide_eq_true_eq,beq_iff_eq]at h;exact⟨h.1.2,h.1.1⟩
 ·have h:=h4 (q+1) (List.getElem?_eq_some_iff.1 hp).1;simp only[hp,hq,ho,Bool.and_eq_true]at h;exact h.2
def sl' (a:Act) (d:Nat):Value:=a.tmps.getD d undef
theorem sl_put {a:Act} {d t:Nat} {v:Value}:sl' (a.put (some d) v) t=if d=t∧d<a.tmps.size then v else sl' a t:=by
 unfold sl' Act.put;by_cases h:d=t
 ·subst h;by_cases hd:d<a.tmps.size
  ·simp[hd]
  ·simp[hd]
 ·simp[h,Array.getElem?_setIfInBounds_ne h]
theorem zH8 {a:Act} {x:Option Tmp} {t:Nat} {v:Value} (h:x≠some t):sl' (a.put x v) t=sl' a t:=by
 cases x with
 |none=>rfl
 |some d=>rw[sl_put,if_neg (fun e=>h (by rw[e.1]))]
theorem size_put {a:Act} {x:Option Tmp} {v:Value}:(a.put x v).tmps.size=a.tmps.size:=by cases x <;> simp[Act.put]
theorem defers_put' {a:Act} {x:Option Tmp} {v:Value}:(a.put x v).defers=a.defers:=by cases x <;> rfl
theorem exec_same {o:Oper} {a b:Act} (hs:∀cs b,o.op≠.select cs b) (h:∀t∈o.looksAt ops,sl' a t=sl' b t):execOp a.eval o=execOp b.eval o :=
 execOp_congr o hs fun x hx=>by
  cases x with
  |tmp t=>exact h t (List.mem_append_left _ (List.mem_filterMap.2 ⟨.tmp t,by simpa using hx,rfl⟩))
  |_=>rfl
theorem wanted_same {o:Oper} {a b:Act} (hz:a.tmps.size=b.tmps.size) (h:∀t∈o.looksAt ops,sl' a t=sl' b t):Region.wanted o (yielded ops a.tmps)=Region.wanted o (yielded ops b.tmps):=by
 unfold Region.wanted;cases hg:o.guard with
 |none=>rfl
 |some gw=>
  obtain⟨g,want⟩:=gw;have hy:yielded ops a.tmps g=yielded ops b.tmps g:=by
   unfold yielded;cases ht:(ops[g]?).bind (·.dst) with
   |none=>rfl
   |some t=>
    have:=h t (by simp[Oper.looksAt,hg,ht]);unfold sl' at this;simp only[Option.bind_some];by_cases hlt:t<a.tmps.size
    ·have hlt2:t<b.tmps.size:=hz▸hlt;simp[hlt,hlt2]at this ⊢;rw[this]
    ·have hlt2:¬t<b.tmps.size:=hz▸hlt;rw[Array.getElem?_eq_none (Nat.le_of_not_lt hlt),Array.getElem?_eq_none (Nat.le_of_not_lt hlt2)]
  simp only[hy]
def frV (ops : Array Oper) (fl : List (Nat × Bool)) (V : Nat → Value) (a : Act) : Nat → Act
 |0=>a
 | k + 1 => match ops[k]? with
  |some o=>if zC2 fl k=some false then frV ops fl V a k else(frV ops fl V a k).put o.dst (V k)
  |none=>frV ops fl V a k
theorem frV_size (V : Nat → Value) (a : Act) : ∀ k, (frV ops fl V a k).tmps.size = a.tmps.size
 |0=>rfl
 |k+1=>by unfold frV;split <;> (try split) <;> simp[size_put,frV_size V a k]
theorem frV_defers (V : Nat → Value) (a : Act) : ∀ k, (frV ops fl V a k).defers = a.defers
 |0=>rfl
 |k+1=>by unfold frV;split <;> (try split) <;> simp[defers_put', frV_defers V a k]
theorem frV_congr {V V' : Nat → Value} {a : Act} : ∀ k, (∀ j, j < k → V j = V' j) → frV ops fl V a k = frV ops fl V' a k
 |0,_=>rfl
 |k+1,h=>by unfold frV;rw[frV_congr k fun j hj=>h j (by omega),h k (by omega)]
theorem frV_at {V : Nat → Value} {a : Act} (H : FlowOk ops fl bd a.tmps.size) {j : Nat} {oj : Oper} {d : Nat} (hj : ops[j]? = some oj) (hd : oj.dst = some d) (hk : zC2 fl j ≠ some false) : ∀ k, j < k → sl' (frV ops fl V a k) d = V j
 |k+1,h=>by
  unfold frV;by_cases e:k=j
  ·subst e;simp only[hj,if_neg hk,hd];rw[sl_put,if_pos ⟨rfl,by rw[frV_size];exact H.inn _ _ _ hj hd⟩]
  ·have ih:=frV_at (V:=V) H hj hd hk k (by omega)
   split
   ·rename_i o ho
    split
    ·exact ih
    ·rw[zH8 (fun e2=>e (H.dis k j o oj d ho hj e2 hd))];exact ih
   ·exact ih
theorem frV_no {V : Nat → Value} {a : Act} {d : Nat} : ∀ k, (∀ j, j < k → ∀ oj, ops[j]? = some oj → zC2 fl j ≠ some false → oj.dst ≠ some d) → sl' (frV ops fl V a k) d = sl' a d
 |0,_=>rfl
 |k+1,h=>by
  have ih:=frV_no (V:=V) (a:=a) (d:=d) k fun j hj=>h j (by omega)
  unfold frV
  split
  ·rename_i o ho
   split
   ·exact ih
   ·rename_i hk;rw[zH8 (h k (by omega) o ho hk)];exact ih
  ·exact ih
def YieldF (P:Program) (ops:Array Oper) (C:List Value→World→Prop) (b:Option Nat) (o:Oper) (a:Act) (v:Value):Prop :=
 (Region.wanted o (yielded ops a.tmps)=true∧quietF P C b o a v)∨(Region.wanted o (yielded ops a.tmps)=false∧v=undef)
theorem wq1_vals {K : Act → Prop} {a0 : Act} : ∀ (l : List Oper) (i : Nat) (V0 : Nat → Value), (∀ j, l[j]? = ops[i + j]?) → wq1 P ops C fl bd K i l (frV ops fl V0 a0 i) →
  ∃V,(∀j,j<i→V j=V0 j)∧(∀j o,i≤j→ops[j]? = some o→zC2 fl j=none→YieldF P ops C (bdOf bd j) o (frV ops fl V a0 j) (V j))∧K (frV ops fl V a0 (i+l.length))
 | [], i, V0, hl, h => ⟨V0, fun _ _ => rfl, fun j o hj ho => by
   have:=hl (j - i);rw[show i+(j - i)=j by omega,ho]at this;simp at this,h⟩
 |o::l,i,V0,hl,h=>by
  have ho:ops[i]? = some o:=by simpa using(hl 0).symm
  have hl':∀j,l[j]? = ops[i+1+j]?:=fun j=>by have:=hl (j+1);simpa[Nat.add_assoc,Nat.add_comm 1 j]using this
  have go : ∀ v, (zC2 fl i ≠ some false) → wq1 P ops C fl bd K (i + 1) l ((frV ops fl V0 a0 i).put o.dst v) → (zC2 fl i = none → YieldF P ops C (bdOf bd i) o (frV ops fl V0 a0 i) v) →
    ∃V,(∀j,j<i→V j=V0 j)∧(∀j o,i≤j→ops[j]? = some o→zC2 fl j=none→YieldF P ops C (bdOf bd j) o (frV ops fl V a0 j) (V j))∧K (frV ops fl V a0 (i+(o::l).length)):=by
   intro v hk h hy;have e:frV ops fl (fun j=>if j=i then v else V0 j) a0 (i+1)=(frV ops fl V0 a0 i).put o.dst v:=by
    show(match ops[i]? with|some o=>if zC2 fl i=some false then frV ops fl _ a0 i else(frV ops fl _ a0 i).put o.dst (if i=i then v else V0 i)|none=>frV ops fl _ a0 i)=_;simp only[ho,if_neg hk,if_true];rw[frV_congr (V':=V0) i fun j hj=>by simp[show j≠i by omega]]
   obtain⟨V,g1,g2,g3⟩:=wq1_vals l (i+1) (fun j=>if j=i then v else V0 j) hl' (by rw[e];exact h);have gi:V i=v:=by rw[g1 i (by omega)];simp
   have gl:∀j,j<i→V j=V0 j:=fun j hj=>by rw[g1 j (by omega)];simp[show j≠i by omega]
   refine⟨V,gl,fun j o' hj ho' hkn=>?_,by rw[List.length_cons,show i+(l.length+1)=i+1+l.length by omega];exact g3⟩;by_cases e2:j=i
   ·subst e2;rw[ho]at ho';obtain rfl:=Option.some.inj ho';rw[frV_congr (V':=V0) j gl,gi];exact hy hkn
   ·exact g2 j o' (by omega) ho' hkn
  unfold wq1 at h;rcases hk:zC2 fl i with _|_|_
  ·rw[hk]at h;by_cases hw:Region.wanted o (yielded ops (frV ops fl V0 a0 i).tmps)=true
   ·rw[if_pos hw]at h;obtain⟨v,hv,h⟩:=h;exact go v (by rw[hk];simp) h fun _=>.inl ⟨hw,hv⟩
   ·rw[if_neg hw]at h;exact go undef (by rw[hk];simp) h fun _=>.inr ⟨by simpa using hw,rfl⟩
  ·rw[hk]at h;have e:frV ops fl V0 a0 (i+1)=frV ops fl V0 a0 i:=by
    show(match ops[i]? with|some o=>if zC2 fl i=some false then frV ops fl V0 a0 i else(frV ops fl V0 a0 i).put o.dst (V0 i)|none=>frV ops fl V0 a0 i)=_;simp only[ho,hk,if_true]
   obtain⟨V,g1,g2,g3⟩:=wq1_vals l (i+1) V0 hl' (by rw[e];exact h);refine⟨V,fun j hj=>g1 j (by omega),fun j o' hj ho' hkn=>?_,by rw[List.length_cons,show i+(l.length+1)=i+1+l.length by omega];exact g3⟩;by_cases e2:j=i
   ·subst e2;rw[hk]at hkn;cases hkn
   ·exact g2 j o' (by omega) ho' hkn
  ·rw[hk]at h;obtain⟨v,h⟩:=h;exact go v (by rw[hk];simp) h fun e=>by rw[hk]at e;cases e
theorem flip_wp {o : Oper} {a b : Act} {W : World} {R : Value → World → Prop} {Q : Exit → Act → World → Prop} (he : execOp a.eval o = execOp b.eval o) (hin : ∀ d, o.dst = some d → d < b.tmps.size)
  (h:o.wp P b W (fun b' W' => ∃v,b' = b.put o.dst v∧R v W') (fun _ _ _=>False)):o.wp P a W (fun a' W' => ∃v,a' = a.put o.dst v∧R v W') Q:=by
 have inj:∀u v,b.put o.dst u=b.put o.dst v→∀W', R v W' → ∃v', a.put o.dst u=a.put o.dst v' ∧ R v' W':=by
  intro u v e W' hR;cases hd:o.dst with
  |none=>exact⟨v,rfl,hR⟩
  |some d=>
   rw[hd]at e;have h1:sl' (b.put (some d) u) d=sl' (b.put (some d) v) d:=by rw[e]
   rw[sl_put,sl_put,if_pos ⟨rfl,hin d hd⟩,if_pos ⟨rfl,hin d hd⟩]at h1;exact⟨v,by rw[h1],hR⟩
 unfold Oper.wp at *;rw[he];generalize (execOp b.eval o).run P W=r at *;cases r with
 |ok n w' =>
  cases n <;> simp only[Oper.upon]at h ⊢
  case value u=>obtain⟨v,e,hR⟩:=h;exact inj u v e _ hR
  case skip=>obtain⟨v,e,hR⟩:=h;exact inj undef v e _ hR
  case defer d=>
   obtain⟨v,e,hR⟩:=h
   exfalso
   have:=congrArg Act.defers e;rw[defers_put', defers_put']at this;have:=congrArg List.length this;simp at this
  case enter f args=>
   refine h.mono fun e w'' he2=>?_
   cases e with
   |returned v=>obtain⟨v', e,hR⟩:=he2;exact inj v v' e _ hR
   |panicked ch=>exact absurd he2 id
   |outgrown=>obtain⟨_,_,hf⟩:=he2;exact absurd hf id
  case row row args=>exact h.mono fun v w'' ⟨v', e,hR⟩=>inj v v' e _ hR
 |halt x w' => cases x <;> simp only[Oper.upon]at h
def valF (fl:List (Nat×Bool)) (V:Nat→Value) (us:List Value) (j:Nat):Value:=if zC2 fl j=some false then us.getD (fl.findIdx fun x=>x.1==j) undef else V j
structure FlI (P:Program) (ops:Array Oper) (C:List Value→World→Prop) (fl:List (Nat×Bool)) (K:List Value→Act→Prop) (V:Nat→Value) (a0:Act) (listed:Array Bool) (a:Act) (W:World) (us:List Value) (b:Act):Prop where
 cw:C us W
 cnt:∀(p i:Nat) fx,fl[p]? = some (i,fx)→(listed.getD i false=true↔p<us.length)
 le:us.length≤fl.length
 da:a.defers=a0.defers
 za:a.tmps.size=a0.tmps.size
 on:∀(j:Nat) o d,ops[j]? = some o→o.dst=some d→listed.getD j false=true→sl' a d=valF fl V us j
 off:∀d,(∀(j:Nat) o,ops[j]? = some o→listed.getD j false=true→o.dst≠some d)→sl' a d=sl' a0 d
 w2:wq2 P ops C K (fl.drop us.length) us b
 db:b.defers=a0.defers
 zb:b.tmps.size=a0.tmps.size
 bon:∀(j:Nat) o d,ops[j]? = some o→o.dst=some d→(zC2 fl j≠some false∨listed.getD j false=true)→sl' b d=valF fl V us j
 boff:∀d,(∀(j:Nat) o,ops[j]? = some o→o.dst≠some d)→sl' b d=sl' a0 d
theorem zF5 {l:Array Bool} {i:Nat} (h:i<l.size):(l.setIfInBounds i true).getD i false=true:=by simp[h]
theorem findIdx_fl {p i:Nat} {fx:Bool} (H:∀(p i:Nat) fx,fl[p]? = some (i,fx)→zC2 fl i=some fx∧i<ops.size) (hu:∀(p q:Nat) i fx fy,fl[p]? = some (i,fx)→fl[q]? = some (i,fy)→p=q) (hp:fl[p]? = some (i,fx)):(fl.findIdx fun x=>x.1==i)=p:=by
 have hlt:=(List.getElem?_eq_some_iff.1 hp).1;have he:=(List.getElem?_eq_some_iff.1 hp).2;have hx:∃x∈fl,(fun x:Nat×Bool=>x.1==i) x=true:=⟨fl[p],List.getElem_mem hlt,by simp[he]⟩
 have hi:=List.findIdx_lt_length_of_exists hx;have hg:=List.findIdx_getElem (xs:=fl) (p:=fun x=>x.1==i) (w:=hi);obtain⟨⟨j,fy⟩,hj⟩:∃y,fl[fl.findIdx fun x=>x.1==i]? = some y:=⟨_,List.getElem?_eq_getElem hi⟩
 have e:j=i:=by
  rw[List.getElem?_eq_getElem hi]at hj;have e2:=Option.some.inj hj;rw[e2]at hg;simpa using hg
 subst e;exact hu _ _ _ _ _ hj hp
theorem FlowOk.mono {n : Nat} (H : FlowOk ops fl bd n) : ∀ (p k i j : Nat) fx fy, fl[p]? = some (i, fx) → fl[p + k + 1]? = some (j, fy) → i < j
 |p,0,i,j,fx,fy,hp,hq=>by
  have hj:=(H.fk _ _ _ hq).2;obtain⟨e,he,hb,hon⟩:=zI2 (H.ch p i fx j fy ops[j] hp hq (Array.getElem?_eq_getElem hj));have:=zK9 H.back (Array.getElem?_eq_getElem hj) e he hb;omega
 |p,k+1,i,j,fx,fy,hp,hq=>by
  have hlt:=(List.getElem?_eq_some_iff.1 hq).1;obtain⟨⟨m,fm⟩,hm⟩:∃y,fl[p+k+1]? = some y:=⟨_,List.getElem?_eq_getElem (by omega)⟩
  have h1:=H.mono p k i m fx fm hp hm;have hj:=(H.fk _ _ _ hq).2;obtain⟨e,he,hb,hon⟩:=zI2 (H.ch (p+k+1) m fm j fy ops[j] hm hq (Array.getElem?_eq_getElem hj));have:=zK9 H.back (Array.getElem?_eq_getElem hj) e he hb;omega
theorem FlowOk.uniq {n:Nat} (H:FlowOk ops fl bd n) (p q i:Nat) (fx fy:Bool) (hp:fl[p]? = some (i,fx)) (hq:fl[q]? = some (i,fy)):p=q:=by
 rcases Nat.lt_trichotomy p q with h|h|h
 ·have:=H.mono p (q - p - 1) i i fx fy hp (by rw[show p+(q - p - 1)+1=q by omega];exact hq);omega
 ·exact h
 ·have:=H.mono q (p - q - 1) i i fy fx hq (by rw[show q+(p - q - 1)+1=p by omega];exact hp);omega
theorem kind_some {i:Nat} {fx:Bool} (h:zC2 fl i=some fx):∃p:Nat,fl[p]? = some (i,fx):=by
 unfold zC2 at h;rw[Option.map_eq_some_iff]at h;obtain⟨⟨j,fy⟩,h1,h2⟩:=h;have h3:=List.find?_some h1;have h4:=List.mem_of_find?_eq_some h1;obtain⟨p,hp⟩:=List.mem_iff_getElem?.1 h4;simp only[beq_iff_eq]at h3 h2;subst h3 h2;exact⟨p,hp⟩
theorem FlI.quiet {K : List Value → Act → Prop} {V : Nat → Value} {a0 : Act} {listed : Array Bool} {a b : Act} {W W' : World} {us : List Value} (H : FlowOk ops fl bd a0.tmps.size) (h : FlI P ops C fl K V a0 listed a W us b) {i : Nat} {o : Oper} (ho : ops[i]? = some o) (hi : i < listed.size) (hk : zC2 fl i = none) (hW : C us W') :
  FlI P ops C fl K V a0 (listed.setIfInBounds i true) (a.put o.dst (V i)) W' us b:=by
 have hset:∀j,j≠i→(listed.setIfInBounds i true).getD j false=listed.getD j false:=fun j hj=>sgy (Ne.symm hj)
 refine⟨hW,fun p j fx hp=>?_,h.le,by rw[defers_put'];exact h.da,by rw[size_put];exact h.za,fun j oj d hj hd hl=>?_,fun d hd=>?_,h.w2,h.db,h.zb,fun j oj d hj hd hl=>?_,h.boff⟩
 ·have hne:j≠i:=fun e=>by have:=(H.fk _ _ _ hp).1;rw[e,hk]at this;cases this
  rw[hset j hne];exact h.cnt p j fx hp
 ·by_cases e:j=i
  ·subst e;rw[ho]at hj;obtain rfl:=Option.some.inj hj;rw[hd,sl_put,if_pos ⟨rfl,by rw[h.za];exact H.inn _ _ _ ho hd⟩];unfold valF;rw[hk];simp
  ·rw[hset j e]at hl;rw[zH8 (fun e2=>e (H.dis j i oj o d hj ho hd e2))];exact h.on j oj d hj hd hl
 ·have hdi:o.dst≠some d:=hd i o ho (zF5 hi);rw[zH8 hdi];refine h.off d fun j oj hj hl=>hd j oj hj ?_
  by_cases e:j=i
  ·subst e;exact zF5 hi
  ·rw[hset j e];exact hl
 ·refine h.bon j oj d hj hd ?_;by_cases e:j=i
  ·subst e;exact .inl (by rw[hk];simp)
  ·rw[hset j e]at hl;exact hl
theorem FlI.flip {K : List Value → Act → Prop} {V : Nat → Value} {a0 : Act} {listed : Array Bool} {a b : Act} {W W' : World} {us : List Value} (H : FlowOk ops fl bd a0.tmps.size) (h : FlI P ops C fl K V a0 listed a W us b) {i : Nat} {fx : Bool} {o : Oper} (ho : ops[i]? = some o) (hi : i < listed.size) (hp : fl[us.length]? = some (i, fx)) {v : Value} (hW : C (us ++ [v]) W') (hfx : fx = true → b.put o.dst v = b)
  (hw:wq2 P ops C K (fl.drop (us.length+1)) (us++[v]) (if fx then b else b.put o.dst v)) :
  FlI P ops C fl K V a0 (listed.setIfInBounds i true) (a.put o.dst v) W' (us++[v]) (if fx then b else b.put o.dst v):=by
 have hset:∀j,j≠i→(listed.setIfInBounds i true).getD j false=listed.getD j false:=fun j hj=>sgy (Ne.symm hj)
 have hk:=(H.fk _ _ _ hp).1;have fi:∀(p j:Nat) (fy:Bool),fl[p]? = some (j,fy)→(fl.findIdx fun x=>x.1==j)=p:=fun p j fy hq=>findIdx_fl (ops:=ops) H.fk (fun p q i fx fy=>H.uniq p q i fx fy) hq
 have vk:∀(j:Nat),j≠i→(zC2 fl j≠some false∨listed.getD j false=true)→valF fl V (us++[v]) j=valF fl V us j:=fun j hj hl=>by
  unfold valF
  split
  ·rename_i hkj;obtain⟨q,hq⟩:=kind_some hkj;have hlj:listed.getD j false=true:=hl.resolve_left fun hn=>hn hkj
   have hql:=(h.cnt q j false hq).1 hlj;rw[fi q j false hq];simp[List.getD,List.getElem?_append_left hql]
  ·rfl
 have vi:∀d,o.dst=some d→valF fl V (us++[v]) i=v:=fun d hd=>by
  unfold valF;cases fx with
  |false=>rw[if_pos hk,fi _ _ _ hp];simp[List.getD]
  |true=>
   rw[if_neg (by rw[hk];simp)];have e:=hfx rfl;have h1:=h.bon i o d ho hd (.inl (by rw[hk];simp));rw[←e,hd,sl_put,if_pos ⟨rfl,by rw[h.zb];exact H.inn _ _ _ ho hd⟩]at h1;unfold valF at h1;rw[if_neg (by rw[hk];simp)]at h1;exact h1.symm
 have bsl:∀d,o.dst≠some d→sl' (if fx then b else b.put o.dst v) d=sl' b d:=fun d hd=>by
  cases fx
  ·exact zH8 hd
  ·rfl
 refine⟨hW,fun p j fy hq=>?_,?_,by rw[defers_put'];exact h.da,by rw[size_put];exact h.za,fun j oj d hj hd hl=>?_,fun d hd=>?_,by rw[List.length_append];exact hw,?_,?_,fun j oj d hj hd hl=>?_,fun d hd=>?_⟩
 ·rw[List.length_append,List.length_singleton];by_cases e:j=i
  ·subst e;have:=H.uniq _ _ _ _ _ hq hp
   constructor
   ·intro;omega
   ·intro;exact zF5 hi
  ·rw[hset j e];have h1:=h.cnt p j fy hq
   constructor
   ·intro hl;have:=h1.1 hl;omega
   ·intro hl;refine h1.2 ?_;rcases Nat.lt_or_ge p us.length with h2|h2
    ·exact h2
    ·have:p=us.length:=by omega
     subst this;rw[hp]at hq;simp only[Option.some.injEq,Prod.mk.injEq]at hq;exact absurd hq.1.symm e
 ·rw[List.length_append,List.length_singleton];exact(List.getElem?_eq_some_iff.1 hp).1
 ·by_cases e:j=i
  ·subst e;rw[ho]at hj;obtain rfl:=Option.some.inj hj;rw[vi d hd,hd,sl_put,if_pos ⟨rfl,by rw[h.za];exact H.inn _ _ _ ho hd⟩]
  ·rw[hset j e]at hl;rw[vk j e (.inr hl),zH8 (fun e2=>e (H.dis j i oj o d hj ho hd e2))];exact h.on j oj d hj hd hl
 ·have hdi:o.dst≠some d:=hd i o ho (zF5 hi);rw[zH8 hdi];refine h.off d fun j oj hj hl=>hd j oj hj ?_
  by_cases e:j=i
  ·subst e;exact zF5 hi
  ·rw[hset j e];exact hl
 ·cases fx
  ·exact defers_put'.trans h.db
  ·exact h.db
 ·cases fx
  ·exact size_put.trans h.zb
  ·exact h.zb
 ·by_cases e:j=i
  ·subst e;rw[ho]at hj;obtain rfl:=Option.some.inj hj;rw[vi d hd];cases fx with
   |false=>rw[if_neg (by simp),hd,sl_put,if_pos ⟨rfl,by rw[h.zb];exact H.inn _ _ _ ho hd⟩]
   |true=>
    rw[if_pos rfl,←hfx rfl,hd,sl_put,if_pos ⟨rfl,by rw[h.zb];exact H.inn _ _ _ ho hd⟩]
  ·have hl2:zC2 fl j≠some false∨listed.getD j false=true:=hl.imp id fun hl=>by rwa [hset j e]at hl
   rw[vk j e hl2,bsl d (fun e2=>e (H.dis j i oj o d hj ho hd e2))];exact h.bon j oj d hj hd hl2
 ·rw[bsl d (hd i o ho)];exact h.boff d hd
theorem zC3 {id : Nat} {Q : Exit → Act → World → Prop} {a : Act} {w : World} {l : List Oper} (C : List Value → World → Prop) (fl : List (Nat × Bool)) (bd : List (Nat × Nat)) (hm : P.follows .mixedOrders = true) (hB : flowB l.toArray fl bd a.tmps.size = true) (hC : C [] w.drew)
  (h:wq1 P l.toArray C fl bd (fun a' => wq2 P l.toArray C (fun us b=>∀W,C us W→Q .normal b W) fl [] a') 0 l a):(Code.region id l.toArray true).wp P Q a w:=by
 have H:=flowOk_of hB;obtain⟨V,_,hV,hK⟩:=wq1_vals (ops:=l.toArray) (a0:=a) l 0 (fun _=>undef) (by simp) h;rw[Nat.zero_add]at hK;refine zJ7 (fun listed a' W=>∃us b,FlI P l.toArray C fl (fun us b=>∀W,C us W→Q .normal b W) V a listed a' W us b) hm H.back ?_ ?_ ?_
 ·refine⟨[],_,hC,fun p i fx _=>?_,Nat.zero_le _,rfl,rfl,fun j o d _ _ hl=>?_,fun _ _=>rfl,hK,frV_defers _ _ _,frV_size _ _ _,fun j o d hj hd hl=>?_,fun d hd=>?_⟩
  ·rw[getD_replicate_false];simp
  ·rw[getD_replicate_false]at hl;cases hl
  ·rw[getD_replicate_false]at hl;have hk:zC2 fl j≠some false:=hl.resolve_right (by simp);rw[frV_at H hj hd hk _ (by simpa using(Array.getElem?_eq_some_iff.1 hj).1)];unfold valF;rw[if_neg hk]
  ·exact frV_no _ fun j _ oj hj _=>hd j oj hj
 ·rintro listed a' W i o ⟨us,b,I⟩ hsz ho hl he hcl;have hi:i<listed.size:=by rw[hsz];exact(Array.getElem?_eq_some_iff.1 ho).1
  have hl':listed.getD i false=false:=by
   rw[Array.getD_eq_getD_getElem?,Array.getElem?_eq_getElem hi]at hl ⊢;simpa using hl
  have hsel:∀cs b,o.op≠.select cs b:=fun cs b=>Region.noSelect_spec H.sel i o cs b ho
  cases hk:zC2 fl i with
  |none=>
   have same:∀t∈o.looksAt l.toArray,sl' a' t=sl' (frV l.toArray fl V a i) t:=fun t ht=>by
    by_cases ex:∃(j:Nat) (oj:Oper),l.toArray[j]? = some oj∧oj.dst=some t
    ·obtain⟨j,oj,hj,hd⟩:=ex;rcases H.rd i j o oj t ho hj hd ht with⟨e1,hkj⟩|⟨e2,_⟩
     ·obtain⟨e,hem,hbd,rfl⟩:=zI2 e1;have hb:=zK9 H.back ho e hem hbd;rw[I.on e.on oj t hj hd (he e hem hbd),frV_at H hj hd (hkj hk) i hb];unfold valF;rw[if_neg (hkj hk)]
     ·obtain⟨e,hem,hbd,hon⟩:=zI2 e2;have hb:=zK9 H.back hj e hem hbd;rw[I.off t fun k ok hk2 hlk hdk=>?_,frV_no i fun k hki ok hk2 _ hdk=>?_]
      ·have:=H.dis k j ok oj t hk2 hj hdk hd;omega
      ·have e5:=H.dis k j ok oj t hk2 hj hdk hd;subst e5;have:=hcl k oj hj hlk e hem hbd;rw[hon,hl']at this;cases this
    ·rw[I.off t fun k ok hk2 _ hdk=>ex ⟨k,ok,hk2,hdk⟩,frV_no i fun k _ ok hk2 _ hdk=>ex ⟨k,ok,hk2,hdk⟩]
   have hwd:=wanted_same (ops:=l.toArray) (o:=o) (a:=a') (b:=frV l.toArray fl V a i) (by rw[I.za,frV_size]) same;unfold wpOp;simp only[ho];rcases hV i o (Nat.zero_le _) ho hk with⟨hw,hq⟩|⟨hw,hv⟩
   ·rw[if_pos (by rw[hwd];exact hw)];refine .inl (Oper.wp_of_quiet (C:=C us) (K:=fun a'' => a'' = a'.put o.dst (V i)) I.cw (fun a'' W' hW' e=>by subst e;exact⟨us,b,I.quiet H ho hi hk hW'⟩) ⟨V i,fun w hw=>?_,rfl⟩);have hlim:lims C (bdOf bd i) us w:=by
     cases hbd:bdOf bd i with
     |none=>exact hw
     |some b=>
      refine⟨hw,?_⟩;obtain⟨j,fx,oj,hfl,hj,hed⟩:=H.bd i b hbd;obtain⟨e,hem,hbnd,hon⟩:=zI2 hed;rcases Nat.lt_or_ge b us.length with h9|h9
      ·exfalso
       have h8:=hcl j oj hj ((I.cnt b j fx hfl).2 h9) e hem hbnd;rw[hon,hl']at h8;cases h8
      ·exact h9
    have:=hq ⟨(us,w),hlim⟩;unfold Oper.quietAt at this ⊢;rw[exec_same hsel same];exact this
   ·rw[if_neg (by rw[hwd,hw];simp),←hv];exact⟨us,b,I.quiet H ho hi hk I.cw⟩
  |some fx=>
   obtain⟨p,hp⟩:=kind_some hk;have h1:¬p<us.length:=fun hc=>by have:=(I.cnt p i fx hp).2 hc;rw[hl']at this;cases this
   have h2:p=us.length:=by
    rcases p with _|p
    ·omega
    ·obtain⟨⟨j,fj⟩,hj⟩:∃y,fl[p]? = some y:=⟨_,List.getElem?_eq_getElem (by have:=(List.getElem?_eq_some_iff.1 hp).1;omega)⟩
     obtain⟨e,hem,hbd,hon⟩:=zI2 (H.ch p j fj i fx o hj hp ho);have hlj:=he e hem hbd;rw[hon]at hlj;have:=(I.cnt p j fj hj).1 hlj;omega
   subst h2;have hlen:=(List.getElem?_eq_some_iff.1 hp).1;have hw2:=I.w2;rw[List.drop_eq_getElem_cons hlen,(List.getElem?_eq_some_iff.1 hp).2]at hw2;obtain⟨o', ho', hw,hflip,hrest⟩:=hw2;rw[ho]at ho';obtain rfl:=Option.some.inj ho';have same:∀t∈o.looksAt l.toArray,sl' a' t=sl' b t:=fun t ht=>by
    by_cases ex:∃(j:Nat) (oj:Oper),l.toArray[j]? = some oj∧oj.dst=some t
    ·obtain⟨j,oj,hj,hd⟩:=ex;rcases H.rd i j o oj t ho hj hd ht with⟨e1,_⟩|⟨_,hkn⟩
     ·obtain⟨e,hem,hbd,rfl⟩:=zI2 e1;have hlj:=he e hem hbd;rw[I.on e.on oj t hj hd hlj,I.bon e.on oj t hj hd (.inr hlj)]
     ·rw[hk]at hkn;cases hkn
    ·rw[I.off t fun k ok hk2 _ hdk=>ex ⟨k,ok,hk2,hdk⟩,I.boff t fun k ok hk2 hdk=>ex ⟨k,ok,hk2,hdk⟩]
   have hwd:=wanted_same (ops:=l.toArray) (o:=o) (a:=a') (b:=b) (by rw[I.za,I.zb]) same;unfold wpOp;simp only[ho];rw[if_pos (by rw[hwd];exact hw)];refine .inl (Oper.wp_mono ?_ (flip_wp (R:=fun v W' => C (us++[v]) W' ∧ (fx=true→b.put o.dst v=b)) (exec_same hsel same) (fun d hd=>by rw[I.zb];exact H.inn _ _ _ ho hd) (hflip W I.cw _ fun v a' W' hC' e hfx=>⟨v,e,hC', fun h=>e▸hfx h⟩)));rintro a'' W' ⟨v,rfl,hC', hfx⟩;exact⟨us++[v],_,I.flip H ho hi hp hC' hfx (hrest v)⟩
 ·rintro listed a' W ⟨us,b,I⟩ hd;have hlen:us.length=fl.length:=by
   refine Nat.le_antisymm I.le ?_;rcases Nat.lt_or_ge us.length fl.length with h1|h1
   ·exfalso
    obtain⟨⟨j,fj⟩,hj⟩:∃y,fl[us.length]? = some y:=⟨_,List.getElem?_eq_getElem h1⟩
    have:=(I.cnt _ _ _ hj).1 (hd j (H.fk _ _ _ hj).2);omega
   ·exact h1
  have hw2:=I.w2;rw[List.drop_eq_nil_of_le (by omega)]at hw2;have e:a' = b:=by
   have e1:a'.tmps=b.tmps:=by
    apply Array.ext
    ·rw[I.za,I.zb]
    ·intro t h1 h2;have:sl' a' t=sl' b t:=by
      by_cases ex:∃(j:Nat) (oj:Oper),l.toArray[j]? = some oj∧oj.dst=some t
      ·obtain⟨j,oj,hj,hdj⟩:=ex;have hlj:=hd j (Array.getElem?_eq_some_iff.1 hj).1;rw[I.on j oj t hj hdj hlj,I.bon j oj t hj hdj (.inr hlj)]
      ·rw[I.off t fun k ok hk2 _ hdk=>ex ⟨k,ok,hk2,hdk⟩,I.boff t fun k ok hk2 hdk=>ex ⟨k,ok,hk2,hdk⟩]
     unfold sl' at this;simpa[h1,h2]using this
   have e2:a'.defers=b.defers:=by rw[I.da,I.db]
   cases a';cases b;simp only at e1 e2;subst e1 e2;rfl
  rw[e];exact hw2 W I.cw
end
end Go.Proofs.YtgkdoehkmbhfiaaGreat
