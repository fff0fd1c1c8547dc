/- l20Bus: its drawn region 17 (printed by wip/gen_lb.py). -/
import Derived.Test.YtenjbhbcacocjaaGreatGDq1
import Derived.Test.YtenjbhbcacocjaaGreatGDr3
set_option linter.unusedVariables false
set_option linter.unusedSimpArgs false
namespace Go.Proofs.YtenjbhbcacocjaaGreat
open Go.RowKit
attribute [local go_sem ↓] Go.wp_at_zero Go.wp_at_succ
def lb5A (i1 i2 i3 i4 i6 i7 i8 i9 i10 i11 i12 i13 i14 i15 i16 i17 i25 i26 i27 i28 i29 i30 i31 i32 i33 i34 i35 i36 i37 i38 i39 i40 i41 i42 i43 i44 i45 i46 i47 i48 i49 i50 i51 i52 i53 i54 i55 i56 i57 i58 i59 i60 i61 i62 i63 i64 i65 i66 i67 i68 i69 i70 i71 i72 i73 i74 i75:Value) (g:Nat) (r:Nat) (u18 u19 u20 u21 u22 u23 u24:Value):Act:={ tmps:=#[.pointer (some ⟨r,0,none⟩),i1,i2,i3,i4,.pointer (some ⟨g,0,none⟩),i6,i7,i8,i9,i10,i11,i12,i13,i14,i15,i16,i17,u18,u19,u20,u21,u22,u23,u24,i25,i26,i27,i28,i29,i30,i31,i32,i33,i34,i35,i36,i37,i38,i39,i40,i41,i42,i43,i44,i45,i46,i47,i48,i49,i50,i51,i52,i53,i54,i55,i56,i57,i58,i59,i60,i61,i62,i63,i64,i65,i66,i67,i68,i69,i70,i71,i72,i73,i74,i75],defers:=[] }
def lb5I (i1 i2 i3 i4 i6 i7 i8 i9 i10 i11 i12 i13 i14 i15 i16 i17 i25 i26 i27 i28 i29 i30 i31 i32 i33 i34 i35 i36 i37 i38 i39 i40 i41 i42 i43 i44 i45 i46 i47 i48 i49 i50 i51 i52 i53 i54 i55 i56 i57 i58 i59 i60 i61 i62 i63 i64 i65 i66 i67 i68 i69 i70 i71 i72 i73 i74 i75:Value) (g:Nat) (r:Nat) (w0:World) (lo:Nat) (mid:Nat) (B:Nat) (bs:List Nat) (av:Value) (bv:Value) (pv:Value) (ms:List MR) (lat:List Int) (q:Nat) (wq:World) (listed:Array Bool) (a:Act) (w':World):Prop :=
 ∃ u18 u19 u20 u21 u22 u23 u24:Value,a = lb5A i1 i2 i3 i4 i6 i7 i8 i9 i10 i11 i12 i13 i14 i15 i16 i17 i25 i26 i27 i28 i29 i30 i31 i32 i33 i34 i35 i36 i37 i38 i39 i40 i41 i42 i43 i44 i45 i46 i47 i48 i49 i50 i51 i52 i53 i54 i55 i56 i57 i58 i59 i60 i61 i62 i63 i64 i65 i66 i67 i68 i69 i70 i71 i72 i73 i74 i75 g r u18 u19 u20 u21 u22 u23 u24 ∧
   (listed.getD 0 false = true → u18 = .pointer (some ⟨g,1,none⟩)) ∧
   (listed.getD 1 false = true → u19 = bv) ∧
   (listed.getD 2 false = true → u20 = .pointer (some ⟨r,0,none⟩)) ∧
   (listed.getD 3 false = true → listed.getD 5 false = false → ∃ x:Int,u21 = .int .i64 x ∧ 0 ≤ x ∧ x < 4 ∧ LbS w0 lo mid g r B bs av bv bv pv pv [] [] ms lat (q + 1) w') ∧
   (listed.getD 4 false = true → listed.getD 5 false = false → ∃ x:Int,u21 = .int .i64 x ∧ ∃ g2,u22 = .slice (some ⟨g2,0,none⟩) 1 1 ∧ w'.cell? ⟨g2,0,none⟩ = some (.int .i64 x)) ∧
   (listed.getD 5 false = true → listed.getD 7 false = false → ∃ (x:Int) (m':Nat),0 ≤ x ∧ x < 4 ∧ LbS w0 lo m' g r B bs av bv u23 pv pv [] [] ms (lat ++ [x]) (q + 1) w') ∧
   (listed.getD 6 false = true → u24 = .pointer (some ⟨g,1,none⟩)) ∧
   (listed.getD 7 false = true → ∃ (x:Int) (m':Nat),0 ≤ x ∧ x < 4 ∧ LbS w0 lo m' g r B bs av u23 u23 pv pv [] [] ms (lat ++ [x]) (q + 1) w') ∧
   (listed.getD 3 false = false → LbS w0 lo mid g r B bs av bv bv pv pv [] [] ms lat q w') ∧
   (listed.getD 7 false = false → BoxB w' g av bv pv) ∧
   True
noncomputable def lb5Code:Code:=(Tryz.f43.body.bind (regIn2 5)).getD .skip
def LaP (w0:World) (lo g r B:Nat) (bs:List Nat) (av pv:Value) (ms:List MR) (lat:List Int) (q:Nat) (w':World):Prop:=∃ (x:Int) (m':Nat) (u:Value),0 ≤ x ∧ x < 4 ∧ LbS w0 lo m' g r B bs av u u pv pv [] [] ms (lat ++ [x]) (q + 1) w'
set_option maxRecDepth 100000 in
set_option maxHeartbeats 16000000 in
theorem lb5_region (i1 i2 i3 i4 i6 i7 i8 i9 i10 i11 i12 i13 i14 i15 i16 i17 i25 i26 i27 i28 i29 i30 i31 i32 i33 i34 i35 i36 i37 i38 i39 i40 i41 i42 i43 i44 i45 i46 i47 i48 i49 i50 i51 i52 i53 i54 i55 i56 i57 i58 i59 i60 i61 i62 i63 i64 i65 i66 i67 i68 i69 i70 i71 i72 i73 i74 i75 j18 j19 j20 j21 j22 j23 j24:Value) (g:Nat) (r:Nat) (w0:World) (lo:Nat) (mid:Nat) (B:Nat) (bs:List Nat) (av:Value) (bv:Value) (pv:Value) (ms:List MR) (lat:List Int) (q:Nat) (wq:World)
  (hS:LbS w0 lo mid g r B bs av bv bv pv pv [] [] ms lat q wq) (hq:q ≤ 1000000) (hl4:lat.length ≤ 100)
  {Q:Exit → Act → World → Prop}
  (hK:∀ (u18 u19 u20 u21 u22 u23 u24:Value) w', LaP w0 lo g r B bs av pv ms lat q w' → Q .normal (lb5A i1 i2 i3 i4 i6 i7 i8 i9 i10 i11 i12 i13 i14 i15 i16 i17 i25 i26 i27 i28 i29 i30 i31 i32 i33 i34 i35 i36 i37 i38 i39 i40 i41 i42 i43 i44 i45 i46 i47 i48 i49 i50 i51 i52 i53 i54 i55 i56 i57 i58 i59 i60 i61 i62 i63 i64 i65 i66 i67 i68 i69 i70 i71 i72 i73 i74 i75 g r u18 u19 u20 u21 u22 u23 u24) w'):lb5Code.wp Tryz.prog Q (lb5A i1 i2 i3 i4 i6 i7 i8 i9 i10 i11 i12 i13 i14 i15 i16 i17 i25 i26 i27 i28 i29 i30 i31 i32 i33 i34 i35 i36 i37 i38 i39 i40 i41 i42 i43 i44 i45 i46 i47 i48 i49 i50 i51 i52 i53 i54 i55 i56 i57 i58 i59 i60 i61 i62 i63 i64 i65 i66 i67 i68 i69 i70 i71 i72 i73 i74 i75 g r j18 j19 j20 j21 j22 j23 j24) wq:=by
 conv => arg 2;whnf
 refine wp_region_inv2 (lb5I i1 i2 i3 i4 i6 i7 i8 i9 i10 i11 i12 i13 i14 i15 i16 i17 i25 i26 i27 i28 i29 i30 i31 i32 i33 i34 i35 i36 i37 i38 i39 i40 i41 i42 i43 i44 i45 i46 i47 i48 i49 i50 i51 i52 i53 i54 i55 i56 i57 i58 i59 i60 i61 i62 i63 i64 i65 i66 i67 i68 i69 i70 i71 i72 i73 i74 i75 g r w0 lo mid B bs av bv pv ms lat q wq) (by kernel_rfl) (by kernel_rfl) ?_ ?_ ?_
 ·exact ⟨_,_,_,_,_,_,_,rfl,(fun h => absurd h (by rw [getD_replicate_false];simp)),(fun h => absurd h (by rw [getD_replicate_false];simp)),(fun h => absurd h (by rw [getD_replicate_false];simp)),(fun h _ => absurd h (by rw [getD_replicate_false];simp)),(fun h _ => absurd h (by rw [getD_replicate_false];simp)),(fun h _ => absurd h (by rw [getD_replicate_false];simp)),(fun h => absurd h (by rw [getD_replicate_false];simp)),(fun h => absurd h (by rw [getD_replicate_false];simp)),(fun _ => hS.touch (Touch.refl _ _).drewd hS.rd.drewd),(fun _ => hS.box),trivial⟩
 ·intro listed a w' i o hI hsz ho hl he hcl
  have hi:i < 8:=(Array.getElem?_eq_some_iff.1 ho).1
  have e:i = 0 ∨ i = 1 ∨ i = 2 ∨ i = 3 ∨ i = 4 ∨ i = 5 ∨ i = 6 ∨ i = 7:=by omega
  clear hi
  rcases e with rfl | rfl | rfl | rfl | rfl | rfl | rfl | rfl
  all_goals (have ho2:=ho;obtain rfl:=Option.some.inj ho2.symm;clear ho2)
  ·as_aux_lemma =>
    obtain ⟨u18,u19,u20,u21,u22,u23,u24,rfl,F0,F1,F2,F3,F4,F5,F6,F7,N3,N7,hx⟩:=hI
    refine wpOp_stepx ho rfl (fun K hK => ?_)
    unfold lb5A
    go_simp
    exact hK _ _ ⟨_,_,_,_,_,_,_,rfl,fun _ => rfl,cy F1 rfl,cy F2 rfl,cyu F3 rfl rfl,cyu F4 rfl rfl,cyu F5 rfl rfl,cy F6 rfl,cy F7 rfl,cy N3 rfl,cy N7 rfl,hx⟩
  ·as_aux_lemma =>
    obtain ⟨u18,u19,u20,u21,u22,u23,u24,rfl,F0,F1,F2,F3,F4,F5,F6,F7,N3,N7,hx⟩:=hI
    have l0:=he ⟨0,.data⟩ (by simp) rfl
    have e:=F0 l0;subst e
    obtain ⟨⟨c0,c1,c2⟩,_⟩:=(N7 (Bool.eq_false_iff.2 fun hk => absurd (hcl 7 _ rfl hk ⟨1,.phase⟩ (by simp) rfl) (by rw [getD_both hl];simp))).bx.three
    refine wpOp_stepx ho rfl (fun K hK => ?_)
    unfold lb5A
    go_simp
    exact hK _ _ ⟨_,_,_,_,_,_,_,rfl,cy F0 rfl,fun _ => rfl,cy F2 rfl,cyu F3 rfl rfl,cyu F4 rfl rfl,cyu F5 rfl rfl,cy F6 rfl,cy F7 rfl,cy N3 rfl,cy N7 rfl,hx⟩
  ·as_aux_lemma =>
    obtain ⟨u18,u19,u20,u21,u22,u23,u24,rfl,F0,F1,F2,F3,F4,F5,F6,F7,N3,N7,hx⟩:=hI
    refine wpOp_stepx ho rfl (fun K hK => ?_)
    unfold lb5A
    go_simp
    exact hK _ _ ⟨_,_,_,_,_,_,_,rfl,cy F0 rfl,cy F1 rfl,fun _ => rfl,cyu F3 rfl rfl,cyu F4 rfl rfl,cyu F5 rfl rfl,cy F6 rfl,cy F7 rfl,cy N3 rfl,cy N7 rfl,hx⟩
  ·as_aux_lemma =>
    obtain ⟨u18,u19,u20,u21,u22,u23,u24,rfl,F0,F1,F2,F3,F4,F5,F6,F7,N3,N7,hx⟩:=hI
    have l2:=he ⟨2,.data⟩ (by simp) rfl
    have e:=F2 l2;subst e
    have n3:=N3 (getD_both hl)
    refine wpOp_stepx ho rfl (fun K hK => ?_)
    unfold lb5A
    go_simp
    (with_reducible refine (pick_p r B bs q 4 w' n3.rd (by omega) (by omega) (by omega)).mono ?_)
    rintro e w'' ⟨x,rfl,x0,x4,hrd,ht⟩
    go_wp2_with fail
    exact ⟨_,_,_,_,_,_,_,rfl,cy F0 rfl,cy F1 rfl,fun _ => rfl,fun _ _ => ⟨x,rfl,x0,x4,n3.touch ht hrd⟩,fun hj hu => absurd (hcl 4 _ rfl (by rwa [sgx (by decide)] at hj) ⟨3,.data⟩ (by simp) rfl) (by rw [getD_both hl];simp),fun hj hu => absurd (hcl 5 _ rfl (by rwa [sgx (by decide)] at hj) ⟨3,.chain⟩ (by simp) rfl) (by rw [getD_both hl];simp),cy F6 rfl,fun hj => absurd (hcl 7 _ rfl (by rwa [sgx (by decide)] at hj) ⟨3,.phase⟩ (by simp) rfl) (by rw [getD_both hl];simp),fun hj => absurd hj (by rw [sgix hl];simp),fun hj => (cy N7 rfl hj).keep (ht.block g (cy N7 rfl hj).lt (by have:=n3.r0;have:=n3.l0;have:=n3.lg;omega)),trivial⟩
  ·as_aux_lemma =>
    obtain ⟨u18,u19,u20,u21,u22,u23,u24,rfl,F0,F1,F2,F3,F4,F5,F6,F7,N3,N7,hx⟩:=hI
    have l3:=he ⟨3,.data⟩ (by simp) rfl
    obtain ⟨x,e,x0,x4,hS⟩:=F3 l3 (Bool.eq_false_iff.2 fun hk => absurd (hcl 5 _ rfl hk ⟨4,.data⟩ (by simp) rfl) (by rw [getD_both hl];simp))
    subst e
    refine wpOp_stepx ho rfl (fun K hK => ?_)
    unfold lb5A
    have hb1:Below w'.heap.size w' (w'.alloc (.cells #[.int .i64 x] 3)):=(Below.refl _ _).alloc (Nat.le_refl _) _
    go_simp
    exact hK _ _ ⟨_,_,_,_,_,_,_,rfl,cy F0 rfl,cy F1 rfl,cy F2 rfl,fun hj hu => ⟨x,rfl,x0,x4,hS.below hb1⟩,fun _ _ => ⟨x,rfl,_,rfl,by rw [World.cell?_alloc_at _ _ _ _ rfl];rfl⟩,fun hj hu => absurd (hcl 5 _ rfl (by rwa [sgx (by decide)] at hj) ⟨4,.data⟩ (by simp) rfl) (by rw [getD_both hl];simp),cy F6 rfl,fun hj => absurd (hcl 7 _ rfl (by rwa [sgx (by decide)] at hj) ⟨4,.phase⟩ (by simp) rfl) (by rw [getD_both hl];simp),fun hj => (cy N3 rfl hj).below hb1,fun hj => (cy N7 rfl hj).below hb1 (cy N7 rfl hj).lt,trivial⟩
  ·as_aux_lemma =>
    obtain ⟨u18,u19,u20,u21,u22,u23,u24,rfl,F0,F1,F2,F3,F4,F5,F6,F7,N3,N7,hx⟩:=hI
    have l1:=he ⟨1,.data⟩ (by simp) rfl
    have l4:=he ⟨4,.data⟩ (by simp) rfl
    have l3:=he ⟨3,.chain⟩ (by simp) rfl
    have e:=F1 l1;subst e
    obtain ⟨x,e,g2,e2,hc⟩:=F4 l4 (getD_both hl)
    obtain ⟨x', e', x0,x4,hS⟩:=F3 l3 (getD_both hl)
    rw [e] at e'
    simp only [Value.int.injEq,true_and] at e'
    subst e' e e2
    have n7:=N7 (Bool.eq_false_iff.2 fun hk => absurd (hcl 7 _ rfl hk ⟨5,.data⟩ (by simp) rfl) (by rw [getD_both hl];simp))
    refine wpOp_stepx ho rfl (fun K hK => ?_)
    unfold lb5A
    refine wp_pushG elem_int rowI rowI_len x (rowI_one x) w' _ _ rfl lo _ lat rfl hS.ob g2 1 rfl (news1 hc) (by omega) (by omega) (by have:=hS.lg;have:=hS.box.lt;omega) ?_
    intro v' w'' o1 hk hz hb
    exact hK _ _ ⟨_,_,_,_,_,_,_,rfl,cy F0 rfl,cy F1 rfl,cy F2 rfl,fun _ hu => absurd hu (by rw [sgix hl];simp),fun _ hu => absurd hu (by rw [sgix hl];simp),fun _ _ => ⟨x,_,x0,x4,hS.addLat o1 hz hk hb⟩,cy F6 rfl,fun hj => absurd (hcl 7 _ rfl (by rwa [sgx (by decide)] at hj) ⟨5,.data⟩ (by simp) rfl) (by rw [getD_both hl];simp),fun hj => absurd l3 (by rw [sgx (by decide)] at hj;rw [hj];simp),fun hj => (cy N7 rfl hj).keep (hk g (cy N7 rfl hj).lt (hS.ob.notB hS.box (by decide))),trivial⟩
  ·as_aux_lemma =>
    obtain ⟨u18,u19,u20,u21,u22,u23,u24,rfl,F0,F1,F2,F3,F4,F5,F6,F7,N3,N7,hx⟩:=hI
    refine wpOp_stepx ho rfl (fun K hK => ?_)
    unfold lb5A
    go_simp
    exact hK _ _ ⟨_,_,_,_,_,_,_,rfl,cy F0 rfl,cy F1 rfl,cy F2 rfl,cyu F3 rfl rfl,cyu F4 rfl rfl,cyu F5 rfl rfl,fun _ => rfl,cy F7 rfl,cy N3 rfl,cy N7 rfl,hx⟩
  ·as_aux_lemma =>
    obtain ⟨u18,u19,u20,u21,u22,u23,u24,rfl,F0,F1,F2,F3,F4,F5,F6,F7,N3,N7,hx⟩:=hI
    have l6:=he ⟨6,.data⟩ (by simp) rfl
    have l5:=he ⟨5,.data⟩ (by simp) rfl
    have e:=F6 l6;subst e
    obtain ⟨x,m', x0,x4,hS⟩:=F5 l5 (getD_both hl)
    obtain ⟨y1,y2,e1,_,_⟩:=hS.ob.shape
    rw [List.length_append,List.length_singleton] at e1
    subst e1
    obtain ⟨⟨k0,k1,k2⟩,m0,m1,m2⟩:=hS.box.bx.three
    refine wpOp_stepx ho rfl (fun K hK => ?_)
    unfold lb5A
    go_simp
    exact hK _ _ ⟨_,_,_,_,_,_,_,rfl,cy F0 rfl,cy F1 rfl,cy F2 rfl,fun hj hu => absurd l5 (by rw [sgx (by decide)] at hu;rw [hu];simp),fun hj hu => absurd l5 (by rw [sgx (by decide)] at hu;rw [hu];simp),fun _ hu => absurd hu (by rw [sgix hl];simp),cy F6 rfl,fun _ => ⟨x,m', x0,x4,hS.put1 _⟩,fun hj => absurd (hcl 5 _ rfl l5 ⟨3,.chain⟩ (by simp) rfl) (by rw [sgx (by decide)] at hj;rw [hj];simp),fun hj => absurd hj (by rw [sgix hl];simp),trivial⟩
 ·intro listed a w' hI hd
  obtain ⟨u18,u19,u20,u21,u22,u23,u24,rfl,F0,F1,F2,F3,F4,F5,F6,F7,N3,N7,hx⟩:=hI
  obtain ⟨x,m', x0,x4,hS'⟩:=F7 (hd 7 (by show 7 < 8;omega))
  exact hK _ _ _ _ _ _ _ w' ⟨x,m', _,x0,x4,hS'⟩
end Go.Proofs.YtenjbhbcacocjaaGreat
namespace Go.Proofs.YtenjbhbcacocjaaGreat
open Go.RowKit
attribute [local go_sem ↓] Go.wp_at_zero Go.wp_at_succ
def lb17A (i1 i2 i3 i4 i6 i7 i9 i10 i11 i12 i13 i14 i15 i16 i17 i18 i19 i20 i21 i22 i23 i24 i25 i26 i27 i28 i29 i30 i31 i32 i33 i34 i35 i36 i37 i38 i39 i40 i41 i42 i43 i44 i45 i46 i47 i48 i49 i50 i51 i52 i53 i54 i55 i56 i57 i58 i59 i60 i61 i62 i63 i64 i75:Value) (g:Nat) (r:Nat) (vb:Nat) (vo:Nat) (n:Nat) (vc:Nat) (u65 u66 u67 u68 u69 u70 u71 u72 u73 u74:Value):Act:={ tmps:=#[.pointer (some ⟨r,0,none⟩),i1,i2,i3,i4,.pointer (some ⟨g,0,none⟩),i6,i7,.slice (some ⟨vb,vo,none⟩) n vc,i9,i10,i11,i12,i13,i14,i15,i16,i17,i18,i19,i20,i21,i22,i23,i24,i25,i26,i27,i28,i29,i30,i31,i32,i33,i34,i35,i36,i37,i38,i39,i40,i41,i42,i43,i44,i45,i46,i47,i48,i49,i50,i51,i52,i53,i54,i55,i56,i57,i58,i59,i60,i61,i62,i63,i64,u65,u66,u67,u68,u69,u70,u71,u72,u73,u74,i75],defers:=[] }
def lb17I (i1 i2 i3 i4 i6 i7 i9 i10 i11 i12 i13 i14 i15 i16 i17 i18 i19 i20 i21 i22 i23 i24 i25 i26 i27 i28 i29 i30 i31 i32 i33 i34 i35 i36 i37 i38 i39 i40 i41 i42 i43 i44 i45 i46 i47 i48 i49 i50 i51 i52 i53 i54 i55 i56 i57 i58 i59 i60 i61 i62 i63 i64 i75:Value) (g:Nat) (r:Nat) (vb:Nat) (vo:Nat) (n:Nat) (vc:Nat) (w0:World) (lo:Nat) (mid:Nat) (B:Nat) (bs:List Nat) (av:Value) (bv:Value) (pv:Value) (us:List Value) (ls:List (List Rq)) (ms:List MR) (lat:List Int) (q:Nat) (mn:Nat) (qs:List Rq) (vs:List (Value × Value)) (wq:World) (listed:Array Bool) (a:Act) (w':World):Prop :=
 ∃ u65 u66 u67 u68 u69 u70 u71 u72 u73 u74:Value,a = lb17A i1 i2 i3 i4 i6 i7 i9 i10 i11 i12 i13 i14 i15 i16 i17 i18 i19 i20 i21 i22 i23 i24 i25 i26 i27 i28 i29 i30 i31 i32 i33 i34 i35 i36 i37 i38 i39 i40 i41 i42 i43 i44 i45 i46 i47 i48 i49 i50 i51 i52 i53 i54 i55 i56 i57 i58 i59 i60 i61 i62 i63 i64 i75 g r vb vo n vc u65 u66 u67 u68 u69 u70 u71 u72 u73 u74 ∧
   (listed.getD 0 false = true → u65 = .pointer (some ⟨g,2,none⟩)) ∧
   (listed.getD 1 false = true → u66 = pv) ∧
   (listed.getD 2 false = true → u67 = .slice (some ⟨vb,vo,none⟩) n vc) ∧
   (listed.getD 3 false = true → u68 = .slice (some ⟨vb,vo,none⟩) n vc) ∧
   (listed.getD 4 false = true → u69 = .int .i64 (n:Nat)) ∧
   (listed.getD 5 false = true → u70 = .int .i64 (mn:Nat)) ∧
   (listed.getD 6 false = true → u71 = .slice (some ⟨vb,vo,none⟩) mn vc) ∧
   (listed.getD 7 false = true → listed.getD 8 false = false → ∃ g2,u72 = .slice (some ⟨g2,0,none⟩) 1 1 ∧ w'.cell? ⟨g2,0,none⟩ = some (.slice (some ⟨vb,vo,none⟩) mn vc)) ∧
   (listed.getD 8 false = true → listed.getD 10 false = false → LbS w0 lo mid g r B bs av bv bv pv u73 (us ++ [.slice (some ⟨vb,vo,none⟩) mn vc]) (ls ++ [qs.take mn]) ms lat q w') ∧
   (listed.getD 9 false = true → u74 = .pointer (some ⟨g,2,none⟩)) ∧
   (listed.getD 10 false = true → LbS w0 lo mid g r B bs av bv bv u73 u73 (us ++ [.slice (some ⟨vb,vo,none⟩) mn vc]) (ls ++ [qs.take mn]) ms lat q w') ∧
   (listed.getD 8 false = false → (LbS w0 lo mid g r B bs av bv bv pv pv us ls ms lat q w' ∧ RdO w' mid (.slice (some ⟨vb,vo,none⟩) n vc) qs vs)) ∧
   (listed.getD 10 false = false → BoxB w' g av bv pv) ∧
   True
noncomputable def lb17Code:Code:=(Tryz.f43.body.bind (regIn2 17)).getD .skip
def LcP (w0:World) (lo mid g r B:Nat) (bs:List Nat) (av bv:Value) (us:List Value) (ls:List (List Rq)) (ms:List MR) (lat:List Int) (q:Nat) (v:Value) (x:List Rq) (w':World):Prop:=∃ u:Value,LbS w0 lo mid g r B bs av bv bv u u (us ++ [v]) (ls ++ [x]) ms lat q w'
set_option maxRecDepth 100000 in
set_option maxHeartbeats 16000000 in
theorem lb17_region (i1 i2 i3 i4 i6 i7 i9 i10 i11 i12 i13 i14 i15 i16 i17 i18 i19 i20 i21 i22 i23 i24 i25 i26 i27 i28 i29 i30 i31 i32 i33 i34 i35 i36 i37 i38 i39 i40 i41 i42 i43 i44 i45 i46 i47 i48 i49 i50 i51 i52 i53 i54 i55 i56 i57 i58 i59 i60 i61 i62 i63 i64 i75 j65 j66 j67 j68 j69 j70 j71 j72 j73 j74:Value) (g:Nat) (r:Nat) (vb:Nat) (vo:Nat) (n:Nat) (vc:Nat) (w0:World) (lo:Nat) (mid:Nat) (B:Nat) (bs:List Nat) (av:Value) (bv:Value) (pv:Value) (us:List Value) (ls:List (List Rq)) (ms:List MR) (lat:List Int) (q:Nat) (mn:Nat) (qs:List Rq) (vs:List (Value × Value)) (wq:World)
  (hS:LbS w0 lo mid g r B bs av bv bv pv pv us ls ms lat q wq) (hR:RdO wq mid (.slice (some ⟨vb,vo,none⟩) n vc) qs vs) (hmi:(if (12:Int) < (n:Int) then (12:Int) else (n:Int)) = (mn:Int)) (hmc:mn ≤ vc) (hmq:mn ≤ qs.length) (hap:∀ i,i < ls.length → Apart (us.getD i vnil) (.slice (some ⟨vb,vo,none⟩) mn vc)) (hll:ls.length ≤ 100)
  {Q:Exit → Act → World → Prop}
  (hK:∀ (u65 u66 u67 u68 u69 u70 u71 u72 u73 u74:Value) w', LcP w0 lo mid g r B bs av bv us ls ms lat q (.slice (some ⟨vb,vo,none⟩) mn vc) (qs.take mn) w' → Q .normal (lb17A i1 i2 i3 i4 i6 i7 i9 i10 i11 i12 i13 i14 i15 i16 i17 i18 i19 i20 i21 i22 i23 i24 i25 i26 i27 i28 i29 i30 i31 i32 i33 i34 i35 i36 i37 i38 i39 i40 i41 i42 i43 i44 i45 i46 i47 i48 i49 i50 i51 i52 i53 i54 i55 i56 i57 i58 i59 i60 i61 i62 i63 i64 i75 g r vb vo n vc u65 u66 u67 u68 u69 u70 u71 u72 u73 u74) w'):lb17Code.wp Tryz.prog Q (lb17A i1 i2 i3 i4 i6 i7 i9 i10 i11 i12 i13 i14 i15 i16 i17 i18 i19 i20 i21 i22 i23 i24 i25 i26 i27 i28 i29 i30 i31 i32 i33 i34 i35 i36 i37 i38 i39 i40 i41 i42 i43 i44 i45 i46 i47 i48 i49 i50 i51 i52 i53 i54 i55 i56 i57 i58 i59 i60 i61 i62 i63 i64 i75 g r vb vo n vc j65 j66 j67 j68 j69 j70 j71 j72 j73 j74) wq:=by
 conv => arg 2;whnf
 refine wp_region_inv2 (lb17I i1 i2 i3 i4 i6 i7 i9 i10 i11 i12 i13 i14 i15 i16 i17 i18 i19 i20 i21 i22 i23 i24 i25 i26 i27 i28 i29 i30 i31 i32 i33 i34 i35 i36 i37 i38 i39 i40 i41 i42 i43 i44 i45 i46 i47 i48 i49 i50 i51 i52 i53 i54 i55 i56 i57 i58 i59 i60 i61 i62 i63 i64 i75 g r vb vo n vc w0 lo mid B bs av bv pv us ls ms lat q mn qs vs wq) (by kernel_rfl) (by kernel_rfl) ?_ ?_ ?_
 ·exact ⟨_,_,_,_,_,_,_,_,_,_,rfl,(fun h => absurd h (by rw [getD_replicate_false];simp)),(fun h => absurd h (by rw [getD_replicate_false];simp)),(fun h => absurd h (by rw [getD_replicate_false];simp)),(fun h => absurd h (by rw [getD_replicate_false];simp)),(fun h => absurd h (by rw [getD_replicate_false];simp)),(fun h => absurd h (by rw [getD_replicate_false];simp)),(fun h => absurd h (by rw [getD_replicate_false];simp)),(fun h _ => absurd h (by rw [getD_replicate_false];simp)),(fun h _ => absurd h (by rw [getD_replicate_false];simp)),(fun h => absurd h (by rw [getD_replicate_false];simp)),(fun h => absurd h (by rw [getD_replicate_false];simp)),(fun _ => ⟨hS.touch (Touch.refl _ _).drewd hS.rd.drewd,hR.kept fun _ _ _ => rfl⟩),(fun _ => hS.box),trivial⟩
 ·intro listed a w' i o hI hsz ho hl he hcl
  have hi:i < 11:=(Array.getElem?_eq_some_iff.1 ho).1
  have e:i = 0 ∨ i = 1 ∨ i = 2 ∨ i = 3 ∨ i = 4 ∨ i = 5 ∨ i = 6 ∨ i = 7 ∨ i = 8 ∨ i = 9 ∨ i = 10:=by omega
  clear hi
  rcases e with rfl | rfl | rfl | rfl | rfl | rfl | rfl | rfl | rfl | rfl | rfl
  all_goals (have ho2:=ho;obtain rfl:=Option.some.inj ho2.symm;clear ho2)
  ·as_aux_lemma =>
    obtain ⟨u65,u66,u67,u68,u69,u70,u71,u72,u73,u74,rfl,F0,F1,F2,F3,F4,F5,F6,F7,F8,F9,F10,N8,N10,hx⟩:=hI
    refine wpOp_stepx ho rfl (fun K hK => ?_)
    unfold lb17A
    go_simp
    exact hK _ _ ⟨_,_,_,_,_,_,_,_,_,_,rfl,fun _ => rfl,cy F1 rfl,cy F2 rfl,cy F3 rfl,cy F4 rfl,cy F5 rfl,cy F6 rfl,cyu F7 rfl rfl,cyu F8 rfl rfl,cy F9 rfl,cy F10 rfl,cy N8 rfl,cy N10 rfl,hx⟩
  ·as_aux_lemma =>
    obtain ⟨u65,u66,u67,u68,u69,u70,u71,u72,u73,u74,rfl,F0,F1,F2,F3,F4,F5,F6,F7,F8,F9,F10,N8,N10,hx⟩:=hI
    have l0:=he ⟨0,.data⟩ (by simp) rfl
    have e:=F0 l0;subst e
    obtain ⟨⟨c0,c1,c2⟩,_⟩:=(N10 (Bool.eq_false_iff.2 fun hk => absurd (hcl 10 _ rfl hk ⟨1,.phase⟩ (by simp) rfl) (by rw [getD_both hl];simp))).bx.three
    refine wpOp_stepx ho rfl (fun K hK => ?_)
    unfold lb17A
    go_simp
    exact hK _ _ ⟨_,_,_,_,_,_,_,_,_,_,rfl,cy F0 rfl,fun _ => rfl,cy F2 rfl,cy F3 rfl,cy F4 rfl,cy F5 rfl,cy F6 rfl,cyu F7 rfl rfl,cyu F8 rfl rfl,cy F9 rfl,cy F10 rfl,cy N8 rfl,cy N10 rfl,hx⟩
  ·as_aux_lemma =>
    obtain ⟨u65,u66,u67,u68,u69,u70,u71,u72,u73,u74,rfl,F0,F1,F2,F3,F4,F5,F6,F7,F8,F9,F10,N8,N10,hx⟩:=hI
    refine wpOp_stepx ho rfl (fun K hK => ?_)
    unfold lb17A
    go_simp
    exact hK _ _ ⟨_,_,_,_,_,_,_,_,_,_,rfl,cy F0 rfl,cy F1 rfl,fun _ => rfl,cy F3 rfl,cy F4 rfl,cy F5 rfl,cy F6 rfl,cyu F7 rfl rfl,cyu F8 rfl rfl,cy F9 rfl,cy F10 rfl,cy N8 rfl,cy N10 rfl,hx⟩
  ·as_aux_lemma =>
    obtain ⟨u65,u66,u67,u68,u69,u70,u71,u72,u73,u74,rfl,F0,F1,F2,F3,F4,F5,F6,F7,F8,F9,F10,N8,N10,hx⟩:=hI
    refine wpOp_stepx ho rfl (fun K hK => ?_)
    unfold lb17A
    go_simp
    exact hK _ _ ⟨_,_,_,_,_,_,_,_,_,_,rfl,cy F0 rfl,cy F1 rfl,cy F2 rfl,fun _ => rfl,cy F4 rfl,cy F5 rfl,cy F6 rfl,cyu F7 rfl rfl,cyu F8 rfl rfl,cy F9 rfl,cy F10 rfl,cy N8 rfl,cy N10 rfl,hx⟩
  ·as_aux_lemma =>
    obtain ⟨u65,u66,u67,u68,u69,u70,u71,u72,u73,u74,rfl,F0,F1,F2,F3,F4,F5,F6,F7,F8,F9,F10,N8,N10,hx⟩:=hI
    have l3:=he ⟨3,.data⟩ (by simp) rfl
    have e:=F3 l3;subst e
    refine wpOp_stepx ho rfl (fun K hK => ?_)
    unfold lb17A
    go_simp
    exact hK _ _ ⟨_,_,_,_,_,_,_,_,_,_,rfl,cy F0 rfl,cy F1 rfl,cy F2 rfl,cy F3 rfl,fun _ => rfl,cy F5 rfl,cy F6 rfl,cyu F7 rfl rfl,cyu F8 rfl rfl,cy F9 rfl,cy F10 rfl,cy N8 rfl,cy N10 rfl,hx⟩
  ·as_aux_lemma =>
    obtain ⟨u65,u66,u67,u68,u69,u70,u71,u72,u73,u74,rfl,F0,F1,F2,F3,F4,F5,F6,F7,F8,F9,F10,N8,N10,hx⟩:=hI
    have l4:=he ⟨4,.data⟩ (by simp) rfl
    have e:=F4 l4;subst e
    refine wpOp_stepx ho rfl (fun K hK => ?_)
    unfold lb17A
    go_simp
    exact hK _ _ ⟨_,_,_,_,_,_,_,_,_,_,rfl,cy F0 rfl,cy F1 rfl,cy F2 rfl,cy F3 rfl,cy F4 rfl,fun _ => by first | rfl | rw [hmi],cy F6 rfl,cyu F7 rfl rfl,cyu F8 rfl rfl,cy F9 rfl,cy F10 rfl,cy N8 rfl,cy N10 rfl,hx⟩
  ·as_aux_lemma =>
    obtain ⟨u65,u66,u67,u68,u69,u70,u71,u72,u73,u74,rfl,F0,F1,F2,F3,F4,F5,F6,F7,F8,F9,F10,N8,N10,hx⟩:=hI
    have l2:=he ⟨2,.data⟩ (by simp) rfl
    have l5:=he ⟨5,.data⟩ (by simp) rfl
    have e:=F2 l2;subst e
    have e:=F5 l5;subst e
    have h1:mn ≤ vc:=hmc
    refine wpOp_stepx ho rfl (fun K hK => ?_)
    unfold lb17A
    go_simp
    exact hK _ _ ⟨_,_,_,_,_,_,_,_,_,_,rfl,cy F0 rfl,cy F1 rfl,cy F2 rfl,cy F3 rfl,cy F4 rfl,cy F5 rfl,fun _ => rfl,cyu F7 rfl rfl,cyu F8 rfl rfl,cy F9 rfl,cy F10 rfl,cy N8 rfl,cy N10 rfl,hx⟩
  ·as_aux_lemma =>
    obtain ⟨u65,u66,u67,u68,u69,u70,u71,u72,u73,u74,rfl,F0,F1,F2,F3,F4,F5,F6,F7,F8,F9,F10,N8,N10,hx⟩:=hI
    have l6:=he ⟨6,.data⟩ (by simp) rfl
    have e:=F6 l6;subst e
    refine wpOp_stepx ho rfl (fun K hK => ?_)
    unfold lb17A
    have hb1:Below w'.heap.size w' (w'.alloc (.cells #[.slice (some ⟨vb,vo,none⟩) mn vc] 60)):=(Below.refl _ _).alloc (Nat.le_refl _) _
    go_simp
    exact hK _ _ ⟨_,_,_,_,_,_,_,_,_,_,rfl,cy F0 rfl,cy F1 rfl,cy F2 rfl,cy F3 rfl,cy F4 rfl,cy F5 rfl,cy F6 rfl,fun _ _ => ⟨_,rfl,by rw [World.cell?_alloc_at _ _ _ _ rfl];rfl⟩,fun hj hu => absurd (hcl 8 _ rfl (by rwa [sgx (by decide)] at hj) ⟨7,.data⟩ (by simp) rfl) (by rw [getD_both hl];simp),cy F9 rfl,fun hj => absurd (hcl 10 _ rfl (by rwa [sgx (by decide)] at hj) ⟨7,.phase⟩ (by simp) rfl) (by rw [getD_both hl];simp),fun hj => ⟨(cy N8 rfl hj).1.below hb1,(cy N8 rfl hj).2.below hb1⟩,fun hj => (cy N10 rfl hj).below hb1 (cy N10 rfl hj).lt,trivial⟩
  ·as_aux_lemma =>
    obtain ⟨u65,u66,u67,u68,u69,u70,u71,u72,u73,u74,rfl,F0,F1,F2,F3,F4,F5,F6,F7,F8,F9,F10,N8,N10,hx⟩:=hI
    have l1:=he ⟨1,.data⟩ (by simp) rfl
    have l7:=he ⟨7,.data⟩ (by simp) rfl
    have e:=F1 l1;subst e
    obtain ⟨g2,e2,hc⟩:=F7 l7 (getD_both hl)
    subst e2
    obtain ⟨hS', hR⟩:=N8 (getD_both hl)
    refine wpOp_stepx ho rfl (fun K hK => ?_)
    unfold lb17A
    refine wp_pushG elem_PP row1 row1_len (.slice (some ⟨vb,vo,none⟩) mn vc) (one1 _ _ _) w' _ _ rfl lo _ us rfl hS'.op g2 1 rfl (news1 hc) (by have:=hS'.len;omega) (by have:=hS'.len;omega) (by have:=hS'.lg;have:=hS'.box.lt;omega) ?_
    intro v' w'' o1 hk hz hb
    exact hK _ _ ⟨_,_,_,_,_,_,_,_,_,_,rfl,cy F0 rfl,cy F1 rfl,cy F2 rfl,cy F3 rfl,cy F4 rfl,cy F5 rfl,cy F6 rfl,fun _ hu => absurd hu (by rw [sgix hl];simp),fun _ _ => hS'.list hR hmq hap o1 hk hb,cy F9 rfl,fun hj => absurd (hcl 10 _ rfl (by rwa [sgx (by decide)] at hj) ⟨8,.data⟩ (by simp) rfl) (by rw [getD_both hl];simp),fun hj => absurd hj (by rw [sgix hl];simp),fun hj => (cy N10 rfl hj).keep (hk g (cy N10 rfl hj).lt (hS'.op.notB hS'.box (by decide))),trivial⟩
  ·as_aux_lemma =>
    obtain ⟨u65,u66,u67,u68,u69,u70,u71,u72,u73,u74,rfl,F0,F1,F2,F3,F4,F5,F6,F7,F8,F9,F10,N8,N10,hx⟩:=hI
    refine wpOp_stepx ho rfl (fun K hK => ?_)
    unfold lb17A
    go_simp
    exact hK _ _ ⟨_,_,_,_,_,_,_,_,_,_,rfl,cy F0 rfl,cy F1 rfl,cy F2 rfl,cy F3 rfl,cy F4 rfl,cy F5 rfl,cy F6 rfl,cyu F7 rfl rfl,cyu F8 rfl rfl,fun _ => rfl,cy F10 rfl,cy N8 rfl,cy N10 rfl,hx⟩
  ·as_aux_lemma =>
    obtain ⟨u65,u66,u67,u68,u69,u70,u71,u72,u73,u74,rfl,F0,F1,F2,F3,F4,F5,F6,F7,F8,F9,F10,N8,N10,hx⟩:=hI
    have l9:=he ⟨9,.data⟩ (by simp) rfl
    have l8:=he ⟨8,.data⟩ (by simp) rfl
    have e:=F9 l9;subst e
    have hS':=F8 l8 (getD_both hl)
    obtain ⟨y1,y2,e1,_,_⟩:=hS'.op.shape
    rw [List.length_append,List.length_singleton] at e1
    subst e1
    obtain ⟨⟨k0,k1,k2⟩,m0,m1,m2⟩:=hS'.box.bx.three
    refine wpOp_stepx ho rfl (fun K hK => ?_)
    unfold lb17A
    go_simp
    exact hK _ _ ⟨_,_,_,_,_,_,_,_,_,_,rfl,cy F0 rfl,cy F1 rfl,cy F2 rfl,cy F3 rfl,cy F4 rfl,cy F5 rfl,cy F6 rfl,fun hj hu => absurd l8 (by rw [sgx (by decide)] at hu;rw [hu];simp),fun _ hu => absurd hu (by rw [sgix hl];simp),cy F9 rfl,fun _ => hS'.put2 _,fun hj => absurd l8 (by rw [sgx (by decide)] at hj;rw [hj];simp),fun hj => absurd hj (by rw [sgix hl];simp),trivial⟩
 ·intro listed a w' hI hd
  obtain ⟨u65,u66,u67,u68,u69,u70,u71,u72,u73,u74,rfl,F0,F1,F2,F3,F4,F5,F6,F7,F8,F9,F10,N8,N10,hx⟩:=hI
  have h:=F10 (hd 10 (by show 10 < 11;omega))
  exact hK _ _ _ _ _ _ _ _ _ _ w' ⟨_,h⟩
end Go.Proofs.YtenjbhbcacocjaaGreat
