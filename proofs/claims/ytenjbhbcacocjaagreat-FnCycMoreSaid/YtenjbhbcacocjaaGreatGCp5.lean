/- CycState.copyOf of any bus: the drawn region of its ports (printed by wip/gen_cq.py). -/
import Derived.Test.YtenjbhbcacocjaaGreatGMap1
import Derived.Test.YtenjbhbcacocjaaGreatGY1
import Derived.Test.YtenjbhbcacocjaaGreatGDr3
import Derived.Test.YtenjbhbcacocjaaGreatGCp1
set_option linter.unusedVariables false
set_option linter.unusedSimpArgs false
namespace Go.Proofs.YtenjbhbcacocjaaGreat
open Go.RowKit
attribute [local go_sem ↓] Go.wp_at_zero Go.wp_at_succ
theorem Owns.tchC {α:Type} {w w':World} {base e sz g:Nat} {f:α → List Value} {v:Value} {xs:List α} (h:Owns w base e sz f v xs) (ht:Touch g w w') (hg:v.ownBlock ≠ some g):Owns w' base e sz f v xs :=
 OwnR.kept h fun k hk => ht.block k (OwnR.lt h k hk).2 (fun e => hg (by rw [hk,e]))
theorem rowN_len (x:Nat):(rowN x).length = 1:=rfl
theorem rowN_oneC (x:Nat):∀ u ∈ rowN x,u.oneCell' = true:=by
 intro u hu
 simp only [rowN,List.mem_singleton] at hu
 subst hu;rfl
theorem Nats.below {w w':World} {B:Nat} {v:Value} {xs:List Nat} (h:Nats w B v xs) (hb:Below B w w'):Nats w' B v xs:=Arr.below h hb
theorem Nats.mono {w:World} {B B':Nat} {v:Value} {xs:List Nat} (h:Nats w B v xs) (hb:B ≤ B'):Nats w B' v xs:=Arr.mono h hb
def cp5A (i0 i1 i2 i6 i7 i8 i9 i10 i11 i12 i13 i14 i15 i16 i17 i18 i19 i20 i21 i22 i23 i24 i25 i26 i27 i28 i45 i46 i47 i48 i49 i50 i51 i52 i53 i54 i55 i56 i57 i58 i59 i60 i61 i62 i63 i64 i65 i66 i67 i68 i69 i70 i71:Value) (g:Nat) (k:Nat) (gE:Nat) (u29 u30 u31 u32 u33 u34 u35 u36 u37 u38 u39 u40 u41 u42 u43 u44:Value):Act:={ tmps:=#[i0,i1,i2,.pointer (some ⟨g,0,none⟩),.int .i64 (k:Nat),.pointer (some ⟨gE,0,none⟩),i6,i7,i8,i9,i10,i11,i12,i13,i14,i15,i16,i17,i18,i19,i20,i21,i22,i23,i24,i25,i26,i27,i28,u29,u30,u31,u32,u33,u34,u35,u36,u37,u38,u39,u40,u41,u42,u43,u44,i45,i46,i47,i48,i49,i50,i51,i52,i53,i54,i55,i56,i57,i58,i59,i60,i61,i62,i63,i64,i65,i66,i67,i68,i69,i70,i71],defers:=[] }
def cp5I (i0 i1 i2 i6 i7 i8 i9 i10 i11 i12 i13 i14 i15 i16 i17 i18 i19 i20 i21 i22 i23 i24 i25 i26 i27 i28 i45 i46 i47 i48 i49 i50 i51 i52 i53 i54 i55 i56 i57 i58 i59 i60 i61 i62 i63 i64 i65 i66 i67 i68 i69 i70 i71:Value) (g:Nat) (k:Nat) (gE:Nat) (lo:Nat) (pb:Nat) (po:Nat) (pc:Nat) (B:Nat) (C:List Value) (c1:Value) (c2:Value) (qa:Option Addr) (qn:Nat) (qc:Nat) (oa:Option Addr) (on:Nat) (oc:Nat) (qs:List Nat) (os:List Jb) (wq:World) (listed:Array Bool) (a:Act) (w':World):Prop :=
 ∃ u29 u30 u31 u32 u33 u34 u35 u36 u37 u38 u39 u40 u41 u42 u43 u44:Value,a = cp5A i0 i1 i2 i6 i7 i8 i9 i10 i11 i12 i13 i14 i15 i16 i17 i18 i19 i20 i21 i22 i23 i24 i25 i26 i27 i28 i45 i46 i47 i48 i49 i50 i51 i52 i53 i54 i55 i56 i57 i58 i59 i60 i61 i62 i63 i64 i65 i66 i67 i68 i69 i70 i71 g k gE u29 u30 u31 u32 u33 u34 u35 u36 u37 u38 u39 u40 u41 u42 u43 u44 ∧
   (listed.getD 0 false = true → u29 = .pointer (some ⟨g,2,none⟩)) ∧
   (listed.getD 1 false = true → u30 = .slice (some ⟨pb,po,none⟩) 3 pc) ∧
   (listed.getD 2 false = true → u31 = .int .i64 (k:Nat)) ∧
   (listed.getD 3 false = true → u32 = .pointer (some ⟨g,2,none⟩)) ∧
   (listed.getD 4 false = true → u33 = .slice (some ⟨pb,po,none⟩) 3 pc) ∧
   (listed.getD 5 false = true → u34 = .int .i64 (k:Nat)) ∧
   (listed.getD 6 false = true → u35 = .pointer (some ⟨gE,1,none⟩)) ∧
   (listed.getD 7 false = true → u36 = .slice qa qn qc) ∧
   (listed.getD 8 false = true → Owns w' wq.heap.size 3 1 rowN u37 qs) ∧
   (listed.getD 9 false = true → u38 = .pointer (some ⟨gE,2,none⟩)) ∧
   (listed.getD 10 false = true → u39 = .slice oa on oc) ∧
   (listed.getD 11 false = true → Owns w' wq.heap.size 64 3 jbRow u40 os ∧ Apart u37 u40) ∧
   (listed.getD 12 false = true → u41 = .pointer (some ⟨pb,po + k * 4,none⟩)) ∧
   (listed.getD 13 false = true → u42 = .pointer (some ⟨pb,po + k * 4 + 1,none⟩)) ∧
   (listed.getD 14 false = true → listed.getD 17 false = false → OwnR w' lo 49 4 (.slice (some ⟨pb,po,none⟩) 3 pc) 3 (C.set (k * 4 + 1) u37)) ∧
   (listed.getD 15 false = true → u43 = .pointer (some ⟨pb,po + k * 4,none⟩)) ∧
   (listed.getD 16 false = true → u44 = .pointer (some ⟨pb,po + k * 4 + 2,none⟩)) ∧
   (listed.getD 17 false = true → OwnR w' lo 49 4 (.slice (some ⟨pb,po,none⟩) 3 pc) 3 ((C.set (k * 4 + 1) u37).set (k * 4 + 2) u40)) ∧
   (listed.getD 14 false = false → OwnR w' lo 49 4 (.slice (some ⟨pb,po,none⟩) 3 pc) 3 C) ∧
   Touch pb wq w'
noncomputable def cp5Code:Code:=(Tryz.f46.body.bind (regIn2 5)).getD .skip
def CqP (lo pb po pc k:Nat) (C:List Value) (qs:List Nat) (os:List Jb) (wq w':World):Prop:=∃ u v,Owns w' wq.heap.size 3 1 rowN u qs ∧ Owns w' wq.heap.size 64 3 jbRow v os ∧ Apart u v ∧ OwnR w' lo 49 4 (.slice (some ⟨pb,po,none⟩) 3 pc) 3 ((C.set (k * 4 + 1) u).set (k * 4 + 2) v) ∧ Touch pb wq w'
set_option maxRecDepth 100000 in
set_option maxHeartbeats 16000000 in
theorem cp5_region (i0 i1 i2 i6 i7 i8 i9 i10 i11 i12 i13 i14 i15 i16 i17 i18 i19 i20 i21 i22 i23 i24 i25 i26 i27 i28 i45 i46 i47 i48 i49 i50 i51 i52 i53 i54 i55 i56 i57 i58 i59 i60 i61 i62 i63 i64 i65 i66 i67 i68 i69 i70 i71 j29 j30 j31 j32 j33 j34 j35 j36 j37 j38 j39 j40 j41 j42 j43 j44:Value) (g:Nat) (k:Nat) (gE:Nat) (lo:Nat) (pb:Nat) (po:Nat) (pc:Nat) (B:Nat) (C:List Value) (c1:Value) (c2:Value) (qa:Option Addr) (qn:Nat) (qc:Nat) (oa:Option Addr) (on:Nat) (oc:Nat) (qs:List Nat) (os:List Jb) (wq:World)
  (hgp:g ≠ pb) (hgl:g < wq.heap.size) (hG:wq.cell? ⟨g,2,none⟩ = some (.slice (some ⟨pb,po,none⟩) 3 pc)) (hpl:pb < wq.heap.size) (hB:B ≤ pb) (hBs:B ≤ wq.heap.size) (hkn:k < 3) (hep:gE ≠ pb) (hel:gE < wq.heap.size) (hO:OwnR wq lo 49 4 (.slice (some ⟨pb,po,none⟩) 3 pc) 3 C) (hC1:C[k * 4 + 1]? = some c1) (hC2:C[k * 4 + 2]? = some c2) (hE1:wq.cell? ⟨gE,1,none⟩ = some (.slice qa qn qc)) (hE2:wq.cell? ⟨gE,2,none⟩ = some (.slice oa on oc)) (hQ:Nats wq B (.slice qa qn qc) qs) (hJ:Jbs wq B (.slice oa on oc) os) (hl1:qs.length ≤ 1048576) (hl2:os.length ≤ 1048576)
  {Q:Exit → Act → World → Prop}
  (hK:∀ (u29 u30 u31 u32 u33 u34 u35 u36 u37 u38 u39 u40 u41 u42 u43 u44:Value) w', CqP lo pb po pc k C qs os wq w' → Q .normal (cp5A i0 i1 i2 i6 i7 i8 i9 i10 i11 i12 i13 i14 i15 i16 i17 i18 i19 i20 i21 i22 i23 i24 i25 i26 i27 i28 i45 i46 i47 i48 i49 i50 i51 i52 i53 i54 i55 i56 i57 i58 i59 i60 i61 i62 i63 i64 i65 i66 i67 i68 i69 i70 i71 g k gE u29 u30 u31 u32 u33 u34 u35 u36 u37 u38 u39 u40 u41 u42 u43 u44) w'):cp5Code.wp Tryz.prog Q (cp5A i0 i1 i2 i6 i7 i8 i9 i10 i11 i12 i13 i14 i15 i16 i17 i18 i19 i20 i21 i22 i23 i24 i25 i26 i27 i28 i45 i46 i47 i48 i49 i50 i51 i52 i53 i54 i55 i56 i57 i58 i59 i60 i61 i62 i63 i64 i65 i66 i67 i68 i69 i70 i71 g k gE j29 j30 j31 j32 j33 j34 j35 j36 j37 j38 j39 j40 j41 j42 j43 j44) wq:=by
 conv => arg 2;whnf
 refine wp_region_inv2 (cp5I i0 i1 i2 i6 i7 i8 i9 i10 i11 i12 i13 i14 i15 i16 i17 i18 i19 i20 i21 i22 i23 i24 i25 i26 i27 i28 i45 i46 i47 i48 i49 i50 i51 i52 i53 i54 i55 i56 i57 i58 i59 i60 i61 i62 i63 i64 i65 i66 i67 i68 i69 i70 i71 g k gE lo pb po pc B C c1 c2 qa qn qc oa on oc qs os wq) (by kernel_rfl) (by kernel_rfl) ?_ ?_ ?_
 ·exact ⟨_,_,_,_,_,_,_,_,_,_,_,_,_,_,_,_,rfl,(fun h => absurd h (by rw [getD_replicate_false];simp)),(fun h => absurd h (by rw [getD_replicate_false];simp)),(fun h => absurd h (by rw [getD_replicate_false];simp)),(fun h => absurd h (by rw [getD_replicate_false];simp)),(fun h => absurd h (by rw [getD_replicate_false];simp)),(fun h => absurd h (by rw [getD_replicate_false];simp)),(fun h => absurd h (by rw [getD_replicate_false];simp)),(fun h => absurd h (by rw [getD_replicate_false];simp)),(fun h => absurd h (by rw [getD_replicate_false];simp)),(fun h => absurd h (by rw [getD_replicate_false];simp)),(fun h => absurd h (by rw [getD_replicate_false];simp)),(fun h => absurd h (by rw [getD_replicate_false];simp)),(fun h => absurd h (by rw [getD_replicate_false];simp)),(fun h => absurd h (by rw [getD_replicate_false];simp)),(fun h _ => absurd h (by rw [getD_replicate_false];simp)),(fun h => absurd h (by rw [getD_replicate_false];simp)),(fun h => absurd h (by rw [getD_replicate_false];simp)),(fun h => absurd h (by rw [getD_replicate_false];simp)),(fun _ => hO),(Touch.refl _ _).drewd⟩
 ·intro listed a w' i o hI hsz ho hl he hcl
  have hi:i < 18:=(Array.getElem?_eq_some_iff.1 ho).1
  have e:i = 0 ∨ i = 1 ∨ i = 2 ∨ i = 3 ∨ i = 4 ∨ i = 5 ∨ i = 6 ∨ i = 7 ∨ i = 8 ∨ i = 9 ∨ i = 10 ∨ i = 11 ∨ i = 12 ∨ i = 13 ∨ i = 14 ∨ i = 15 ∨ i = 16 ∨ i = 17:=by omega
  clear hi
  rcases e with rfl | rfl | rfl | rfl | rfl | rfl | rfl | rfl | rfl | rfl | rfl | rfl | rfl | rfl | rfl | rfl | rfl | rfl
  all_goals (have ho2:=ho;obtain rfl:=Option.some.inj ho2.symm;clear ho2)
  ·as_aux_lemma =>
    obtain ⟨u29,u30,u31,u32,u33,u34,u35,u36,u37,u38,u39,u40,u41,u42,u43,u44,rfl,F0,F1,F2,F3,F4,F5,F6,F7,F8,F9,F10,F11,F12,F13,F14,F15,F16,F17,N14,hx⟩:=hI
    refine wpOp_stepx ho rfl (fun K hK => ?_)
    unfold cp5A
    go_simp
    exact hK _ _ ⟨_,_,_,_,_,_,_,_,_,_,_,_,_,_,_,_,rfl,fun _ => rfl,cy F1 rfl,cy F2 rfl,cy F3 rfl,cy F4 rfl,cy F5 rfl,cy F6 rfl,cy F7 rfl,cy F8 rfl,cy F9 rfl,cy F10 rfl,cy F11 rfl,cy F12 rfl,cy F13 rfl,cyu F14 rfl rfl,cy F15 rfl,cy F16 rfl,cy F17 rfl,cy N14 rfl,hx⟩
  ·as_aux_lemma =>
    obtain ⟨u29,u30,u31,u32,u33,u34,u35,u36,u37,u38,u39,u40,u41,u42,u43,u44,rfl,F0,F1,F2,F3,F4,F5,F6,F7,F8,F9,F10,F11,F12,F13,F14,F15,F16,F17,N14,hx⟩:=hI
    have l0:=he ⟨0,.data⟩ (by simp) rfl
    have e:=F0 l0;subst e
    have q:=(hx.cell (p:=⟨g,2,none⟩) hgp hgl).trans hG
    refine wpOp_stepx ho rfl (fun K hK => ?_)
    unfold cp5A
    go_simp
    exact hK _ _ ⟨_,_,_,_,_,_,_,_,_,_,_,_,_,_,_,_,rfl,cy F0 rfl,fun _ => rfl,cy F2 rfl,cy F3 rfl,cy F4 rfl,cy F5 rfl,cy F6 rfl,cy F7 rfl,cy F8 rfl,cy F9 rfl,cy F10 rfl,cy F11 rfl,cy F12 rfl,cy F13 rfl,cyu F14 rfl rfl,cy F15 rfl,cy F16 rfl,cy F17 rfl,cy N14 rfl,hx⟩
  ·as_aux_lemma =>
    obtain ⟨u29,u30,u31,u32,u33,u34,u35,u36,u37,u38,u39,u40,u41,u42,u43,u44,rfl,F0,F1,F2,F3,F4,F5,F6,F7,F8,F9,F10,F11,F12,F13,F14,F15,F16,F17,N14,hx⟩:=hI
    refine wpOp_stepx ho rfl (fun K hK => ?_)
    unfold cp5A
    go_simp
    exact hK _ _ ⟨_,_,_,_,_,_,_,_,_,_,_,_,_,_,_,_,rfl,cy F0 rfl,cy F1 rfl,fun _ => rfl,cy F3 rfl,cy F4 rfl,cy F5 rfl,cy F6 rfl,cy F7 rfl,cy F8 rfl,cy F9 rfl,cy F10 rfl,cy F11 rfl,cy F12 rfl,cy F13 rfl,cyu F14 rfl rfl,cy F15 rfl,cy F16 rfl,cy F17 rfl,cy N14 rfl,hx⟩
  ·as_aux_lemma =>
    obtain ⟨u29,u30,u31,u32,u33,u34,u35,u36,u37,u38,u39,u40,u41,u42,u43,u44,rfl,F0,F1,F2,F3,F4,F5,F6,F7,F8,F9,F10,F11,F12,F13,F14,F15,F16,F17,N14,hx⟩:=hI
    refine wpOp_stepx ho rfl (fun K hK => ?_)
    unfold cp5A
    go_simp
    exact hK _ _ ⟨_,_,_,_,_,_,_,_,_,_,_,_,_,_,_,_,rfl,cy F0 rfl,cy F1 rfl,cy F2 rfl,fun _ => rfl,cy F4 rfl,cy F5 rfl,cy F6 rfl,cy F7 rfl,cy F8 rfl,cy F9 rfl,cy F10 rfl,cy F11 rfl,cy F12 rfl,cy F13 rfl,cyu F14 rfl rfl,cy F15 rfl,cy F16 rfl,cy F17 rfl,cy N14 rfl,hx⟩
  ·as_aux_lemma =>
    obtain ⟨u29,u30,u31,u32,u33,u34,u35,u36,u37,u38,u39,u40,u41,u42,u43,u44,rfl,F0,F1,F2,F3,F4,F5,F6,F7,F8,F9,F10,F11,F12,F13,F14,F15,F16,F17,N14,hx⟩:=hI
    have l3:=he ⟨3,.data⟩ (by simp) rfl
    have e:=F3 l3;subst e
    have q:=(hx.cell (p:=⟨g,2,none⟩) hgp hgl).trans hG
    refine wpOp_stepx ho rfl (fun K hK => ?_)
    unfold cp5A
    go_simp
    exact hK _ _ ⟨_,_,_,_,_,_,_,_,_,_,_,_,_,_,_,_,rfl,cy F0 rfl,cy F1 rfl,cy F2 rfl,cy F3 rfl,fun _ => rfl,cy F5 rfl,cy F6 rfl,cy F7 rfl,cy F8 rfl,cy F9 rfl,cy F10 rfl,cy F11 rfl,cy F12 rfl,cy F13 rfl,cyu F14 rfl rfl,cy F15 rfl,cy F16 rfl,cy F17 rfl,cy N14 rfl,hx⟩
  ·as_aux_lemma =>
    obtain ⟨u29,u30,u31,u32,u33,u34,u35,u36,u37,u38,u39,u40,u41,u42,u43,u44,rfl,F0,F1,F2,F3,F4,F5,F6,F7,F8,F9,F10,F11,F12,F13,F14,F15,F16,F17,N14,hx⟩:=hI
    refine wpOp_stepx ho rfl (fun K hK => ?_)
    unfold cp5A
    go_simp
    exact hK _ _ ⟨_,_,_,_,_,_,_,_,_,_,_,_,_,_,_,_,rfl,cy F0 rfl,cy F1 rfl,cy F2 rfl,cy F3 rfl,cy F4 rfl,fun _ => rfl,cy F6 rfl,cy F7 rfl,cy F8 rfl,cy F9 rfl,cy F10 rfl,cy F11 rfl,cy F12 rfl,cy F13 rfl,cyu F14 rfl rfl,cy F15 rfl,cy F16 rfl,cy F17 rfl,cy N14 rfl,hx⟩
  ·as_aux_lemma =>
    obtain ⟨u29,u30,u31,u32,u33,u34,u35,u36,u37,u38,u39,u40,u41,u42,u43,u44,rfl,F0,F1,F2,F3,F4,F5,F6,F7,F8,F9,F10,F11,F12,F13,F14,F15,F16,F17,N14,hx⟩:=hI
    refine wpOp_stepx ho rfl (fun K hK => ?_)
    unfold cp5A
    go_simp
    exact hK _ _ ⟨_,_,_,_,_,_,_,_,_,_,_,_,_,_,_,_,rfl,cy F0 rfl,cy F1 rfl,cy F2 rfl,cy F3 rfl,cy F4 rfl,cy F5 rfl,fun _ => rfl,cy F7 rfl,cy F8 rfl,cy F9 rfl,cy F10 rfl,cy F11 rfl,cy F12 rfl,cy F13 rfl,cyu F14 rfl rfl,cy F15 rfl,cy F16 rfl,cy F17 rfl,cy N14 rfl,hx⟩
  ·as_aux_lemma =>
    obtain ⟨u29,u30,u31,u32,u33,u34,u35,u36,u37,u38,u39,u40,u41,u42,u43,u44,rfl,F0,F1,F2,F3,F4,F5,F6,F7,F8,F9,F10,F11,F12,F13,F14,F15,F16,F17,N14,hx⟩:=hI
    have l6:=he ⟨6,.data⟩ (by simp) rfl
    have e:=F6 l6;subst e
    have q:=(hx.cell (p:=⟨gE,1,none⟩) hep hel).trans hE1
    refine wpOp_stepx ho rfl (fun K hK => ?_)
    unfold cp5A
    go_simp
    exact hK _ _ ⟨_,_,_,_,_,_,_,_,_,_,_,_,_,_,_,_,rfl,cy F0 rfl,cy F1 rfl,cy F2 rfl,cy F3 rfl,cy F4 rfl,cy F5 rfl,cy F6 rfl,fun _ => rfl,cy F8 rfl,cy F9 rfl,cy F10 rfl,cy F11 rfl,cy F12 rfl,cy F13 rfl,cyu F14 rfl rfl,cy F15 rfl,cy F16 rfl,cy F17 rfl,cy N14 rfl,hx⟩
  ·as_aux_lemma =>
    obtain ⟨u29,u30,u31,u32,u33,u34,u35,u36,u37,u38,u39,u40,u41,u42,u43,u44,rfl,F0,F1,F2,F3,F4,F5,F6,F7,F8,F9,F10,F11,F12,F13,F14,F15,F16,F17,N14,hx⟩:=hI
    have l7:=he ⟨7,.data⟩ (by simp) rfl
    have e:=F7 l7;subst e
    have hQx:Arr w' B 1 (.slice qa qn qc) (qs.map rowN):=hQ.below (hx.below hB hBs)
    refine wpOp_stepx ho rfl (fun K hK => ?_)
    unfold cp5A
    go_simp
    (with_reducible refine (clone_int rowN rowN_len rowN_oneC _ qs B w' hQx (by omega)).mono ?_)
    rintro e w'' ⟨q,rfl,o1,hb1⟩
    go_wp2_with fail
    exact ⟨_,_,_,_,_,_,_,_,_,_,_,_,_,_,_,_,rfl,cy F0 rfl,cy F1 rfl,cy F2 rfl,cy F3 rfl,cy F4 rfl,cy F5 rfl,cy F6 rfl,fun _ => rfl,fun _ => o1.rebase hx.size,cy F9 rfl,cy F10 rfl,fun hj => absurd (hcl 11 _ rfl (by rwa [sgx (by decide)] at hj) ⟨8,.chain⟩ (by simp) rfl) (by rw [getD_both hl];simp),cy F12 rfl,cy F13 rfl,fun hj hu => absurd (hcl 14 _ rfl (by rwa [sgx (by decide)] at hj) ⟨8,.data⟩ (by simp) rfl) (by rw [getD_both hl];simp),cy F15 rfl,cy F16 rfl,fun hj => absurd (hcl 14 _ rfl (hcl 17 _ rfl (by rwa [sgx (by decide)] at hj) ⟨14,.chain⟩ (by simp) rfl) ⟨8,.data⟩ (by simp) rfl) (by rw [getD_both hl];simp),fun hj => OwnR.below (cy N14 rfl hj) hb1 (fun k hk => (OwnR.lt (cy N14 rfl hj) k hk).2),hx.trans (Touch.of_below hb1 (Nat.le_refl _))⟩
  ·as_aux_lemma =>
    obtain ⟨u29,u30,u31,u32,u33,u34,u35,u36,u37,u38,u39,u40,u41,u42,u43,u44,rfl,F0,F1,F2,F3,F4,F5,F6,F7,F8,F9,F10,F11,F12,F13,F14,F15,F16,F17,N14,hx⟩:=hI
    refine wpOp_stepx ho rfl (fun K hK => ?_)
    unfold cp5A
    go_simp
    exact hK _ _ ⟨_,_,_,_,_,_,_,_,_,_,_,_,_,_,_,_,rfl,cy F0 rfl,cy F1 rfl,cy F2 rfl,cy F3 rfl,cy F4 rfl,cy F5 rfl,cy F6 rfl,cy F7 rfl,cy F8 rfl,fun _ => rfl,cy F10 rfl,cy F11 rfl,cy F12 rfl,cy F13 rfl,cyu F14 rfl rfl,cy F15 rfl,cy F16 rfl,cy F17 rfl,cy N14 rfl,hx⟩
  ·as_aux_lemma =>
    obtain ⟨u29,u30,u31,u32,u33,u34,u35,u36,u37,u38,u39,u40,u41,u42,u43,u44,rfl,F0,F1,F2,F3,F4,F5,F6,F7,F8,F9,F10,F11,F12,F13,F14,F15,F16,F17,N14,hx⟩:=hI
    have l9:=he ⟨9,.data⟩ (by simp) rfl
    have e:=F9 l9;subst e
    have q:=(hx.cell (p:=⟨gE,2,none⟩) hep hel).trans hE2
    refine wpOp_stepx ho rfl (fun K hK => ?_)
    unfold cp5A
    go_simp
    exact hK _ _ ⟨_,_,_,_,_,_,_,_,_,_,_,_,_,_,_,_,rfl,cy F0 rfl,cy F1 rfl,cy F2 rfl,cy F3 rfl,cy F4 rfl,cy F5 rfl,cy F6 rfl,cy F7 rfl,cy F8 rfl,cy F9 rfl,fun _ => rfl,cy F11 rfl,cy F12 rfl,cy F13 rfl,cyu F14 rfl rfl,cy F15 rfl,cy F16 rfl,cy F17 rfl,cy N14 rfl,hx⟩
  ·as_aux_lemma =>
    obtain ⟨u29,u30,u31,u32,u33,u34,u35,u36,u37,u38,u39,u40,u41,u42,u43,u44,rfl,F0,F1,F2,F3,F4,F5,F6,F7,F8,F9,F10,F11,F12,F13,F14,F15,F16,F17,N14,hx⟩:=hI
    have l10:=he ⟨10,.data⟩ (by simp) rfl
    have l8:=he ⟨8,.chain⟩ (by simp) rfl
    have e:=F10 l10;subst e
    have o8:=F8 l8
    have hJx:Arr w' B 3 (.slice oa on oc) (os.map jbRow):=hJ.below (hx.below hB hBs)
    refine wpOp_stepx ho rfl (fun K hK => ?_)
    unfold cp5A
    go_simp
    (with_reducible refine (clone_CycJob jbRow (fun _ => rfl) jbRow_one _ os B w' hJx (by omega)).mono ?_)
    rintro e w'' ⟨q,rfl,o1,hb1⟩
    go_wp2_with fail
    exact ⟨_,_,_,_,_,_,_,_,_,_,_,_,_,_,_,_,rfl,cy F0 rfl,cy F1 rfl,cy F2 rfl,cy F3 rfl,cy F4 rfl,cy F5 rfl,cy F6 rfl,cy F7 rfl,fun hj => OwnR.below (cy F8 rfl hj) hb1 (fun k hk => (OwnR.lt (cy F8 rfl hj) k hk).2),cy F9 rfl,fun _ => rfl,fun _ => ⟨o1.rebase hx.size,apart_of o8 o1⟩,cy F12 rfl,cy F13 rfl,fun hj hu => absurd (hcl 14 _ rfl (by rwa [sgx (by decide)] at hj) ⟨11,.chain⟩ (by simp) rfl) (by rw [getD_both hl];simp),cy F15 rfl,cy F16 rfl,fun hj => absurd (hcl 17 _ rfl (by rwa [sgx (by decide)] at hj) ⟨11,.data⟩ (by simp) rfl) (by rw [getD_both hl];simp),fun hj => OwnR.below (cy N14 rfl hj) hb1 (fun k hk => (OwnR.lt (cy N14 rfl hj) k hk).2),hx.trans (Touch.of_below hb1 (Nat.le_refl _))⟩
  ·as_aux_lemma =>
    obtain ⟨u29,u30,u31,u32,u33,u34,u35,u36,u37,u38,u39,u40,u41,u42,u43,u44,rfl,F0,F1,F2,F3,F4,F5,F6,F7,F8,F9,F10,F11,F12,F13,F14,F15,F16,F17,N14,hx⟩:=hI
    have l1:=he ⟨1,.data⟩ (by simp) rfl
    have l2:=he ⟨2,.data⟩ (by simp) rfl
    have e:=F1 l1;subst e
    have e:=F2 l2;subst e
    have hkx:=hkn
    have hki:(k:Int) < 3:=by omega
    refine wpOp_stepx ho rfl (fun K hK => ?_)
    unfold cp5A
    go_simp
    exact hK _ _ ⟨_,_,_,_,_,_,_,_,_,_,_,_,_,_,_,_,rfl,cy F0 rfl,cy F1 rfl,cy F2 rfl,cy F3 rfl,cy F4 rfl,cy F5 rfl,cy F6 rfl,cy F7 rfl,cy F8 rfl,cy F9 rfl,cy F10 rfl,cy F11 rfl,fun _ => rfl,cy F13 rfl,cyu F14 rfl rfl,cy F15 rfl,cy F16 rfl,cy F17 rfl,cy N14 rfl,hx⟩
  ·as_aux_lemma =>
    obtain ⟨u29,u30,u31,u32,u33,u34,u35,u36,u37,u38,u39,u40,u41,u42,u43,u44,rfl,F0,F1,F2,F3,F4,F5,F6,F7,F8,F9,F10,F11,F12,F13,F14,F15,F16,F17,N14,hx⟩:=hI
    have l12:=he ⟨12,.data⟩ (by simp) rfl
    have e:=F12 l12;subst e
    refine wpOp_stepx ho rfl (fun K hK => ?_)
    unfold cp5A
    go_simp
    exact hK _ _ ⟨_,_,_,_,_,_,_,_,_,_,_,_,_,_,_,_,rfl,cy F0 rfl,cy F1 rfl,cy F2 rfl,cy F3 rfl,cy F4 rfl,cy F5 rfl,cy F6 rfl,cy F7 rfl,cy F8 rfl,cy F9 rfl,cy F10 rfl,cy F11 rfl,cy F12 rfl,fun _ => rfl,cyu F14 rfl rfl,cy F15 rfl,cy F16 rfl,cy F17 rfl,cy N14 rfl,hx⟩
  ·as_aux_lemma =>
    obtain ⟨u29,u30,u31,u32,u33,u34,u35,u36,u37,u38,u39,u40,u41,u42,u43,u44,rfl,F0,F1,F2,F3,F4,F5,F6,F7,F8,F9,F10,F11,F12,F13,F14,F15,F16,F17,N14,hx⟩:=hI
    have l13:=he ⟨13,.data⟩ (by simp) rfl
    have l8:=he ⟨8,.data⟩ (by simp) rfl
    have l11:=he ⟨11,.chain⟩ (by simp) rfl
    have e:=F13 l13;subst e
    have own:=N14 (getD_both hl)
    have o8:=F8 l8
    obtain ⟨o11,ap⟩:=F11 l11
    obtain ⟨y1,y3,e1,_,_⟩:=o8.shape
    subst e1
    have q:=(OwnR.get own (k * 4 + 1) (by omega)).trans (hC1)
    have q2:=OwnR.unfrozen own (po + (k * 4 + 1))
    have hput:=OwnR.put own (k * 4 + 1) (by omega) (.slice y1 qs.length y3)
    rw [← Nat.add_assoc] at q q2 hput
    have HPUT:=hid hput
    clear hput
    refine wpOp_stepx ho rfl (fun K hK => ?_)
    unfold cp5A
    go_simp
    exact hK _ _ ⟨_,_,_,_,_,_,_,_,_,_,_,_,_,_,_,_,rfl,cy F0 rfl,cy F1 rfl,cy F2 rfl,cy F3 rfl,cy F4 rfl,cy F5 rfl,cy F6 rfl,cy F7 rfl,fun hj => Owns.tchC o8 (Touch.setCell ..) (fun e => by have:=(OwnR.lt o8 pb e).1;omega),cy F9 rfl,cy F10 rfl,fun hj => ⟨Owns.tchC o11 (Touch.setCell ..) (fun e => by have:=(OwnR.lt o11 pb e).1;omega),ap⟩,cy F12 rfl,cy F13 rfl,fun _ _ => HPUT.out,cy F15 rfl,cy F16 rfl,fun hj => absurd (hcl 17 _ rfl (by rwa [sgx (by decide)] at hj) ⟨14,.chain⟩ (by simp) rfl) (by rw [getD_both hl];simp),fun hj => absurd hj (by rw [sgix hl];simp),hx.trans (Touch.setCell ..)⟩
  ·as_aux_lemma =>
    obtain ⟨u29,u30,u31,u32,u33,u34,u35,u36,u37,u38,u39,u40,u41,u42,u43,u44,rfl,F0,F1,F2,F3,F4,F5,F6,F7,F8,F9,F10,F11,F12,F13,F14,F15,F16,F17,N14,hx⟩:=hI
    have l4:=he ⟨4,.data⟩ (by simp) rfl
    have l5:=he ⟨5,.data⟩ (by simp) rfl
    have e:=F4 l4;subst e
    have e:=F5 l5;subst e
    have hkx:=hkn
    have hki:(k:Int) < 3:=by omega
    refine wpOp_stepx ho rfl (fun K hK => ?_)
    unfold cp5A
    go_simp
    exact hK _ _ ⟨_,_,_,_,_,_,_,_,_,_,_,_,_,_,_,_,rfl,cy F0 rfl,cy F1 rfl,cy F2 rfl,cy F3 rfl,cy F4 rfl,cy F5 rfl,cy F6 rfl,cy F7 rfl,cy F8 rfl,cy F9 rfl,cy F10 rfl,cy F11 rfl,cy F12 rfl,cy F13 rfl,cyu F14 rfl rfl,fun _ => rfl,cy F16 rfl,cy F17 rfl,cy N14 rfl,hx⟩
  ·as_aux_lemma =>
    obtain ⟨u29,u30,u31,u32,u33,u34,u35,u36,u37,u38,u39,u40,u41,u42,u43,u44,rfl,F0,F1,F2,F3,F4,F5,F6,F7,F8,F9,F10,F11,F12,F13,F14,F15,F16,F17,N14,hx⟩:=hI
    have l15:=he ⟨15,.data⟩ (by simp) rfl
    have e:=F15 l15;subst e
    refine wpOp_stepx ho rfl (fun K hK => ?_)
    unfold cp5A
    go_simp
    exact hK _ _ ⟨_,_,_,_,_,_,_,_,_,_,_,_,_,_,_,_,rfl,cy F0 rfl,cy F1 rfl,cy F2 rfl,cy F3 rfl,cy F4 rfl,cy F5 rfl,cy F6 rfl,cy F7 rfl,cy F8 rfl,cy F9 rfl,cy F10 rfl,cy F11 rfl,cy F12 rfl,cy F13 rfl,cyu F14 rfl rfl,cy F15 rfl,fun _ => rfl,cy F17 rfl,cy N14 rfl,hx⟩
  ·as_aux_lemma =>
    obtain ⟨u29,u30,u31,u32,u33,u34,u35,u36,u37,u38,u39,u40,u41,u42,u43,u44,rfl,F0,F1,F2,F3,F4,F5,F6,F7,F8,F9,F10,F11,F12,F13,F14,F15,F16,F17,N14,hx⟩:=hI
    have l16:=he ⟨16,.data⟩ (by simp) rfl
    have l11:=he ⟨11,.data⟩ (by simp) rfl
    have l14:=he ⟨14,.chain⟩ (by simp) rfl
    have e:=F16 l16;subst e
    have own:=F14 l14 (getD_both hl)
    have o8:=F8 (hcl 14 _ rfl l14 ⟨8,.data⟩ (by simp) rfl)
    obtain ⟨o11,ap⟩:=F11 l11
    obtain ⟨y1,y3,e1,_,_⟩:=o11.shape
    subst e1
    have q:=(OwnR.get own (k * 4 + 2) (by omega)).trans ((show (C.set (k * 4 + 1) _)[k * 4 + 2]? = some c2 by rw [List.getElem?_set,if_neg (by omega)];exact hC2))
    have q2:=OwnR.unfrozen own (po + (k * 4 + 2))
    have hput:=OwnR.put own (k * 4 + 2) (by omega) (.slice y1 os.length y3)
    rw [← Nat.add_assoc] at q q2 hput
    have HPUT:=hid hput
    clear hput
    refine wpOp_stepx ho rfl (fun K hK => ?_)
    unfold cp5A
    go_simp
    exact hK _ _ ⟨_,_,_,_,_,_,_,_,_,_,_,_,_,_,_,_,rfl,cy F0 rfl,cy F1 rfl,cy F2 rfl,cy F3 rfl,cy F4 rfl,cy F5 rfl,cy F6 rfl,cy F7 rfl,fun hj => Owns.tchC o8 (Touch.setCell ..) (fun e => by have:=(OwnR.lt o8 pb e).1;omega),cy F9 rfl,cy F10 rfl,fun hj => ⟨Owns.tchC o11 (Touch.setCell ..) (fun e => by have:=(OwnR.lt o11 pb e).1;omega),ap⟩,cy F12 rfl,cy F13 rfl,fun _ hu => absurd hu (by rw [sgix hl];simp),cy F15 rfl,cy F16 rfl,fun _ => HPUT.out,fun hj => absurd l14 (by rw [sgx (by decide)] at hj;rw [hj];simp),hx.trans (Touch.setCell ..)⟩
 ·intro listed a w' hI hd
  obtain ⟨u29,u30,u31,u32,u33,u34,u35,u36,u37,u38,u39,u40,u41,u42,u43,u44,rfl,F0,F1,F2,F3,F4,F5,F6,F7,F8,F9,F10,F11,F12,F13,F14,F15,F16,F17,N14,hx⟩:=hI
  have o8:=F8 (hd 8 (by show 8 < 18;omega))
  obtain ⟨o11,ap⟩:=F11 (hd 11 (by show 11 < 18;omega))
  exact hK _ _ _ _ _ _ _ _ _ _ _ _ _ _ _ _ w' ⟨_,_,o8,o11,ap,F17 (hd 17 (by show 17 < 18;omega)),hx⟩
end Go.Proofs.YtenjbhbcacocjaaGreat
