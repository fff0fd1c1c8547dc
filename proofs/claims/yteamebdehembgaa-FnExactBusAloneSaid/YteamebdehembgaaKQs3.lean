/-
  BusAlone of the reference: its drawn region 3 (printed by wip/gen_qs.py).
-/
import Derived.Test.YteamebdehembgaaJY4
import Derived.Test.YteamebdehembgaaJQ24
import Derived.Test.YteamebdehembgaaJQ3
set_option linter.unusedVariables false
set_option linter.unusedSimpArgs false
namespace Go.Proofs.Yteamebdehembgaa
open Go.RowKit
attribute [local go_sem ↓] Go.wp_at_zero Go.wp_at_succ

def qs3A (i0 i1 i3 i4 i6 i7 i8 i9 i10 i11 i12 i13 i14 i15 i16 i17 i18 i28 i29 i30 i31 i32 i33 i34 i35 i36 i37 i38 i39 i40 i41 i42 i43 i44 i45 i46 i47 i48 i49 i50 i51 i52 i53 i54 i55 i56 i57 i58 i59 i60 i61 i62 i63 i64 i65 i66 i67 i68 i69 i70 i71 i72 i73 i74 i75 i76 : Value) (gS : Nat) (u5 u19 u20 u21 u22 u23 u24 u25 u26 u27 : Value) : Act := { tmps := #[i0, i1, .pointer (some ⟨gS, 0, none⟩), i3, i4, u5, i6, i7, i8, i9, i10, i11, i12, i13, i14, i15, i16, i17, i18, u19, u20, u21, u22, u23, u24, u25, u26, u27, i28, i29, i30, i31, i32, i33, i34, i35, i36, i37, i38, i39, i40, i41, i42, i43, i44, i45, i46, i47, i48, i49, i50, i51, i52, i53, i54, i55, i56, i57, i58, i59, i60, i61, i62, i63, i64, i65, i66, i67, i68, i69, i70, i71, i72, i73, i74, i75, i76], defers := [] }
def qs3I (i0 i1 i3 i4 i6 i7 i8 i9 i10 i11 i12 i13 i14 i15 i16 i17 i18 i28 i29 i30 i31 i32 i33 i34 i35 i36 i37 i38 i39 i40 i41 i42 i43 i44 i45 i46 i47 i48 i49 i50 i51 i52 i53 i54 i55 i56 i57 i58 i59 i60 i61 i62 i63 i64 i65 i66 i67 i68 i69 i70 i71 i72 i73 i74 i75 i76 : Value) (gS : Nat) (vm : Value) (vl : Value) (vp : Value) (ms : List MR) (lat : List Int) (wq : World) (listed : Array Bool) (a : Act) (w' : World) : Prop :=
  ∃ u5 u19 u20 u21 u22 u23 u24 u25 u26 u27 : Value, a = qs3A i0 i1 i3 i4 i6 i7 i8 i9 i10 i11 i12 i13 i14 i15 i16 i17 i18 i28 i29 i30 i31 i32 i33 i34 i35 i36 i37 i38 i39 i40 i41 i42 i43 i44 i45 i46 i47 i48 i49 i50 i51 i52 i53 i54 i55 i56 i57 i58 i59 i60 i61 i62 i63 i64 i65 i66 i67 i68 i69 i70 i71 i72 i73 i74 i75 i76 gS u5 u19 u20 u21 u22 u23 u24 u25 u26 u27 ∧
      (listed.getD 0 false = true → listed.getD 3 false = false → ∃ g, u19 = .slice (some ⟨g, 0, none⟩) 0 0 ∧ wq.heap.size ≤ g ∧ w'.heap[g]? = some (.cells #[] 101 (0, 0))) ∧
      (listed.getD 1 false = true → u20 = .pointer (some ⟨gS, 0, none⟩)) ∧
      (listed.getD 2 false = true → u21 = vm) ∧
      (listed.getD 3 false = true → Owns w' wq.heap.size 101 4 rowM u22 ms) ∧
      (listed.getD 4 false = true → listed.getD 7 false = false → ∃ g, u23 = .slice (some ⟨g, 0, none⟩) 0 0 ∧ wq.heap.size ≤ g ∧ w'.heap[g]? = some (.cells #[] 3 (0, 0))) ∧
      (listed.getD 5 false = true → u24 = .pointer (some ⟨gS, 1, none⟩)) ∧
      (listed.getD 6 false = true → u25 = vl) ∧
      (listed.getD 7 false = true → Owns w' wq.heap.size 3 1 rowI u26 lat) ∧
      (listed.getD 8 false = true → u27 = .agg #[u22, u26, vnil]) ∧
      (listed.getD 9 false = true → listed.getD 10 false = false → ∃ g, u5 = .pointer (some ⟨g, 0, none⟩) ∧ wq.heap.size ≤ g ∧ BoxB w' g vnil vnil vnil) ∧
      (listed.getD 10 false = true → ∃ g, u5 = .pointer (some ⟨g, 0, none⟩) ∧ wq.heap.size ≤ g ∧ BoxB w' g u22 u26 vnil) ∧
      Below wq.heap.size wq w'
noncomputable def qs3Code : Code := (Try.f11.body.bind (regIn2 3)).getD .skip
/-- Behind the region: a copy of the ranges, and of how slow the stores are, in a new box. -/
def QsP (u : Value) (ms : List MR) (lat : List Int) (wq w' : World) : Prop := ∃ g a b, u = .pointer (some ⟨g, 0, none⟩) ∧ wq.heap.size ≤ g ∧ BoxB w' g a b vnil ∧ Owns w' wq.heap.size 101 4 rowM a ms ∧ Owns w' wq.heap.size 3 1 rowI b lat ∧ Below wq.heap.size wq w'
theorem alloc_here (w : World) (o : Obj) : (w.alloc o).heap[w.heap.size]? = some o := by show (w.heap.push _)[w.heap.size]? = _; simp

set_option maxRecDepth 100000 in
set_option maxHeartbeats 16000000 in
theorem qs3_region (i0 i1 i3 i4 i6 i7 i8 i9 i10 i11 i12 i13 i14 i15 i16 i17 i18 i28 i29 i30 i31 i32 i33 i34 i35 i36 i37 i38 i39 i40 i41 i42 i43 i44 i45 i46 i47 i48 i49 i50 i51 i52 i53 i54 i55 i56 i57 i58 i59 i60 i61 i62 i63 i64 i65 i66 i67 i68 i69 i70 i71 i72 i73 i74 i75 i76 j5 j19 j20 j21 j22 j23 j24 j25 j26 j27 : Value) (gS : Nat) (vm : Value) (vl : Value) (vp : Value) (ms : List MR) (lat : List Int) (wq : World)
    (hS : Bx wq gS [vm, vl, vp]) (hM : Arr wq wq.heap.size 4 vm (ms.map rowM)) (hL : Arr wq wq.heap.size 1 vl (lat.map rowI)) (hl1 : ms.length ≤ 1048576) (hl2 : lat.length ≤ 1048576)
    {Q : Exit → Act → World → Prop}
    (hK : ∀ (u5 u19 u20 u21 u22 u23 u24 u25 u26 u27 : Value) w', QsP u5 ms lat wq w' → Q .normal (qs3A i0 i1 i3 i4 i6 i7 i8 i9 i10 i11 i12 i13 i14 i15 i16 i17 i18 i28 i29 i30 i31 i32 i33 i34 i35 i36 i37 i38 i39 i40 i41 i42 i43 i44 i45 i46 i47 i48 i49 i50 i51 i52 i53 i54 i55 i56 i57 i58 i59 i60 i61 i62 i63 i64 i65 i66 i67 i68 i69 i70 i71 i72 i73 i74 i75 i76 gS u5 u19 u20 u21 u22 u23 u24 u25 u26 u27) w') : qs3Code.wp Try.prog Q (qs3A i0 i1 i3 i4 i6 i7 i8 i9 i10 i11 i12 i13 i14 i15 i16 i17 i18 i28 i29 i30 i31 i32 i33 i34 i35 i36 i37 i38 i39 i40 i41 i42 i43 i44 i45 i46 i47 i48 i49 i50 i51 i52 i53 i54 i55 i56 i57 i58 i59 i60 i61 i62 i63 i64 i65 i66 i67 i68 i69 i70 i71 i72 i73 i74 i75 i76 gS j5 j19 j20 j21 j22 j23 j24 j25 j26 j27) wq := by
  conv => arg 2; whnf
  refine wp_region_inv2 (qs3I i0 i1 i3 i4 i6 i7 i8 i9 i10 i11 i12 i13 i14 i15 i16 i17 i18 i28 i29 i30 i31 i32 i33 i34 i35 i36 i37 i38 i39 i40 i41 i42 i43 i44 i45 i46 i47 i48 i49 i50 i51 i52 i53 i54 i55 i56 i57 i58 i59 i60 i61 i62 i63 i64 i65 i66 i67 i68 i69 i70 i71 i72 i73 i74 i75 i76 gS vm vl vp ms lat wq) (by kernel_rfl) (by kernel_rfl) ?_ ?_ ?_
  · exact ⟨_, _, _, _, _, _, _, _, _, _, rfl, (fun h _ => absurd h (by rw [getD_replicate_false]; simp)), (fun h => absurd h (by rw [getD_replicate_false]; simp)), (fun h => absurd h (by rw [getD_replicate_false]; simp)), (fun h => absurd h (by rw [getD_replicate_false]; simp)), (fun h _ => absurd h (by rw [getD_replicate_false]; simp)), (fun h => absurd h (by rw [getD_replicate_false]; simp)), (fun h => absurd h (by rw [getD_replicate_false]; simp)), (fun h => absurd h (by rw [getD_replicate_false]; simp)), (fun h => absurd h (by rw [getD_replicate_false]; simp)), (fun h _ => absurd h (by rw [getD_replicate_false]; simp)), (fun h => absurd h (by rw [getD_replicate_false]; simp)), (Below.refl _ _).drew⟩
  · intro listed a w' i o hI hsz ho hl he hcl
    have hi : i < 11 := (Array.getElem?_eq_some_iff.1 ho).1
    have e : i = 0 ∨ i = 1 ∨ i = 2 ∨ i = 3 ∨ i = 4 ∨ i = 5 ∨ i = 6 ∨ i = 7 ∨ i = 8 ∨ i = 9 ∨ i = 10 := by omega
    clear hi
    rcases e with rfl | rfl | rfl | rfl | rfl | rfl | rfl | rfl | rfl | rfl | rfl
    all_goals (have ho2 := ho; obtain rfl := Option.some.inj ho2.symm; clear ho2)
    · as_aux_lemma =>
        obtain ⟨u5, u19, u20, u21, u22, u23, u24, u25, u26, u27, rfl, F0, F1, F2, F3, F4, F5, F6, F7, F8, F9, F10, hx⟩ := hI
        refine wpOp_stepx ho rfl (fun K hK => ?_)
        unfold qs3A
        have hb1 : Below w'.heap.size w' (w'.alloc (.cells #[] 101)) := (Below.refl _ _).alloc (Nat.le_refl _) _
        go_simp
        exact hK _ _ ⟨_, _, _, _, _, _, _, _, _, _, rfl, fun _ _ => ⟨w'.heap.size, rfl, hx.size, alloc_here _ _⟩, fun hj => (by first | exact (F1 (by rwa [sgx (by decide)] at hj)) | rfl), fun hj => (by first | exact (F2 (by rwa [sgx (by decide)] at hj)) | rfl), fun hj => absurd (hcl 3 _ rfl (by rwa [sgx (by decide)] at hj) ⟨0, .data⟩ (by simp) rfl) (by rw [getD_both hl]; simp), fun hj hu => (let ⟨g, e, g1, g2⟩ := (F4 (by rwa [sgx (by decide)] at hj) (by rwa [sgx (by decide)] at hu)); ⟨g, e, g1, (hb1.block g (heap_lt g2)).trans g2⟩), fun hj => (by first | exact (F5 (by rwa [sgx (by decide)] at hj)) | rfl), fun hj => (by first | exact (F6 (by rwa [sgx (by decide)] at hj)) | rfl), fun hj => OwnR.below (F7 (by rwa [sgx (by decide)] at hj)) hb1 (fun k hk => (OwnR.lt (F7 (by rwa [sgx (by decide)] at hj)) k hk).2), fun hj => absurd (hcl 3 _ rfl (hcl 8 _ rfl (by rwa [sgx (by decide)] at hj) ⟨3, .data⟩ (by simp) rfl) ⟨0, .data⟩ (by simp) rfl) (by rw [getD_both hl]; simp), fun hj hu => (let ⟨g, e1, e2, e3⟩ := (F9 (by rwa [sgx (by decide)] at hj) (by rwa [sgx (by decide)] at hu)); ⟨g, e1, e2, e3.below hb1 e3.lt⟩), fun hj => absurd (hcl 10 _ rfl (by rwa [sgx (by decide)] at hj) ⟨0, .phase⟩ (by simp) rfl) (by rw [getD_both hl]; simp), hx.trans (hb1.mono hx.size)⟩
    · as_aux_lemma =>
        obtain ⟨u5, u19, u20, u21, u22, u23, u24, u25, u26, u27, rfl, F0, F1, F2, F3, F4, F5, F6, F7, F8, F9, F10, hx⟩ := hI
        refine wpOp_stepx ho rfl (fun K hK => ?_)
        unfold qs3A
        go_simp
        exact hK _ _ ⟨_, _, _, _, _, _, _, _, _, _, rfl, fun hj hu => (F0 (by rwa [sgx (by decide)] at hj) (by rwa [sgx (by decide)] at hu)), fun _ => rfl, fun hj => (by first | exact (F2 (by rwa [sgx (by decide)] at hj)) | rfl), fun hj => (F3 (by rwa [sgx (by decide)] at hj)), fun hj hu => (F4 (by rwa [sgx (by decide)] at hj) (by rwa [sgx (by decide)] at hu)), fun hj => (by first | exact (F5 (by rwa [sgx (by decide)] at hj)) | rfl), fun hj => (by first | exact (F6 (by rwa [sgx (by decide)] at hj)) | rfl), fun hj => (F7 (by rwa [sgx (by decide)] at hj)), fun hj => (F8 (by rwa [sgx (by decide)] at hj)), fun hj hu => (F9 (by rwa [sgx (by decide)] at hj) (by rwa [sgx (by decide)] at hu)), fun hj => (F10 (by rwa [sgx (by decide)] at hj)), hx⟩
    · as_aux_lemma =>
        obtain ⟨u5, u19, u20, u21, u22, u23, u24, u25, u26, u27, rfl, F0, F1, F2, F3, F4, F5, F6, F7, F8, F9, F10, hx⟩ := hI
        have l1 := he ⟨1, .data⟩ (by simp) rfl
        have e := F1 l1; subst e
        obtain ⟨⟨c0, c1, c2⟩, _⟩ := (hS.below hx hS.lt).three
        refine wpOp_stepx ho rfl (fun K hK => ?_)
        unfold qs3A
        go_simp
        exact hK _ _ ⟨_, _, _, _, _, _, _, _, _, _, rfl, fun hj hu => (F0 (by rwa [sgx (by decide)] at hj) (by rwa [sgx (by decide)] at hu)), fun hj => (by first | exact (F1 (by rwa [sgx (by decide)] at hj)) | rfl), fun _ => rfl, fun hj => (F3 (by rwa [sgx (by decide)] at hj)), fun hj hu => (F4 (by rwa [sgx (by decide)] at hj) (by rwa [sgx (by decide)] at hu)), fun hj => (by first | exact (F5 (by rwa [sgx (by decide)] at hj)) | rfl), fun hj => (by first | exact (F6 (by rwa [sgx (by decide)] at hj)) | rfl), fun hj => (F7 (by rwa [sgx (by decide)] at hj)), fun hj => (F8 (by rwa [sgx (by decide)] at hj)), fun hj hu => (F9 (by rwa [sgx (by decide)] at hj) (by rwa [sgx (by decide)] at hu)), fun hj => (F10 (by rwa [sgx (by decide)] at hj)), hx⟩
    · as_aux_lemma =>
        obtain ⟨u5, u19, u20, u21, u22, u23, u24, u25, u26, u27, rfl, F0, F1, F2, F3, F4, F5, F6, F7, F8, F9, F10, hx⟩ := hI
        have l0 := he ⟨0, .data⟩ (by simp) rfl
        have l2 := he ⟨2, .data⟩ (by simp) rfl
        obtain ⟨g, e, g1, hg⟩ := F0 l0 (getD_both hl); subst e
        have e := F2 l2; subst e
        refine wpOp_stepx ho rfl (fun K hK => ?_)
        unfold qs3A
        refine wp_catG elem_MapRange rowM rowM_len rowM_one w' _ _ rfl g rfl hg _ ms w'.heap.size rfl ((hM.below hx).mono hx.size) (by omega) hl1 ?_
        intro v' w'' o1 ht hn
        exact hK _ _ ⟨_, _, _, _, _, _, _, _, _, _, rfl, fun _ hu => absurd hu (by rw [sgix hl]; simp), fun hj => (by first | exact (F1 (by rwa [sgx (by decide)] at hj)) | rfl), fun hj => (by first | exact (F2 (by rwa [sgx (by decide)] at hj)) | rfl), fun _ => o1.rebase g1, fun hj hu => (let ⟨g2, e, h1, h2⟩ := (F4 (by rwa [sgx (by decide)] at hj) (by rwa [sgx (by decide)] at hu)); ⟨g2, e, h1, (ht.block g2 (heap_lt h2) (fun e2 => cells_ne h2 hg (by decide) e2)).trans h2⟩), fun hj => (by first | exact (F5 (by rwa [sgx (by decide)] at hj)) | rfl), fun hj => (by first | exact (F6 (by rwa [sgx (by decide)] at hj)) | rfl), fun hj => absurd (hcl 7 _ rfl (by rwa [sgx (by decide)] at hj) ⟨3, .chain⟩ (by simp) rfl) (by rw [getD_both hl]; simp), fun hj => absurd (hcl 8 _ rfl (by rwa [sgx (by decide)] at hj) ⟨3, .data⟩ (by simp) rfl) (by rw [getD_both hl]; simp), fun hj hu => (let ⟨g2, e1, e2, e3⟩ := (F9 (by rwa [sgx (by decide)] at hj) (by rwa [sgx (by decide)] at hu)); ⟨g2, e1, e2, e3.keep (ht.block g2 e3.lt (fun e4 => cells_ne e3 hg (by decide) e4))⟩), fun hj => absurd (hcl 10 _ rfl (by rwa [sgx (by decide)] at hj) ⟨3, .phase⟩ (by simp) rfl) (by rw [getD_both hl]; simp), Below.touchN hx ht g1 (Nat.le_refl _)⟩
    · as_aux_lemma =>
        obtain ⟨u5, u19, u20, u21, u22, u23, u24, u25, u26, u27, rfl, F0, F1, F2, F3, F4, F5, F6, F7, F8, F9, F10, hx⟩ := hI
        refine wpOp_stepx ho rfl (fun K hK => ?_)
        unfold qs3A
        have hb1 : Below w'.heap.size w' (w'.alloc (.cells #[] 3)) := (Below.refl _ _).alloc (Nat.le_refl _) _
        go_simp
        exact hK _ _ ⟨_, _, _, _, _, _, _, _, _, _, rfl, fun hj hu => (let ⟨g, e, g1, g2⟩ := (F0 (by rwa [sgx (by decide)] at hj) (by rwa [sgx (by decide)] at hu)); ⟨g, e, g1, (hb1.block g (heap_lt g2)).trans g2⟩), fun hj => (by first | exact (F1 (by rwa [sgx (by decide)] at hj)) | rfl), fun hj => (by first | exact (F2 (by rwa [sgx (by decide)] at hj)) | rfl), fun hj => OwnR.below (F3 (by rwa [sgx (by decide)] at hj)) hb1 (fun k hk => (OwnR.lt (F3 (by rwa [sgx (by decide)] at hj)) k hk).2), fun _ _ => ⟨w'.heap.size, rfl, hx.size, alloc_here _ _⟩, fun hj => (by first | exact (F5 (by rwa [sgx (by decide)] at hj)) | rfl), fun hj => (by first | exact (F6 (by rwa [sgx (by decide)] at hj)) | rfl), fun hj => absurd (hcl 7 _ rfl (by rwa [sgx (by decide)] at hj) ⟨4, .data⟩ (by simp) rfl) (by rw [getD_both hl]; simp), fun hj => absurd (hcl 7 _ rfl (hcl 8 _ rfl (by rwa [sgx (by decide)] at hj) ⟨7, .data⟩ (by simp) rfl) ⟨4, .data⟩ (by simp) rfl) (by rw [getD_both hl]; simp), fun hj hu => (let ⟨g, e1, e2, e3⟩ := (F9 (by rwa [sgx (by decide)] at hj) (by rwa [sgx (by decide)] at hu)); ⟨g, e1, e2, e3.below hb1 e3.lt⟩), fun hj => absurd (hcl 10 _ rfl (by rwa [sgx (by decide)] at hj) ⟨4, .phase⟩ (by simp) rfl) (by rw [getD_both hl]; simp), hx.trans (hb1.mono hx.size)⟩
    · as_aux_lemma =>
        obtain ⟨u5, u19, u20, u21, u22, u23, u24, u25, u26, u27, rfl, F0, F1, F2, F3, F4, F5, F6, F7, F8, F9, F10, hx⟩ := hI
        refine wpOp_stepx ho rfl (fun K hK => ?_)
        unfold qs3A
        go_simp
        exact hK _ _ ⟨_, _, _, _, _, _, _, _, _, _, rfl, fun hj hu => (F0 (by rwa [sgx (by decide)] at hj) (by rwa [sgx (by decide)] at hu)), fun hj => (by first | exact (F1 (by rwa [sgx (by decide)] at hj)) | rfl), fun hj => (by first | exact (F2 (by rwa [sgx (by decide)] at hj)) | rfl), fun hj => (F3 (by rwa [sgx (by decide)] at hj)), fun hj hu => (F4 (by rwa [sgx (by decide)] at hj) (by rwa [sgx (by decide)] at hu)), fun _ => rfl, fun hj => (by first | exact (F6 (by rwa [sgx (by decide)] at hj)) | rfl), fun hj => (F7 (by rwa [sgx (by decide)] at hj)), fun hj => (F8 (by rwa [sgx (by decide)] at hj)), fun hj hu => (F9 (by rwa [sgx (by decide)] at hj) (by rwa [sgx (by decide)] at hu)), fun hj => (F10 (by rwa [sgx (by decide)] at hj)), hx⟩
    · as_aux_lemma =>
        obtain ⟨u5, u19, u20, u21, u22, u23, u24, u25, u26, u27, rfl, F0, F1, F2, F3, F4, F5, F6, F7, F8, F9, F10, hx⟩ := hI
        have l5 := he ⟨5, .data⟩ (by simp) rfl
        have e := F5 l5; subst e
        obtain ⟨⟨c0, c1, c2⟩, _⟩ := (hS.below hx hS.lt).three
        refine wpOp_stepx ho rfl (fun K hK => ?_)
        unfold qs3A
        go_simp
        exact hK _ _ ⟨_, _, _, _, _, _, _, _, _, _, rfl, fun hj hu => (F0 (by rwa [sgx (by decide)] at hj) (by rwa [sgx (by decide)] at hu)), fun hj => (by first | exact (F1 (by rwa [sgx (by decide)] at hj)) | rfl), fun hj => (by first | exact (F2 (by rwa [sgx (by decide)] at hj)) | rfl), fun hj => (F3 (by rwa [sgx (by decide)] at hj)), fun hj hu => (F4 (by rwa [sgx (by decide)] at hj) (by rwa [sgx (by decide)] at hu)), fun hj => (by first | exact (F5 (by rwa [sgx (by decide)] at hj)) | rfl), fun _ => rfl, fun hj => (F7 (by rwa [sgx (by decide)] at hj)), fun hj => (F8 (by rwa [sgx (by decide)] at hj)), fun hj hu => (F9 (by rwa [sgx (by decide)] at hj) (by rwa [sgx (by decide)] at hu)), fun hj => (F10 (by rwa [sgx (by decide)] at hj)), hx⟩
    · as_aux_lemma =>
        obtain ⟨u5, u19, u20, u21, u22, u23, u24, u25, u26, u27, rfl, F0, F1, F2, F3, F4, F5, F6, F7, F8, F9, F10, hx⟩ := hI
        have l4 := he ⟨4, .data⟩ (by simp) rfl
        have l6 := he ⟨6, .data⟩ (by simp) rfl
        obtain ⟨g, e, g1, hg⟩ := F4 l4 (getD_both hl); subst e
        have e := F6 l6; subst e
        refine wpOp_stepx ho rfl (fun K hK => ?_)
        unfold qs3A
        refine wp_catG elem_int rowI rowI_len rowI_one w' _ _ rfl g rfl hg _ lat w'.heap.size rfl ((hL.below hx).mono hx.size) (by omega) hl2 ?_
        intro v' w'' o1 ht hn
        exact hK _ _ ⟨_, _, _, _, _, _, _, _, _, _, rfl, fun hj hu => (let ⟨g2, e, h1, h2⟩ := (F0 (by rwa [sgx (by decide)] at hj) (by rwa [sgx (by decide)] at hu)); ⟨g2, e, h1, (ht.block g2 (heap_lt h2) (fun e2 => cells_ne h2 hg (by decide) e2)).trans h2⟩), fun hj => (by first | exact (F1 (by rwa [sgx (by decide)] at hj)) | rfl), fun hj => (by first | exact (F2 (by rwa [sgx (by decide)] at hj)) | rfl), fun hj => Owns.tchB (F3 (by rwa [sgx (by decide)] at hj)) ht (Owns.notB (F3 (by rwa [sgx (by decide)] at hj)) hg (by decide)), fun _ hu => absurd hu (by rw [sgix hl]; simp), fun hj => (by first | exact (F5 (by rwa [sgx (by decide)] at hj)) | rfl), fun hj => (by first | exact (F6 (by rwa [sgx (by decide)] at hj)) | rfl), fun _ => o1.rebase g1, fun hj => absurd (hcl 8 _ rfl (by rwa [sgx (by decide)] at hj) ⟨7, .data⟩ (by simp) rfl) (by rw [getD_both hl]; simp), fun hj hu => (let ⟨g2, e1, e2, e3⟩ := (F9 (by rwa [sgx (by decide)] at hj) (by rwa [sgx (by decide)] at hu)); ⟨g2, e1, e2, e3.keep (ht.block g2 e3.lt (fun e4 => cells_ne e3 hg (by decide) e4))⟩), fun hj => absurd (hcl 10 _ rfl (by rwa [sgx (by decide)] at hj) ⟨7, .chain⟩ (by simp) rfl) (by rw [getD_both hl]; simp), Below.touchN hx ht g1 (Nat.le_refl _)⟩
    · as_aux_lemma =>
        obtain ⟨u5, u19, u20, u21, u22, u23, u24, u25, u26, u27, rfl, F0, F1, F2, F3, F4, F5, F6, F7, F8, F9, F10, hx⟩ := hI
        have l3 := he ⟨3, .data⟩ (by simp) rfl
        have l7 := he ⟨7, .data⟩ (by simp) rfl
        have oa := F3 l3
        have ob := F7 l7
        obtain ⟨y1, y2, e1, _, _⟩ := oa.shape
        obtain ⟨z1, z2, e2, _, _⟩ := ob.shape
        subst e1 e2
        refine wpOp_stepx ho rfl (fun K hK => ?_)
        unfold qs3A
        go_simp
        exact hK _ _ ⟨_, _, _, _, _, _, _, _, _, _, rfl, fun hj hu => (F0 (by rwa [sgx (by decide)] at hj) (by rwa [sgx (by decide)] at hu)), fun hj => (by first | exact (F1 (by rwa [sgx (by decide)] at hj)) | rfl), fun hj => (by first | exact (F2 (by rwa [sgx (by decide)] at hj)) | rfl), fun hj => oa, fun hj hu => (F4 (by rwa [sgx (by decide)] at hj) (by rwa [sgx (by decide)] at hu)), fun hj => (by first | exact (F5 (by rwa [sgx (by decide)] at hj)) | rfl), fun hj => (by first | exact (F6 (by rwa [sgx (by decide)] at hj)) | rfl), fun hj => ob, fun _ => rfl, fun hj hu => (F9 (by rwa [sgx (by decide)] at hj) (by rwa [sgx (by decide)] at hu)), fun hj => (F10 (by rwa [sgx (by decide)] at hj)), hx⟩
    · as_aux_lemma =>
        obtain ⟨u5, u19, u20, u21, u22, u23, u24, u25, u26, u27, rfl, F0, F1, F2, F3, F4, F5, F6, F7, F8, F9, F10, hx⟩ := hI
        refine wpOp_stepx ho rfl (fun K hK => ?_)
        unfold qs3A
        have hb1 : Below w'.heap.size w' (w'.alloc (.cells #[.slice none 0 0, .slice none 0 0, .slice none 0 0] 27)) := (Below.refl _ _).alloc (Nat.le_refl _) _
        go_simp
        exact hK _ _ ⟨_, _, _, _, _, _, _, _, _, _, rfl, fun hj hu => (let ⟨g, e, g1, g2⟩ := (F0 (by rwa [sgx (by decide)] at hj) (by rwa [sgx (by decide)] at hu)); ⟨g, e, g1, (hb1.block g (heap_lt g2)).trans g2⟩), fun hj => (by first | exact (F1 (by rwa [sgx (by decide)] at hj)) | rfl), fun hj => (by first | exact (F2 (by rwa [sgx (by decide)] at hj)) | rfl), fun hj => OwnR.below (F3 (by rwa [sgx (by decide)] at hj)) hb1 (fun k hk => (OwnR.lt (F3 (by rwa [sgx (by decide)] at hj)) k hk).2), fun hj hu => (let ⟨g, e, g1, g2⟩ := (F4 (by rwa [sgx (by decide)] at hj) (by rwa [sgx (by decide)] at hu)); ⟨g, e, g1, (hb1.block g (heap_lt g2)).trans g2⟩), fun hj => (by first | exact (F5 (by rwa [sgx (by decide)] at hj)) | rfl), fun hj => (by first | exact (F6 (by rwa [sgx (by decide)] at hj)) | rfl), fun hj => OwnR.below (F7 (by rwa [sgx (by decide)] at hj)) hb1 (fun k hk => (OwnR.lt (F7 (by rwa [sgx (by decide)] at hj)) k hk).2), fun hj => (F8 (by rwa [sgx (by decide)] at hj)), fun _ _ => ⟨_, rfl, hx.size, BoxB.new _ _ _ _⟩, fun hj => absurd (hcl 10 _ rfl (by rwa [sgx (by decide)] at hj) ⟨9, .data⟩ (by simp) rfl) (by rw [getD_both hl]; simp), hx.trans (hb1.mono hx.size)⟩
    · as_aux_lemma =>
        obtain ⟨u5, u19, u20, u21, u22, u23, u24, u25, u26, u27, rfl, F0, F1, F2, F3, F4, F5, F6, F7, F8, F9, F10, hx⟩ := hI
        have l9 := he ⟨9, .data⟩ (by simp) rfl
        have l8 := he ⟨8, .data⟩ (by simp) rfl
        obtain ⟨g, rfl, g1, hB⟩ := F9 l9 (getD_both hl)
        have e8 := F8 l8
        have oa := F3 (hcl 8 _ rfl l8 ⟨3, .data⟩ (by simp) rfl)
        have ob := F7 (hcl 8 _ rfl l8 ⟨7, .data⟩ (by simp) rfl)
        obtain ⟨y1, y2, e1, _, _⟩ := oa.shape
        obtain ⟨z1, z2, e2, _, _⟩ := ob.shape
        subst e1 e2 e8
        obtain ⟨⟨k0, k1, k2⟩, m0, m1, m2⟩ := hB.bx.three
        refine wpOp_stepx ho rfl (fun K hK => ?_)
        unfold qs3A
        have ht := touchB g w' (.slice y1 ms.length y2) (.slice z1 lat.length z2) vnil
        go_simp
        exact hK _ _ ⟨_, _, _, _, _, _, _, _, _, _, rfl, fun hj hu => absurd (hcl 8 _ rfl l8 ⟨3, .data⟩ (by simp) rfl) (by rw [sgx (by decide)] at hu; rw [hu]; simp), fun hj => (by first | exact (F1 (by rwa [sgx (by decide)] at hj)) | rfl), fun hj => (by first | exact (F2 (by rwa [sgx (by decide)] at hj)) | rfl), fun hj => oa.boxB hB (by decide) ht, fun hj hu => absurd (hcl 8 _ rfl l8 ⟨7, .data⟩ (by simp) rfl) (by rw [sgx (by decide)] at hu; rw [hu]; simp), fun hj => (by first | exact (F5 (by rwa [sgx (by decide)] at hj)) | rfl), fun hj => (by first | exact (F6 (by rwa [sgx (by decide)] at hj)) | rfl), fun hj => ob.boxB hB (by decide) ht, fun hj => rfl, fun _ hu => absurd hu (by rw [sgix hl]; simp), fun _ => ⟨g, rfl, g1, hB.put _ _ _⟩, Below.touchN hx ht g1 (Nat.le_refl _)⟩
  · intro listed a w' hI hd
    obtain ⟨u5, u19, u20, u21, u22, u23, u24, u25, u26, u27, rfl, F0, F1, F2, F3, F4, F5, F6, F7, F8, F9, F10, hx⟩ := hI
    obtain ⟨g, h3, g1, hB⟩ := F10 (hd 10 (by show 10 < 11; omega))
    have oa := F3 (hd 3 (by show 3 < 11; omega))
    have ob := F7 (hd 7 (by show 7 < 11; omega))
    exact hK _ _ _ _ _ _ _ _ _ _ w' ⟨g, _, _, h3, g1, hB, oa, ob, hx⟩

end Go.Proofs.Yteamebdehembgaa
