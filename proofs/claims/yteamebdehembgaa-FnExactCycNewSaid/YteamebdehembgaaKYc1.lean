/-
  CycState.copyOf: its drawn region 1 (printed by wip/gen_yc.py).
-/
import Derived.Test.YteamebdehembgaaJY4
import Derived.Test.YteamebdehembgaaJAdr
set_option linter.unusedVariables false
set_option linter.unusedSimpArgs false
namespace Go.Proofs.Yteamebdehembgaa
open Go.RowKit
attribute [local go_sem ↓] Go.wp_at_zero Go.wp_at_succ

def y1cA (i0 i2 i4 i5 i6 i7 i21 i22 i23 i24 i25 i26 i27 i28 i29 i30 i31 i32 i33 i34 i35 i36 i37 i38 i39 i40 i41 i42 i43 i44 i45 i46 i47 i48 i49 i50 i51 i52 i53 i54 i55 i56 i57 i58 i59 i60 i61 i62 i63 i64 i65 i66 i67 i68 i69 i70 i71 : Value) (gS : Nat) (u3 u8 u9 u10 u11 u12 u13 u14 u15 u16 u17 u18 u19 u20 : Value) : Act := { tmps := #[i0, .pointer (some ⟨gS, 0, none⟩), i2, u3, i4, i5, i6, i7, u8, u9, u10, u11, u12, u13, u14, u15, u16, u17, u18, u19, u20, i21, i22, i23, i24, i25, i26, i27, i28, i29, i30, i31, i32, i33, i34, i35, i36, i37, i38, i39, i40, i41, i42, i43, i44, i45, i46, i47, i48, i49, i50, i51, i52, i53, i54, i55, i56, i57, i58, i59, i60, i61, i62, i63, i64, i65, i66, i67, i68, i69, i70, i71], defers := [] }
def y1cI (i0 i2 i4 i5 i6 i7 i21 i22 i23 i24 i25 i26 i27 i28 i29 i30 i31 i32 i33 i34 i35 i36 i37 i38 i39 i40 i41 i42 i43 i44 i45 i46 i47 i48 i49 i50 i51 i52 i53 i54 i55 i56 i57 i58 i59 i60 i61 i62 i63 i64 i65 i66 i67 i68 i69 i70 i71 : Value) (gS : Nat) (va : Value) (vb : Value) (vp : Value) (vs : Value) (xs : List Int) (ys : List Int) (ps : List (Int × Int)) (ss : List Int) (wq : World) (listed : Array Bool) (a : Act) (w' : World) : Prop :=
  ∃ u3 u8 u9 u10 u11 u12 u13 u14 u15 u16 u17 u18 u19 u20 : Value, a = y1cA i0 i2 i4 i5 i6 i7 i21 i22 i23 i24 i25 i26 i27 i28 i29 i30 i31 i32 i33 i34 i35 i36 i37 i38 i39 i40 i41 i42 i43 i44 i45 i46 i47 i48 i49 i50 i51 i52 i53 i54 i55 i56 i57 i58 i59 i60 i61 i62 i63 i64 i65 i66 i67 i68 i69 i70 i71 gS u3 u8 u9 u10 u11 u12 u13 u14 u15 u16 u17 u18 u19 u20 ∧
      (listed.getD 0 false = true → u8 = .pointer (some ⟨gS, 0, none⟩)) ∧
      (listed.getD 1 false = true → u9 = .agg #[va, vb]) ∧
      (listed.getD 2 false = true → ∃ qa qb, u10 = .agg #[qa, qb] ∧ Owns w' wq.heap.size 3 1 rowI qa xs ∧ Owns w' wq.heap.size 3 1 rowI qb ys ∧ Apart qa qb) ∧
      (listed.getD 3 false = true → u11 = .pointer (some ⟨gS, 2, none⟩)) ∧
      (listed.getD 4 false = true → u12 = vp) ∧
      (listed.getD 5 false = true → Owns w' wq.heap.size 116 4 rowP u13 ps ∧ ∃ qa qb, u10 = .agg #[qa, qb] ∧ Apart qa u13 ∧ Apart qb u13) ∧
      (listed.getD 6 false = true → u14 = .pointer (some ⟨gS, 3, none⟩)) ∧
      (listed.getD 7 false = true → u15 = vs) ∧
      (listed.getD 8 false = true → Owns w' wq.heap.size 118 3 rowS u16 ss ∧ Apart u13 u16 ∧ ∃ qa qb, u10 = .agg #[qa, qb] ∧ Apart qa u16 ∧ Apart qb u16) ∧
      (listed.getD 9 false = true → u17 = .pointer (some ⟨gS, 4, none⟩)) ∧
      (listed.getD 10 false = true → u18 = vnil) ∧
      (listed.getD 11 false = true → u19 = vnil) ∧
      (listed.getD 12 false = true → ∃ qa qb, u10 = .agg #[qa, qb] ∧ u20 = .agg #[qa, qb, u13, u16, vnil]) ∧
      (listed.getD 13 false = true → listed.getD 14 false = false → ∃ g, u3 = .pointer (some ⟨g, 0, none⟩) ∧ wq.heap.size ≤ g ∧ BoxC w' g vnil vnil vnil vnil vnil) ∧
      (listed.getD 14 false = true → ∃ g qa qb, u3 = .pointer (some ⟨g, 0, none⟩) ∧ wq.heap.size ≤ g ∧ u10 = .agg #[qa, qb] ∧ BoxC w' g qa qb u13 u16 vnil) ∧
      Below wq.heap.size wq w'
noncomputable def y1cCode : Code := (Try.f78.body.bind (regIn2 1)).getD .skip
/-- Behind the region: the copy lies in a new box. -/
def YcP (u : Value) (xs ys : List Int) (ps : List (Int × Int)) (ss : List Int) (wq w' : World) : Prop :=
  ∃ g a b p s, u = .pointer (some ⟨g, 0, none⟩) ∧ wq.heap.size ≤ g ∧ BoxC w' g a b p s vnil ∧ CyO w' wq.heap.size a b p s xs ys ps ss ∧ Below wq.heap.size wq w'

set_option maxRecDepth 100000 in
set_option maxHeartbeats 16000000 in
theorem y1c_region (i0 i2 i4 i5 i6 i7 i21 i22 i23 i24 i25 i26 i27 i28 i29 i30 i31 i32 i33 i34 i35 i36 i37 i38 i39 i40 i41 i42 i43 i44 i45 i46 i47 i48 i49 i50 i51 i52 i53 i54 i55 i56 i57 i58 i59 i60 i61 i62 i63 i64 i65 i66 i67 i68 i69 i70 i71 j3 j8 j9 j10 j11 j12 j13 j14 j15 j16 j17 j18 j19 j20 : Value) (gS : Nat) (va : Value) (vb : Value) (vp : Value) (vs : Value) (xs : List Int) (ys : List Int) (ps : List (Int × Int)) (ss : List Int) (wq : World)
    (hS : Bx wq gS [va, vb, vp, vs, vnil]) (hA : AtmV wq wq.heap.size (.agg #[va, vb]) xs ys) (hP : Arr wq wq.heap.size 4 vp (ps.map rowP)) (hT : Arr wq wq.heap.size 3 vs (ss.map rowS)) (hl1 : xs.length ≤ 1048576) (hl2 : ys.length ≤ 1048576) (hl3 : ps.length ≤ 1048576) (hl4 : ss.length ≤ 1048576)
    {Q : Exit → Act → World → Prop}
    (hK : ∀ (u3 u8 u9 u10 u11 u12 u13 u14 u15 u16 u17 u18 u19 u20 : Value) w', YcP u3 xs ys ps ss wq w' → Q .normal (y1cA i0 i2 i4 i5 i6 i7 i21 i22 i23 i24 i25 i26 i27 i28 i29 i30 i31 i32 i33 i34 i35 i36 i37 i38 i39 i40 i41 i42 i43 i44 i45 i46 i47 i48 i49 i50 i51 i52 i53 i54 i55 i56 i57 i58 i59 i60 i61 i62 i63 i64 i65 i66 i67 i68 i69 i70 i71 gS u3 u8 u9 u10 u11 u12 u13 u14 u15 u16 u17 u18 u19 u20) w') : y1cCode.wp Try.prog Q (y1cA i0 i2 i4 i5 i6 i7 i21 i22 i23 i24 i25 i26 i27 i28 i29 i30 i31 i32 i33 i34 i35 i36 i37 i38 i39 i40 i41 i42 i43 i44 i45 i46 i47 i48 i49 i50 i51 i52 i53 i54 i55 i56 i57 i58 i59 i60 i61 i62 i63 i64 i65 i66 i67 i68 i69 i70 i71 gS j3 j8 j9 j10 j11 j12 j13 j14 j15 j16 j17 j18 j19 j20) wq := by
  conv => arg 2; whnf
  refine wp_region_inv2 (y1cI i0 i2 i4 i5 i6 i7 i21 i22 i23 i24 i25 i26 i27 i28 i29 i30 i31 i32 i33 i34 i35 i36 i37 i38 i39 i40 i41 i42 i43 i44 i45 i46 i47 i48 i49 i50 i51 i52 i53 i54 i55 i56 i57 i58 i59 i60 i61 i62 i63 i64 i65 i66 i67 i68 i69 i70 i71 gS va vb vp vs xs ys ps ss wq) (by kernel_rfl) (by kernel_rfl) ?_ ?_ ?_
  · exact ⟨_, _, _, _, _, _, _, _, _, _, _, _, _, _, rfl, (fun h => absurd h (by rw [getD_replicate_false]; simp)), (fun h => absurd h (by rw [getD_replicate_false]; simp)), (fun h => absurd h (by rw [getD_replicate_false]; simp)), (fun h => absurd h (by rw [getD_replicate_false]; simp)), (fun h => absurd h (by rw [getD_replicate_false]; simp)), (fun h => absurd h (by rw [getD_replicate_false]; simp)), (fun h => absurd h (by rw [getD_replicate_false]; simp)), (fun h => absurd h (by rw [getD_replicate_false]; simp)), (fun h => absurd h (by rw [getD_replicate_false]; simp)), (fun h => absurd h (by rw [getD_replicate_false]; simp)), (fun h => absurd h (by rw [getD_replicate_false]; simp)), (fun h => absurd h (by rw [getD_replicate_false]; simp)), (fun h => absurd h (by rw [getD_replicate_false]; simp)), (fun h _ => absurd h (by rw [getD_replicate_false]; simp)), (fun h => absurd h (by rw [getD_replicate_false]; simp)), (Below.refl _ _).drew⟩
  · intro listed a w' i o hI hsz ho hl he hcl
    have hi : i < 15 := (Array.getElem?_eq_some_iff.1 ho).1
    have e : i = 0 ∨ i = 1 ∨ i = 2 ∨ i = 3 ∨ i = 4 ∨ i = 5 ∨ i = 6 ∨ i = 7 ∨ i = 8 ∨ i = 9 ∨ i = 10 ∨ i = 11 ∨ i = 12 ∨ i = 13 ∨ i = 14 := by omega
    clear hi
    rcases e with rfl | rfl | rfl | rfl | rfl | rfl | rfl | rfl | rfl | rfl | rfl | rfl | rfl | rfl | rfl
    all_goals (have ho2 := ho; obtain rfl := Option.some.inj ho2.symm; clear ho2)
    · as_aux_lemma =>
        obtain ⟨u3, u8, u9, u10, u11, u12, u13, u14, u15, u16, u17, u18, u19, u20, rfl, F0, F1, F2, F3, F4, F5, F6, F7, F8, F9, F10, F11, F12, F13, F14, hx⟩ := hI
        refine wpOp_stepx ho rfl (fun K hK => ?_)
        unfold y1cA
        go_simp
        exact hK _ _ ⟨_, _, _, _, _, _, _, _, _, _, _, _, _, _, rfl, fun _ => rfl, fun hj => (by first | exact (F1 (by rwa [sgx (by decide)] at hj)) | rfl), fun hj => (F2 (by rwa [sgx (by decide)] at hj)), fun hj => (by first | exact (F3 (by rwa [sgx (by decide)] at hj)) | rfl), fun hj => (by first | exact (F4 (by rwa [sgx (by decide)] at hj)) | rfl), fun hj => (F5 (by rwa [sgx (by decide)] at hj)), fun hj => (by first | exact (F6 (by rwa [sgx (by decide)] at hj)) | rfl), fun hj => (by first | exact (F7 (by rwa [sgx (by decide)] at hj)) | rfl), fun hj => (F8 (by rwa [sgx (by decide)] at hj)), fun hj => (by first | exact (F9 (by rwa [sgx (by decide)] at hj)) | rfl), fun hj => (by first | exact (F10 (by rwa [sgx (by decide)] at hj)) | rfl), fun hj => (by first | exact (F11 (by rwa [sgx (by decide)] at hj)) | rfl), fun hj => (F12 (by rwa [sgx (by decide)] at hj)), fun hj hu => (F13 (by rwa [sgx (by decide)] at hj) (by rwa [sgx (by decide)] at hu)), fun hj => (F14 (by rwa [sgx (by decide)] at hj)), hx⟩
    · as_aux_lemma =>
        obtain ⟨u3, u8, u9, u10, u11, u12, u13, u14, u15, u16, u17, u18, u19, u20, rfl, F0, F1, F2, F3, F4, F5, F6, F7, F8, F9, F10, F11, F12, F13, F14, hx⟩ := hI
        have l0 := he ⟨0, .data⟩ (by simp) rfl
        have e := F0 l0; subst e
        obtain ⟨⟨c0, c1, c2, c3, c4⟩, _⟩ := (hS.below hx hS.lt).five
        refine wpOp_stepx ho rfl (fun K hK => ?_)
        unfold y1cA
        go_simp
        exact hK _ _ ⟨_, _, _, _, _, _, _, _, _, _, _, _, _, _, rfl, fun hj => (by first | exact (F0 (by rwa [sgx (by decide)] at hj)) | rfl), fun _ => rfl, fun hj => (F2 (by rwa [sgx (by decide)] at hj)), fun hj => (by first | exact (F3 (by rwa [sgx (by decide)] at hj)) | rfl), fun hj => (by first | exact (F4 (by rwa [sgx (by decide)] at hj)) | rfl), fun hj => (F5 (by rwa [sgx (by decide)] at hj)), fun hj => (by first | exact (F6 (by rwa [sgx (by decide)] at hj)) | rfl), fun hj => (by first | exact (F7 (by rwa [sgx (by decide)] at hj)) | rfl), fun hj => (F8 (by rwa [sgx (by decide)] at hj)), fun hj => (by first | exact (F9 (by rwa [sgx (by decide)] at hj)) | rfl), fun hj => (by first | exact (F10 (by rwa [sgx (by decide)] at hj)) | rfl), fun hj => (by first | exact (F11 (by rwa [sgx (by decide)] at hj)) | rfl), fun hj => (F12 (by rwa [sgx (by decide)] at hj)), fun hj hu => (F13 (by rwa [sgx (by decide)] at hj) (by rwa [sgx (by decide)] at hu)), fun hj => (F14 (by rwa [sgx (by decide)] at hj)), hx⟩
    · as_aux_lemma =>
        obtain ⟨u3, u8, u9, u10, u11, u12, u13, u14, u15, u16, u17, u18, u19, u20, rfl, F0, F1, F2, F3, F4, F5, F6, F7, F8, F9, F10, F11, F12, F13, F14, hx⟩ := hI
        have l1 := he ⟨1, .data⟩ (by simp) rfl
        have e := F1 l1; subst e
        refine wpOp_stepx ho rfl (fun K hK => ?_)
        unfold y1cA
        go_simp
        (with_reducible refine (atmCopy_any _ xs ys w'.heap.size w' ((hA.below hx).mono hx.size) (Nat.le_refl _) hl1 hl2).mono ?_)
        rintro e w'' ⟨qa, qb, rfl, o1, o2, ap, hb1⟩
        go_wp2_with fail
        exact ⟨_, _, _, _, _, _, _, _, _, _, _, _, _, _, rfl, fun hj => (by first | exact (F0 (by rwa [sgx (by decide)] at hj)) | rfl), fun hj => (by first | exact (F1 (by rwa [sgx (by decide)] at hj)) | rfl), fun _ => ⟨qa, qb, rfl, o1.rebase hx.size, o2.rebase hx.size, ap⟩, fun hj => (by first | exact (F3 (by rwa [sgx (by decide)] at hj)) | rfl), fun hj => (by first | exact (F4 (by rwa [sgx (by decide)] at hj)) | rfl), fun hj => absurd (hcl 5 _ rfl (by rwa [sgx (by decide)] at hj) ⟨2, .chain⟩ (by simp) rfl) (by rw [getD_both hl]; simp), fun hj => (by first | exact (F6 (by rwa [sgx (by decide)] at hj)) | rfl), fun hj => (by first | exact (F7 (by rwa [sgx (by decide)] at hj)) | rfl), fun hj => absurd (hcl 5 _ rfl (hcl 8 _ rfl (by rwa [sgx (by decide)] at hj) ⟨5, .chain⟩ (by simp) rfl) ⟨2, .chain⟩ (by simp) rfl) (by rw [getD_both hl]; simp), fun hj => (by first | exact (F9 (by rwa [sgx (by decide)] at hj)) | rfl), fun hj => (by first | exact (F10 (by rwa [sgx (by decide)] at hj)) | rfl), fun hj => (by first | exact (F11 (by rwa [sgx (by decide)] at hj)) | rfl), fun hj => absurd (hcl 12 _ rfl (by rwa [sgx (by decide)] at hj) ⟨2, .data⟩ (by simp) rfl) (by rw [getD_both hl]; simp), fun hj hu => (let ⟨g, e1, e2, e3⟩ := (F13 (by rwa [sgx (by decide)] at hj) (by rwa [sgx (by decide)] at hu)); ⟨g, e1, e2, e3.below hb1 e3.lt⟩), fun hj => absurd (hcl 14 _ rfl (by rwa [sgx (by decide)] at hj) ⟨2, .phase⟩ (by simp) rfl) (by rw [getD_both hl]; simp), hx.trans (hb1.mono hx.size)⟩
    · as_aux_lemma =>
        obtain ⟨u3, u8, u9, u10, u11, u12, u13, u14, u15, u16, u17, u18, u19, u20, rfl, F0, F1, F2, F3, F4, F5, F6, F7, F8, F9, F10, F11, F12, F13, F14, hx⟩ := hI
        refine wpOp_stepx ho rfl (fun K hK => ?_)
        unfold y1cA
        go_simp
        exact hK _ _ ⟨_, _, _, _, _, _, _, _, _, _, _, _, _, _, rfl, fun hj => (by first | exact (F0 (by rwa [sgx (by decide)] at hj)) | rfl), fun hj => (by first | exact (F1 (by rwa [sgx (by decide)] at hj)) | rfl), fun hj => (F2 (by rwa [sgx (by decide)] at hj)), fun _ => rfl, fun hj => (by first | exact (F4 (by rwa [sgx (by decide)] at hj)) | rfl), fun hj => (F5 (by rwa [sgx (by decide)] at hj)), fun hj => (by first | exact (F6 (by rwa [sgx (by decide)] at hj)) | rfl), fun hj => (by first | exact (F7 (by rwa [sgx (by decide)] at hj)) | rfl), fun hj => (F8 (by rwa [sgx (by decide)] at hj)), fun hj => (by first | exact (F9 (by rwa [sgx (by decide)] at hj)) | rfl), fun hj => (by first | exact (F10 (by rwa [sgx (by decide)] at hj)) | rfl), fun hj => (by first | exact (F11 (by rwa [sgx (by decide)] at hj)) | rfl), fun hj => (F12 (by rwa [sgx (by decide)] at hj)), fun hj hu => (F13 (by rwa [sgx (by decide)] at hj) (by rwa [sgx (by decide)] at hu)), fun hj => (F14 (by rwa [sgx (by decide)] at hj)), hx⟩
    · as_aux_lemma =>
        obtain ⟨u3, u8, u9, u10, u11, u12, u13, u14, u15, u16, u17, u18, u19, u20, rfl, F0, F1, F2, F3, F4, F5, F6, F7, F8, F9, F10, F11, F12, F13, F14, hx⟩ := hI
        have l3 := he ⟨3, .data⟩ (by simp) rfl
        have e := F3 l3; subst e
        obtain ⟨⟨c0, c1, c2, c3, c4⟩, _⟩ := (hS.below hx hS.lt).five
        refine wpOp_stepx ho rfl (fun K hK => ?_)
        unfold y1cA
        go_simp
        exact hK _ _ ⟨_, _, _, _, _, _, _, _, _, _, _, _, _, _, rfl, fun hj => (by first | exact (F0 (by rwa [sgx (by decide)] at hj)) | rfl), fun hj => (by first | exact (F1 (by rwa [sgx (by decide)] at hj)) | rfl), fun hj => (F2 (by rwa [sgx (by decide)] at hj)), fun hj => (by first | exact (F3 (by rwa [sgx (by decide)] at hj)) | rfl), fun _ => rfl, fun hj => (F5 (by rwa [sgx (by decide)] at hj)), fun hj => (by first | exact (F6 (by rwa [sgx (by decide)] at hj)) | rfl), fun hj => (by first | exact (F7 (by rwa [sgx (by decide)] at hj)) | rfl), fun hj => (F8 (by rwa [sgx (by decide)] at hj)), fun hj => (by first | exact (F9 (by rwa [sgx (by decide)] at hj)) | rfl), fun hj => (by first | exact (F10 (by rwa [sgx (by decide)] at hj)) | rfl), fun hj => (by first | exact (F11 (by rwa [sgx (by decide)] at hj)) | rfl), fun hj => (F12 (by rwa [sgx (by decide)] at hj)), fun hj hu => (F13 (by rwa [sgx (by decide)] at hj) (by rwa [sgx (by decide)] at hu)), fun hj => (F14 (by rwa [sgx (by decide)] at hj)), hx⟩
    · as_aux_lemma =>
        obtain ⟨u3, u8, u9, u10, u11, u12, u13, u14, u15, u16, u17, u18, u19, u20, rfl, F0, F1, F2, F3, F4, F5, F6, F7, F8, F9, F10, F11, F12, F13, F14, hx⟩ := hI
        have l4 := he ⟨4, .data⟩ (by simp) rfl
        have l2 := he ⟨2, .chain⟩ (by simp) rfl
        have e := F4 l4; subst e
        obtain ⟨qa, qb, hq, oa, ob, ap⟩ := F2 l2
        have HQ := hid hq
        clear hq
        refine wpOp_stepx ho rfl (fun K hK => ?_)
        unfold y1cA
        go_simp
        (with_reducible refine (clone_CycPort rowP rowP_len rowP_one _ ps w'.heap.size w' ((hP.below hx).mono hx.size) (by omega)).mono ?_)
        rintro e w'' ⟨q, rfl, o1, hb1⟩
        go_wp2_with fail
        exact ⟨_, _, _, _, _, _, _, _, _, _, _, _, _, _, rfl, fun hj => (by first | exact (F0 (by rwa [sgx (by decide)] at hj)) | rfl), fun hj => (by first | exact (F1 (by rwa [sgx (by decide)] at hj)) | rfl), fun hj => (let ⟨qa, qb, e, o1, o2, ap⟩ := (F2 (by rwa [sgx (by decide)] at hj)); ⟨qa, qb, e, OwnR.below o1 hb1 (fun k hk => (OwnR.lt o1 k hk).2), OwnR.below o2 hb1 (fun k hk => (OwnR.lt o2 k hk).2), ap⟩), fun hj => (by first | exact (F3 (by rwa [sgx (by decide)] at hj)) | rfl), fun hj => (by first | exact (F4 (by rwa [sgx (by decide)] at hj)) | rfl), fun _ => ⟨o1.rebase hx.size, qa, qb, HQ.out, apart_of oa o1, apart_of ob o1⟩, fun hj => (by first | exact (F6 (by rwa [sgx (by decide)] at hj)) | rfl), fun hj => (by first | exact (F7 (by rwa [sgx (by decide)] at hj)) | rfl), fun hj => absurd (hcl 8 _ rfl (by rwa [sgx (by decide)] at hj) ⟨5, .chain⟩ (by simp) rfl) (by rw [getD_both hl]; simp), fun hj => (by first | exact (F9 (by rwa [sgx (by decide)] at hj)) | rfl), fun hj => (by first | exact (F10 (by rwa [sgx (by decide)] at hj)) | rfl), fun hj => (by first | exact (F11 (by rwa [sgx (by decide)] at hj)) | rfl), fun hj => absurd (hcl 12 _ rfl (by rwa [sgx (by decide)] at hj) ⟨5, .data⟩ (by simp) rfl) (by rw [getD_both hl]; simp), fun hj hu => (let ⟨g, e1, e2, e3⟩ := (F13 (by rwa [sgx (by decide)] at hj) (by rwa [sgx (by decide)] at hu)); ⟨g, e1, e2, e3.below hb1 e3.lt⟩), fun hj => absurd (hcl 14 _ rfl (by rwa [sgx (by decide)] at hj) ⟨5, .phase⟩ (by simp) rfl) (by rw [getD_both hl]; simp), hx.trans (hb1.mono hx.size)⟩
    · as_aux_lemma =>
        obtain ⟨u3, u8, u9, u10, u11, u12, u13, u14, u15, u16, u17, u18, u19, u20, rfl, F0, F1, F2, F3, F4, F5, F6, F7, F8, F9, F10, F11, F12, F13, F14, hx⟩ := hI
        refine wpOp_stepx ho rfl (fun K hK => ?_)
        unfold y1cA
        go_simp
        exact hK _ _ ⟨_, _, _, _, _, _, _, _, _, _, _, _, _, _, rfl, fun hj => (by first | exact (F0 (by rwa [sgx (by decide)] at hj)) | rfl), fun hj => (by first | exact (F1 (by rwa [sgx (by decide)] at hj)) | rfl), fun hj => (F2 (by rwa [sgx (by decide)] at hj)), fun hj => (by first | exact (F3 (by rwa [sgx (by decide)] at hj)) | rfl), fun hj => (by first | exact (F4 (by rwa [sgx (by decide)] at hj)) | rfl), fun hj => (F5 (by rwa [sgx (by decide)] at hj)), fun _ => rfl, fun hj => (by first | exact (F7 (by rwa [sgx (by decide)] at hj)) | rfl), fun hj => (F8 (by rwa [sgx (by decide)] at hj)), fun hj => (by first | exact (F9 (by rwa [sgx (by decide)] at hj)) | rfl), fun hj => (by first | exact (F10 (by rwa [sgx (by decide)] at hj)) | rfl), fun hj => (by first | exact (F11 (by rwa [sgx (by decide)] at hj)) | rfl), fun hj => (F12 (by rwa [sgx (by decide)] at hj)), fun hj hu => (F13 (by rwa [sgx (by decide)] at hj) (by rwa [sgx (by decide)] at hu)), fun hj => (F14 (by rwa [sgx (by decide)] at hj)), hx⟩
    · as_aux_lemma =>
        obtain ⟨u3, u8, u9, u10, u11, u12, u13, u14, u15, u16, u17, u18, u19, u20, rfl, F0, F1, F2, F3, F4, F5, F6, F7, F8, F9, F10, F11, F12, F13, F14, hx⟩ := hI
        have l6 := he ⟨6, .data⟩ (by simp) rfl
        have e := F6 l6; subst e
        obtain ⟨⟨c0, c1, c2, c3, c4⟩, _⟩ := (hS.below hx hS.lt).five
        refine wpOp_stepx ho rfl (fun K hK => ?_)
        unfold y1cA
        go_simp
        exact hK _ _ ⟨_, _, _, _, _, _, _, _, _, _, _, _, _, _, rfl, fun hj => (by first | exact (F0 (by rwa [sgx (by decide)] at hj)) | rfl), fun hj => (by first | exact (F1 (by rwa [sgx (by decide)] at hj)) | rfl), fun hj => (F2 (by rwa [sgx (by decide)] at hj)), fun hj => (by first | exact (F3 (by rwa [sgx (by decide)] at hj)) | rfl), fun hj => (by first | exact (F4 (by rwa [sgx (by decide)] at hj)) | rfl), fun hj => (F5 (by rwa [sgx (by decide)] at hj)), fun hj => (by first | exact (F6 (by rwa [sgx (by decide)] at hj)) | rfl), fun _ => rfl, fun hj => (F8 (by rwa [sgx (by decide)] at hj)), fun hj => (by first | exact (F9 (by rwa [sgx (by decide)] at hj)) | rfl), fun hj => (by first | exact (F10 (by rwa [sgx (by decide)] at hj)) | rfl), fun hj => (by first | exact (F11 (by rwa [sgx (by decide)] at hj)) | rfl), fun hj => (F12 (by rwa [sgx (by decide)] at hj)), fun hj hu => (F13 (by rwa [sgx (by decide)] at hj) (by rwa [sgx (by decide)] at hu)), fun hj => (F14 (by rwa [sgx (by decide)] at hj)), hx⟩
    · as_aux_lemma =>
        obtain ⟨u3, u8, u9, u10, u11, u12, u13, u14, u15, u16, u17, u18, u19, u20, rfl, F0, F1, F2, F3, F4, F5, F6, F7, F8, F9, F10, F11, F12, F13, F14, hx⟩ := hI
        have l7 := he ⟨7, .data⟩ (by simp) rfl
        have l5 := he ⟨5, .chain⟩ (by simp) rfl
        have e := F7 l7; subst e
        obtain ⟨op, qa, qb, hq, a1, a2⟩ := F5 l5
        obtain ⟨qa2, qb2, hq2, oa, ob, _⟩ := F2 (hcl 5 _ rfl l5 ⟨2, .chain⟩ (by simp) rfl)
        have HQ2 := hid hq2
        clear hq hq2
        refine wpOp_stepx ho rfl (fun K hK => ?_)
        unfold y1cA
        go_simp
        (with_reducible refine (clone_CycSlave rowS rowS_len rowS_one _ ss w'.heap.size w' ((hT.below hx).mono hx.size) (by omega)).mono ?_)
        rintro e w'' ⟨q, rfl, o1, hb1⟩
        go_wp2_with fail
        exact ⟨_, _, _, _, _, _, _, _, _, _, _, _, _, _, rfl, fun hj => (by first | exact (F0 (by rwa [sgx (by decide)] at hj)) | rfl), fun hj => (by first | exact (F1 (by rwa [sgx (by decide)] at hj)) | rfl), fun hj => (let ⟨qa, qb, e, o1, o2, ap⟩ := (F2 (by rwa [sgx (by decide)] at hj)); ⟨qa, qb, e, OwnR.below o1 hb1 (fun k hk => (OwnR.lt o1 k hk).2), OwnR.below o2 hb1 (fun k hk => (OwnR.lt o2 k hk).2), ap⟩), fun hj => (by first | exact (F3 (by rwa [sgx (by decide)] at hj)) | rfl), fun hj => (by first | exact (F4 (by rwa [sgx (by decide)] at hj)) | rfl), fun hj => ⟨OwnR.below (F5 (by rwa [sgx (by decide)] at hj)).1 hb1 (fun k hk => (OwnR.lt (F5 (by rwa [sgx (by decide)] at hj)).1 k hk).2), (F5 (by rwa [sgx (by decide)] at hj)).2⟩, fun hj => (by first | exact (F6 (by rwa [sgx (by decide)] at hj)) | rfl), fun hj => (by first | exact (F7 (by rwa [sgx (by decide)] at hj)) | rfl), fun _ => ⟨o1.rebase hx.size, apart_of op o1, qa2, qb2, HQ2.out, apart_of oa o1, apart_of ob o1⟩, fun hj => (by first | exact (F9 (by rwa [sgx (by decide)] at hj)) | rfl), fun hj => (by first | exact (F10 (by rwa [sgx (by decide)] at hj)) | rfl), fun hj => (by first | exact (F11 (by rwa [sgx (by decide)] at hj)) | rfl), fun hj => absurd (hcl 12 _ rfl (by rwa [sgx (by decide)] at hj) ⟨8, .data⟩ (by simp) rfl) (by rw [getD_both hl]; simp), fun hj hu => (let ⟨g, e1, e2, e3⟩ := (F13 (by rwa [sgx (by decide)] at hj) (by rwa [sgx (by decide)] at hu)); ⟨g, e1, e2, e3.below hb1 e3.lt⟩), fun hj => absurd (hcl 14 _ rfl (by rwa [sgx (by decide)] at hj) ⟨8, .phase⟩ (by simp) rfl) (by rw [getD_both hl]; simp), hx.trans (hb1.mono hx.size)⟩
    · as_aux_lemma =>
        obtain ⟨u3, u8, u9, u10, u11, u12, u13, u14, u15, u16, u17, u18, u19, u20, rfl, F0, F1, F2, F3, F4, F5, F6, F7, F8, F9, F10, F11, F12, F13, F14, hx⟩ := hI
        refine wpOp_stepx ho rfl (fun K hK => ?_)
        unfold y1cA
        go_simp
        exact hK _ _ ⟨_, _, _, _, _, _, _, _, _, _, _, _, _, _, rfl, fun hj => (by first | exact (F0 (by rwa [sgx (by decide)] at hj)) | rfl), fun hj => (by first | exact (F1 (by rwa [sgx (by decide)] at hj)) | rfl), fun hj => (F2 (by rwa [sgx (by decide)] at hj)), fun hj => (by first | exact (F3 (by rwa [sgx (by decide)] at hj)) | rfl), fun hj => (by first | exact (F4 (by rwa [sgx (by decide)] at hj)) | rfl), fun hj => (F5 (by rwa [sgx (by decide)] at hj)), fun hj => (by first | exact (F6 (by rwa [sgx (by decide)] at hj)) | rfl), fun hj => (by first | exact (F7 (by rwa [sgx (by decide)] at hj)) | rfl), fun hj => (F8 (by rwa [sgx (by decide)] at hj)), fun _ => rfl, fun hj => (by first | exact (F10 (by rwa [sgx (by decide)] at hj)) | rfl), fun hj => (by first | exact (F11 (by rwa [sgx (by decide)] at hj)) | rfl), fun hj => (F12 (by rwa [sgx (by decide)] at hj)), fun hj hu => (F13 (by rwa [sgx (by decide)] at hj) (by rwa [sgx (by decide)] at hu)), fun hj => (F14 (by rwa [sgx (by decide)] at hj)), hx⟩
    · as_aux_lemma =>
        obtain ⟨u3, u8, u9, u10, u11, u12, u13, u14, u15, u16, u17, u18, u19, u20, rfl, F0, F1, F2, F3, F4, F5, F6, F7, F8, F9, F10, F11, F12, F13, F14, hx⟩ := hI
        have l9 := he ⟨9, .data⟩ (by simp) rfl
        have e := F9 l9; subst e
        obtain ⟨⟨c0, c1, c2, c3, c4⟩, _⟩ := (hS.below hx hS.lt).five
        refine wpOp_stepx ho rfl (fun K hK => ?_)
        unfold y1cA
        go_simp
        exact hK _ _ ⟨_, _, _, _, _, _, _, _, _, _, _, _, _, _, rfl, fun hj => (by first | exact (F0 (by rwa [sgx (by decide)] at hj)) | rfl), fun hj => (by first | exact (F1 (by rwa [sgx (by decide)] at hj)) | rfl), fun hj => (F2 (by rwa [sgx (by decide)] at hj)), fun hj => (by first | exact (F3 (by rwa [sgx (by decide)] at hj)) | rfl), fun hj => (by first | exact (F4 (by rwa [sgx (by decide)] at hj)) | rfl), fun hj => (F5 (by rwa [sgx (by decide)] at hj)), fun hj => (by first | exact (F6 (by rwa [sgx (by decide)] at hj)) | rfl), fun hj => (by first | exact (F7 (by rwa [sgx (by decide)] at hj)) | rfl), fun hj => (F8 (by rwa [sgx (by decide)] at hj)), fun hj => (by first | exact (F9 (by rwa [sgx (by decide)] at hj)) | rfl), fun _ => rfl, fun hj => (by first | exact (F11 (by rwa [sgx (by decide)] at hj)) | rfl), fun hj => (F12 (by rwa [sgx (by decide)] at hj)), fun hj hu => (F13 (by rwa [sgx (by decide)] at hj) (by rwa [sgx (by decide)] at hu)), fun hj => (F14 (by rwa [sgx (by decide)] at hj)), hx⟩
    · as_aux_lemma =>
        obtain ⟨u3, u8, u9, u10, u11, u12, u13, u14, u15, u16, u17, u18, u19, u20, rfl, F0, F1, F2, F3, F4, F5, F6, F7, F8, F9, F10, F11, F12, F13, F14, hx⟩ := hI
        have l10 := he ⟨10, .data⟩ (by simp) rfl
        have e := F10 l10; subst e
        refine wpOp_stepx ho rfl (fun K hK => ?_)
        unfold y1cA
        go_simp
        (with_reducible refine (copyJobs_nil w').mono ?_)
        rintro e w'' ⟨rfl, rfl⟩
        go_wp2_with fail
        exact ⟨_, _, _, _, _, _, _, _, _, _, _, _, _, _, rfl, fun hj => (by first | exact (F0 (by rwa [sgx (by decide)] at hj)) | rfl), fun hj => (by first | exact (F1 (by rwa [sgx (by decide)] at hj)) | rfl), fun hj => (F2 (by rwa [sgx (by decide)] at hj)), fun hj => (by first | exact (F3 (by rwa [sgx (by decide)] at hj)) | rfl), fun hj => (by first | exact (F4 (by rwa [sgx (by decide)] at hj)) | rfl), fun hj => (F5 (by rwa [sgx (by decide)] at hj)), fun hj => (by first | exact (F6 (by rwa [sgx (by decide)] at hj)) | rfl), fun hj => (by first | exact (F7 (by rwa [sgx (by decide)] at hj)) | rfl), fun hj => (F8 (by rwa [sgx (by decide)] at hj)), fun hj => (by first | exact (F9 (by rwa [sgx (by decide)] at hj)) | rfl), fun hj => (by first | exact (F10 (by rwa [sgx (by decide)] at hj)) | rfl), fun _ => rfl, fun hj => (F12 (by rwa [sgx (by decide)] at hj)), fun hj hu => (F13 (by rwa [sgx (by decide)] at hj) (by rwa [sgx (by decide)] at hu)), fun hj => (F14 (by rwa [sgx (by decide)] at hj)), hx⟩
    · as_aux_lemma =>
        obtain ⟨u3, u8, u9, u10, u11, u12, u13, u14, u15, u16, u17, u18, u19, u20, rfl, F0, F1, F2, F3, F4, F5, F6, F7, F8, F9, F10, F11, F12, F13, F14, hx⟩ := hI
        have l2 := he ⟨2, .data⟩ (by simp) rfl
        have l5 := he ⟨5, .data⟩ (by simp) rfl
        have l8 := he ⟨8, .data⟩ (by simp) rfl
        have l11 := he ⟨11, .data⟩ (by simp) rfl
        have F2' := F2 l2
        obtain ⟨qa, qb, hq, oa, ob, ap⟩ := F2'
        have F5' := F5 l5
        have F8' := F8 l8
        obtain ⟨y1, y2, e1, _, _⟩ := oa.shape
        obtain ⟨z1, z2, e2, _, _⟩ := ob.shape
        obtain ⟨s1, s2, e3, _, _⟩ := F5'.1.shape
        obtain ⟨t1, t2, e4, _, _⟩ := F8'.1.shape
        subst e1 e2 hq e3 e4
        have e := F11 l11; subst e
        refine wpOp_stepx ho rfl (fun K hK => ?_)
        unfold y1cA
        go_simp
        exact hK _ _ ⟨_, _, _, _, _, _, _, _, _, _, _, _, _, _, rfl, fun hj => (by first | exact (F0 (by rwa [sgx (by decide)] at hj)) | rfl), fun hj => (by first | exact (F1 (by rwa [sgx (by decide)] at hj)) | rfl), fun hj => F2 l2, fun hj => (by first | exact (F3 (by rwa [sgx (by decide)] at hj)) | rfl), fun hj => (by first | exact (F4 (by rwa [sgx (by decide)] at hj)) | rfl), fun hj => F5 l5, fun hj => (by first | exact (F6 (by rwa [sgx (by decide)] at hj)) | rfl), fun hj => (by first | exact (F7 (by rwa [sgx (by decide)] at hj)) | rfl), fun hj => F8 l8, fun hj => (by first | exact (F9 (by rwa [sgx (by decide)] at hj)) | rfl), fun hj => (by first | exact (F10 (by rwa [sgx (by decide)] at hj)) | rfl), fun hj => (by first | exact (F11 (by rwa [sgx (by decide)] at hj)) | rfl), fun _ => ⟨_, _, rfl, rfl⟩, fun hj hu => (F13 (by rwa [sgx (by decide)] at hj) (by rwa [sgx (by decide)] at hu)), fun hj => (F14 (by rwa [sgx (by decide)] at hj)), hx⟩
    · as_aux_lemma =>
        obtain ⟨u3, u8, u9, u10, u11, u12, u13, u14, u15, u16, u17, u18, u19, u20, rfl, F0, F1, F2, F3, F4, F5, F6, F7, F8, F9, F10, F11, F12, F13, F14, hx⟩ := hI
        refine wpOp_stepx ho rfl (fun K hK => ?_)
        unfold y1cA
        have hb1 : Below w'.heap.size w' (w'.alloc (.cells #[.slice none 0 0, .slice none 0 0, .slice none 0 0, .slice none 0 0, .slice none 0 0] 45)) := (Below.refl _ _).alloc (Nat.le_refl _) _
        go_simp
        exact hK _ _ ⟨_, _, _, _, _, _, _, _, _, _, _, _, _, _, rfl, fun hj => (by first | exact (F0 (by rwa [sgx (by decide)] at hj)) | rfl), fun hj => (by first | exact (F1 (by rwa [sgx (by decide)] at hj)) | rfl), fun hj => (let ⟨qa, qb, e, o1, o2, ap⟩ := (F2 (by rwa [sgx (by decide)] at hj)); ⟨qa, qb, e, OwnR.below o1 hb1 (fun k hk => (OwnR.lt o1 k hk).2), OwnR.below o2 hb1 (fun k hk => (OwnR.lt o2 k hk).2), ap⟩), fun hj => (by first | exact (F3 (by rwa [sgx (by decide)] at hj)) | rfl), fun hj => (by first | exact (F4 (by rwa [sgx (by decide)] at hj)) | rfl), fun hj => ⟨OwnR.below (F5 (by rwa [sgx (by decide)] at hj)).1 hb1 (fun k hk => (OwnR.lt (F5 (by rwa [sgx (by decide)] at hj)).1 k hk).2), (F5 (by rwa [sgx (by decide)] at hj)).2⟩, fun hj => (by first | exact (F6 (by rwa [sgx (by decide)] at hj)) | rfl), fun hj => (by first | exact (F7 (by rwa [sgx (by decide)] at hj)) | rfl), fun hj => ⟨OwnR.below (F8 (by rwa [sgx (by decide)] at hj)).1 hb1 (fun k hk => (OwnR.lt (F8 (by rwa [sgx (by decide)] at hj)).1 k hk).2), (F8 (by rwa [sgx (by decide)] at hj)).2⟩, fun hj => (by first | exact (F9 (by rwa [sgx (by decide)] at hj)) | rfl), fun hj => (by first | exact (F10 (by rwa [sgx (by decide)] at hj)) | rfl), fun hj => (by first | exact (F11 (by rwa [sgx (by decide)] at hj)) | rfl), fun hj => (F12 (by rwa [sgx (by decide)] at hj)), fun _ _ => ⟨_, rfl, hx.size, BoxC.new _ _ _ _ _ _⟩, fun hj => absurd (hcl 14 _ rfl (by rwa [sgx (by decide)] at hj) ⟨13, .data⟩ (by simp) rfl) (by rw [getD_both hl]; simp), hx.trans (hb1.mono hx.size)⟩
    · as_aux_lemma =>
        obtain ⟨u3, u8, u9, u10, u11, u12, u13, u14, u15, u16, u17, u18, u19, u20, rfl, F0, F1, F2, F3, F4, F5, F6, F7, F8, F9, F10, F11, F12, F13, F14, hx⟩ := hI
        have l13 := he ⟨13, .data⟩ (by simp) rfl
        have l12 := he ⟨12, .data⟩ (by simp) rfl
        have l11 := he ⟨11, .chain⟩ (by simp) rfl
        obtain ⟨g, rfl, g1, hB⟩ := F13 l13 (getD_both hl)
        obtain ⟨qa, qb, hq, e12⟩ := F12 l12
        have l2 := hcl 12 _ rfl l12 ⟨2, .data⟩ (by simp) rfl
        have l5 := hcl 12 _ rfl l12 ⟨5, .data⟩ (by simp) rfl
        have l8 := hcl 12 _ rfl l12 ⟨8, .data⟩ (by simp) rfl
        obtain ⟨qa2, qb2, hq2, oa, ob, ap⟩ := F2 l2
        rw [hq] at hq2
        simp only [Value.agg.injEq, Array.mk.injEq, List.cons.injEq, and_true] at hq2
        obtain ⟨rfl, rfl⟩ := hq2
        obtain ⟨op, F5'⟩ := F5 l5
        obtain ⟨os, F8'⟩ := F8 l8
        obtain ⟨y1, y2, e1, _, _⟩ := oa.shape
        obtain ⟨z1, z2, e2, _, _⟩ := ob.shape
        obtain ⟨s1, s2, e3, _, _⟩ := op.shape
        obtain ⟨t1, t2, e4, _, _⟩ := os.shape
        subst e1 e2 hq e3 e4 e12
        obtain ⟨⟨k0, k1, k2, k3, k4⟩, m0, m1, m2, m3, m4⟩ := hB.bx.five
        refine wpOp_stepx ho rfl (fun K hK => ?_)
        unfold y1cA
        have ht := touchC g w' (.slice y1 xs.length y2) (.slice z1 ys.length z2) (.slice s1 ps.length s2) (.slice t1 ss.length t2) vnil
        go_simp
        exact hK _ _ ⟨_, _, _, _, _, _, _, _, _, _, _, _, _, _, rfl, fun hj => (by first | exact (F0 (by rwa [sgx (by decide)] at hj)) | rfl), fun hj => (by first | exact (F1 (by rwa [sgx (by decide)] at hj)) | rfl), fun hj => ⟨_, _, rfl, oa.boxC hB (by decide) ht, ob.boxC hB (by decide) ht, ap⟩, fun hj => (by first | exact (F3 (by rwa [sgx (by decide)] at hj)) | rfl), fun hj => (by first | exact (F4 (by rwa [sgx (by decide)] at hj)) | rfl), fun hj => ⟨op.boxC hB (by decide) ht, F5'⟩, fun hj => (by first | exact (F6 (by rwa [sgx (by decide)] at hj)) | rfl), fun hj => (by first | exact (F7 (by rwa [sgx (by decide)] at hj)) | rfl), fun hj => ⟨os.boxC hB (by decide) ht, F8'⟩, fun hj => (by first | exact (F9 (by rwa [sgx (by decide)] at hj)) | rfl), fun hj => (by first | exact (F10 (by rwa [sgx (by decide)] at hj)) | rfl), fun hj => (by first | exact (F11 (by rwa [sgx (by decide)] at hj)) | rfl), fun hj => ⟨_, _, rfl, rfl⟩, fun _ hu => absurd hu (by rw [sgix hl]; simp), fun _ => ⟨g, _, _, rfl, g1, rfl, hB.put _ _ _ _ _⟩, Below.touchN hx ht g1 (Nat.le_refl _)⟩
  · intro listed a w' hI hd
    obtain ⟨u3, u8, u9, u10, u11, u12, u13, u14, u15, u16, u17, u18, u19, u20, rfl, F0, F1, F2, F3, F4, F5, F6, F7, F8, F9, F10, F11, F12, F13, F14, hx⟩ := hI
    obtain ⟨g, qa, qb, h3, g1, hq, hB⟩ := F14 (hd 14 (by show 14 < 15; omega))
    obtain ⟨qa2, qb2, hq2, oa, ob, ap⟩ := F2 (hd 2 (by show 2 < 15; omega))
    obtain ⟨op, qa3, qb3, hq3, a1, a2⟩ := F5 (hd 5 (by show 5 < 15; omega))
    obtain ⟨os, a3, qa4, qb4, hq4, a4, a5⟩ := F8 (hd 8 (by show 8 < 15; omega))
    rw [hq] at hq2 hq3 hq4
    simp only [Value.agg.injEq, Array.mk.injEq, List.cons.injEq, and_true] at hq2 hq3 hq4
    obtain ⟨rfl, rfl⟩ := hq2
    obtain ⟨rfl, rfl⟩ := hq3
    obtain ⟨rfl, rfl⟩ := hq4
    exact hK _ _ _ _ _ _ _ _ _ _ _ _ _ _ w' ⟨g, qa, qb, _, _, h3, g1, hB, ⟨oa, ob, op, os, ap, a1, a4, a2, a5, a3⟩, hx⟩

end Go.Proofs.Yteamebdehembgaa
