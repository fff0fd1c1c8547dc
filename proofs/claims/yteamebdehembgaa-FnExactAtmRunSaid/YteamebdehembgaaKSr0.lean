/-
  One thing of several, of the reference: the drawn region of its loop (printed by wip/gen_run.py).
-/
import Derived.Test.YteamebdehembgaaJSa3
import Derived.Test.YteamebdehembgaaKDq0
set_option linter.unusedVariables false
set_option linter.unusedSimpArgs false
namespace Go.Proofs.Yteamebdehembgaa
open Go.RowKit
attribute [local go_sem ↓] Go.wp_at_zero Go.wp_at_succ

def srA (i1 i4 i5 i6 i7 i8 i9 i10 i15 i16 i17 i18 i19 i20 i21 i22 i23 i24 i25 i26 i27 i28 i29 i30 i31 i32 i33 i34 i35 i36 i37 i38 i39 i40 i41 i42 i43 i44 i45 i46 i47 i48 i60 i61 i62 i63 i64 i65 i66 : Value) (mv : Value) (who : Int) (ub : Nat) (uo : Nat) (xl : Nat) (uc : Nat) (gX : Nat) (k : Nat) (u13 u14 u49 u50 u51 u52 u53 u54 u55 u56 u57 u58 u59 : Value) : Act := { tmps := #[mv, i1, .int .i64 who, .slice (some ⟨ub, uo, none⟩) xl uc, i4, i5, i6, i7, i8, i9, i10, .pointer (some ⟨gX, 0, none⟩), .int .i64 (k : Nat), u13, u14, i15, i16, i17, i18, i19, i20, i21, i22, i23, i24, i25, i26, i27, i28, i29, i30, i31, i32, i33, i34, i35, i36, i37, i38, i39, i40, i41, i42, i43, i44, i45, i46, i47, i48, u49, u50, u51, u52, u53, u54, u55, u56, u57, u58, u59, i60, i61, i62, i63, i64, i65, i66], defers := [] }
def srI (i1 i4 i5 i6 i7 i8 i9 i10 i15 i16 i17 i18 i19 i20 i21 i22 i23 i24 i25 i26 i27 i28 i29 i30 i31 i32 i33 i34 i35 i36 i37 i38 i39 i40 i41 i42 i43 i44 i45 i46 i47 i48 i60 i61 i62 i63 i64 i65 i66 : Value) (mv : Value) (who : Int) (ub : Nat) (uo : Nat) (xl : Nat) (uc : Nat) (gX : Nat) (k : Nat) (av : Value) (bv : Value) (dv : Value) (lv : Value) (r : Rq) (x : List Int × List Int × Rs) (wq : World) (listed : Array Bool) (a : Act) (w' : World) : Prop :=
  ∃ u13 u14 u49 u50 u51 u52 u53 u54 u55 u56 u57 u58 u59 : Value, a = srA i1 i4 i5 i6 i7 i8 i9 i10 i15 i16 i17 i18 i19 i20 i21 i22 i23 i24 i25 i26 i27 i28 i29 i30 i31 i32 i33 i34 i35 i36 i37 i38 i39 i40 i41 i42 i43 i44 i45 i46 i47 i48 i60 i61 i62 i63 i64 i65 i66 mv who ub uo xl uc gX k u13 u14 u49 u50 u51 u52 u53 u54 u55 u56 u57 u58 u59 ∧
      (listed.getD 0 false = true → u50 = mv) ∧
      (listed.getD 1 false = true → u51 = .agg #[av, bv]) ∧
      (listed.getD 2 false = true → u52 = .int .i64 who) ∧
      (listed.getD 3 false = true → u53 = .slice (some ⟨ub, uo, none⟩) xl uc) ∧
      (listed.getD 4 false = true → u54 = .int .i64 (k : Nat)) ∧
      (listed.getD 5 false = true → u55 = .pointer (some ⟨ub, uo + k * 7, none⟩)) ∧
      (listed.getD 6 false = true → u56 = .agg #[.int .i64 r.id, .int .i64 r.kind, .int .i64 r.addr, .int .i64 r.many, .bool r.wrap, dv, lv]) ∧
      (listed.getD 7 false = true → RF wq w' u57 x) ∧
      (listed.getD 8 false = true → RF wq w' u49 x) ∧
      (listed.getD 9 false = true → ∃ y, u49 = .tuple #[u58, y]) ∧
      (listed.getD 10 false = true → ∃ y, u49 = .tuple #[y, u59]) ∧
      (listed.getD 11 false = true → listed.getD 13 false = false → ∃ g, u13 = .pointer (some ⟨g, 0, none⟩) ∧ wq.heap.size ≤ g ∧ BoxA w' g (.slice none 0 0) (.slice none 0 0)) ∧
      (listed.getD 12 false = true → listed.getD 14 false = false → ∃ g, u14 = .pointer (some ⟨g, 0, none⟩) ∧ wq.heap.size ≤ g ∧ BoxR w' g 0 0 (.slice none 0 0)) ∧
      (listed.getD 13 false = true → ∃ g a b, u13 = .pointer (some ⟨g, 0, none⟩) ∧ wq.heap.size ≤ g ∧ BoxA w' g a b ∧ u58 = .agg #[a, b]) ∧
      (listed.getD 14 false = true → ∃ g i c d, u14 = .pointer (some ⟨g, 0, none⟩) ∧ wq.heap.size ≤ g ∧ BoxR w' g i c d ∧ u59 = .agg #[.int .i64 i, .int .i64 c, d]) ∧
      Below wq.heap.size wq w'
noncomputable def srCode : Code := (Try.f45.body.bind (regionIn 8)).getD .skip
/-- Behind the region: the store and what came of it lie in new boxes. -/
def SrP (u13 u14 : Value) (x : List Int × List Int × Rs) (wq w' : World) : Prop :=
  ∃ ga gr a b d, u13 = .pointer (some ⟨ga, 0, none⟩) ∧ u14 = .pointer (some ⟨gr, 0, none⟩) ∧ wq.heap.size ≤ ga ∧ wq.heap.size ≤ gr ∧ BoxA w' ga a b ∧ BoxR w' gr x.2.2.id x.2.2.code d ∧ Owns w' wq.heap.size 3 1 rowI a x.1 ∧ Owns w' wq.heap.size 3 1 rowI b x.2.1 ∧ Owns w' wq.heap.size 3 1 rowI d x.2.2.data ∧ Below wq.heap.size wq w'

set_option maxRecDepth 100000 in
set_option maxHeartbeats 16000000 in
theorem sr_region (i1 i4 i5 i6 i7 i8 i9 i10 i15 i16 i17 i18 i19 i20 i21 i22 i23 i24 i25 i26 i27 i28 i29 i30 i31 i32 i33 i34 i35 i36 i37 i38 i39 i40 i41 i42 i43 i44 i45 i46 i47 i48 i60 i61 i62 i63 i64 i65 i66 j13 j14 j49 j50 j51 j52 j53 j54 j55 j56 j57 j58 j59 : Value) (mv : Value) (who : Int) (ub : Nat) (uo : Nat) (xl : Nat) (uc : Nat) (gX : Nat) (k : Nat) (av : Value) (bv : Value) (dv : Value) (lv : Value) (r : Rq) (x : List Int × List Int × Rs) (wq : World)
    (ms : List MR) (wk hk : List Int) (HX : Hid (x = atmDo ms wk hk who r)) (hX : BoxA wq gX av bv) (hc0 : wq.cell? ⟨ub, uo + k * 7, none⟩ = some (.int .i64 r.id)) (hc1 : wq.cell? ⟨ub, uo + k * 7 + 1, none⟩ = some (.int .i64 r.kind)) (hc2 : wq.cell? ⟨ub, uo + k * 7 + 2, none⟩ = some (.int .i64 r.addr)) (hc3 : wq.cell? ⟨ub, uo + k * 7 + 3, none⟩ = some (.int .i64 r.many)) (hc4 : wq.cell? ⟨ub, uo + k * 7 + 4, none⟩ = some (.bool r.wrap)) (hc5 : wq.cell? ⟨ub, uo + k * 7 + 5, none⟩ = some (dv)) (hc6 : wq.cell? ⟨ub, uo + k * 7 + 6, none⟩ = some (lv)) (hub : ub < wq.heap.size) (hkl : k < xl) (hM : Maps wq wq.heap.size mv ms) (hA : Ints wq wq.heap.size av wk) (hB : Ints wq wq.heap.size bv hk) (hQ : ReqV wq wq.heap.size (.agg #[.int .i64 r.id, .int .i64 r.kind, .int .i64 r.addr, .int .i64 r.many, .bool r.wrap, dv, lv]) r)
    {K : Act → World → Prop} {Q' : Exit → Act → World → Prop}
    (hK : ∀ (u13 u14 u49 u50 u51 u52 u53 u54 u55 u56 u57 u58 u59 : Value) w', SrP u13 u14 x wq w' → K (srA i1 i4 i5 i6 i7 i8 i9 i10 i15 i16 i17 i18 i19 i20 i21 i22 i23 i24 i25 i26 i27 i28 i29 i30 i31 i32 i33 i34 i35 i36 i37 i38 i39 i40 i41 i42 i43 i44 i45 i46 i47 i48 i60 i61 i62 i63 i64 i65 i66 mv who ub uo xl uc gX k u13 u14 u49 u50 u51 u52 u53 u54 u55 u56 u57 u58 u59) w') : srCode.wp Try.prog (Exit.then K Q') (srA i1 i4 i5 i6 i7 i8 i9 i10 i15 i16 i17 i18 i19 i20 i21 i22 i23 i24 i25 i26 i27 i28 i29 i30 i31 i32 i33 i34 i35 i36 i37 i38 i39 i40 i41 i42 i43 i44 i45 i46 i47 i48 i60 i61 i62 i63 i64 i65 i66 mv who ub uo xl uc gX k j13 j14 j49 j50 j51 j52 j53 j54 j55 j56 j57 j58 j59) wq := by
  conv => arg 2; whnf
  refine wp_region_inv2 (srI i1 i4 i5 i6 i7 i8 i9 i10 i15 i16 i17 i18 i19 i20 i21 i22 i23 i24 i25 i26 i27 i28 i29 i30 i31 i32 i33 i34 i35 i36 i37 i38 i39 i40 i41 i42 i43 i44 i45 i46 i47 i48 i60 i61 i62 i63 i64 i65 i66 mv who ub uo xl uc gX k av bv dv lv r x wq) (by kernel_rfl) (by kernel_rfl) ?_ ?_ ?_
  · exact ⟨_, _, _, _, _, _, _, _, _, _, _, _, _, rfl, (fun h => absurd h (by rw [getD_replicate_false]; simp)), (fun h => absurd h (by rw [getD_replicate_false]; simp)), (fun h => absurd h (by rw [getD_replicate_false]; simp)), (fun h => absurd h (by rw [getD_replicate_false]; simp)), (fun h => absurd h (by rw [getD_replicate_false]; simp)), (fun h => absurd h (by rw [getD_replicate_false]; simp)), (fun h => absurd h (by rw [getD_replicate_false]; simp)), (fun h => absurd h (by rw [getD_replicate_false]; simp)), (fun h => absurd h (by rw [getD_replicate_false]; simp)), (fun h => absurd h (by rw [getD_replicate_false]; simp)), (fun h => absurd h (by rw [getD_replicate_false]; simp)), (fun h _ => absurd h (by rw [getD_replicate_false]; simp)), (fun h _ => absurd h (by rw [getD_replicate_false]; simp)), (fun h => absurd h (by rw [getD_replicate_false]; simp)), (fun h => absurd h (by rw [getD_replicate_false]; simp)), (Below.refl _ _).drew⟩
  · intro listed a w' i o hI hsz ho hl he hcl
    have hi : i < 15 := (Array.getElem?_eq_some_iff.1 ho).1
    have e : i = 0 ∨ i = 1 ∨ i = 2 ∨ i = 3 ∨ i = 4 ∨ i = 5 ∨ i = 6 ∨ i = 7 ∨ i = 8 ∨ i = 9 ∨ i = 10 ∨ i = 11 ∨ i = 12 ∨ i = 13 ∨ i = 14 := by omega
    clear hi
    rcases e with rfl | rfl | rfl | rfl | rfl | rfl | rfl | rfl | rfl | rfl | rfl | rfl | rfl | rfl | rfl
    all_goals (have ho2 := ho; obtain rfl := Option.some.inj ho2.symm; clear ho2)
    · as_aux_lemma =>
        obtain ⟨u13, u14, u49, u50, u51, u52, u53, u54, u55, u56, u57, u58, u59, rfl, F0, F1, F2, F3, F4, F5, F6, F7, F8, F9, F10, F11, F12, F13, F14, hx⟩ := hI
        refine wpOp_stepx ho rfl (fun K hK => ?_)
        unfold srA
        go_simp
        exact hK _ _ ⟨_, _, _, _, _, _, _, _, _, _, _, _, _, rfl, fun _ => rfl, fun hj => (by first | exact (F1 (by rwa [sgx (by decide)] at hj)) | rfl), fun hj => (by first | exact (F2 (by rwa [sgx (by decide)] at hj)) | rfl), fun hj => (by first | exact (F3 (by rwa [sgx (by decide)] at hj)) | rfl), fun hj => (by first | exact (F4 (by rwa [sgx (by decide)] at hj)) | rfl), fun hj => (by first | exact (F5 (by rwa [sgx (by decide)] at hj)) | rfl), fun hj => (by first | exact (F6 (by rwa [sgx (by decide)] at hj)) | rfl), fun hj => (F7 (by rwa [sgx (by decide)] at hj)), fun hj => (F8 (by rwa [sgx (by decide)] at hj)), fun hj => (F9 (by rwa [sgx (by decide)] at hj)), fun hj => (F10 (by rwa [sgx (by decide)] at hj)), fun hj hu => (F11 (by rwa [sgx (by decide)] at hj) (by rwa [sgx (by decide)] at hu)), fun hj hu => (F12 (by rwa [sgx (by decide)] at hj) (by rwa [sgx (by decide)] at hu)), fun hj => (F13 (by rwa [sgx (by decide)] at hj)), fun hj => (F14 (by rwa [sgx (by decide)] at hj)), hx⟩
    · as_aux_lemma =>
        obtain ⟨u13, u14, u49, u50, u51, u52, u53, u54, u55, u56, u57, u58, u59, rfl, F0, F1, F2, F3, F4, F5, F6, F7, F8, F9, F10, F11, F12, F13, F14, hx⟩ := hI
        obtain ⟨k0, k1, m0, m1⟩ := (hX.below hx hX.lt).cells
        refine wpOp_stepx ho rfl (fun K hK => ?_)
        unfold srA
        go_simp
        exact hK _ _ ⟨_, _, _, _, _, _, _, _, _, _, _, _, _, rfl, fun hj => (by first | exact (F0 (by rwa [sgx (by decide)] at hj)) | rfl), fun _ => rfl, fun hj => (by first | exact (F2 (by rwa [sgx (by decide)] at hj)) | rfl), fun hj => (by first | exact (F3 (by rwa [sgx (by decide)] at hj)) | rfl), fun hj => (by first | exact (F4 (by rwa [sgx (by decide)] at hj)) | rfl), fun hj => (by first | exact (F5 (by rwa [sgx (by decide)] at hj)) | rfl), fun hj => (by first | exact (F6 (by rwa [sgx (by decide)] at hj)) | rfl), fun hj => (F7 (by rwa [sgx (by decide)] at hj)), fun hj => (F8 (by rwa [sgx (by decide)] at hj)), fun hj => (F9 (by rwa [sgx (by decide)] at hj)), fun hj => (F10 (by rwa [sgx (by decide)] at hj)), fun hj hu => (F11 (by rwa [sgx (by decide)] at hj) (by rwa [sgx (by decide)] at hu)), fun hj hu => (F12 (by rwa [sgx (by decide)] at hj) (by rwa [sgx (by decide)] at hu)), fun hj => (F13 (by rwa [sgx (by decide)] at hj)), fun hj => (F14 (by rwa [sgx (by decide)] at hj)), hx⟩
    · as_aux_lemma =>
        obtain ⟨u13, u14, u49, u50, u51, u52, u53, u54, u55, u56, u57, u58, u59, rfl, F0, F1, F2, F3, F4, F5, F6, F7, F8, F9, F10, F11, F12, F13, F14, hx⟩ := hI
        refine wpOp_stepx ho rfl (fun K hK => ?_)
        unfold srA
        go_simp
        exact hK _ _ ⟨_, _, _, _, _, _, _, _, _, _, _, _, _, rfl, fun hj => (by first | exact (F0 (by rwa [sgx (by decide)] at hj)) | rfl), fun hj => (by first | exact (F1 (by rwa [sgx (by decide)] at hj)) | rfl), fun _ => rfl, fun hj => (by first | exact (F3 (by rwa [sgx (by decide)] at hj)) | rfl), fun hj => (by first | exact (F4 (by rwa [sgx (by decide)] at hj)) | rfl), fun hj => (by first | exact (F5 (by rwa [sgx (by decide)] at hj)) | rfl), fun hj => (by first | exact (F6 (by rwa [sgx (by decide)] at hj)) | rfl), fun hj => (F7 (by rwa [sgx (by decide)] at hj)), fun hj => (F8 (by rwa [sgx (by decide)] at hj)), fun hj => (F9 (by rwa [sgx (by decide)] at hj)), fun hj => (F10 (by rwa [sgx (by decide)] at hj)), fun hj hu => (F11 (by rwa [sgx (by decide)] at hj) (by rwa [sgx (by decide)] at hu)), fun hj hu => (F12 (by rwa [sgx (by decide)] at hj) (by rwa [sgx (by decide)] at hu)), fun hj => (F13 (by rwa [sgx (by decide)] at hj)), fun hj => (F14 (by rwa [sgx (by decide)] at hj)), hx⟩
    · as_aux_lemma =>
        obtain ⟨u13, u14, u49, u50, u51, u52, u53, u54, u55, u56, u57, u58, u59, rfl, F0, F1, F2, F3, F4, F5, F6, F7, F8, F9, F10, F11, F12, F13, F14, hx⟩ := hI
        refine wpOp_stepx ho rfl (fun K hK => ?_)
        unfold srA
        go_simp
        exact hK _ _ ⟨_, _, _, _, _, _, _, _, _, _, _, _, _, rfl, fun hj => (by first | exact (F0 (by rwa [sgx (by decide)] at hj)) | rfl), fun hj => (by first | exact (F1 (by rwa [sgx (by decide)] at hj)) | rfl), fun hj => (by first | exact (F2 (by rwa [sgx (by decide)] at hj)) | rfl), fun _ => rfl, fun hj => (by first | exact (F4 (by rwa [sgx (by decide)] at hj)) | rfl), fun hj => (by first | exact (F5 (by rwa [sgx (by decide)] at hj)) | rfl), fun hj => (by first | exact (F6 (by rwa [sgx (by decide)] at hj)) | rfl), fun hj => (F7 (by rwa [sgx (by decide)] at hj)), fun hj => (F8 (by rwa [sgx (by decide)] at hj)), fun hj => (F9 (by rwa [sgx (by decide)] at hj)), fun hj => (F10 (by rwa [sgx (by decide)] at hj)), fun hj hu => (F11 (by rwa [sgx (by decide)] at hj) (by rwa [sgx (by decide)] at hu)), fun hj hu => (F12 (by rwa [sgx (by decide)] at hj) (by rwa [sgx (by decide)] at hu)), fun hj => (F13 (by rwa [sgx (by decide)] at hj)), fun hj => (F14 (by rwa [sgx (by decide)] at hj)), hx⟩
    · as_aux_lemma =>
        obtain ⟨u13, u14, u49, u50, u51, u52, u53, u54, u55, u56, u57, u58, u59, rfl, F0, F1, F2, F3, F4, F5, F6, F7, F8, F9, F10, F11, F12, F13, F14, hx⟩ := hI
        refine wpOp_stepx ho rfl (fun K hK => ?_)
        unfold srA
        go_simp
        exact hK _ _ ⟨_, _, _, _, _, _, _, _, _, _, _, _, _, rfl, fun hj => (by first | exact (F0 (by rwa [sgx (by decide)] at hj)) | rfl), fun hj => (by first | exact (F1 (by rwa [sgx (by decide)] at hj)) | rfl), fun hj => (by first | exact (F2 (by rwa [sgx (by decide)] at hj)) | rfl), fun hj => (by first | exact (F3 (by rwa [sgx (by decide)] at hj)) | rfl), fun _ => rfl, fun hj => (by first | exact (F5 (by rwa [sgx (by decide)] at hj)) | rfl), fun hj => (by first | exact (F6 (by rwa [sgx (by decide)] at hj)) | rfl), fun hj => (F7 (by rwa [sgx (by decide)] at hj)), fun hj => (F8 (by rwa [sgx (by decide)] at hj)), fun hj => (F9 (by rwa [sgx (by decide)] at hj)), fun hj => (F10 (by rwa [sgx (by decide)] at hj)), fun hj hu => (F11 (by rwa [sgx (by decide)] at hj) (by rwa [sgx (by decide)] at hu)), fun hj hu => (F12 (by rwa [sgx (by decide)] at hj) (by rwa [sgx (by decide)] at hu)), fun hj => (F13 (by rwa [sgx (by decide)] at hj)), fun hj => (F14 (by rwa [sgx (by decide)] at hj)), hx⟩
    · as_aux_lemma =>
        obtain ⟨u13, u14, u49, u50, u51, u52, u53, u54, u55, u56, u57, u58, u59, rfl, F0, F1, F2, F3, F4, F5, F6, F7, F8, F9, F10, F11, F12, F13, F14, hx⟩ := hI
        have l3 := he ⟨3, .data⟩ (by simp) rfl
        have l4 := he ⟨4, .data⟩ (by simp) rfl
        have e := F3 l3; subst e
        have e := F4 l4; subst e
        have hkx := hkl
        refine wpOp_stepx ho rfl (fun K hK => ?_)
        unfold srA
        go_simp
        exact hK _ _ ⟨_, _, _, _, _, _, _, _, _, _, _, _, _, rfl, fun hj => (by first | exact (F0 (by rwa [sgx (by decide)] at hj)) | rfl), fun hj => (by first | exact (F1 (by rwa [sgx (by decide)] at hj)) | rfl), fun hj => (by first | exact (F2 (by rwa [sgx (by decide)] at hj)) | rfl), fun hj => (by first | exact (F3 (by rwa [sgx (by decide)] at hj)) | rfl), fun hj => (by first | exact (F4 (by rwa [sgx (by decide)] at hj)) | rfl), fun _ => rfl, fun hj => (by first | exact (F6 (by rwa [sgx (by decide)] at hj)) | rfl), fun hj => (F7 (by rwa [sgx (by decide)] at hj)), fun hj => (F8 (by rwa [sgx (by decide)] at hj)), fun hj => (F9 (by rwa [sgx (by decide)] at hj)), fun hj => (F10 (by rwa [sgx (by decide)] at hj)), fun hj hu => (F11 (by rwa [sgx (by decide)] at hj) (by rwa [sgx (by decide)] at hu)), fun hj hu => (F12 (by rwa [sgx (by decide)] at hj) (by rwa [sgx (by decide)] at hu)), fun hj => (F13 (by rwa [sgx (by decide)] at hj)), fun hj => (F14 (by rwa [sgx (by decide)] at hj)), hx⟩
    · as_aux_lemma =>
        obtain ⟨u13, u14, u49, u50, u51, u52, u53, u54, u55, u56, u57, u58, u59, rfl, F0, F1, F2, F3, F4, F5, F6, F7, F8, F9, F10, F11, F12, F13, F14, hx⟩ := hI
        have l5 := he ⟨5, .data⟩ (by simp) rfl
        have e := F5 l5; subst e
        have q0 := (hx.cell (p := ⟨ub, uo + k * 7, none⟩) hub).trans hc0
        have q1 := (hx.cell (p := ⟨ub, uo + k * 7 + 1, none⟩) hub).trans hc1
        have q2 := (hx.cell (p := ⟨ub, uo + k * 7 + 2, none⟩) hub).trans hc2
        have q3 := (hx.cell (p := ⟨ub, uo + k * 7 + 3, none⟩) hub).trans hc3
        have q4 := (hx.cell (p := ⟨ub, uo + k * 7 + 4, none⟩) hub).trans hc4
        have q5 := (hx.cell (p := ⟨ub, uo + k * 7 + 5, none⟩) hub).trans hc5
        have q6 := (hx.cell (p := ⟨ub, uo + k * 7 + 6, none⟩) hub).trans hc6
        refine wpOp_stepx ho rfl (fun K hK => ?_)
        unfold srA
        go_simp
        exact hK _ _ ⟨_, _, _, _, _, _, _, _, _, _, _, _, _, rfl, fun hj => (by first | exact (F0 (by rwa [sgx (by decide)] at hj)) | rfl), fun hj => (by first | exact (F1 (by rwa [sgx (by decide)] at hj)) | rfl), fun hj => (by first | exact (F2 (by rwa [sgx (by decide)] at hj)) | rfl), fun hj => (by first | exact (F3 (by rwa [sgx (by decide)] at hj)) | rfl), fun hj => (by first | exact (F4 (by rwa [sgx (by decide)] at hj)) | rfl), fun hj => (by first | exact (F5 (by rwa [sgx (by decide)] at hj)) | rfl), fun _ => rfl, fun hj => (F7 (by rwa [sgx (by decide)] at hj)), fun hj => (F8 (by rwa [sgx (by decide)] at hj)), fun hj => (F9 (by rwa [sgx (by decide)] at hj)), fun hj => (F10 (by rwa [sgx (by decide)] at hj)), fun hj hu => (F11 (by rwa [sgx (by decide)] at hj) (by rwa [sgx (by decide)] at hu)), fun hj hu => (F12 (by rwa [sgx (by decide)] at hj) (by rwa [sgx (by decide)] at hu)), fun hj => (F13 (by rwa [sgx (by decide)] at hj)), fun hj => (F14 (by rwa [sgx (by decide)] at hj)), hx⟩
    · as_aux_lemma =>
        obtain ⟨u13, u14, u49, u50, u51, u52, u53, u54, u55, u56, u57, u58, u59, rfl, F0, F1, F2, F3, F4, F5, F6, F7, F8, F9, F10, F11, F12, F13, F14, hx⟩ := hI
        have l0 := he ⟨0, .data⟩ (by simp) rfl
        have l1 := he ⟨1, .data⟩ (by simp) rfl
        have l2 := he ⟨2, .data⟩ (by simp) rfl
        have l6 := he ⟨6, .data⟩ (by simp) rfl
        have e := F0 l0; subst e
        have e := F1 l1; subst e
        have e := F2 l2; subst e
        have e := F6 l6; subst e
        refine wpOp_stepx ho rfl (fun K hK => ?_)
        unfold srA
        go_simp
        (with_reducible refine (specAtmDo_any _ _ _ ms w'.heap.size wk hk who r w' ((hM.below hx).mono hx.size) (atmV_of ((hA.below hx).mono hx.size) ((hB.below hx).mono hx.size)) ((hQ.below hx).mono hx.size) (Nat.le_refl _)).mono ?_)
        rw [← HX.out]
        rintro e w'' ⟨a1, b1, d1, rfl, o1, o2, o3, oa, _, _, hb1⟩
        go_wp2_with fail
        exact ⟨_, _, _, _, _, _, _, _, _, _, _, _, _, rfl, fun hj => (by first | exact (F0 (by rwa [sgx (by decide)] at hj)) | rfl), fun hj => (by first | exact (F1 (by rwa [sgx (by decide)] at hj)) | rfl), fun hj => (by first | exact (F2 (by rwa [sgx (by decide)] at hj)) | rfl), fun hj => (by first | exact (F3 (by rwa [sgx (by decide)] at hj)) | rfl), fun hj => (by first | exact (F4 (by rwa [sgx (by decide)] at hj)) | rfl), fun hj => (by first | exact (F5 (by rwa [sgx (by decide)] at hj)) | rfl), fun hj => (by first | exact (F6 (by rwa [sgx (by decide)] at hj)) | rfl), fun _ => ⟨a1, b1, d1, rfl, o1.rebase hx.size, o2.rebase hx.size, o3.rebase hx.size, oa⟩, fun hj => absurd (hcl 8 _ rfl (by rwa [sgx (by decide)] at hj) ⟨7, .data⟩ (by simp) rfl) (by rw [getD_both hl]; simp), fun hj => (F9 (by rwa [sgx (by decide)] at hj)), fun hj => (F10 (by rwa [sgx (by decide)] at hj)), fun hj hu => (let ⟨g, e1, e2, e3⟩ := (F11 (by rwa [sgx (by decide)] at hj) (by rwa [sgx (by decide)] at hu)); ⟨g, e1, e2, e3.below hb1 e3.lt⟩), fun hj hu => (let ⟨g, e1, e2, e3⟩ := (F12 (by rwa [sgx (by decide)] at hj) (by rwa [sgx (by decide)] at hu)); ⟨g, e1, e2, e3.below hb1 e3.lt⟩), fun hj => absurd (hcl 13 _ rfl (by rwa [sgx (by decide)] at hj) ⟨7, .chain⟩ (by simp) rfl) (by rw [getD_both hl]; simp), fun hj => absurd (hcl 14 _ rfl (by rwa [sgx (by decide)] at hj) ⟨7, .phase⟩ (by simp) rfl) (by rw [getD_both hl]; simp), hx.trans (hb1.mono hx.size)⟩
    · as_aux_lemma =>
        obtain ⟨u13, u14, u49, u50, u51, u52, u53, u54, u55, u56, u57, u58, u59, rfl, F0, F1, F2, F3, F4, F5, F6, F7, F8, F9, F10, F11, F12, F13, F14, hx⟩ := hI
        have l7 := he ⟨7, .data⟩ (by simp) rfl
        have l := F7 l7
        refine wpOp_stepx ho rfl (fun K hK => ?_)
        unfold srA
        go_simp
        exact hK _ _ ⟨_, _, _, _, _, _, _, _, _, _, _, _, _, rfl, fun hj => (by first | exact (F0 (by rwa [sgx (by decide)] at hj)) | rfl), fun hj => (by first | exact (F1 (by rwa [sgx (by decide)] at hj)) | rfl), fun hj => (by first | exact (F2 (by rwa [sgx (by decide)] at hj)) | rfl), fun hj => (by first | exact (F3 (by rwa [sgx (by decide)] at hj)) | rfl), fun hj => (by first | exact (F4 (by rwa [sgx (by decide)] at hj)) | rfl), fun hj => (by first | exact (F5 (by rwa [sgx (by decide)] at hj)) | rfl), fun hj => (by first | exact (F6 (by rwa [sgx (by decide)] at hj)) | rfl), fun hj => (F7 (by rwa [sgx (by decide)] at hj)), fun _ => l, fun hj => absurd (hcl 9 _ rfl (by rwa [sgx (by decide)] at hj) ⟨8, .data⟩ (by simp) rfl) (by rw [getD_both hl]; simp), fun hj => absurd (hcl 10 _ rfl (by rwa [sgx (by decide)] at hj) ⟨8, .data⟩ (by simp) rfl) (by rw [getD_both hl]; simp), fun hj hu => (F11 (by rwa [sgx (by decide)] at hj) (by rwa [sgx (by decide)] at hu)), fun hj hu => (F12 (by rwa [sgx (by decide)] at hj) (by rwa [sgx (by decide)] at hu)), fun hj => (F13 (by rwa [sgx (by decide)] at hj)), fun hj => (F14 (by rwa [sgx (by decide)] at hj)), hx⟩
    · as_aux_lemma =>
        obtain ⟨u13, u14, u49, u50, u51, u52, u53, u54, u55, u56, u57, u58, u59, rfl, F0, F1, F2, F3, F4, F5, F6, F7, F8, F9, F10, F11, F12, F13, F14, hx⟩ := hI
        have l8 := he ⟨8, .data⟩ (by simp) rfl
        obtain ⟨a, b, d, rfl, o1, o2, o3, oa⟩ := F8 l8
        refine wpOp_stepx ho rfl (fun K hK => ?_)
        unfold srA
        go_simp
        exact hK _ _ ⟨_, _, _, _, _, _, _, _, _, _, _, _, _, rfl, fun hj => (by first | exact (F0 (by rwa [sgx (by decide)] at hj)) | rfl), fun hj => (by first | exact (F1 (by rwa [sgx (by decide)] at hj)) | rfl), fun hj => (by first | exact (F2 (by rwa [sgx (by decide)] at hj)) | rfl), fun hj => (by first | exact (F3 (by rwa [sgx (by decide)] at hj)) | rfl), fun hj => (by first | exact (F4 (by rwa [sgx (by decide)] at hj)) | rfl), fun hj => (by first | exact (F5 (by rwa [sgx (by decide)] at hj)) | rfl), fun hj => (by first | exact (F6 (by rwa [sgx (by decide)] at hj)) | rfl), fun hj => (F7 (by rwa [sgx (by decide)] at hj)), fun hj => ⟨a, b, d, rfl, o1, o2, o3, oa⟩, fun _ => ⟨_, rfl⟩, fun hj => (F10 (by rwa [sgx (by decide)] at hj)), fun hj hu => (F11 (by rwa [sgx (by decide)] at hj) (by rwa [sgx (by decide)] at hu)), fun hj hu => (F12 (by rwa [sgx (by decide)] at hj) (by rwa [sgx (by decide)] at hu)), fun hj => absurd (hcl 13 _ rfl (by rwa [sgx (by decide)] at hj) ⟨9, .data⟩ (by simp) rfl) (by rw [getD_both hl]; simp), fun hj => (F14 (by rwa [sgx (by decide)] at hj)), hx⟩
    · as_aux_lemma =>
        obtain ⟨u13, u14, u49, u50, u51, u52, u53, u54, u55, u56, u57, u58, u59, rfl, F0, F1, F2, F3, F4, F5, F6, F7, F8, F9, F10, F11, F12, F13, F14, hx⟩ := hI
        have l8 := he ⟨8, .data⟩ (by simp) rfl
        obtain ⟨a, b, d, rfl, o1, o2, o3, oa⟩ := F8 l8
        refine wpOp_stepx ho rfl (fun K hK => ?_)
        unfold srA
        go_simp
        exact hK _ _ ⟨_, _, _, _, _, _, _, _, _, _, _, _, _, rfl, fun hj => (by first | exact (F0 (by rwa [sgx (by decide)] at hj)) | rfl), fun hj => (by first | exact (F1 (by rwa [sgx (by decide)] at hj)) | rfl), fun hj => (by first | exact (F2 (by rwa [sgx (by decide)] at hj)) | rfl), fun hj => (by first | exact (F3 (by rwa [sgx (by decide)] at hj)) | rfl), fun hj => (by first | exact (F4 (by rwa [sgx (by decide)] at hj)) | rfl), fun hj => (by first | exact (F5 (by rwa [sgx (by decide)] at hj)) | rfl), fun hj => (by first | exact (F6 (by rwa [sgx (by decide)] at hj)) | rfl), fun hj => (F7 (by rwa [sgx (by decide)] at hj)), fun hj => ⟨a, b, d, rfl, o1, o2, o3, oa⟩, fun hj => (F9 (by rwa [sgx (by decide)] at hj)), fun _ => ⟨_, rfl⟩, fun hj hu => (F11 (by rwa [sgx (by decide)] at hj) (by rwa [sgx (by decide)] at hu)), fun hj hu => (F12 (by rwa [sgx (by decide)] at hj) (by rwa [sgx (by decide)] at hu)), fun hj => (F13 (by rwa [sgx (by decide)] at hj)), fun hj => absurd (hcl 14 _ rfl (by rwa [sgx (by decide)] at hj) ⟨10, .data⟩ (by simp) rfl) (by rw [getD_both hl]; simp), hx⟩
    · as_aux_lemma =>
        obtain ⟨u13, u14, u49, u50, u51, u52, u53, u54, u55, u56, u57, u58, u59, rfl, F0, F1, F2, F3, F4, F5, F6, F7, F8, F9, F10, F11, F12, F13, F14, hx⟩ := hI
        refine wpOp_stepx ho rfl (fun K hK => ?_)
        unfold srA
        have hb1 : Below w'.heap.size w' (w'.alloc (.cells #[.slice none 0 0, .slice none 0 0] 40)) := (Below.refl _ _).alloc (Nat.le_refl _) _
        go_simp
        exact hK _ _ ⟨_, _, _, _, _, _, _, _, _, _, _, _, _, rfl, fun hj => (by first | exact (F0 (by rwa [sgx (by decide)] at hj)) | rfl), fun hj => (by first | exact (F1 (by rwa [sgx (by decide)] at hj)) | rfl), fun hj => (by first | exact (F2 (by rwa [sgx (by decide)] at hj)) | rfl), fun hj => (by first | exact (F3 (by rwa [sgx (by decide)] at hj)) | rfl), fun hj => (by first | exact (F4 (by rwa [sgx (by decide)] at hj)) | rfl), fun hj => (by first | exact (F5 (by rwa [sgx (by decide)] at hj)) | rfl), fun hj => (by first | exact (F6 (by rwa [sgx (by decide)] at hj)) | rfl), fun hj => (F7 (by rwa [sgx (by decide)] at hj)).below hb1, fun hj => (F8 (by rwa [sgx (by decide)] at hj)).below hb1, fun hj => (F9 (by rwa [sgx (by decide)] at hj)), fun hj => (F10 (by rwa [sgx (by decide)] at hj)), fun _ _ => ⟨_, rfl, hx.size, BoxA.new _ _ _⟩, fun hj hu => (let ⟨g, e1, e2, e3⟩ := (F12 (by rwa [sgx (by decide)] at hj) (by rwa [sgx (by decide)] at hu)); ⟨g, e1, e2, e3.below hb1 e3.lt⟩), fun hj => absurd (hcl 13 _ rfl (by rwa [sgx (by decide)] at hj) ⟨11, .data⟩ (by simp) rfl) (by rw [getD_both hl]; simp), fun hj => (let ⟨g, a, b, c, e1, e2, e3, e4⟩ := (F14 (by rwa [sgx (by decide)] at hj)); ⟨g, a, b, c, e1, e2, e3.below hb1 e3.lt, e4⟩), hx.trans (hb1.mono hx.size)⟩
    · as_aux_lemma =>
        obtain ⟨u13, u14, u49, u50, u51, u52, u53, u54, u55, u56, u57, u58, u59, rfl, F0, F1, F2, F3, F4, F5, F6, F7, F8, F9, F10, F11, F12, F13, F14, hx⟩ := hI
        refine wpOp_stepx ho rfl (fun K hK => ?_)
        unfold srA
        have hb1 : Below w'.heap.size w' (w'.alloc (.cells #[.int .i64 0, .int .i64 0, .slice none 0 0] 66)) := (Below.refl _ _).alloc (Nat.le_refl _) _
        go_simp
        exact hK _ _ ⟨_, _, _, _, _, _, _, _, _, _, _, _, _, rfl, fun hj => (by first | exact (F0 (by rwa [sgx (by decide)] at hj)) | rfl), fun hj => (by first | exact (F1 (by rwa [sgx (by decide)] at hj)) | rfl), fun hj => (by first | exact (F2 (by rwa [sgx (by decide)] at hj)) | rfl), fun hj => (by first | exact (F3 (by rwa [sgx (by decide)] at hj)) | rfl), fun hj => (by first | exact (F4 (by rwa [sgx (by decide)] at hj)) | rfl), fun hj => (by first | exact (F5 (by rwa [sgx (by decide)] at hj)) | rfl), fun hj => (by first | exact (F6 (by rwa [sgx (by decide)] at hj)) | rfl), fun hj => (F7 (by rwa [sgx (by decide)] at hj)).below hb1, fun hj => (F8 (by rwa [sgx (by decide)] at hj)).below hb1, fun hj => (F9 (by rwa [sgx (by decide)] at hj)), fun hj => (F10 (by rwa [sgx (by decide)] at hj)), fun hj hu => (let ⟨g, e1, e2, e3⟩ := (F11 (by rwa [sgx (by decide)] at hj) (by rwa [sgx (by decide)] at hu)); ⟨g, e1, e2, e3.below hb1 e3.lt⟩), fun _ _ => ⟨_, rfl, hx.size, BoxR.new _ _ _ _⟩, fun hj => (let ⟨g, a, b, e1, e2, e3, e4⟩ := (F13 (by rwa [sgx (by decide)] at hj)); ⟨g, a, b, e1, e2, e3.below hb1 e3.lt, e4⟩), fun hj => absurd (hcl 14 _ rfl (by rwa [sgx (by decide)] at hj) ⟨12, .data⟩ (by simp) rfl) (by rw [getD_both hl]; simp), hx.trans (hb1.mono hx.size)⟩
    · as_aux_lemma =>
        obtain ⟨u13, u14, u49, u50, u51, u52, u53, u54, u55, u56, u57, u58, u59, rfl, F0, F1, F2, F3, F4, F5, F6, F7, F8, F9, F10, F11, F12, F13, F14, hx⟩ := hI
        have l11 := he ⟨11, .data⟩ (by simp) rfl
        have l9 := he ⟨9, .data⟩ (by simp) rfl
        have l8 := he ⟨8, .phase⟩ (by simp) rfl
        obtain ⟨g, rfl, g1, hAA⟩ := F11 l11 (getD_both hl)
        obtain ⟨y, hy⟩ := F9 l9
        obtain ⟨a, b, d, rfl, o1, o2, o3, oa⟩ := F8 l8
        simp at hy
        obtain ⟨rfl, rfl⟩ := hy
        obtain ⟨qa, qc, rfl, _, _⟩ := o1.shape
        obtain ⟨ra, rc, rfl, _, _⟩ := o2.shape
        obtain ⟨k0, k1, m0, m1⟩ := hAA.cells
        refine wpOp_stepx ho rfl (fun K hK => ?_)
        unfold srA
        have ht := touchA g w' (.slice qa x.1.length qc) (.slice ra x.2.1.length rc)
        go_simp
        exact hK _ _ ⟨_, _, _, _, _, _, _, _, _, _, _, _, _, rfl, fun hj => (by first | exact (F0 (by rwa [sgx (by decide)] at hj)) | rfl), fun hj => (by first | exact (F1 (by rwa [sgx (by decide)] at hj)) | rfl), fun hj => (by first | exact (F2 (by rwa [sgx (by decide)] at hj)) | rfl), fun hj => (by first | exact (F3 (by rwa [sgx (by decide)] at hj)) | rfl), fun hj => (by first | exact (F4 (by rwa [sgx (by decide)] at hj)) | rfl), fun hj => (by first | exact (F5 (by rwa [sgx (by decide)] at hj)) | rfl), fun hj => (by first | exact (F6 (by rwa [sgx (by decide)] at hj)) | rfl), fun hj => (F7 (by rwa [sgx (by decide)] at hj)).boxA hAA ht, fun hj => RF.boxA ⟨_, _, d, rfl, o1, o2, o3, oa⟩ hAA ht, fun hj => (F9 (by rwa [sgx (by decide)] at hj)), fun hj => (F10 (by rwa [sgx (by decide)] at hj)), fun _ hu => absurd hu (by rw [sgix hl]; simp), fun hj hu => (let ⟨g, e1, e2, e3⟩ := (F12 (by rwa [sgx (by decide)] at hj) (by rwa [sgx (by decide)] at hu)); ⟨g, e1, e2, e3.touch ht (hAA.ne e3)⟩), fun _ => ⟨g, _, _, rfl, g1, hAA.put _ _, rfl⟩, fun hj => absurd (hcl 14 _ rfl (by rwa [sgx (by decide)] at hj) ⟨13, .chain⟩ (by simp) rfl) (by rw [getD_both hl]; simp), Below.touchN hx ht g1 (Nat.le_refl _)⟩
    · as_aux_lemma =>
        obtain ⟨u13, u14, u49, u50, u51, u52, u53, u54, u55, u56, u57, u58, u59, rfl, F0, F1, F2, F3, F4, F5, F6, F7, F8, F9, F10, F11, F12, F13, F14, hx⟩ := hI
        have l12 := he ⟨12, .data⟩ (by simp) rfl
        have l10 := he ⟨10, .data⟩ (by simp) rfl
        have l8 := he ⟨8, .phase⟩ (by simp) rfl
        obtain ⟨g, rfl, g1, hR⟩ := F12 l12 (getD_both hl)
        obtain ⟨y, hy⟩ := F10 l10
        obtain ⟨a, b, d, rfl, o1, o2, o3, oa⟩ := F8 l8
        simp at hy
        obtain ⟨rfl, rfl⟩ := hy
        obtain ⟨qa, qc, rfl, _, _⟩ := o3.shape
        obtain ⟨k0, k1, k2, m0, m1, m2⟩ := hR.cells
        refine wpOp_stepx ho rfl (fun K hK => ?_)
        unfold srA
        have ht := touchR g w' (.int .i64 x.2.2.id) (.int .i64 x.2.2.code) (.slice qa x.2.2.data.length qc)
        go_simp
        exact hK _ _ ⟨_, _, _, _, _, _, _, _, _, _, _, _, _, rfl, fun hj => (by first | exact (F0 (by rwa [sgx (by decide)] at hj)) | rfl), fun hj => (by first | exact (F1 (by rwa [sgx (by decide)] at hj)) | rfl), fun hj => (by first | exact (F2 (by rwa [sgx (by decide)] at hj)) | rfl), fun hj => (by first | exact (F3 (by rwa [sgx (by decide)] at hj)) | rfl), fun hj => (by first | exact (F4 (by rwa [sgx (by decide)] at hj)) | rfl), fun hj => (by first | exact (F5 (by rwa [sgx (by decide)] at hj)) | rfl), fun hj => (by first | exact (F6 (by rwa [sgx (by decide)] at hj)) | rfl), fun hj => (F7 (by rwa [sgx (by decide)] at hj)).boxR hR ht, fun hj => RF.boxR ⟨a, b, _, rfl, o1, o2, o3, oa⟩ hR ht, fun hj => (F9 (by rwa [sgx (by decide)] at hj)), fun hj => (F10 (by rwa [sgx (by decide)] at hj)), fun hj hu => absurd (he ⟨13, .chain⟩ (by simp) rfl) (by rw [show listed.getD 13 false = false by rwa [sgx (by decide)] at hu]; simp), fun _ hu => absurd hu (by rw [sgix hl]; simp), fun hj => (let ⟨g2, a2, b2, e1, e2, e3, e4⟩ := (F13 (by rwa [sgx (by decide)] at hj)); ⟨g2, a2, b2, e1, e2, e3.touch ht (Ne.symm (e3.ne hR)), e4⟩), fun _ => ⟨g, _, _, _, rfl, g1, hR.put _ _ _, rfl⟩, Below.touchN hx ht g1 (Nat.le_refl _)⟩
  · intro listed a w' hI hd
    obtain ⟨u13, u14, u49, u50, u51, u52, u53, u54, u55, u56, u57, u58, u59, rfl, F0, F1, F2, F3, F4, F5, F6, F7, F8, F9, F10, F11, F12, F13, F14, hx⟩ := hI
    obtain ⟨a, b, d, hr, o1, o2, o3, oa⟩ := F8 (hd 8 (by show 8 < 15; omega))
    obtain ⟨y1, hy1⟩ := F9 (hd 9 (by show 9 < 15; omega))
    obtain ⟨y2, hy2⟩ := F10 (hd 10 (by show 10 < 15; omega))
    obtain ⟨ga, a', b', hp1, ga1, hA0, ha⟩ := F13 (hd 13 (by show 13 < 15; omega))
    obtain ⟨gr, i', c', d', hp2, gr1, hR0, hrr⟩ := F14 (hd 14 (by show 14 < 15; omega))
    clear F0 F1 F2 F3 F4 F5 F6 F7 F8 F9 F10 F11 F12 F13 F14 hd
    subst hr
    simp at hy1 hy2
    obtain ⟨hy1, hz1'⟩ := hy1
    obtain ⟨hz2', hy2⟩ := hy2
    subst hy1 hy2 hz1' hz2'
    simp at ha hrr
    obtain ⟨ha1, ha2⟩ := ha
    obtain ⟨hr1, hr2, hr3⟩ := hrr
    subst ha1 ha2 hr1 hr2 hr3 hp1 hp2
    exact hK _ _ _ _ _ _ _ _ _ _ _ _ _ w' ⟨ga, gr, a, b, d, rfl, rfl, ga1, gr1, hA0, hR0, o1, o2, o3, hx⟩

end Go.Proofs.Yteamebdehembgaa
