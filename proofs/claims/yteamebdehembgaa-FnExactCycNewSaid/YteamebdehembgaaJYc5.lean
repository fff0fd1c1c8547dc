/-
  CycState.copyOf: the drawn region of its stores (printed by wip/gen_yc.py).
-/
import Derived.Test.YteamebdehembgaaJY4
set_option linter.unusedVariables false
set_option linter.unusedSimpArgs false
namespace Go.Proofs.Yteamebdehembgaa
open Go.RowKit
attribute [local go_sem ↓] Go.wp_at_zero Go.wp_at_succ

def y5cA (i0 i1 i2 i6 i7 i8 i9 i10 i11 i12 i13 i14 i15 i16 i17 i18 i19 i20 i21 i22 i23 i24 i25 i26 i27 i28 i45 i46 i47 i48 i49 i50 i51 i52 i53 i54 i55 i56 i57 i58 i59 i60 i61 i62 i63 i64 i65 i66 i67 i68 i69 i70 i71 : Value) (g : Nat) (k : Nat) (gE : Nat) (u29 u30 u31 u32 u33 u34 u35 u36 u37 u38 u39 u40 u41 u42 u43 u44 : Value) : Act := { tmps := #[i0, i1, i2, .pointer (some ⟨g, 0, none⟩), .int .i64 (k : Nat), .pointer (some ⟨gE, 0, none⟩), i6, i7, i8, i9, i10, i11, i12, i13, i14, i15, i16, i17, i18, i19, i20, i21, i22, i23, i24, i25, i26, i27, i28, u29, u30, u31, u32, u33, u34, u35, u36, u37, u38, u39, u40, u41, u42, u43, u44, i45, i46, i47, i48, i49, i50, i51, i52, i53, i54, i55, i56, i57, i58, i59, i60, i61, i62, i63, i64, i65, i66, i67, i68, i69, i70, i71], defers := [] }
def y5cI (i0 i1 i2 i6 i7 i8 i9 i10 i11 i12 i13 i14 i15 i16 i17 i18 i19 i20 i21 i22 i23 i24 i25 i26 i27 i28 i45 i46 i47 i48 i49 i50 i51 i52 i53 i54 i55 i56 i57 i58 i59 i60 i61 i62 i63 i64 i65 i66 i67 i68 i69 i70 i71 : Value) (g : Nat) (k : Nat) (gE : Nat) (pb : Nat) (po : Nat) (n : Nat) (pc : Nat) (wq : World) (listed : Array Bool) (a : Act) (w' : World) : Prop :=
  ∃ u29 u30 u31 u32 u33 u34 u35 u36 u37 u38 u39 u40 u41 u42 u43 u44 : Value, a = y5cA i0 i1 i2 i6 i7 i8 i9 i10 i11 i12 i13 i14 i15 i16 i17 i18 i19 i20 i21 i22 i23 i24 i25 i26 i27 i28 i45 i46 i47 i48 i49 i50 i51 i52 i53 i54 i55 i56 i57 i58 i59 i60 i61 i62 i63 i64 i65 i66 i67 i68 i69 i70 i71 g k gE u29 u30 u31 u32 u33 u34 u35 u36 u37 u38 u39 u40 u41 u42 u43 u44 ∧
      (listed.getD 0 false = true → u29 = .pointer (some ⟨g, 2, none⟩)) ∧
      (listed.getD 1 false = true → u30 = .slice (some ⟨pb, po, none⟩) n pc) ∧
      (listed.getD 2 false = true → u31 = .int .i64 (k : Nat)) ∧
      (listed.getD 3 false = true → u32 = .pointer (some ⟨g, 2, none⟩)) ∧
      (listed.getD 4 false = true → u33 = .slice (some ⟨pb, po, none⟩) n pc) ∧
      (listed.getD 5 false = true → u34 = .int .i64 (k : Nat)) ∧
      (listed.getD 6 false = true → u35 = .pointer (some ⟨gE, 1, none⟩)) ∧
      (listed.getD 7 false = true → u36 = vnil) ∧
      (listed.getD 8 false = true → u37 = vnil) ∧
      (listed.getD 9 false = true → u38 = .pointer (some ⟨gE, 2, none⟩)) ∧
      (listed.getD 10 false = true → u39 = vnil) ∧
      (listed.getD 11 false = true → u40 = vnil) ∧
      (listed.getD 12 false = true → u41 = .pointer (some ⟨pb, po + k * 4, none⟩)) ∧
      (listed.getD 13 false = true → u42 = .pointer (some ⟨pb, po + k * 4 + 1, none⟩)) ∧
      (listed.getD 15 false = true → u43 = .pointer (some ⟨pb, po + k * 4, none⟩)) ∧
      (listed.getD 16 false = true → u44 = .pointer (some ⟨pb, po + k * 4 + 2, none⟩)) ∧
      (w'.heap = wq.heap ∧ Below 0 wq w')
noncomputable def y5cCode : Code := (Try.f78.body.bind (regIn2 5)).getD .skip

set_option maxRecDepth 100000 in
set_option maxHeartbeats 16000000 in
theorem y5c_region (i0 i1 i2 i6 i7 i8 i9 i10 i11 i12 i13 i14 i15 i16 i17 i18 i19 i20 i21 i22 i23 i24 i25 i26 i27 i28 i45 i46 i47 i48 i49 i50 i51 i52 i53 i54 i55 i56 i57 i58 i59 i60 i61 i62 i63 i64 i65 i66 i67 i68 i69 i70 i71 j29 j30 j31 j32 j33 j34 j35 j36 j37 j38 j39 j40 j41 j42 j43 j44 : Value) (g : Nat) (k : Nat) (gE : Nat) (pb : Nat) (po : Nat) (n : Nat) (pc : Nat) (wq : World)
    (hG : wq.cell? ⟨g, 2, none⟩ = some (.slice (some ⟨pb, po, none⟩) n pc)) (hkn : k < n) (hE1 : wq.cell? ⟨gE, 1, none⟩ = some vnil) (hC1 : wq.cell? ⟨pb, po + k * 4 + 1, none⟩ = some vnil) (hF1 : wq.frozen? ⟨pb, po + k * 4 + 1, none⟩ = false) (hE2 : wq.cell? ⟨gE, 2, none⟩ = some vnil) (hC2 : wq.cell? ⟨pb, po + k * 4 + 2, none⟩ = some vnil) (hF2 : wq.frozen? ⟨pb, po + k * 4 + 2, none⟩ = false)
    {Q : Exit → Act → World → Prop}
    (hK : ∀ (u29 u30 u31 u32 u33 u34 u35 u36 u37 u38 u39 u40 u41 u42 u43 u44 : Value) w', w'.heap = wq.heap ∧ Below 0 wq w' → Q .normal (y5cA i0 i1 i2 i6 i7 i8 i9 i10 i11 i12 i13 i14 i15 i16 i17 i18 i19 i20 i21 i22 i23 i24 i25 i26 i27 i28 i45 i46 i47 i48 i49 i50 i51 i52 i53 i54 i55 i56 i57 i58 i59 i60 i61 i62 i63 i64 i65 i66 i67 i68 i69 i70 i71 g k gE u29 u30 u31 u32 u33 u34 u35 u36 u37 u38 u39 u40 u41 u42 u43 u44) w') : y5cCode.wp Try.prog Q (y5cA i0 i1 i2 i6 i7 i8 i9 i10 i11 i12 i13 i14 i15 i16 i17 i18 i19 i20 i21 i22 i23 i24 i25 i26 i27 i28 i45 i46 i47 i48 i49 i50 i51 i52 i53 i54 i55 i56 i57 i58 i59 i60 i61 i62 i63 i64 i65 i66 i67 i68 i69 i70 i71 g k gE j29 j30 j31 j32 j33 j34 j35 j36 j37 j38 j39 j40 j41 j42 j43 j44) wq := by
  conv => arg 2; whnf
  refine wp_region_inv2 (y5cI i0 i1 i2 i6 i7 i8 i9 i10 i11 i12 i13 i14 i15 i16 i17 i18 i19 i20 i21 i22 i23 i24 i25 i26 i27 i28 i45 i46 i47 i48 i49 i50 i51 i52 i53 i54 i55 i56 i57 i58 i59 i60 i61 i62 i63 i64 i65 i66 i67 i68 i69 i70 i71 g k gE pb po n pc wq) (by kernel_rfl) (by kernel_rfl) ?_ ?_ ?_
  · exact ⟨_, _, _, _, _, _, _, _, _, _, _, _, _, _, _, _, rfl, (fun h => absurd h (by rw [getD_replicate_false]; simp)), (fun h => absurd h (by rw [getD_replicate_false]; simp)), (fun h => absurd h (by rw [getD_replicate_false]; simp)), (fun h => absurd h (by rw [getD_replicate_false]; simp)), (fun h => absurd h (by rw [getD_replicate_false]; simp)), (fun h => absurd h (by rw [getD_replicate_false]; simp)), (fun h => absurd h (by rw [getD_replicate_false]; simp)), (fun h => absurd h (by rw [getD_replicate_false]; simp)), (fun h => absurd h (by rw [getD_replicate_false]; simp)), (fun h => absurd h (by rw [getD_replicate_false]; simp)), (fun h => absurd h (by rw [getD_replicate_false]; simp)), (fun h => absurd h (by rw [getD_replicate_false]; simp)), (fun h => absurd h (by rw [getD_replicate_false]; simp)), (fun h => absurd h (by rw [getD_replicate_false]; simp)), (fun h => absurd h (by rw [getD_replicate_false]; simp)), (fun h => absurd h (by rw [getD_replicate_false]; simp)), ⟨rfl, (Below.refl _ _).drew⟩⟩
  · intro listed a w' i o hI hsz ho hl he hcl
    have hi : i < 18 := (Array.getElem?_eq_some_iff.1 ho).1
    have e : i = 0 ∨ i = 1 ∨ i = 2 ∨ i = 3 ∨ i = 4 ∨ i = 5 ∨ i = 6 ∨ i = 7 ∨ i = 8 ∨ i = 9 ∨ i = 10 ∨ i = 11 ∨ i = 12 ∨ i = 13 ∨ i = 14 ∨ i = 15 ∨ i = 16 ∨ i = 17 := by omega
    clear hi
    rcases e with rfl | rfl | rfl | rfl | rfl | rfl | rfl | rfl | rfl | rfl | rfl | rfl | rfl | rfl | rfl | rfl | rfl | rfl
    all_goals (have ho2 := ho; obtain rfl := Option.some.inj ho2.symm; clear ho2)
    · as_aux_lemma =>
        obtain ⟨u29, u30, u31, u32, u33, u34, u35, u36, u37, u38, u39, u40, u41, u42, u43, u44, rfl, F0, F1, F2, F3, F4, F5, F6, F7, F8, F9, F10, F11, F12, F13, F15, F16, hx⟩ := hI
        refine wpOp_stepx ho rfl (fun K hK => ?_)
        unfold y5cA
        go_simp
        exact hK _ _ ⟨_, _, _, _, _, _, _, _, _, _, _, _, _, _, _, _, rfl, fun _ => rfl, fun hj => (by first | exact (F1 (by rwa [sgx (by decide)] at hj)) | rfl), fun hj => (by first | exact (F2 (by rwa [sgx (by decide)] at hj)) | rfl), fun hj => (by first | exact (F3 (by rwa [sgx (by decide)] at hj)) | rfl), fun hj => (by first | exact (F4 (by rwa [sgx (by decide)] at hj)) | rfl), fun hj => (by first | exact (F5 (by rwa [sgx (by decide)] at hj)) | rfl), fun hj => (by first | exact (F6 (by rwa [sgx (by decide)] at hj)) | rfl), fun hj => (by first | exact (F7 (by rwa [sgx (by decide)] at hj)) | rfl), fun hj => (by first | exact (F8 (by rwa [sgx (by decide)] at hj)) | rfl), fun hj => (by first | exact (F9 (by rwa [sgx (by decide)] at hj)) | rfl), fun hj => (by first | exact (F10 (by rwa [sgx (by decide)] at hj)) | rfl), fun hj => (by first | exact (F11 (by rwa [sgx (by decide)] at hj)) | rfl), fun hj => (by first | exact (F12 (by rwa [sgx (by decide)] at hj)) | rfl), fun hj => (by first | exact (F13 (by rwa [sgx (by decide)] at hj)) | rfl), fun hj => (by first | exact (F15 (by rwa [sgx (by decide)] at hj)) | rfl), fun hj => (by first | exact (F16 (by rwa [sgx (by decide)] at hj)) | rfl), hx⟩
    · as_aux_lemma =>
        obtain ⟨u29, u30, u31, u32, u33, u34, u35, u36, u37, u38, u39, u40, u41, u42, u43, u44, rfl, F0, F1, F2, F3, F4, F5, F6, F7, F8, F9, F10, F11, F12, F13, F15, F16, hx⟩ := hI
        have l0 := he ⟨0, .data⟩ (by simp) rfl
        have e := F0 l0; subst e
        have q := (cellH hx.1 _).trans hG
        refine wpOp_stepx ho rfl (fun K hK => ?_)
        unfold y5cA
        go_simp
        exact hK _ _ ⟨_, _, _, _, _, _, _, _, _, _, _, _, _, _, _, _, rfl, fun hj => (by first | exact (F0 (by rwa [sgx (by decide)] at hj)) | rfl), fun _ => rfl, fun hj => (by first | exact (F2 (by rwa [sgx (by decide)] at hj)) | rfl), fun hj => (by first | exact (F3 (by rwa [sgx (by decide)] at hj)) | rfl), fun hj => (by first | exact (F4 (by rwa [sgx (by decide)] at hj)) | rfl), fun hj => (by first | exact (F5 (by rwa [sgx (by decide)] at hj)) | rfl), fun hj => (by first | exact (F6 (by rwa [sgx (by decide)] at hj)) | rfl), fun hj => (by first | exact (F7 (by rwa [sgx (by decide)] at hj)) | rfl), fun hj => (by first | exact (F8 (by rwa [sgx (by decide)] at hj)) | rfl), fun hj => (by first | exact (F9 (by rwa [sgx (by decide)] at hj)) | rfl), fun hj => (by first | exact (F10 (by rwa [sgx (by decide)] at hj)) | rfl), fun hj => (by first | exact (F11 (by rwa [sgx (by decide)] at hj)) | rfl), fun hj => (by first | exact (F12 (by rwa [sgx (by decide)] at hj)) | rfl), fun hj => (by first | exact (F13 (by rwa [sgx (by decide)] at hj)) | rfl), fun hj => (by first | exact (F15 (by rwa [sgx (by decide)] at hj)) | rfl), fun hj => (by first | exact (F16 (by rwa [sgx (by decide)] at hj)) | rfl), hx⟩
    · as_aux_lemma =>
        obtain ⟨u29, u30, u31, u32, u33, u34, u35, u36, u37, u38, u39, u40, u41, u42, u43, u44, rfl, F0, F1, F2, F3, F4, F5, F6, F7, F8, F9, F10, F11, F12, F13, F15, F16, hx⟩ := hI
        refine wpOp_stepx ho rfl (fun K hK => ?_)
        unfold y5cA
        go_simp
        exact hK _ _ ⟨_, _, _, _, _, _, _, _, _, _, _, _, _, _, _, _, rfl, fun hj => (by first | exact (F0 (by rwa [sgx (by decide)] at hj)) | rfl), fun hj => (by first | exact (F1 (by rwa [sgx (by decide)] at hj)) | rfl), fun _ => rfl, fun hj => (by first | exact (F3 (by rwa [sgx (by decide)] at hj)) | rfl), fun hj => (by first | exact (F4 (by rwa [sgx (by decide)] at hj)) | rfl), fun hj => (by first | exact (F5 (by rwa [sgx (by decide)] at hj)) | rfl), fun hj => (by first | exact (F6 (by rwa [sgx (by decide)] at hj)) | rfl), fun hj => (by first | exact (F7 (by rwa [sgx (by decide)] at hj)) | rfl), fun hj => (by first | exact (F8 (by rwa [sgx (by decide)] at hj)) | rfl), fun hj => (by first | exact (F9 (by rwa [sgx (by decide)] at hj)) | rfl), fun hj => (by first | exact (F10 (by rwa [sgx (by decide)] at hj)) | rfl), fun hj => (by first | exact (F11 (by rwa [sgx (by decide)] at hj)) | rfl), fun hj => (by first | exact (F12 (by rwa [sgx (by decide)] at hj)) | rfl), fun hj => (by first | exact (F13 (by rwa [sgx (by decide)] at hj)) | rfl), fun hj => (by first | exact (F15 (by rwa [sgx (by decide)] at hj)) | rfl), fun hj => (by first | exact (F16 (by rwa [sgx (by decide)] at hj)) | rfl), hx⟩
    · as_aux_lemma =>
        obtain ⟨u29, u30, u31, u32, u33, u34, u35, u36, u37, u38, u39, u40, u41, u42, u43, u44, rfl, F0, F1, F2, F3, F4, F5, F6, F7, F8, F9, F10, F11, F12, F13, F15, F16, hx⟩ := hI
        refine wpOp_stepx ho rfl (fun K hK => ?_)
        unfold y5cA
        go_simp
        exact hK _ _ ⟨_, _, _, _, _, _, _, _, _, _, _, _, _, _, _, _, rfl, fun hj => (by first | exact (F0 (by rwa [sgx (by decide)] at hj)) | rfl), fun hj => (by first | exact (F1 (by rwa [sgx (by decide)] at hj)) | rfl), fun hj => (by first | exact (F2 (by rwa [sgx (by decide)] at hj)) | rfl), fun _ => rfl, fun hj => (by first | exact (F4 (by rwa [sgx (by decide)] at hj)) | rfl), fun hj => (by first | exact (F5 (by rwa [sgx (by decide)] at hj)) | rfl), fun hj => (by first | exact (F6 (by rwa [sgx (by decide)] at hj)) | rfl), fun hj => (by first | exact (F7 (by rwa [sgx (by decide)] at hj)) | rfl), fun hj => (by first | exact (F8 (by rwa [sgx (by decide)] at hj)) | rfl), fun hj => (by first | exact (F9 (by rwa [sgx (by decide)] at hj)) | rfl), fun hj => (by first | exact (F10 (by rwa [sgx (by decide)] at hj)) | rfl), fun hj => (by first | exact (F11 (by rwa [sgx (by decide)] at hj)) | rfl), fun hj => (by first | exact (F12 (by rwa [sgx (by decide)] at hj)) | rfl), fun hj => (by first | exact (F13 (by rwa [sgx (by decide)] at hj)) | rfl), fun hj => (by first | exact (F15 (by rwa [sgx (by decide)] at hj)) | rfl), fun hj => (by first | exact (F16 (by rwa [sgx (by decide)] at hj)) | rfl), hx⟩
    · as_aux_lemma =>
        obtain ⟨u29, u30, u31, u32, u33, u34, u35, u36, u37, u38, u39, u40, u41, u42, u43, u44, rfl, F0, F1, F2, F3, F4, F5, F6, F7, F8, F9, F10, F11, F12, F13, F15, F16, hx⟩ := hI
        have l3 := he ⟨3, .data⟩ (by simp) rfl
        have e := F3 l3; subst e
        have q := (cellH hx.1 _).trans hG
        refine wpOp_stepx ho rfl (fun K hK => ?_)
        unfold y5cA
        go_simp
        exact hK _ _ ⟨_, _, _, _, _, _, _, _, _, _, _, _, _, _, _, _, rfl, fun hj => (by first | exact (F0 (by rwa [sgx (by decide)] at hj)) | rfl), fun hj => (by first | exact (F1 (by rwa [sgx (by decide)] at hj)) | rfl), fun hj => (by first | exact (F2 (by rwa [sgx (by decide)] at hj)) | rfl), fun hj => (by first | exact (F3 (by rwa [sgx (by decide)] at hj)) | rfl), fun _ => rfl, fun hj => (by first | exact (F5 (by rwa [sgx (by decide)] at hj)) | rfl), fun hj => (by first | exact (F6 (by rwa [sgx (by decide)] at hj)) | rfl), fun hj => (by first | exact (F7 (by rwa [sgx (by decide)] at hj)) | rfl), fun hj => (by first | exact (F8 (by rwa [sgx (by decide)] at hj)) | rfl), fun hj => (by first | exact (F9 (by rwa [sgx (by decide)] at hj)) | rfl), fun hj => (by first | exact (F10 (by rwa [sgx (by decide)] at hj)) | rfl), fun hj => (by first | exact (F11 (by rwa [sgx (by decide)] at hj)) | rfl), fun hj => (by first | exact (F12 (by rwa [sgx (by decide)] at hj)) | rfl), fun hj => (by first | exact (F13 (by rwa [sgx (by decide)] at hj)) | rfl), fun hj => (by first | exact (F15 (by rwa [sgx (by decide)] at hj)) | rfl), fun hj => (by first | exact (F16 (by rwa [sgx (by decide)] at hj)) | rfl), hx⟩
    · as_aux_lemma =>
        obtain ⟨u29, u30, u31, u32, u33, u34, u35, u36, u37, u38, u39, u40, u41, u42, u43, u44, rfl, F0, F1, F2, F3, F4, F5, F6, F7, F8, F9, F10, F11, F12, F13, F15, F16, hx⟩ := hI
        refine wpOp_stepx ho rfl (fun K hK => ?_)
        unfold y5cA
        go_simp
        exact hK _ _ ⟨_, _, _, _, _, _, _, _, _, _, _, _, _, _, _, _, rfl, fun hj => (by first | exact (F0 (by rwa [sgx (by decide)] at hj)) | rfl), fun hj => (by first | exact (F1 (by rwa [sgx (by decide)] at hj)) | rfl), fun hj => (by first | exact (F2 (by rwa [sgx (by decide)] at hj)) | rfl), fun hj => (by first | exact (F3 (by rwa [sgx (by decide)] at hj)) | rfl), fun hj => (by first | exact (F4 (by rwa [sgx (by decide)] at hj)) | rfl), fun _ => rfl, fun hj => (by first | exact (F6 (by rwa [sgx (by decide)] at hj)) | rfl), fun hj => (by first | exact (F7 (by rwa [sgx (by decide)] at hj)) | rfl), fun hj => (by first | exact (F8 (by rwa [sgx (by decide)] at hj)) | rfl), fun hj => (by first | exact (F9 (by rwa [sgx (by decide)] at hj)) | rfl), fun hj => (by first | exact (F10 (by rwa [sgx (by decide)] at hj)) | rfl), fun hj => (by first | exact (F11 (by rwa [sgx (by decide)] at hj)) | rfl), fun hj => (by first | exact (F12 (by rwa [sgx (by decide)] at hj)) | rfl), fun hj => (by first | exact (F13 (by rwa [sgx (by decide)] at hj)) | rfl), fun hj => (by first | exact (F15 (by rwa [sgx (by decide)] at hj)) | rfl), fun hj => (by first | exact (F16 (by rwa [sgx (by decide)] at hj)) | rfl), hx⟩
    · as_aux_lemma =>
        obtain ⟨u29, u30, u31, u32, u33, u34, u35, u36, u37, u38, u39, u40, u41, u42, u43, u44, rfl, F0, F1, F2, F3, F4, F5, F6, F7, F8, F9, F10, F11, F12, F13, F15, F16, hx⟩ := hI
        refine wpOp_stepx ho rfl (fun K hK => ?_)
        unfold y5cA
        go_simp
        exact hK _ _ ⟨_, _, _, _, _, _, _, _, _, _, _, _, _, _, _, _, rfl, fun hj => (by first | exact (F0 (by rwa [sgx (by decide)] at hj)) | rfl), fun hj => (by first | exact (F1 (by rwa [sgx (by decide)] at hj)) | rfl), fun hj => (by first | exact (F2 (by rwa [sgx (by decide)] at hj)) | rfl), fun hj => (by first | exact (F3 (by rwa [sgx (by decide)] at hj)) | rfl), fun hj => (by first | exact (F4 (by rwa [sgx (by decide)] at hj)) | rfl), fun hj => (by first | exact (F5 (by rwa [sgx (by decide)] at hj)) | rfl), fun _ => rfl, fun hj => (by first | exact (F7 (by rwa [sgx (by decide)] at hj)) | rfl), fun hj => (by first | exact (F8 (by rwa [sgx (by decide)] at hj)) | rfl), fun hj => (by first | exact (F9 (by rwa [sgx (by decide)] at hj)) | rfl), fun hj => (by first | exact (F10 (by rwa [sgx (by decide)] at hj)) | rfl), fun hj => (by first | exact (F11 (by rwa [sgx (by decide)] at hj)) | rfl), fun hj => (by first | exact (F12 (by rwa [sgx (by decide)] at hj)) | rfl), fun hj => (by first | exact (F13 (by rwa [sgx (by decide)] at hj)) | rfl), fun hj => (by first | exact (F15 (by rwa [sgx (by decide)] at hj)) | rfl), fun hj => (by first | exact (F16 (by rwa [sgx (by decide)] at hj)) | rfl), hx⟩
    · as_aux_lemma =>
        obtain ⟨u29, u30, u31, u32, u33, u34, u35, u36, u37, u38, u39, u40, u41, u42, u43, u44, rfl, F0, F1, F2, F3, F4, F5, F6, F7, F8, F9, F10, F11, F12, F13, F15, F16, hx⟩ := hI
        have l6 := he ⟨6, .data⟩ (by simp) rfl
        have e := F6 l6; subst e
        have q := (cellH hx.1 _).trans hE1
        refine wpOp_stepx ho rfl (fun K hK => ?_)
        unfold y5cA
        go_simp
        exact hK _ _ ⟨_, _, _, _, _, _, _, _, _, _, _, _, _, _, _, _, rfl, fun hj => (by first | exact (F0 (by rwa [sgx (by decide)] at hj)) | rfl), fun hj => (by first | exact (F1 (by rwa [sgx (by decide)] at hj)) | rfl), fun hj => (by first | exact (F2 (by rwa [sgx (by decide)] at hj)) | rfl), fun hj => (by first | exact (F3 (by rwa [sgx (by decide)] at hj)) | rfl), fun hj => (by first | exact (F4 (by rwa [sgx (by decide)] at hj)) | rfl), fun hj => (by first | exact (F5 (by rwa [sgx (by decide)] at hj)) | rfl), fun hj => (by first | exact (F6 (by rwa [sgx (by decide)] at hj)) | rfl), fun _ => rfl, fun hj => (by first | exact (F8 (by rwa [sgx (by decide)] at hj)) | rfl), fun hj => (by first | exact (F9 (by rwa [sgx (by decide)] at hj)) | rfl), fun hj => (by first | exact (F10 (by rwa [sgx (by decide)] at hj)) | rfl), fun hj => (by first | exact (F11 (by rwa [sgx (by decide)] at hj)) | rfl), fun hj => (by first | exact (F12 (by rwa [sgx (by decide)] at hj)) | rfl), fun hj => (by first | exact (F13 (by rwa [sgx (by decide)] at hj)) | rfl), fun hj => (by first | exact (F15 (by rwa [sgx (by decide)] at hj)) | rfl), fun hj => (by first | exact (F16 (by rwa [sgx (by decide)] at hj)) | rfl), hx⟩
    · as_aux_lemma =>
        obtain ⟨u29, u30, u31, u32, u33, u34, u35, u36, u37, u38, u39, u40, u41, u42, u43, u44, rfl, F0, F1, F2, F3, F4, F5, F6, F7, F8, F9, F10, F11, F12, F13, F15, F16, hx⟩ := hI
        have l7 := he ⟨7, .data⟩ (by simp) rfl
        have e := F7 l7; subst e
        refine wpOp_stepx ho rfl (fun K hK => ?_)
        unfold y5cA
        go_simp
        (with_reducible refine (nil_int w').mono ?_)
        rintro e w'' ⟨rfl, rfl⟩
        go_wp2_with fail
        exact ⟨_, _, _, _, _, _, _, _, _, _, _, _, _, _, _, _, rfl, fun hj => (by first | exact (F0 (by rwa [sgx (by decide)] at hj)) | rfl), fun hj => (by first | exact (F1 (by rwa [sgx (by decide)] at hj)) | rfl), fun hj => (by first | exact (F2 (by rwa [sgx (by decide)] at hj)) | rfl), fun hj => (by first | exact (F3 (by rwa [sgx (by decide)] at hj)) | rfl), fun hj => (by first | exact (F4 (by rwa [sgx (by decide)] at hj)) | rfl), fun hj => (by first | exact (F5 (by rwa [sgx (by decide)] at hj)) | rfl), fun hj => (by first | exact (F6 (by rwa [sgx (by decide)] at hj)) | rfl), fun hj => (by first | exact (F7 (by rwa [sgx (by decide)] at hj)) | rfl), fun _ => rfl, fun hj => (by first | exact (F9 (by rwa [sgx (by decide)] at hj)) | rfl), fun hj => (by first | exact (F10 (by rwa [sgx (by decide)] at hj)) | rfl), fun hj => (by first | exact (F11 (by rwa [sgx (by decide)] at hj)) | rfl), fun hj => (by first | exact (F12 (by rwa [sgx (by decide)] at hj)) | rfl), fun hj => (by first | exact (F13 (by rwa [sgx (by decide)] at hj)) | rfl), fun hj => (by first | exact (F15 (by rwa [sgx (by decide)] at hj)) | rfl), fun hj => (by first | exact (F16 (by rwa [sgx (by decide)] at hj)) | rfl), hx⟩
    · as_aux_lemma =>
        obtain ⟨u29, u30, u31, u32, u33, u34, u35, u36, u37, u38, u39, u40, u41, u42, u43, u44, rfl, F0, F1, F2, F3, F4, F5, F6, F7, F8, F9, F10, F11, F12, F13, F15, F16, hx⟩ := hI
        refine wpOp_stepx ho rfl (fun K hK => ?_)
        unfold y5cA
        go_simp
        exact hK _ _ ⟨_, _, _, _, _, _, _, _, _, _, _, _, _, _, _, _, rfl, fun hj => (by first | exact (F0 (by rwa [sgx (by decide)] at hj)) | rfl), fun hj => (by first | exact (F1 (by rwa [sgx (by decide)] at hj)) | rfl), fun hj => (by first | exact (F2 (by rwa [sgx (by decide)] at hj)) | rfl), fun hj => (by first | exact (F3 (by rwa [sgx (by decide)] at hj)) | rfl), fun hj => (by first | exact (F4 (by rwa [sgx (by decide)] at hj)) | rfl), fun hj => (by first | exact (F5 (by rwa [sgx (by decide)] at hj)) | rfl), fun hj => (by first | exact (F6 (by rwa [sgx (by decide)] at hj)) | rfl), fun hj => (by first | exact (F7 (by rwa [sgx (by decide)] at hj)) | rfl), fun hj => (by first | exact (F8 (by rwa [sgx (by decide)] at hj)) | rfl), fun _ => rfl, fun hj => (by first | exact (F10 (by rwa [sgx (by decide)] at hj)) | rfl), fun hj => (by first | exact (F11 (by rwa [sgx (by decide)] at hj)) | rfl), fun hj => (by first | exact (F12 (by rwa [sgx (by decide)] at hj)) | rfl), fun hj => (by first | exact (F13 (by rwa [sgx (by decide)] at hj)) | rfl), fun hj => (by first | exact (F15 (by rwa [sgx (by decide)] at hj)) | rfl), fun hj => (by first | exact (F16 (by rwa [sgx (by decide)] at hj)) | rfl), hx⟩
    · as_aux_lemma =>
        obtain ⟨u29, u30, u31, u32, u33, u34, u35, u36, u37, u38, u39, u40, u41, u42, u43, u44, rfl, F0, F1, F2, F3, F4, F5, F6, F7, F8, F9, F10, F11, F12, F13, F15, F16, hx⟩ := hI
        have l9 := he ⟨9, .data⟩ (by simp) rfl
        have e := F9 l9; subst e
        have q := (cellH hx.1 _).trans hE2
        refine wpOp_stepx ho rfl (fun K hK => ?_)
        unfold y5cA
        go_simp
        exact hK _ _ ⟨_, _, _, _, _, _, _, _, _, _, _, _, _, _, _, _, rfl, fun hj => (by first | exact (F0 (by rwa [sgx (by decide)] at hj)) | rfl), fun hj => (by first | exact (F1 (by rwa [sgx (by decide)] at hj)) | rfl), fun hj => (by first | exact (F2 (by rwa [sgx (by decide)] at hj)) | rfl), fun hj => (by first | exact (F3 (by rwa [sgx (by decide)] at hj)) | rfl), fun hj => (by first | exact (F4 (by rwa [sgx (by decide)] at hj)) | rfl), fun hj => (by first | exact (F5 (by rwa [sgx (by decide)] at hj)) | rfl), fun hj => (by first | exact (F6 (by rwa [sgx (by decide)] at hj)) | rfl), fun hj => (by first | exact (F7 (by rwa [sgx (by decide)] at hj)) | rfl), fun hj => (by first | exact (F8 (by rwa [sgx (by decide)] at hj)) | rfl), fun hj => (by first | exact (F9 (by rwa [sgx (by decide)] at hj)) | rfl), fun _ => rfl, fun hj => (by first | exact (F11 (by rwa [sgx (by decide)] at hj)) | rfl), fun hj => (by first | exact (F12 (by rwa [sgx (by decide)] at hj)) | rfl), fun hj => (by first | exact (F13 (by rwa [sgx (by decide)] at hj)) | rfl), fun hj => (by first | exact (F15 (by rwa [sgx (by decide)] at hj)) | rfl), fun hj => (by first | exact (F16 (by rwa [sgx (by decide)] at hj)) | rfl), hx⟩
    · as_aux_lemma =>
        obtain ⟨u29, u30, u31, u32, u33, u34, u35, u36, u37, u38, u39, u40, u41, u42, u43, u44, rfl, F0, F1, F2, F3, F4, F5, F6, F7, F8, F9, F10, F11, F12, F13, F15, F16, hx⟩ := hI
        have l10 := he ⟨10, .data⟩ (by simp) rfl
        have e := F10 l10; subst e
        refine wpOp_stepx ho rfl (fun K hK => ?_)
        unfold y5cA
        go_simp
        (with_reducible refine (nil_CycJob w').mono ?_)
        rintro e w'' ⟨rfl, rfl⟩
        go_wp2_with fail
        exact ⟨_, _, _, _, _, _, _, _, _, _, _, _, _, _, _, _, rfl, fun hj => (by first | exact (F0 (by rwa [sgx (by decide)] at hj)) | rfl), fun hj => (by first | exact (F1 (by rwa [sgx (by decide)] at hj)) | rfl), fun hj => (by first | exact (F2 (by rwa [sgx (by decide)] at hj)) | rfl), fun hj => (by first | exact (F3 (by rwa [sgx (by decide)] at hj)) | rfl), fun hj => (by first | exact (F4 (by rwa [sgx (by decide)] at hj)) | rfl), fun hj => (by first | exact (F5 (by rwa [sgx (by decide)] at hj)) | rfl), fun hj => (by first | exact (F6 (by rwa [sgx (by decide)] at hj)) | rfl), fun hj => (by first | exact (F7 (by rwa [sgx (by decide)] at hj)) | rfl), fun hj => (by first | exact (F8 (by rwa [sgx (by decide)] at hj)) | rfl), fun hj => (by first | exact (F9 (by rwa [sgx (by decide)] at hj)) | rfl), fun hj => (by first | exact (F10 (by rwa [sgx (by decide)] at hj)) | rfl), fun _ => rfl, fun hj => (by first | exact (F12 (by rwa [sgx (by decide)] at hj)) | rfl), fun hj => (by first | exact (F13 (by rwa [sgx (by decide)] at hj)) | rfl), fun hj => (by first | exact (F15 (by rwa [sgx (by decide)] at hj)) | rfl), fun hj => (by first | exact (F16 (by rwa [sgx (by decide)] at hj)) | rfl), hx⟩
    · as_aux_lemma =>
        obtain ⟨u29, u30, u31, u32, u33, u34, u35, u36, u37, u38, u39, u40, u41, u42, u43, u44, rfl, F0, F1, F2, F3, F4, F5, F6, F7, F8, F9, F10, F11, F12, F13, F15, F16, hx⟩ := hI
        have l1 := he ⟨1, .data⟩ (by simp) rfl
        have l2 := he ⟨2, .data⟩ (by simp) rfl
        have e := F1 l1; subst e
        have e := F2 l2; subst e
        have hkx := hkn
        refine wpOp_stepx ho rfl (fun K hK => ?_)
        unfold y5cA
        go_simp
        exact hK _ _ ⟨_, _, _, _, _, _, _, _, _, _, _, _, _, _, _, _, rfl, fun hj => (by first | exact (F0 (by rwa [sgx (by decide)] at hj)) | rfl), fun hj => (by first | exact (F1 (by rwa [sgx (by decide)] at hj)) | rfl), fun hj => (by first | exact (F2 (by rwa [sgx (by decide)] at hj)) | rfl), fun hj => (by first | exact (F3 (by rwa [sgx (by decide)] at hj)) | rfl), fun hj => (by first | exact (F4 (by rwa [sgx (by decide)] at hj)) | rfl), fun hj => (by first | exact (F5 (by rwa [sgx (by decide)] at hj)) | rfl), fun hj => (by first | exact (F6 (by rwa [sgx (by decide)] at hj)) | rfl), fun hj => (by first | exact (F7 (by rwa [sgx (by decide)] at hj)) | rfl), fun hj => (by first | exact (F8 (by rwa [sgx (by decide)] at hj)) | rfl), fun hj => (by first | exact (F9 (by rwa [sgx (by decide)] at hj)) | rfl), fun hj => (by first | exact (F10 (by rwa [sgx (by decide)] at hj)) | rfl), fun hj => (by first | exact (F11 (by rwa [sgx (by decide)] at hj)) | rfl), fun _ => rfl, fun hj => (by first | exact (F13 (by rwa [sgx (by decide)] at hj)) | rfl), fun hj => (by first | exact (F15 (by rwa [sgx (by decide)] at hj)) | rfl), fun hj => (by first | exact (F16 (by rwa [sgx (by decide)] at hj)) | rfl), hx⟩
    · as_aux_lemma =>
        obtain ⟨u29, u30, u31, u32, u33, u34, u35, u36, u37, u38, u39, u40, u41, u42, u43, u44, rfl, F0, F1, F2, F3, F4, F5, F6, F7, F8, F9, F10, F11, F12, F13, F15, F16, hx⟩ := hI
        have l12 := he ⟨12, .data⟩ (by simp) rfl
        have e := F12 l12; subst e
        refine wpOp_stepx ho rfl (fun K hK => ?_)
        unfold y5cA
        go_simp
        exact hK _ _ ⟨_, _, _, _, _, _, _, _, _, _, _, _, _, _, _, _, rfl, fun hj => (by first | exact (F0 (by rwa [sgx (by decide)] at hj)) | rfl), fun hj => (by first | exact (F1 (by rwa [sgx (by decide)] at hj)) | rfl), fun hj => (by first | exact (F2 (by rwa [sgx (by decide)] at hj)) | rfl), fun hj => (by first | exact (F3 (by rwa [sgx (by decide)] at hj)) | rfl), fun hj => (by first | exact (F4 (by rwa [sgx (by decide)] at hj)) | rfl), fun hj => (by first | exact (F5 (by rwa [sgx (by decide)] at hj)) | rfl), fun hj => (by first | exact (F6 (by rwa [sgx (by decide)] at hj)) | rfl), fun hj => (by first | exact (F7 (by rwa [sgx (by decide)] at hj)) | rfl), fun hj => (by first | exact (F8 (by rwa [sgx (by decide)] at hj)) | rfl), fun hj => (by first | exact (F9 (by rwa [sgx (by decide)] at hj)) | rfl), fun hj => (by first | exact (F10 (by rwa [sgx (by decide)] at hj)) | rfl), fun hj => (by first | exact (F11 (by rwa [sgx (by decide)] at hj)) | rfl), fun hj => (by first | exact (F12 (by rwa [sgx (by decide)] at hj)) | rfl), fun _ => rfl, fun hj => (by first | exact (F15 (by rwa [sgx (by decide)] at hj)) | rfl), fun hj => (by first | exact (F16 (by rwa [sgx (by decide)] at hj)) | rfl), hx⟩
    · as_aux_lemma =>
        obtain ⟨u29, u30, u31, u32, u33, u34, u35, u36, u37, u38, u39, u40, u41, u42, u43, u44, rfl, F0, F1, F2, F3, F4, F5, F6, F7, F8, F9, F10, F11, F12, F13, F15, F16, hx⟩ := hI
        have l13 := he ⟨13, .data⟩ (by simp) rfl
        have l8 := he ⟨8, .data⟩ (by simp) rfl
        have e := F13 l13; subst e
        have e := F8 l8; subst e
        have q := (cellH hx.1 _).trans hC1
        have q2 := (frozenH hx.1 _).trans hF1
        refine wpOp_stepx ho rfl (fun K hK => ?_)
        unfold y5cA
        go_simp
        exact hK _ _ ⟨_, _, _, _, _, _, _, _, _, _, _, _, _, _, _, _, rfl, fun hj => (by first | exact (F0 (by rwa [sgx (by decide)] at hj)) | rfl), fun hj => (by first | exact (F1 (by rwa [sgx (by decide)] at hj)) | rfl), fun hj => (by first | exact (F2 (by rwa [sgx (by decide)] at hj)) | rfl), fun hj => (by first | exact (F3 (by rwa [sgx (by decide)] at hj)) | rfl), fun hj => (by first | exact (F4 (by rwa [sgx (by decide)] at hj)) | rfl), fun hj => (by first | exact (F5 (by rwa [sgx (by decide)] at hj)) | rfl), fun hj => (by first | exact (F6 (by rwa [sgx (by decide)] at hj)) | rfl), fun hj => (by first | exact (F7 (by rwa [sgx (by decide)] at hj)) | rfl), fun hj => (by first | exact (F8 (by rwa [sgx (by decide)] at hj)) | rfl), fun hj => (by first | exact (F9 (by rwa [sgx (by decide)] at hj)) | rfl), fun hj => (by first | exact (F10 (by rwa [sgx (by decide)] at hj)) | rfl), fun hj => (by first | exact (F11 (by rwa [sgx (by decide)] at hj)) | rfl), fun hj => (by first | exact (F12 (by rwa [sgx (by decide)] at hj)) | rfl), fun hj => (by first | exact (F13 (by rwa [sgx (by decide)] at hj)) | rfl), fun hj => (by first | exact (F15 (by rwa [sgx (by decide)] at hj)) | rfl), fun hj => (by first | exact (F16 (by rwa [sgx (by decide)] at hj)) | rfl), ⟨(setCell_same q).trans hx.1, hx.2.setCell (Nat.zero_le _) _⟩⟩
    · as_aux_lemma =>
        obtain ⟨u29, u30, u31, u32, u33, u34, u35, u36, u37, u38, u39, u40, u41, u42, u43, u44, rfl, F0, F1, F2, F3, F4, F5, F6, F7, F8, F9, F10, F11, F12, F13, F15, F16, hx⟩ := hI
        have l4 := he ⟨4, .data⟩ (by simp) rfl
        have l5 := he ⟨5, .data⟩ (by simp) rfl
        have e := F4 l4; subst e
        have e := F5 l5; subst e
        have hkx := hkn
        refine wpOp_stepx ho rfl (fun K hK => ?_)
        unfold y5cA
        go_simp
        exact hK _ _ ⟨_, _, _, _, _, _, _, _, _, _, _, _, _, _, _, _, rfl, fun hj => (by first | exact (F0 (by rwa [sgx (by decide)] at hj)) | rfl), fun hj => (by first | exact (F1 (by rwa [sgx (by decide)] at hj)) | rfl), fun hj => (by first | exact (F2 (by rwa [sgx (by decide)] at hj)) | rfl), fun hj => (by first | exact (F3 (by rwa [sgx (by decide)] at hj)) | rfl), fun hj => (by first | exact (F4 (by rwa [sgx (by decide)] at hj)) | rfl), fun hj => (by first | exact (F5 (by rwa [sgx (by decide)] at hj)) | rfl), fun hj => (by first | exact (F6 (by rwa [sgx (by decide)] at hj)) | rfl), fun hj => (by first | exact (F7 (by rwa [sgx (by decide)] at hj)) | rfl), fun hj => (by first | exact (F8 (by rwa [sgx (by decide)] at hj)) | rfl), fun hj => (by first | exact (F9 (by rwa [sgx (by decide)] at hj)) | rfl), fun hj => (by first | exact (F10 (by rwa [sgx (by decide)] at hj)) | rfl), fun hj => (by first | exact (F11 (by rwa [sgx (by decide)] at hj)) | rfl), fun hj => (by first | exact (F12 (by rwa [sgx (by decide)] at hj)) | rfl), fun hj => (by first | exact (F13 (by rwa [sgx (by decide)] at hj)) | rfl), fun _ => rfl, fun hj => (by first | exact (F16 (by rwa [sgx (by decide)] at hj)) | rfl), hx⟩
    · as_aux_lemma =>
        obtain ⟨u29, u30, u31, u32, u33, u34, u35, u36, u37, u38, u39, u40, u41, u42, u43, u44, rfl, F0, F1, F2, F3, F4, F5, F6, F7, F8, F9, F10, F11, F12, F13, F15, F16, hx⟩ := hI
        have l15 := he ⟨15, .data⟩ (by simp) rfl
        have e := F15 l15; subst e
        refine wpOp_stepx ho rfl (fun K hK => ?_)
        unfold y5cA
        go_simp
        exact hK _ _ ⟨_, _, _, _, _, _, _, _, _, _, _, _, _, _, _, _, rfl, fun hj => (by first | exact (F0 (by rwa [sgx (by decide)] at hj)) | rfl), fun hj => (by first | exact (F1 (by rwa [sgx (by decide)] at hj)) | rfl), fun hj => (by first | exact (F2 (by rwa [sgx (by decide)] at hj)) | rfl), fun hj => (by first | exact (F3 (by rwa [sgx (by decide)] at hj)) | rfl), fun hj => (by first | exact (F4 (by rwa [sgx (by decide)] at hj)) | rfl), fun hj => (by first | exact (F5 (by rwa [sgx (by decide)] at hj)) | rfl), fun hj => (by first | exact (F6 (by rwa [sgx (by decide)] at hj)) | rfl), fun hj => (by first | exact (F7 (by rwa [sgx (by decide)] at hj)) | rfl), fun hj => (by first | exact (F8 (by rwa [sgx (by decide)] at hj)) | rfl), fun hj => (by first | exact (F9 (by rwa [sgx (by decide)] at hj)) | rfl), fun hj => (by first | exact (F10 (by rwa [sgx (by decide)] at hj)) | rfl), fun hj => (by first | exact (F11 (by rwa [sgx (by decide)] at hj)) | rfl), fun hj => (by first | exact (F12 (by rwa [sgx (by decide)] at hj)) | rfl), fun hj => (by first | exact (F13 (by rwa [sgx (by decide)] at hj)) | rfl), fun hj => (by first | exact (F15 (by rwa [sgx (by decide)] at hj)) | rfl), fun _ => rfl, hx⟩
    · as_aux_lemma =>
        obtain ⟨u29, u30, u31, u32, u33, u34, u35, u36, u37, u38, u39, u40, u41, u42, u43, u44, rfl, F0, F1, F2, F3, F4, F5, F6, F7, F8, F9, F10, F11, F12, F13, F15, F16, hx⟩ := hI
        have l16 := he ⟨16, .data⟩ (by simp) rfl
        have l11 := he ⟨11, .data⟩ (by simp) rfl
        have e := F16 l16; subst e
        have e := F11 l11; subst e
        have q := (cellH hx.1 _).trans hC2
        have q2 := (frozenH hx.1 _).trans hF2
        refine wpOp_stepx ho rfl (fun K hK => ?_)
        unfold y5cA
        go_simp
        exact hK _ _ ⟨_, _, _, _, _, _, _, _, _, _, _, _, _, _, _, _, rfl, fun hj => (by first | exact (F0 (by rwa [sgx (by decide)] at hj)) | rfl), fun hj => (by first | exact (F1 (by rwa [sgx (by decide)] at hj)) | rfl), fun hj => (by first | exact (F2 (by rwa [sgx (by decide)] at hj)) | rfl), fun hj => (by first | exact (F3 (by rwa [sgx (by decide)] at hj)) | rfl), fun hj => (by first | exact (F4 (by rwa [sgx (by decide)] at hj)) | rfl), fun hj => (by first | exact (F5 (by rwa [sgx (by decide)] at hj)) | rfl), fun hj => (by first | exact (F6 (by rwa [sgx (by decide)] at hj)) | rfl), fun hj => (by first | exact (F7 (by rwa [sgx (by decide)] at hj)) | rfl), fun hj => (by first | exact (F8 (by rwa [sgx (by decide)] at hj)) | rfl), fun hj => (by first | exact (F9 (by rwa [sgx (by decide)] at hj)) | rfl), fun hj => (by first | exact (F10 (by rwa [sgx (by decide)] at hj)) | rfl), fun hj => (by first | exact (F11 (by rwa [sgx (by decide)] at hj)) | rfl), fun hj => (by first | exact (F12 (by rwa [sgx (by decide)] at hj)) | rfl), fun hj => (by first | exact (F13 (by rwa [sgx (by decide)] at hj)) | rfl), fun hj => (by first | exact (F15 (by rwa [sgx (by decide)] at hj)) | rfl), fun hj => (by first | exact (F16 (by rwa [sgx (by decide)] at hj)) | rfl), ⟨(setCell_same q).trans hx.1, hx.2.setCell (Nat.zero_le _) _⟩⟩
  · intro listed a w' hI hd
    obtain ⟨u29, u30, u31, u32, u33, u34, u35, u36, u37, u38, u39, u40, u41, u42, u43, u44, rfl, F0, F1, F2, F3, F4, F5, F6, F7, F8, F9, F10, F11, F12, F13, F15, F16, hx⟩ := hI
    exact hK _ _ _ _ _ _ _ _ _ _ _ _ _ _ _ _ w' hx

end Go.Proofs.Yteamebdehembgaa

namespace Go.Proofs.Yteamebdehembgaa
open Go.RowKit
attribute [local go_sem ↓] Go.wp_at_zero Go.wp_at_succ

def y10cA (i0 i1 i2 i4 i5 i8 i9 i10 i11 i12 i13 i14 i15 i16 i17 i18 i19 i20 i21 i22 i23 i24 i25 i26 i27 i28 i29 i30 i31 i32 i33 i34 i35 i36 i37 i38 i39 i40 i41 i42 i43 i44 i45 i46 i47 i48 i49 i50 i51 i52 i53 i70 i71 : Value) (g : Nat) (k : Nat) (gE : Nat) (u54 u55 u56 u57 u58 u59 u60 u61 u62 u63 u64 u65 u66 u67 u68 u69 : Value) : Act := { tmps := #[i0, i1, i2, .pointer (some ⟨g, 0, none⟩), i4, i5, .int .i64 (k : Nat), .pointer (some ⟨gE, 0, none⟩), i8, i9, i10, i11, i12, i13, i14, i15, i16, i17, i18, i19, i20, i21, i22, i23, i24, i25, i26, i27, i28, i29, i30, i31, i32, i33, i34, i35, i36, i37, i38, i39, i40, i41, i42, i43, i44, i45, i46, i47, i48, i49, i50, i51, i52, i53, u54, u55, u56, u57, u58, u59, u60, u61, u62, u63, u64, u65, u66, u67, u68, u69, i70, i71], defers := [] }
def y10cI (i0 i1 i2 i4 i5 i8 i9 i10 i11 i12 i13 i14 i15 i16 i17 i18 i19 i20 i21 i22 i23 i24 i25 i26 i27 i28 i29 i30 i31 i32 i33 i34 i35 i36 i37 i38 i39 i40 i41 i42 i43 i44 i45 i46 i47 i48 i49 i50 i51 i52 i53 i70 i71 : Value) (g : Nat) (k : Nat) (gE : Nat) (pb : Nat) (po : Nat) (n : Nat) (pc : Nat) (wq : World) (listed : Array Bool) (a : Act) (w' : World) : Prop :=
  ∃ u54 u55 u56 u57 u58 u59 u60 u61 u62 u63 u64 u65 u66 u67 u68 u69 : Value, a = y10cA i0 i1 i2 i4 i5 i8 i9 i10 i11 i12 i13 i14 i15 i16 i17 i18 i19 i20 i21 i22 i23 i24 i25 i26 i27 i28 i29 i30 i31 i32 i33 i34 i35 i36 i37 i38 i39 i40 i41 i42 i43 i44 i45 i46 i47 i48 i49 i50 i51 i52 i53 i70 i71 g k gE u54 u55 u56 u57 u58 u59 u60 u61 u62 u63 u64 u65 u66 u67 u68 u69 ∧
      (listed.getD 0 false = true → u54 = .pointer (some ⟨g, 3, none⟩)) ∧
      (listed.getD 1 false = true → u55 = .slice (some ⟨pb, po, none⟩) n pc) ∧
      (listed.getD 2 false = true → u56 = .int .i64 (k : Nat)) ∧
      (listed.getD 3 false = true → u57 = .pointer (some ⟨g, 3, none⟩)) ∧
      (listed.getD 4 false = true → u58 = .slice (some ⟨pb, po, none⟩) n pc) ∧
      (listed.getD 5 false = true → u59 = .int .i64 (k : Nat)) ∧
      (listed.getD 6 false = true → u60 = .pointer (some ⟨gE, 0, none⟩)) ∧
      (listed.getD 7 false = true → u61 = vnil) ∧
      (listed.getD 8 false = true → u62 = vnil) ∧
      (listed.getD 9 false = true → u63 = .pointer (some ⟨gE, 1, none⟩)) ∧
      (listed.getD 10 false = true → u64 = vnil) ∧
      (listed.getD 11 false = true → u65 = vnil) ∧
      (listed.getD 12 false = true → u66 = .pointer (some ⟨pb, po + k * 3, none⟩)) ∧
      (listed.getD 13 false = true → u67 = .pointer (some ⟨pb, po + k * 3, none⟩)) ∧
      (listed.getD 15 false = true → u68 = .pointer (some ⟨pb, po + k * 3, none⟩)) ∧
      (listed.getD 16 false = true → u69 = .pointer (some ⟨pb, po + k * 3 + 1, none⟩)) ∧
      (w'.heap = wq.heap ∧ Below 0 wq w')
noncomputable def y10cCode : Code := (Try.f78.body.bind (regIn2 10)).getD .skip

set_option maxRecDepth 100000 in
set_option maxHeartbeats 16000000 in
theorem y10c_region (i0 i1 i2 i4 i5 i8 i9 i10 i11 i12 i13 i14 i15 i16 i17 i18 i19 i20 i21 i22 i23 i24 i25 i26 i27 i28 i29 i30 i31 i32 i33 i34 i35 i36 i37 i38 i39 i40 i41 i42 i43 i44 i45 i46 i47 i48 i49 i50 i51 i52 i53 i70 i71 j54 j55 j56 j57 j58 j59 j60 j61 j62 j63 j64 j65 j66 j67 j68 j69 : Value) (g : Nat) (k : Nat) (gE : Nat) (pb : Nat) (po : Nat) (n : Nat) (pc : Nat) (wq : World)
    (hG : wq.cell? ⟨g, 3, none⟩ = some (.slice (some ⟨pb, po, none⟩) n pc)) (hkn : k < n) (hE0 : wq.cell? ⟨gE, 0, none⟩ = some vnil) (hC0 : wq.cell? ⟨pb, po + k * 3, none⟩ = some vnil) (hF0 : wq.frozen? ⟨pb, po + k * 3, none⟩ = false) (hE1 : wq.cell? ⟨gE, 1, none⟩ = some vnil) (hC1 : wq.cell? ⟨pb, po + k * 3 + 1, none⟩ = some vnil) (hF1 : wq.frozen? ⟨pb, po + k * 3 + 1, none⟩ = false)
    {Q : Exit → Act → World → Prop}
    (hK : ∀ (u54 u55 u56 u57 u58 u59 u60 u61 u62 u63 u64 u65 u66 u67 u68 u69 : Value) w', w'.heap = wq.heap ∧ Below 0 wq w' → Q .normal (y10cA i0 i1 i2 i4 i5 i8 i9 i10 i11 i12 i13 i14 i15 i16 i17 i18 i19 i20 i21 i22 i23 i24 i25 i26 i27 i28 i29 i30 i31 i32 i33 i34 i35 i36 i37 i38 i39 i40 i41 i42 i43 i44 i45 i46 i47 i48 i49 i50 i51 i52 i53 i70 i71 g k gE u54 u55 u56 u57 u58 u59 u60 u61 u62 u63 u64 u65 u66 u67 u68 u69) w') : y10cCode.wp Try.prog Q (y10cA i0 i1 i2 i4 i5 i8 i9 i10 i11 i12 i13 i14 i15 i16 i17 i18 i19 i20 i21 i22 i23 i24 i25 i26 i27 i28 i29 i30 i31 i32 i33 i34 i35 i36 i37 i38 i39 i40 i41 i42 i43 i44 i45 i46 i47 i48 i49 i50 i51 i52 i53 i70 i71 g k gE j54 j55 j56 j57 j58 j59 j60 j61 j62 j63 j64 j65 j66 j67 j68 j69) wq := by
  conv => arg 2; whnf
  refine wp_region_inv2 (y10cI i0 i1 i2 i4 i5 i8 i9 i10 i11 i12 i13 i14 i15 i16 i17 i18 i19 i20 i21 i22 i23 i24 i25 i26 i27 i28 i29 i30 i31 i32 i33 i34 i35 i36 i37 i38 i39 i40 i41 i42 i43 i44 i45 i46 i47 i48 i49 i50 i51 i52 i53 i70 i71 g k gE pb po n pc wq) (by kernel_rfl) (by kernel_rfl) ?_ ?_ ?_
  · exact ⟨_, _, _, _, _, _, _, _, _, _, _, _, _, _, _, _, rfl, (fun h => absurd h (by rw [getD_replicate_false]; simp)), (fun h => absurd h (by rw [getD_replicate_false]; simp)), (fun h => absurd h (by rw [getD_replicate_false]; simp)), (fun h => absurd h (by rw [getD_replicate_false]; simp)), (fun h => absurd h (by rw [getD_replicate_false]; simp)), (fun h => absurd h (by rw [getD_replicate_false]; simp)), (fun h => absurd h (by rw [getD_replicate_false]; simp)), (fun h => absurd h (by rw [getD_replicate_false]; simp)), (fun h => absurd h (by rw [getD_replicate_false]; simp)), (fun h => absurd h (by rw [getD_replicate_false]; simp)), (fun h => absurd h (by rw [getD_replicate_false]; simp)), (fun h => absurd h (by rw [getD_replicate_false]; simp)), (fun h => absurd h (by rw [getD_replicate_false]; simp)), (fun h => absurd h (by rw [getD_replicate_false]; simp)), (fun h => absurd h (by rw [getD_replicate_false]; simp)), (fun h => absurd h (by rw [getD_replicate_false]; simp)), ⟨rfl, (Below.refl _ _).drew⟩⟩
  · intro listed a w' i o hI hsz ho hl he hcl
    have hi : i < 18 := (Array.getElem?_eq_some_iff.1 ho).1
    have e : i = 0 ∨ i = 1 ∨ i = 2 ∨ i = 3 ∨ i = 4 ∨ i = 5 ∨ i = 6 ∨ i = 7 ∨ i = 8 ∨ i = 9 ∨ i = 10 ∨ i = 11 ∨ i = 12 ∨ i = 13 ∨ i = 14 ∨ i = 15 ∨ i = 16 ∨ i = 17 := by omega
    clear hi
    rcases e with rfl | rfl | rfl | rfl | rfl | rfl | rfl | rfl | rfl | rfl | rfl | rfl | rfl | rfl | rfl | rfl | rfl | rfl
    all_goals (have ho2 := ho; obtain rfl := Option.some.inj ho2.symm; clear ho2)
    · as_aux_lemma =>
        obtain ⟨u54, u55, u56, u57, u58, u59, u60, u61, u62, u63, u64, u65, u66, u67, u68, u69, rfl, F0, F1, F2, F3, F4, F5, F6, F7, F8, F9, F10, F11, F12, F13, F15, F16, hx⟩ := hI
        refine wpOp_stepx ho rfl (fun K hK => ?_)
        unfold y10cA
        go_simp
        exact hK _ _ ⟨_, _, _, _, _, _, _, _, _, _, _, _, _, _, _, _, rfl, fun _ => rfl, fun hj => (by first | exact (F1 (by rwa [sgx (by decide)] at hj)) | rfl), fun hj => (by first | exact (F2 (by rwa [sgx (by decide)] at hj)) | rfl), fun hj => (by first | exact (F3 (by rwa [sgx (by decide)] at hj)) | rfl), fun hj => (by first | exact (F4 (by rwa [sgx (by decide)] at hj)) | rfl), fun hj => (by first | exact (F5 (by rwa [sgx (by decide)] at hj)) | rfl), fun hj => (by first | exact (F6 (by rwa [sgx (by decide)] at hj)) | rfl), fun hj => (by first | exact (F7 (by rwa [sgx (by decide)] at hj)) | rfl), fun hj => (by first | exact (F8 (by rwa [sgx (by decide)] at hj)) | rfl), fun hj => (by first | exact (F9 (by rwa [sgx (by decide)] at hj)) | rfl), fun hj => (by first | exact (F10 (by rwa [sgx (by decide)] at hj)) | rfl), fun hj => (by first | exact (F11 (by rwa [sgx (by decide)] at hj)) | rfl), fun hj => (by first | exact (F12 (by rwa [sgx (by decide)] at hj)) | rfl), fun hj => (by first | exact (F13 (by rwa [sgx (by decide)] at hj)) | rfl), fun hj => (by first | exact (F15 (by rwa [sgx (by decide)] at hj)) | rfl), fun hj => (by first | exact (F16 (by rwa [sgx (by decide)] at hj)) | rfl), hx⟩
    · as_aux_lemma =>
        obtain ⟨u54, u55, u56, u57, u58, u59, u60, u61, u62, u63, u64, u65, u66, u67, u68, u69, rfl, F0, F1, F2, F3, F4, F5, F6, F7, F8, F9, F10, F11, F12, F13, F15, F16, hx⟩ := hI
        have l0 := he ⟨0, .data⟩ (by simp) rfl
        have e := F0 l0; subst e
        have q := (cellH hx.1 _).trans hG
        refine wpOp_stepx ho rfl (fun K hK => ?_)
        unfold y10cA
        go_simp
        exact hK _ _ ⟨_, _, _, _, _, _, _, _, _, _, _, _, _, _, _, _, rfl, fun hj => (by first | exact (F0 (by rwa [sgx (by decide)] at hj)) | rfl), fun _ => rfl, fun hj => (by first | exact (F2 (by rwa [sgx (by decide)] at hj)) | rfl), fun hj => (by first | exact (F3 (by rwa [sgx (by decide)] at hj)) | rfl), fun hj => (by first | exact (F4 (by rwa [sgx (by decide)] at hj)) | rfl), fun hj => (by first | exact (F5 (by rwa [sgx (by decide)] at hj)) | rfl), fun hj => (by first | exact (F6 (by rwa [sgx (by decide)] at hj)) | rfl), fun hj => (by first | exact (F7 (by rwa [sgx (by decide)] at hj)) | rfl), fun hj => (by first | exact (F8 (by rwa [sgx (by decide)] at hj)) | rfl), fun hj => (by first | exact (F9 (by rwa [sgx (by decide)] at hj)) | rfl), fun hj => (by first | exact (F10 (by rwa [sgx (by decide)] at hj)) | rfl), fun hj => (by first | exact (F11 (by rwa [sgx (by decide)] at hj)) | rfl), fun hj => (by first | exact (F12 (by rwa [sgx (by decide)] at hj)) | rfl), fun hj => (by first | exact (F13 (by rwa [sgx (by decide)] at hj)) | rfl), fun hj => (by first | exact (F15 (by rwa [sgx (by decide)] at hj)) | rfl), fun hj => (by first | exact (F16 (by rwa [sgx (by decide)] at hj)) | rfl), hx⟩
    · as_aux_lemma =>
        obtain ⟨u54, u55, u56, u57, u58, u59, u60, u61, u62, u63, u64, u65, u66, u67, u68, u69, rfl, F0, F1, F2, F3, F4, F5, F6, F7, F8, F9, F10, F11, F12, F13, F15, F16, hx⟩ := hI
        refine wpOp_stepx ho rfl (fun K hK => ?_)
        unfold y10cA
        go_simp
        exact hK _ _ ⟨_, _, _, _, _, _, _, _, _, _, _, _, _, _, _, _, rfl, fun hj => (by first | exact (F0 (by rwa [sgx (by decide)] at hj)) | rfl), fun hj => (by first | exact (F1 (by rwa [sgx (by decide)] at hj)) | rfl), fun _ => rfl, fun hj => (by first | exact (F3 (by rwa [sgx (by decide)] at hj)) | rfl), fun hj => (by first | exact (F4 (by rwa [sgx (by decide)] at hj)) | rfl), fun hj => (by first | exact (F5 (by rwa [sgx (by decide)] at hj)) | rfl), fun hj => (by first | exact (F6 (by rwa [sgx (by decide)] at hj)) | rfl), fun hj => (by first | exact (F7 (by rwa [sgx (by decide)] at hj)) | rfl), fun hj => (by first | exact (F8 (by rwa [sgx (by decide)] at hj)) | rfl), fun hj => (by first | exact (F9 (by rwa [sgx (by decide)] at hj)) | rfl), fun hj => (by first | exact (F10 (by rwa [sgx (by decide)] at hj)) | rfl), fun hj => (by first | exact (F11 (by rwa [sgx (by decide)] at hj)) | rfl), fun hj => (by first | exact (F12 (by rwa [sgx (by decide)] at hj)) | rfl), fun hj => (by first | exact (F13 (by rwa [sgx (by decide)] at hj)) | rfl), fun hj => (by first | exact (F15 (by rwa [sgx (by decide)] at hj)) | rfl), fun hj => (by first | exact (F16 (by rwa [sgx (by decide)] at hj)) | rfl), hx⟩
    · as_aux_lemma =>
        obtain ⟨u54, u55, u56, u57, u58, u59, u60, u61, u62, u63, u64, u65, u66, u67, u68, u69, rfl, F0, F1, F2, F3, F4, F5, F6, F7, F8, F9, F10, F11, F12, F13, F15, F16, hx⟩ := hI
        refine wpOp_stepx ho rfl (fun K hK => ?_)
        unfold y10cA
        go_simp
        exact hK _ _ ⟨_, _, _, _, _, _, _, _, _, _, _, _, _, _, _, _, rfl, fun hj => (by first | exact (F0 (by rwa [sgx (by decide)] at hj)) | rfl), fun hj => (by first | exact (F1 (by rwa [sgx (by decide)] at hj)) | rfl), fun hj => (by first | exact (F2 (by rwa [sgx (by decide)] at hj)) | rfl), fun _ => rfl, fun hj => (by first | exact (F4 (by rwa [sgx (by decide)] at hj)) | rfl), fun hj => (by first | exact (F5 (by rwa [sgx (by decide)] at hj)) | rfl), fun hj => (by first | exact (F6 (by rwa [sgx (by decide)] at hj)) | rfl), fun hj => (by first | exact (F7 (by rwa [sgx (by decide)] at hj)) | rfl), fun hj => (by first | exact (F8 (by rwa [sgx (by decide)] at hj)) | rfl), fun hj => (by first | exact (F9 (by rwa [sgx (by decide)] at hj)) | rfl), fun hj => (by first | exact (F10 (by rwa [sgx (by decide)] at hj)) | rfl), fun hj => (by first | exact (F11 (by rwa [sgx (by decide)] at hj)) | rfl), fun hj => (by first | exact (F12 (by rwa [sgx (by decide)] at hj)) | rfl), fun hj => (by first | exact (F13 (by rwa [sgx (by decide)] at hj)) | rfl), fun hj => (by first | exact (F15 (by rwa [sgx (by decide)] at hj)) | rfl), fun hj => (by first | exact (F16 (by rwa [sgx (by decide)] at hj)) | rfl), hx⟩
    · as_aux_lemma =>
        obtain ⟨u54, u55, u56, u57, u58, u59, u60, u61, u62, u63, u64, u65, u66, u67, u68, u69, rfl, F0, F1, F2, F3, F4, F5, F6, F7, F8, F9, F10, F11, F12, F13, F15, F16, hx⟩ := hI
        have l3 := he ⟨3, .data⟩ (by simp) rfl
        have e := F3 l3; subst e
        have q := (cellH hx.1 _).trans hG
        refine wpOp_stepx ho rfl (fun K hK => ?_)
        unfold y10cA
        go_simp
        exact hK _ _ ⟨_, _, _, _, _, _, _, _, _, _, _, _, _, _, _, _, rfl, fun hj => (by first | exact (F0 (by rwa [sgx (by decide)] at hj)) | rfl), fun hj => (by first | exact (F1 (by rwa [sgx (by decide)] at hj)) | rfl), fun hj => (by first | exact (F2 (by rwa [sgx (by decide)] at hj)) | rfl), fun hj => (by first | exact (F3 (by rwa [sgx (by decide)] at hj)) | rfl), fun _ => rfl, fun hj => (by first | exact (F5 (by rwa [sgx (by decide)] at hj)) | rfl), fun hj => (by first | exact (F6 (by rwa [sgx (by decide)] at hj)) | rfl), fun hj => (by first | exact (F7 (by rwa [sgx (by decide)] at hj)) | rfl), fun hj => (by first | exact (F8 (by rwa [sgx (by decide)] at hj)) | rfl), fun hj => (by first | exact (F9 (by rwa [sgx (by decide)] at hj)) | rfl), fun hj => (by first | exact (F10 (by rwa [sgx (by decide)] at hj)) | rfl), fun hj => (by first | exact (F11 (by rwa [sgx (by decide)] at hj)) | rfl), fun hj => (by first | exact (F12 (by rwa [sgx (by decide)] at hj)) | rfl), fun hj => (by first | exact (F13 (by rwa [sgx (by decide)] at hj)) | rfl), fun hj => (by first | exact (F15 (by rwa [sgx (by decide)] at hj)) | rfl), fun hj => (by first | exact (F16 (by rwa [sgx (by decide)] at hj)) | rfl), hx⟩
    · as_aux_lemma =>
        obtain ⟨u54, u55, u56, u57, u58, u59, u60, u61, u62, u63, u64, u65, u66, u67, u68, u69, rfl, F0, F1, F2, F3, F4, F5, F6, F7, F8, F9, F10, F11, F12, F13, F15, F16, hx⟩ := hI
        refine wpOp_stepx ho rfl (fun K hK => ?_)
        unfold y10cA
        go_simp
        exact hK _ _ ⟨_, _, _, _, _, _, _, _, _, _, _, _, _, _, _, _, rfl, fun hj => (by first | exact (F0 (by rwa [sgx (by decide)] at hj)) | rfl), fun hj => (by first | exact (F1 (by rwa [sgx (by decide)] at hj)) | rfl), fun hj => (by first | exact (F2 (by rwa [sgx (by decide)] at hj)) | rfl), fun hj => (by first | exact (F3 (by rwa [sgx (by decide)] at hj)) | rfl), fun hj => (by first | exact (F4 (by rwa [sgx (by decide)] at hj)) | rfl), fun _ => rfl, fun hj => (by first | exact (F6 (by rwa [sgx (by decide)] at hj)) | rfl), fun hj => (by first | exact (F7 (by rwa [sgx (by decide)] at hj)) | rfl), fun hj => (by first | exact (F8 (by rwa [sgx (by decide)] at hj)) | rfl), fun hj => (by first | exact (F9 (by rwa [sgx (by decide)] at hj)) | rfl), fun hj => (by first | exact (F10 (by rwa [sgx (by decide)] at hj)) | rfl), fun hj => (by first | exact (F11 (by rwa [sgx (by decide)] at hj)) | rfl), fun hj => (by first | exact (F12 (by rwa [sgx (by decide)] at hj)) | rfl), fun hj => (by first | exact (F13 (by rwa [sgx (by decide)] at hj)) | rfl), fun hj => (by first | exact (F15 (by rwa [sgx (by decide)] at hj)) | rfl), fun hj => (by first | exact (F16 (by rwa [sgx (by decide)] at hj)) | rfl), hx⟩
    · as_aux_lemma =>
        obtain ⟨u54, u55, u56, u57, u58, u59, u60, u61, u62, u63, u64, u65, u66, u67, u68, u69, rfl, F0, F1, F2, F3, F4, F5, F6, F7, F8, F9, F10, F11, F12, F13, F15, F16, hx⟩ := hI
        refine wpOp_stepx ho rfl (fun K hK => ?_)
        unfold y10cA
        go_simp
        exact hK _ _ ⟨_, _, _, _, _, _, _, _, _, _, _, _, _, _, _, _, rfl, fun hj => (by first | exact (F0 (by rwa [sgx (by decide)] at hj)) | rfl), fun hj => (by first | exact (F1 (by rwa [sgx (by decide)] at hj)) | rfl), fun hj => (by first | exact (F2 (by rwa [sgx (by decide)] at hj)) | rfl), fun hj => (by first | exact (F3 (by rwa [sgx (by decide)] at hj)) | rfl), fun hj => (by first | exact (F4 (by rwa [sgx (by decide)] at hj)) | rfl), fun hj => (by first | exact (F5 (by rwa [sgx (by decide)] at hj)) | rfl), fun _ => rfl, fun hj => (by first | exact (F7 (by rwa [sgx (by decide)] at hj)) | rfl), fun hj => (by first | exact (F8 (by rwa [sgx (by decide)] at hj)) | rfl), fun hj => (by first | exact (F9 (by rwa [sgx (by decide)] at hj)) | rfl), fun hj => (by first | exact (F10 (by rwa [sgx (by decide)] at hj)) | rfl), fun hj => (by first | exact (F11 (by rwa [sgx (by decide)] at hj)) | rfl), fun hj => (by first | exact (F12 (by rwa [sgx (by decide)] at hj)) | rfl), fun hj => (by first | exact (F13 (by rwa [sgx (by decide)] at hj)) | rfl), fun hj => (by first | exact (F15 (by rwa [sgx (by decide)] at hj)) | rfl), fun hj => (by first | exact (F16 (by rwa [sgx (by decide)] at hj)) | rfl), hx⟩
    · as_aux_lemma =>
        obtain ⟨u54, u55, u56, u57, u58, u59, u60, u61, u62, u63, u64, u65, u66, u67, u68, u69, rfl, F0, F1, F2, F3, F4, F5, F6, F7, F8, F9, F10, F11, F12, F13, F15, F16, hx⟩ := hI
        have l6 := he ⟨6, .data⟩ (by simp) rfl
        have e := F6 l6; subst e
        have q := (cellH hx.1 _).trans hE0
        refine wpOp_stepx ho rfl (fun K hK => ?_)
        unfold y10cA
        go_simp
        exact hK _ _ ⟨_, _, _, _, _, _, _, _, _, _, _, _, _, _, _, _, rfl, fun hj => (by first | exact (F0 (by rwa [sgx (by decide)] at hj)) | rfl), fun hj => (by first | exact (F1 (by rwa [sgx (by decide)] at hj)) | rfl), fun hj => (by first | exact (F2 (by rwa [sgx (by decide)] at hj)) | rfl), fun hj => (by first | exact (F3 (by rwa [sgx (by decide)] at hj)) | rfl), fun hj => (by first | exact (F4 (by rwa [sgx (by decide)] at hj)) | rfl), fun hj => (by first | exact (F5 (by rwa [sgx (by decide)] at hj)) | rfl), fun hj => (by first | exact (F6 (by rwa [sgx (by decide)] at hj)) | rfl), fun _ => rfl, fun hj => (by first | exact (F8 (by rwa [sgx (by decide)] at hj)) | rfl), fun hj => (by first | exact (F9 (by rwa [sgx (by decide)] at hj)) | rfl), fun hj => (by first | exact (F10 (by rwa [sgx (by decide)] at hj)) | rfl), fun hj => (by first | exact (F11 (by rwa [sgx (by decide)] at hj)) | rfl), fun hj => (by first | exact (F12 (by rwa [sgx (by decide)] at hj)) | rfl), fun hj => (by first | exact (F13 (by rwa [sgx (by decide)] at hj)) | rfl), fun hj => (by first | exact (F15 (by rwa [sgx (by decide)] at hj)) | rfl), fun hj => (by first | exact (F16 (by rwa [sgx (by decide)] at hj)) | rfl), hx⟩
    · as_aux_lemma =>
        obtain ⟨u54, u55, u56, u57, u58, u59, u60, u61, u62, u63, u64, u65, u66, u67, u68, u69, rfl, F0, F1, F2, F3, F4, F5, F6, F7, F8, F9, F10, F11, F12, F13, F15, F16, hx⟩ := hI
        have l7 := he ⟨7, .data⟩ (by simp) rfl
        have e := F7 l7; subst e
        refine wpOp_stepx ho rfl (fun K hK => ?_)
        unfold y10cA
        go_simp
        (with_reducible refine (nil_CycJob w').mono ?_)
        rintro e w'' ⟨rfl, rfl⟩
        go_wp2_with fail
        exact ⟨_, _, _, _, _, _, _, _, _, _, _, _, _, _, _, _, rfl, fun hj => (by first | exact (F0 (by rwa [sgx (by decide)] at hj)) | rfl), fun hj => (by first | exact (F1 (by rwa [sgx (by decide)] at hj)) | rfl), fun hj => (by first | exact (F2 (by rwa [sgx (by decide)] at hj)) | rfl), fun hj => (by first | exact (F3 (by rwa [sgx (by decide)] at hj)) | rfl), fun hj => (by first | exact (F4 (by rwa [sgx (by decide)] at hj)) | rfl), fun hj => (by first | exact (F5 (by rwa [sgx (by decide)] at hj)) | rfl), fun hj => (by first | exact (F6 (by rwa [sgx (by decide)] at hj)) | rfl), fun hj => (by first | exact (F7 (by rwa [sgx (by decide)] at hj)) | rfl), fun _ => rfl, fun hj => (by first | exact (F9 (by rwa [sgx (by decide)] at hj)) | rfl), fun hj => (by first | exact (F10 (by rwa [sgx (by decide)] at hj)) | rfl), fun hj => (by first | exact (F11 (by rwa [sgx (by decide)] at hj)) | rfl), fun hj => (by first | exact (F12 (by rwa [sgx (by decide)] at hj)) | rfl), fun hj => (by first | exact (F13 (by rwa [sgx (by decide)] at hj)) | rfl), fun hj => (by first | exact (F15 (by rwa [sgx (by decide)] at hj)) | rfl), fun hj => (by first | exact (F16 (by rwa [sgx (by decide)] at hj)) | rfl), hx⟩
    · as_aux_lemma =>
        obtain ⟨u54, u55, u56, u57, u58, u59, u60, u61, u62, u63, u64, u65, u66, u67, u68, u69, rfl, F0, F1, F2, F3, F4, F5, F6, F7, F8, F9, F10, F11, F12, F13, F15, F16, hx⟩ := hI
        refine wpOp_stepx ho rfl (fun K hK => ?_)
        unfold y10cA
        go_simp
        exact hK _ _ ⟨_, _, _, _, _, _, _, _, _, _, _, _, _, _, _, _, rfl, fun hj => (by first | exact (F0 (by rwa [sgx (by decide)] at hj)) | rfl), fun hj => (by first | exact (F1 (by rwa [sgx (by decide)] at hj)) | rfl), fun hj => (by first | exact (F2 (by rwa [sgx (by decide)] at hj)) | rfl), fun hj => (by first | exact (F3 (by rwa [sgx (by decide)] at hj)) | rfl), fun hj => (by first | exact (F4 (by rwa [sgx (by decide)] at hj)) | rfl), fun hj => (by first | exact (F5 (by rwa [sgx (by decide)] at hj)) | rfl), fun hj => (by first | exact (F6 (by rwa [sgx (by decide)] at hj)) | rfl), fun hj => (by first | exact (F7 (by rwa [sgx (by decide)] at hj)) | rfl), fun hj => (by first | exact (F8 (by rwa [sgx (by decide)] at hj)) | rfl), fun _ => rfl, fun hj => (by first | exact (F10 (by rwa [sgx (by decide)] at hj)) | rfl), fun hj => (by first | exact (F11 (by rwa [sgx (by decide)] at hj)) | rfl), fun hj => (by first | exact (F12 (by rwa [sgx (by decide)] at hj)) | rfl), fun hj => (by first | exact (F13 (by rwa [sgx (by decide)] at hj)) | rfl), fun hj => (by first | exact (F15 (by rwa [sgx (by decide)] at hj)) | rfl), fun hj => (by first | exact (F16 (by rwa [sgx (by decide)] at hj)) | rfl), hx⟩
    · as_aux_lemma =>
        obtain ⟨u54, u55, u56, u57, u58, u59, u60, u61, u62, u63, u64, u65, u66, u67, u68, u69, rfl, F0, F1, F2, F3, F4, F5, F6, F7, F8, F9, F10, F11, F12, F13, F15, F16, hx⟩ := hI
        have l9 := he ⟨9, .data⟩ (by simp) rfl
        have e := F9 l9; subst e
        have q := (cellH hx.1 _).trans hE1
        refine wpOp_stepx ho rfl (fun K hK => ?_)
        unfold y10cA
        go_simp
        exact hK _ _ ⟨_, _, _, _, _, _, _, _, _, _, _, _, _, _, _, _, rfl, fun hj => (by first | exact (F0 (by rwa [sgx (by decide)] at hj)) | rfl), fun hj => (by first | exact (F1 (by rwa [sgx (by decide)] at hj)) | rfl), fun hj => (by first | exact (F2 (by rwa [sgx (by decide)] at hj)) | rfl), fun hj => (by first | exact (F3 (by rwa [sgx (by decide)] at hj)) | rfl), fun hj => (by first | exact (F4 (by rwa [sgx (by decide)] at hj)) | rfl), fun hj => (by first | exact (F5 (by rwa [sgx (by decide)] at hj)) | rfl), fun hj => (by first | exact (F6 (by rwa [sgx (by decide)] at hj)) | rfl), fun hj => (by first | exact (F7 (by rwa [sgx (by decide)] at hj)) | rfl), fun hj => (by first | exact (F8 (by rwa [sgx (by decide)] at hj)) | rfl), fun hj => (by first | exact (F9 (by rwa [sgx (by decide)] at hj)) | rfl), fun _ => rfl, fun hj => (by first | exact (F11 (by rwa [sgx (by decide)] at hj)) | rfl), fun hj => (by first | exact (F12 (by rwa [sgx (by decide)] at hj)) | rfl), fun hj => (by first | exact (F13 (by rwa [sgx (by decide)] at hj)) | rfl), fun hj => (by first | exact (F15 (by rwa [sgx (by decide)] at hj)) | rfl), fun hj => (by first | exact (F16 (by rwa [sgx (by decide)] at hj)) | rfl), hx⟩
    · as_aux_lemma =>
        obtain ⟨u54, u55, u56, u57, u58, u59, u60, u61, u62, u63, u64, u65, u66, u67, u68, u69, rfl, F0, F1, F2, F3, F4, F5, F6, F7, F8, F9, F10, F11, F12, F13, F15, F16, hx⟩ := hI
        have l10 := he ⟨10, .data⟩ (by simp) rfl
        have e := F10 l10; subst e
        refine wpOp_stepx ho rfl (fun K hK => ?_)
        unfold y10cA
        go_simp
        (with_reducible refine (copyJobs_nil w').mono ?_)
        rintro e w'' ⟨rfl, rfl⟩
        go_wp2_with fail
        exact ⟨_, _, _, _, _, _, _, _, _, _, _, _, _, _, _, _, rfl, fun hj => (by first | exact (F0 (by rwa [sgx (by decide)] at hj)) | rfl), fun hj => (by first | exact (F1 (by rwa [sgx (by decide)] at hj)) | rfl), fun hj => (by first | exact (F2 (by rwa [sgx (by decide)] at hj)) | rfl), fun hj => (by first | exact (F3 (by rwa [sgx (by decide)] at hj)) | rfl), fun hj => (by first | exact (F4 (by rwa [sgx (by decide)] at hj)) | rfl), fun hj => (by first | exact (F5 (by rwa [sgx (by decide)] at hj)) | rfl), fun hj => (by first | exact (F6 (by rwa [sgx (by decide)] at hj)) | rfl), fun hj => (by first | exact (F7 (by rwa [sgx (by decide)] at hj)) | rfl), fun hj => (by first | exact (F8 (by rwa [sgx (by decide)] at hj)) | rfl), fun hj => (by first | exact (F9 (by rwa [sgx (by decide)] at hj)) | rfl), fun hj => (by first | exact (F10 (by rwa [sgx (by decide)] at hj)) | rfl), fun _ => rfl, fun hj => (by first | exact (F12 (by rwa [sgx (by decide)] at hj)) | rfl), fun hj => (by first | exact (F13 (by rwa [sgx (by decide)] at hj)) | rfl), fun hj => (by first | exact (F15 (by rwa [sgx (by decide)] at hj)) | rfl), fun hj => (by first | exact (F16 (by rwa [sgx (by decide)] at hj)) | rfl), hx⟩
    · as_aux_lemma =>
        obtain ⟨u54, u55, u56, u57, u58, u59, u60, u61, u62, u63, u64, u65, u66, u67, u68, u69, rfl, F0, F1, F2, F3, F4, F5, F6, F7, F8, F9, F10, F11, F12, F13, F15, F16, hx⟩ := hI
        have l1 := he ⟨1, .data⟩ (by simp) rfl
        have l2 := he ⟨2, .data⟩ (by simp) rfl
        have e := F1 l1; subst e
        have e := F2 l2; subst e
        have hkx := hkn
        refine wpOp_stepx ho rfl (fun K hK => ?_)
        unfold y10cA
        go_simp
        exact hK _ _ ⟨_, _, _, _, _, _, _, _, _, _, _, _, _, _, _, _, rfl, fun hj => (by first | exact (F0 (by rwa [sgx (by decide)] at hj)) | rfl), fun hj => (by first | exact (F1 (by rwa [sgx (by decide)] at hj)) | rfl), fun hj => (by first | exact (F2 (by rwa [sgx (by decide)] at hj)) | rfl), fun hj => (by first | exact (F3 (by rwa [sgx (by decide)] at hj)) | rfl), fun hj => (by first | exact (F4 (by rwa [sgx (by decide)] at hj)) | rfl), fun hj => (by first | exact (F5 (by rwa [sgx (by decide)] at hj)) | rfl), fun hj => (by first | exact (F6 (by rwa [sgx (by decide)] at hj)) | rfl), fun hj => (by first | exact (F7 (by rwa [sgx (by decide)] at hj)) | rfl), fun hj => (by first | exact (F8 (by rwa [sgx (by decide)] at hj)) | rfl), fun hj => (by first | exact (F9 (by rwa [sgx (by decide)] at hj)) | rfl), fun hj => (by first | exact (F10 (by rwa [sgx (by decide)] at hj)) | rfl), fun hj => (by first | exact (F11 (by rwa [sgx (by decide)] at hj)) | rfl), fun _ => rfl, fun hj => (by first | exact (F13 (by rwa [sgx (by decide)] at hj)) | rfl), fun hj => (by first | exact (F15 (by rwa [sgx (by decide)] at hj)) | rfl), fun hj => (by first | exact (F16 (by rwa [sgx (by decide)] at hj)) | rfl), hx⟩
    · as_aux_lemma =>
        obtain ⟨u54, u55, u56, u57, u58, u59, u60, u61, u62, u63, u64, u65, u66, u67, u68, u69, rfl, F0, F1, F2, F3, F4, F5, F6, F7, F8, F9, F10, F11, F12, F13, F15, F16, hx⟩ := hI
        have l12 := he ⟨12, .data⟩ (by simp) rfl
        have e := F12 l12; subst e
        refine wpOp_stepx ho rfl (fun K hK => ?_)
        unfold y10cA
        go_simp
        exact hK _ _ ⟨_, _, _, _, _, _, _, _, _, _, _, _, _, _, _, _, rfl, fun hj => (by first | exact (F0 (by rwa [sgx (by decide)] at hj)) | rfl), fun hj => (by first | exact (F1 (by rwa [sgx (by decide)] at hj)) | rfl), fun hj => (by first | exact (F2 (by rwa [sgx (by decide)] at hj)) | rfl), fun hj => (by first | exact (F3 (by rwa [sgx (by decide)] at hj)) | rfl), fun hj => (by first | exact (F4 (by rwa [sgx (by decide)] at hj)) | rfl), fun hj => (by first | exact (F5 (by rwa [sgx (by decide)] at hj)) | rfl), fun hj => (by first | exact (F6 (by rwa [sgx (by decide)] at hj)) | rfl), fun hj => (by first | exact (F7 (by rwa [sgx (by decide)] at hj)) | rfl), fun hj => (by first | exact (F8 (by rwa [sgx (by decide)] at hj)) | rfl), fun hj => (by first | exact (F9 (by rwa [sgx (by decide)] at hj)) | rfl), fun hj => (by first | exact (F10 (by rwa [sgx (by decide)] at hj)) | rfl), fun hj => (by first | exact (F11 (by rwa [sgx (by decide)] at hj)) | rfl), fun hj => (by first | exact (F12 (by rwa [sgx (by decide)] at hj)) | rfl), fun _ => rfl, fun hj => (by first | exact (F15 (by rwa [sgx (by decide)] at hj)) | rfl), fun hj => (by first | exact (F16 (by rwa [sgx (by decide)] at hj)) | rfl), hx⟩
    · as_aux_lemma =>
        obtain ⟨u54, u55, u56, u57, u58, u59, u60, u61, u62, u63, u64, u65, u66, u67, u68, u69, rfl, F0, F1, F2, F3, F4, F5, F6, F7, F8, F9, F10, F11, F12, F13, F15, F16, hx⟩ := hI
        have l13 := he ⟨13, .data⟩ (by simp) rfl
        have l8 := he ⟨8, .data⟩ (by simp) rfl
        have e := F13 l13; subst e
        have e := F8 l8; subst e
        have q := (cellH hx.1 _).trans hC0
        have q2 := (frozenH hx.1 _).trans hF0
        refine wpOp_stepx ho rfl (fun K hK => ?_)
        unfold y10cA
        go_simp
        exact hK _ _ ⟨_, _, _, _, _, _, _, _, _, _, _, _, _, _, _, _, rfl, fun hj => (by first | exact (F0 (by rwa [sgx (by decide)] at hj)) | rfl), fun hj => (by first | exact (F1 (by rwa [sgx (by decide)] at hj)) | rfl), fun hj => (by first | exact (F2 (by rwa [sgx (by decide)] at hj)) | rfl), fun hj => (by first | exact (F3 (by rwa [sgx (by decide)] at hj)) | rfl), fun hj => (by first | exact (F4 (by rwa [sgx (by decide)] at hj)) | rfl), fun hj => (by first | exact (F5 (by rwa [sgx (by decide)] at hj)) | rfl), fun hj => (by first | exact (F6 (by rwa [sgx (by decide)] at hj)) | rfl), fun hj => (by first | exact (F7 (by rwa [sgx (by decide)] at hj)) | rfl), fun hj => (by first | exact (F8 (by rwa [sgx (by decide)] at hj)) | rfl), fun hj => (by first | exact (F9 (by rwa [sgx (by decide)] at hj)) | rfl), fun hj => (by first | exact (F10 (by rwa [sgx (by decide)] at hj)) | rfl), fun hj => (by first | exact (F11 (by rwa [sgx (by decide)] at hj)) | rfl), fun hj => (by first | exact (F12 (by rwa [sgx (by decide)] at hj)) | rfl), fun hj => (by first | exact (F13 (by rwa [sgx (by decide)] at hj)) | rfl), fun hj => (by first | exact (F15 (by rwa [sgx (by decide)] at hj)) | rfl), fun hj => (by first | exact (F16 (by rwa [sgx (by decide)] at hj)) | rfl), ⟨(setCell_same q).trans hx.1, hx.2.setCell (Nat.zero_le _) _⟩⟩
    · as_aux_lemma =>
        obtain ⟨u54, u55, u56, u57, u58, u59, u60, u61, u62, u63, u64, u65, u66, u67, u68, u69, rfl, F0, F1, F2, F3, F4, F5, F6, F7, F8, F9, F10, F11, F12, F13, F15, F16, hx⟩ := hI
        have l4 := he ⟨4, .data⟩ (by simp) rfl
        have l5 := he ⟨5, .data⟩ (by simp) rfl
        have e := F4 l4; subst e
        have e := F5 l5; subst e
        have hkx := hkn
        refine wpOp_stepx ho rfl (fun K hK => ?_)
        unfold y10cA
        go_simp
        exact hK _ _ ⟨_, _, _, _, _, _, _, _, _, _, _, _, _, _, _, _, rfl, fun hj => (by first | exact (F0 (by rwa [sgx (by decide)] at hj)) | rfl), fun hj => (by first | exact (F1 (by rwa [sgx (by decide)] at hj)) | rfl), fun hj => (by first | exact (F2 (by rwa [sgx (by decide)] at hj)) | rfl), fun hj => (by first | exact (F3 (by rwa [sgx (by decide)] at hj)) | rfl), fun hj => (by first | exact (F4 (by rwa [sgx (by decide)] at hj)) | rfl), fun hj => (by first | exact (F5 (by rwa [sgx (by decide)] at hj)) | rfl), fun hj => (by first | exact (F6 (by rwa [sgx (by decide)] at hj)) | rfl), fun hj => (by first | exact (F7 (by rwa [sgx (by decide)] at hj)) | rfl), fun hj => (by first | exact (F8 (by rwa [sgx (by decide)] at hj)) | rfl), fun hj => (by first | exact (F9 (by rwa [sgx (by decide)] at hj)) | rfl), fun hj => (by first | exact (F10 (by rwa [sgx (by decide)] at hj)) | rfl), fun hj => (by first | exact (F11 (by rwa [sgx (by decide)] at hj)) | rfl), fun hj => (by first | exact (F12 (by rwa [sgx (by decide)] at hj)) | rfl), fun hj => (by first | exact (F13 (by rwa [sgx (by decide)] at hj)) | rfl), fun _ => rfl, fun hj => (by first | exact (F16 (by rwa [sgx (by decide)] at hj)) | rfl), hx⟩
    · as_aux_lemma =>
        obtain ⟨u54, u55, u56, u57, u58, u59, u60, u61, u62, u63, u64, u65, u66, u67, u68, u69, rfl, F0, F1, F2, F3, F4, F5, F6, F7, F8, F9, F10, F11, F12, F13, F15, F16, hx⟩ := hI
        have l15 := he ⟨15, .data⟩ (by simp) rfl
        have e := F15 l15; subst e
        refine wpOp_stepx ho rfl (fun K hK => ?_)
        unfold y10cA
        go_simp
        exact hK _ _ ⟨_, _, _, _, _, _, _, _, _, _, _, _, _, _, _, _, rfl, fun hj => (by first | exact (F0 (by rwa [sgx (by decide)] at hj)) | rfl), fun hj => (by first | exact (F1 (by rwa [sgx (by decide)] at hj)) | rfl), fun hj => (by first | exact (F2 (by rwa [sgx (by decide)] at hj)) | rfl), fun hj => (by first | exact (F3 (by rwa [sgx (by decide)] at hj)) | rfl), fun hj => (by first | exact (F4 (by rwa [sgx (by decide)] at hj)) | rfl), fun hj => (by first | exact (F5 (by rwa [sgx (by decide)] at hj)) | rfl), fun hj => (by first | exact (F6 (by rwa [sgx (by decide)] at hj)) | rfl), fun hj => (by first | exact (F7 (by rwa [sgx (by decide)] at hj)) | rfl), fun hj => (by first | exact (F8 (by rwa [sgx (by decide)] at hj)) | rfl), fun hj => (by first | exact (F9 (by rwa [sgx (by decide)] at hj)) | rfl), fun hj => (by first | exact (F10 (by rwa [sgx (by decide)] at hj)) | rfl), fun hj => (by first | exact (F11 (by rwa [sgx (by decide)] at hj)) | rfl), fun hj => (by first | exact (F12 (by rwa [sgx (by decide)] at hj)) | rfl), fun hj => (by first | exact (F13 (by rwa [sgx (by decide)] at hj)) | rfl), fun hj => (by first | exact (F15 (by rwa [sgx (by decide)] at hj)) | rfl), fun _ => rfl, hx⟩
    · as_aux_lemma =>
        obtain ⟨u54, u55, u56, u57, u58, u59, u60, u61, u62, u63, u64, u65, u66, u67, u68, u69, rfl, F0, F1, F2, F3, F4, F5, F6, F7, F8, F9, F10, F11, F12, F13, F15, F16, hx⟩ := hI
        have l16 := he ⟨16, .data⟩ (by simp) rfl
        have l11 := he ⟨11, .data⟩ (by simp) rfl
        have e := F16 l16; subst e
        have e := F11 l11; subst e
        have q := (cellH hx.1 _).trans hC1
        have q2 := (frozenH hx.1 _).trans hF1
        refine wpOp_stepx ho rfl (fun K hK => ?_)
        unfold y10cA
        go_simp
        exact hK _ _ ⟨_, _, _, _, _, _, _, _, _, _, _, _, _, _, _, _, rfl, fun hj => (by first | exact (F0 (by rwa [sgx (by decide)] at hj)) | rfl), fun hj => (by first | exact (F1 (by rwa [sgx (by decide)] at hj)) | rfl), fun hj => (by first | exact (F2 (by rwa [sgx (by decide)] at hj)) | rfl), fun hj => (by first | exact (F3 (by rwa [sgx (by decide)] at hj)) | rfl), fun hj => (by first | exact (F4 (by rwa [sgx (by decide)] at hj)) | rfl), fun hj => (by first | exact (F5 (by rwa [sgx (by decide)] at hj)) | rfl), fun hj => (by first | exact (F6 (by rwa [sgx (by decide)] at hj)) | rfl), fun hj => (by first | exact (F7 (by rwa [sgx (by decide)] at hj)) | rfl), fun hj => (by first | exact (F8 (by rwa [sgx (by decide)] at hj)) | rfl), fun hj => (by first | exact (F9 (by rwa [sgx (by decide)] at hj)) | rfl), fun hj => (by first | exact (F10 (by rwa [sgx (by decide)] at hj)) | rfl), fun hj => (by first | exact (F11 (by rwa [sgx (by decide)] at hj)) | rfl), fun hj => (by first | exact (F12 (by rwa [sgx (by decide)] at hj)) | rfl), fun hj => (by first | exact (F13 (by rwa [sgx (by decide)] at hj)) | rfl), fun hj => (by first | exact (F15 (by rwa [sgx (by decide)] at hj)) | rfl), fun hj => (by first | exact (F16 (by rwa [sgx (by decide)] at hj)) | rfl), ⟨(setCell_same q).trans hx.1, hx.2.setCell (Nat.zero_le _) _⟩⟩
  · intro listed a w' hI hd
    obtain ⟨u54, u55, u56, u57, u58, u59, u60, u61, u62, u63, u64, u65, u66, u67, u68, u69, rfl, F0, F1, F2, F3, F4, F5, F6, F7, F8, F9, F10, F11, F12, F13, F15, F16, hx⟩ := hI
    exact hK _ _ _ _ _ _ _ _ _ _ _ _ _ _ _ _ w' hx

end Go.Proofs.Yteamebdehembgaa
