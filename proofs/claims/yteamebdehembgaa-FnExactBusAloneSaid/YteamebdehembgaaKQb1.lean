/-
  BusCfg.copyOf: its drawn region 1 (printed by wip/gen_qb.py).
-/
import Derived.Test.YteamebdehembgaaJY4
import Derived.Test.YteamebdehembgaaJQ3
set_option linter.unusedVariables false
set_option linter.unusedSimpArgs false
namespace Go.Proofs.Yteamebdehembgaa
open Go.RowKit
attribute [local go_sem ↓] Go.wp_at_zero Go.wp_at_succ

def qb1A (i0 i2 i4 i5 i6 i7 i19 i20 i21 i22 i23 i24 i25 i26 i27 i28 i29 i30 i31 i32 i33 i34 i35 i36 i37 i38 i39 i40 i41 i42 i43 i44 i45 i46 i47 i48 i49 i50 i51 : Value) (gS : Nat) (u3 u8 u9 u10 u11 u12 u13 u14 u15 u16 u17 u18 : Value) : Act := { tmps := #[i0, .pointer (some ⟨gS, 0, none⟩), i2, u3, i4, i5, i6, i7, u8, u9, u10, u11, u12, u13, u14, u15, u16, u17, u18, i19, i20, i21, i22, i23, i24, i25, i26, i27, i28, i29, i30, i31, i32, i33, i34, i35, i36, i37, i38, i39, i40, i41, i42, i43, i44, i45, i46, i47, i48, i49, i50, i51], defers := [] }
def qb1I (i0 i2 i4 i5 i6 i7 i19 i20 i21 i22 i23 i24 i25 i26 i27 i28 i29 i30 i31 i32 i33 i34 i35 i36 i37 i38 i39 i40 i41 i42 i43 i44 i45 i46 i47 i48 i49 i50 i51 : Value) (gS : Nat) (vm : Value) (vl : Value) (pa : Option Addr) (n : Nat) (pc : Nat) (ms : List MR) (lat : List Int) (wq : World) (listed : Array Bool) (a : Act) (w' : World) : Prop :=
  ∃ u3 u8 u9 u10 u11 u12 u13 u14 u15 u16 u17 u18 : Value, a = qb1A i0 i2 i4 i5 i6 i7 i19 i20 i21 i22 i23 i24 i25 i26 i27 i28 i29 i30 i31 i32 i33 i34 i35 i36 i37 i38 i39 i40 i41 i42 i43 i44 i45 i46 i47 i48 i49 i50 i51 gS u3 u8 u9 u10 u11 u12 u13 u14 u15 u16 u17 u18 ∧
      (listed.getD 0 false = true → u8 = .pointer (some ⟨gS, 0, none⟩)) ∧
      (listed.getD 1 false = true → u9 = vm) ∧
      (listed.getD 2 false = true → Owns w' wq.heap.size 101 4 rowM u10 ms) ∧
      (listed.getD 3 false = true → u11 = .pointer (some ⟨gS, 1, none⟩)) ∧
      (listed.getD 4 false = true → u12 = vl) ∧
      (listed.getD 5 false = true → Owns w' wq.heap.size 3 1 rowI u13 lat) ∧
      (listed.getD 6 false = true → u14 = .pointer (some ⟨gS, 2, none⟩)) ∧
      (listed.getD 7 false = true → u15 = .slice pa n pc) ∧
      (listed.getD 8 false = true → u16 = .int .i64 (n : Nat)) ∧
      (listed.getD 9 false = true → ∃ pb, u17 = .slice (some ⟨pb, 0, none⟩) n n ∧ Owns w' wq.heap.size 34 1 row1 (.slice (some ⟨pb, 0, none⟩) n n) (List.replicate n vnil)) ∧
      (listed.getD 10 false = true → u18 = .agg #[u10, u13, u17]) ∧
      (listed.getD 11 false = true → listed.getD 12 false = false → ∃ g, u3 = .pointer (some ⟨g, 0, none⟩) ∧ wq.heap.size ≤ g ∧ BoxB w' g vnil vnil vnil) ∧
      (listed.getD 12 false = true → ∃ g, u3 = .pointer (some ⟨g, 0, none⟩) ∧ wq.heap.size ≤ g ∧ BoxB w' g u10 u13 u17) ∧
      Below wq.heap.size wq w'
noncomputable def qb1Code : Code := (Try.f57.body.bind (regIn2 1)).getD .skip
/-- Behind the region: the copy lies in a new box, its lists of what is asked nil. -/
def QbP (u : Value) (n : Nat) (ms : List MR) (lat : List Int) (wq w' : World) : Prop := ∃ g a b pb, u = .pointer (some ⟨g, 0, none⟩) ∧ wq.heap.size ≤ g ∧ BoxB w' g a b (.slice (some ⟨pb, 0, none⟩) n n) ∧ Owns w' wq.heap.size 101 4 rowM a ms ∧ Owns w' wq.heap.size 3 1 rowI b lat ∧ Owns w' wq.heap.size 34 1 row1 (.slice (some ⟨pb, 0, none⟩) n n) (List.replicate n vnil) ∧ Below wq.heap.size wq w'

set_option maxRecDepth 100000 in
set_option maxHeartbeats 16000000 in
theorem qb1_region (i0 i2 i4 i5 i6 i7 i19 i20 i21 i22 i23 i24 i25 i26 i27 i28 i29 i30 i31 i32 i33 i34 i35 i36 i37 i38 i39 i40 i41 i42 i43 i44 i45 i46 i47 i48 i49 i50 i51 j3 j8 j9 j10 j11 j12 j13 j14 j15 j16 j17 j18 : Value) (gS : Nat) (vm : Value) (vl : Value) (pa : Option Addr) (n : Nat) (pc : Nat) (ms : List MR) (lat : List Int) (wq : World)
    (hS : Bx wq gS [vm, vl, .slice pa n pc]) (hM : Arr wq wq.heap.size 4 vm (ms.map rowM)) (hL : Arr wq wq.heap.size 1 vl (lat.map rowI)) (hl1 : ms.length ≤ 1048576) (hl2 : lat.length ≤ 1048576) (hl3 : n ≤ 1048576)
    {Q : Exit → Act → World → Prop}
    (hK : ∀ (u3 u8 u9 u10 u11 u12 u13 u14 u15 u16 u17 u18 : Value) w', QbP u3 n ms lat wq w' → Q .normal (qb1A i0 i2 i4 i5 i6 i7 i19 i20 i21 i22 i23 i24 i25 i26 i27 i28 i29 i30 i31 i32 i33 i34 i35 i36 i37 i38 i39 i40 i41 i42 i43 i44 i45 i46 i47 i48 i49 i50 i51 gS u3 u8 u9 u10 u11 u12 u13 u14 u15 u16 u17 u18) w') : qb1Code.wp Try.prog Q (qb1A i0 i2 i4 i5 i6 i7 i19 i20 i21 i22 i23 i24 i25 i26 i27 i28 i29 i30 i31 i32 i33 i34 i35 i36 i37 i38 i39 i40 i41 i42 i43 i44 i45 i46 i47 i48 i49 i50 i51 gS j3 j8 j9 j10 j11 j12 j13 j14 j15 j16 j17 j18) wq := by
  conv => arg 2; whnf
  refine wp_region_inv2 (qb1I i0 i2 i4 i5 i6 i7 i19 i20 i21 i22 i23 i24 i25 i26 i27 i28 i29 i30 i31 i32 i33 i34 i35 i36 i37 i38 i39 i40 i41 i42 i43 i44 i45 i46 i47 i48 i49 i50 i51 gS vm vl pa n pc ms lat wq) (by kernel_rfl) (by kernel_rfl) ?_ ?_ ?_
  · exact ⟨_, _, _, _, _, _, _, _, _, _, _, _, rfl, (fun h => absurd h (by rw [getD_replicate_false]; simp)), (fun h => absurd h (by rw [getD_replicate_false]; simp)), (fun h => absurd h (by rw [getD_replicate_false]; simp)), (fun h => absurd h (by rw [getD_replicate_false]; simp)), (fun h => absurd h (by rw [getD_replicate_false]; simp)), (fun h => absurd h (by rw [getD_replicate_false]; simp)), (fun h => absurd h (by rw [getD_replicate_false]; simp)), (fun h => absurd h (by rw [getD_replicate_false]; simp)), (fun h => absurd h (by rw [getD_replicate_false]; simp)), (fun h => absurd h (by rw [getD_replicate_false]; simp)), (fun h => absurd h (by rw [getD_replicate_false]; simp)), (fun h _ => absurd h (by rw [getD_replicate_false]; simp)), (fun h => absurd h (by rw [getD_replicate_false]; simp)), (Below.refl _ _).drew⟩
  · intro listed a w' i o hI hsz ho hl he hcl
    have hi : i < 13 := (Array.getElem?_eq_some_iff.1 ho).1
    have e : i = 0 ∨ i = 1 ∨ i = 2 ∨ i = 3 ∨ i = 4 ∨ i = 5 ∨ i = 6 ∨ i = 7 ∨ i = 8 ∨ i = 9 ∨ i = 10 ∨ i = 11 ∨ i = 12 := by omega
    clear hi
    rcases e with rfl | rfl | rfl | rfl | rfl | rfl | rfl | rfl | rfl | rfl | rfl | rfl | rfl
    all_goals (have ho2 := ho; obtain rfl := Option.some.inj ho2.symm; clear ho2)
    · as_aux_lemma =>
        obtain ⟨u3, u8, u9, u10, u11, u12, u13, u14, u15, u16, u17, u18, rfl, F0, F1, F2, F3, F4, F5, F6, F7, F8, F9, F10, F11, F12, hx⟩ := hI
        refine wpOp_stepx ho rfl (fun K hK => ?_)
        unfold qb1A
        go_simp
        exact hK _ _ ⟨_, _, _, _, _, _, _, _, _, _, _, _, rfl, fun _ => rfl, fun hj => (by first | exact (F1 (by rwa [sgx (by decide)] at hj)) | rfl), fun hj => (F2 (by rwa [sgx (by decide)] at hj)), fun hj => (by first | exact (F3 (by rwa [sgx (by decide)] at hj)) | rfl), fun hj => (by first | exact (F4 (by rwa [sgx (by decide)] at hj)) | rfl), fun hj => (F5 (by rwa [sgx (by decide)] at hj)), fun hj => (by first | exact (F6 (by rwa [sgx (by decide)] at hj)) | rfl), fun hj => (by first | exact (F7 (by rwa [sgx (by decide)] at hj)) | rfl), fun hj => (by first | exact (F8 (by rwa [sgx (by decide)] at hj)) | rfl), fun hj => (F9 (by rwa [sgx (by decide)] at hj)), fun hj => (F10 (by rwa [sgx (by decide)] at hj)), fun hj hu => (F11 (by rwa [sgx (by decide)] at hj) (by rwa [sgx (by decide)] at hu)), fun hj => (F12 (by rwa [sgx (by decide)] at hj)), hx⟩
    · as_aux_lemma =>
        obtain ⟨u3, u8, u9, u10, u11, u12, u13, u14, u15, u16, u17, u18, rfl, F0, F1, F2, F3, F4, F5, F6, F7, F8, F9, F10, F11, F12, hx⟩ := hI
        have l0 := he ⟨0, .data⟩ (by simp) rfl
        have e := F0 l0; subst e
        obtain ⟨⟨c0, c1, c2⟩, _⟩ := (hS.below hx hS.lt).three
        refine wpOp_stepx ho rfl (fun K hK => ?_)
        unfold qb1A
        go_simp
        exact hK _ _ ⟨_, _, _, _, _, _, _, _, _, _, _, _, rfl, fun hj => (by first | exact (F0 (by rwa [sgx (by decide)] at hj)) | rfl), fun _ => rfl, fun hj => (F2 (by rwa [sgx (by decide)] at hj)), fun hj => (by first | exact (F3 (by rwa [sgx (by decide)] at hj)) | rfl), fun hj => (by first | exact (F4 (by rwa [sgx (by decide)] at hj)) | rfl), fun hj => (F5 (by rwa [sgx (by decide)] at hj)), fun hj => (by first | exact (F6 (by rwa [sgx (by decide)] at hj)) | rfl), fun hj => (by first | exact (F7 (by rwa [sgx (by decide)] at hj)) | rfl), fun hj => (by first | exact (F8 (by rwa [sgx (by decide)] at hj)) | rfl), fun hj => (F9 (by rwa [sgx (by decide)] at hj)), fun hj => (F10 (by rwa [sgx (by decide)] at hj)), fun hj hu => (F11 (by rwa [sgx (by decide)] at hj) (by rwa [sgx (by decide)] at hu)), fun hj => (F12 (by rwa [sgx (by decide)] at hj)), hx⟩
    · as_aux_lemma =>
        obtain ⟨u3, u8, u9, u10, u11, u12, u13, u14, u15, u16, u17, u18, rfl, F0, F1, F2, F3, F4, F5, F6, F7, F8, F9, F10, F11, F12, hx⟩ := hI
        have l1 := he ⟨1, .data⟩ (by simp) rfl
        have e := F1 l1; subst e
        refine wpOp_stepx ho rfl (fun K hK => ?_)
        unfold qb1A
        go_simp
        (with_reducible refine (clone_MapRange rowM rowM_len rowM_one _ ms w'.heap.size w' ((hM.below hx).mono hx.size) (by omega)).mono ?_)
        rintro e w'' ⟨q, rfl, o1, hb1⟩
        go_wp2_with fail
        exact ⟨_, _, _, _, _, _, _, _, _, _, _, _, rfl, fun hj => (by first | exact (F0 (by rwa [sgx (by decide)] at hj)) | rfl), fun hj => (by first | exact (F1 (by rwa [sgx (by decide)] at hj)) | rfl), fun _ => o1.rebase hx.size, fun hj => (by first | exact (F3 (by rwa [sgx (by decide)] at hj)) | rfl), fun hj => (by first | exact (F4 (by rwa [sgx (by decide)] at hj)) | rfl), fun hj => absurd (hcl 5 _ rfl (by rwa [sgx (by decide)] at hj) ⟨2, .chain⟩ (by simp) rfl) (by rw [getD_both hl]; simp), fun hj => (by first | exact (F6 (by rwa [sgx (by decide)] at hj)) | rfl), fun hj => (by first | exact (F7 (by rwa [sgx (by decide)] at hj)) | rfl), fun hj => (by first | exact (F8 (by rwa [sgx (by decide)] at hj)) | rfl), fun hj => (let ⟨pb, e, o⟩ := (F9 (by rwa [sgx (by decide)] at hj)); ⟨pb, e, OwnR.below o hb1 (fun k hk => (OwnR.lt o k hk).2)⟩), fun hj => absurd (hcl 10 _ rfl (by rwa [sgx (by decide)] at hj) ⟨2, .data⟩ (by simp) rfl) (by rw [getD_both hl]; simp), fun hj hu => (let ⟨g, e1, e2, e3⟩ := (F11 (by rwa [sgx (by decide)] at hj) (by rwa [sgx (by decide)] at hu)); ⟨g, e1, e2, e3.below hb1 e3.lt⟩), fun hj => absurd (hcl 12 _ rfl (by rwa [sgx (by decide)] at hj) ⟨2, .phase⟩ (by simp) rfl) (by rw [getD_both hl]; simp), hx.trans (hb1.mono hx.size)⟩
    · as_aux_lemma =>
        obtain ⟨u3, u8, u9, u10, u11, u12, u13, u14, u15, u16, u17, u18, rfl, F0, F1, F2, F3, F4, F5, F6, F7, F8, F9, F10, F11, F12, hx⟩ := hI
        refine wpOp_stepx ho rfl (fun K hK => ?_)
        unfold qb1A
        go_simp
        exact hK _ _ ⟨_, _, _, _, _, _, _, _, _, _, _, _, rfl, fun hj => (by first | exact (F0 (by rwa [sgx (by decide)] at hj)) | rfl), fun hj => (by first | exact (F1 (by rwa [sgx (by decide)] at hj)) | rfl), fun hj => (F2 (by rwa [sgx (by decide)] at hj)), fun _ => rfl, fun hj => (by first | exact (F4 (by rwa [sgx (by decide)] at hj)) | rfl), fun hj => (F5 (by rwa [sgx (by decide)] at hj)), fun hj => (by first | exact (F6 (by rwa [sgx (by decide)] at hj)) | rfl), fun hj => (by first | exact (F7 (by rwa [sgx (by decide)] at hj)) | rfl), fun hj => (by first | exact (F8 (by rwa [sgx (by decide)] at hj)) | rfl), fun hj => (F9 (by rwa [sgx (by decide)] at hj)), fun hj => (F10 (by rwa [sgx (by decide)] at hj)), fun hj hu => (F11 (by rwa [sgx (by decide)] at hj) (by rwa [sgx (by decide)] at hu)), fun hj => (F12 (by rwa [sgx (by decide)] at hj)), hx⟩
    · as_aux_lemma =>
        obtain ⟨u3, u8, u9, u10, u11, u12, u13, u14, u15, u16, u17, u18, rfl, F0, F1, F2, F3, F4, F5, F6, F7, F8, F9, F10, F11, F12, hx⟩ := hI
        have l3 := he ⟨3, .data⟩ (by simp) rfl
        have e := F3 l3; subst e
        obtain ⟨⟨c0, c1, c2⟩, _⟩ := (hS.below hx hS.lt).three
        refine wpOp_stepx ho rfl (fun K hK => ?_)
        unfold qb1A
        go_simp
        exact hK _ _ ⟨_, _, _, _, _, _, _, _, _, _, _, _, rfl, fun hj => (by first | exact (F0 (by rwa [sgx (by decide)] at hj)) | rfl), fun hj => (by first | exact (F1 (by rwa [sgx (by decide)] at hj)) | rfl), fun hj => (F2 (by rwa [sgx (by decide)] at hj)), fun hj => (by first | exact (F3 (by rwa [sgx (by decide)] at hj)) | rfl), fun _ => rfl, fun hj => (F5 (by rwa [sgx (by decide)] at hj)), fun hj => (by first | exact (F6 (by rwa [sgx (by decide)] at hj)) | rfl), fun hj => (by first | exact (F7 (by rwa [sgx (by decide)] at hj)) | rfl), fun hj => (by first | exact (F8 (by rwa [sgx (by decide)] at hj)) | rfl), fun hj => (F9 (by rwa [sgx (by decide)] at hj)), fun hj => (F10 (by rwa [sgx (by decide)] at hj)), fun hj hu => (F11 (by rwa [sgx (by decide)] at hj) (by rwa [sgx (by decide)] at hu)), fun hj => (F12 (by rwa [sgx (by decide)] at hj)), hx⟩
    · as_aux_lemma =>
        obtain ⟨u3, u8, u9, u10, u11, u12, u13, u14, u15, u16, u17, u18, rfl, F0, F1, F2, F3, F4, F5, F6, F7, F8, F9, F10, F11, F12, hx⟩ := hI
        have l4 := he ⟨4, .data⟩ (by simp) rfl
        have e := F4 l4; subst e
        refine wpOp_stepx ho rfl (fun K hK => ?_)
        unfold qb1A
        go_simp
        (with_reducible refine (clone_int rowI rowI_len rowI_one _ lat w'.heap.size w' ((hL.below hx).mono hx.size) (by omega)).mono ?_)
        rintro e w'' ⟨q, rfl, o1, hb1⟩
        go_wp2_with fail
        exact ⟨_, _, _, _, _, _, _, _, _, _, _, _, rfl, fun hj => (by first | exact (F0 (by rwa [sgx (by decide)] at hj)) | rfl), fun hj => (by first | exact (F1 (by rwa [sgx (by decide)] at hj)) | rfl), fun hj => OwnR.below (F2 (by rwa [sgx (by decide)] at hj)) hb1 (fun k hk => (OwnR.lt (F2 (by rwa [sgx (by decide)] at hj)) k hk).2), fun hj => (by first | exact (F3 (by rwa [sgx (by decide)] at hj)) | rfl), fun hj => (by first | exact (F4 (by rwa [sgx (by decide)] at hj)) | rfl), fun _ => o1.rebase hx.size, fun hj => (by first | exact (F6 (by rwa [sgx (by decide)] at hj)) | rfl), fun hj => (by first | exact (F7 (by rwa [sgx (by decide)] at hj)) | rfl), fun hj => (by first | exact (F8 (by rwa [sgx (by decide)] at hj)) | rfl), fun hj => (let ⟨pb, e, o⟩ := (F9 (by rwa [sgx (by decide)] at hj)); ⟨pb, e, OwnR.below o hb1 (fun k hk => (OwnR.lt o k hk).2)⟩), fun hj => absurd (hcl 10 _ rfl (by rwa [sgx (by decide)] at hj) ⟨5, .data⟩ (by simp) rfl) (by rw [getD_both hl]; simp), fun hj hu => (let ⟨g, e1, e2, e3⟩ := (F11 (by rwa [sgx (by decide)] at hj) (by rwa [sgx (by decide)] at hu)); ⟨g, e1, e2, e3.below hb1 e3.lt⟩), fun hj => absurd (hcl 12 _ rfl (by rwa [sgx (by decide)] at hj) ⟨5, .phase⟩ (by simp) rfl) (by rw [getD_both hl]; simp), hx.trans (hb1.mono hx.size)⟩
    · as_aux_lemma =>
        obtain ⟨u3, u8, u9, u10, u11, u12, u13, u14, u15, u16, u17, u18, rfl, F0, F1, F2, F3, F4, F5, F6, F7, F8, F9, F10, F11, F12, hx⟩ := hI
        refine wpOp_stepx ho rfl (fun K hK => ?_)
        unfold qb1A
        go_simp
        exact hK _ _ ⟨_, _, _, _, _, _, _, _, _, _, _, _, rfl, fun hj => (by first | exact (F0 (by rwa [sgx (by decide)] at hj)) | rfl), fun hj => (by first | exact (F1 (by rwa [sgx (by decide)] at hj)) | rfl), fun hj => (F2 (by rwa [sgx (by decide)] at hj)), fun hj => (by first | exact (F3 (by rwa [sgx (by decide)] at hj)) | rfl), fun hj => (by first | exact (F4 (by rwa [sgx (by decide)] at hj)) | rfl), fun hj => (F5 (by rwa [sgx (by decide)] at hj)), fun _ => rfl, fun hj => (by first | exact (F7 (by rwa [sgx (by decide)] at hj)) | rfl), fun hj => (by first | exact (F8 (by rwa [sgx (by decide)] at hj)) | rfl), fun hj => (F9 (by rwa [sgx (by decide)] at hj)), fun hj => (F10 (by rwa [sgx (by decide)] at hj)), fun hj hu => (F11 (by rwa [sgx (by decide)] at hj) (by rwa [sgx (by decide)] at hu)), fun hj => (F12 (by rwa [sgx (by decide)] at hj)), hx⟩
    · as_aux_lemma =>
        obtain ⟨u3, u8, u9, u10, u11, u12, u13, u14, u15, u16, u17, u18, rfl, F0, F1, F2, F3, F4, F5, F6, F7, F8, F9, F10, F11, F12, hx⟩ := hI
        have l6 := he ⟨6, .data⟩ (by simp) rfl
        have e := F6 l6; subst e
        obtain ⟨⟨c0, c1, c2⟩, _⟩ := (hS.below hx hS.lt).three
        refine wpOp_stepx ho rfl (fun K hK => ?_)
        unfold qb1A
        go_simp
        exact hK _ _ ⟨_, _, _, _, _, _, _, _, _, _, _, _, rfl, fun hj => (by first | exact (F0 (by rwa [sgx (by decide)] at hj)) | rfl), fun hj => (by first | exact (F1 (by rwa [sgx (by decide)] at hj)) | rfl), fun hj => (F2 (by rwa [sgx (by decide)] at hj)), fun hj => (by first | exact (F3 (by rwa [sgx (by decide)] at hj)) | rfl), fun hj => (by first | exact (F4 (by rwa [sgx (by decide)] at hj)) | rfl), fun hj => (F5 (by rwa [sgx (by decide)] at hj)), fun hj => (by first | exact (F6 (by rwa [sgx (by decide)] at hj)) | rfl), fun _ => rfl, fun hj => (by first | exact (F8 (by rwa [sgx (by decide)] at hj)) | rfl), fun hj => (F9 (by rwa [sgx (by decide)] at hj)), fun hj => (F10 (by rwa [sgx (by decide)] at hj)), fun hj hu => (F11 (by rwa [sgx (by decide)] at hj) (by rwa [sgx (by decide)] at hu)), fun hj => (F12 (by rwa [sgx (by decide)] at hj)), hx⟩
    · as_aux_lemma =>
        obtain ⟨u3, u8, u9, u10, u11, u12, u13, u14, u15, u16, u17, u18, rfl, F0, F1, F2, F3, F4, F5, F6, F7, F8, F9, F10, F11, F12, hx⟩ := hI
        have l7 := he ⟨7, .data⟩ (by simp) rfl
        have e := F7 l7; subst e
        refine wpOp_stepx ho rfl (fun K hK => ?_)
        unfold qb1A
        go_simp
        exact hK _ _ ⟨_, _, _, _, _, _, _, _, _, _, _, _, rfl, fun hj => (by first | exact (F0 (by rwa [sgx (by decide)] at hj)) | rfl), fun hj => (by first | exact (F1 (by rwa [sgx (by decide)] at hj)) | rfl), fun hj => (F2 (by rwa [sgx (by decide)] at hj)), fun hj => (by first | exact (F3 (by rwa [sgx (by decide)] at hj)) | rfl), fun hj => (by first | exact (F4 (by rwa [sgx (by decide)] at hj)) | rfl), fun hj => (F5 (by rwa [sgx (by decide)] at hj)), fun hj => (by first | exact (F6 (by rwa [sgx (by decide)] at hj)) | rfl), fun hj => (by first | exact (F7 (by rwa [sgx (by decide)] at hj)) | rfl), fun _ => rfl, fun hj => (F9 (by rwa [sgx (by decide)] at hj)), fun hj => (F10 (by rwa [sgx (by decide)] at hj)), fun hj hu => (F11 (by rwa [sgx (by decide)] at hj) (by rwa [sgx (by decide)] at hu)), fun hj => (F12 (by rwa [sgx (by decide)] at hj)), hx⟩
    · as_aux_lemma =>
        obtain ⟨u3, u8, u9, u10, u11, u12, u13, u14, u15, u16, u17, u18, rfl, F0, F1, F2, F3, F4, F5, F6, F7, F8, F9, F10, F11, F12, hx⟩ := hI
        have l8 := he ⟨8, .data⟩ (by simp) rfl
        have e := F8 l8; subst e
        refine wpOp_stepx ho rfl (fun K hK => ?_)
        unfold qb1A
        refine opWp_mk row1 vnil vnil Try.underlying25 infoPQ rfl (by omega) rfl w' _ _ rfl _ _ _ _ n rfl rfl rfl rfl (by omega) (by unfold maxLen; omega) ?_
        intro w'' o1 hb1
        exact hK _ _ ⟨_, _, _, _, _, _, _, _, _, _, _, _, rfl, fun hj => (by first | exact (F0 (by rwa [sgx (by decide)] at hj)) | rfl), fun hj => (by first | exact (F1 (by rwa [sgx (by decide)] at hj)) | rfl), fun hj => OwnR.below (F2 (by rwa [sgx (by decide)] at hj)) hb1 (fun k hk => (OwnR.lt (F2 (by rwa [sgx (by decide)] at hj)) k hk).2), fun hj => (by first | exact (F3 (by rwa [sgx (by decide)] at hj)) | rfl), fun hj => (by first | exact (F4 (by rwa [sgx (by decide)] at hj)) | rfl), fun hj => OwnR.below (F5 (by rwa [sgx (by decide)] at hj)) hb1 (fun k hk => (OwnR.lt (F5 (by rwa [sgx (by decide)] at hj)) k hk).2), fun hj => (by first | exact (F6 (by rwa [sgx (by decide)] at hj)) | rfl), fun hj => (by first | exact (F7 (by rwa [sgx (by decide)] at hj)) | rfl), fun hj => (by first | exact (F8 (by rwa [sgx (by decide)] at hj)) | rfl), fun _ => ⟨_, rfl, OwnR.rebase o1 hx.size⟩, fun hj => absurd (hcl 10 _ rfl (by rwa [sgx (by decide)] at hj) ⟨9, .data⟩ (by simp) rfl) (by rw [getD_both hl]; simp), fun hj hu => (let ⟨g, e1, e2, e3⟩ := (F11 (by rwa [sgx (by decide)] at hj) (by rwa [sgx (by decide)] at hu)); ⟨g, e1, e2, e3.below hb1 e3.lt⟩), fun hj => absurd (hcl 12 _ rfl (by rwa [sgx (by decide)] at hj) ⟨9, .phase⟩ (by simp) rfl) (by rw [getD_both hl]; simp), hx.trans (hb1.mono hx.size)⟩
    · as_aux_lemma =>
        obtain ⟨u3, u8, u9, u10, u11, u12, u13, u14, u15, u16, u17, u18, rfl, F0, F1, F2, F3, F4, F5, F6, F7, F8, F9, F10, F11, F12, hx⟩ := hI
        have l2 := he ⟨2, .data⟩ (by simp) rfl
        have l5 := he ⟨5, .data⟩ (by simp) rfl
        have l9 := he ⟨9, .data⟩ (by simp) rfl
        have oa := F2 l2
        have ob := F5 l5
        obtain ⟨pb, hpb, op⟩ := F9 l9
        obtain ⟨y1, y2, e1, _, _⟩ := oa.shape
        obtain ⟨z1, z2, e2, _, _⟩ := ob.shape
        subst e1 e2 hpb
        refine wpOp_stepx ho rfl (fun K hK => ?_)
        unfold qb1A
        go_simp
        exact hK _ _ ⟨_, _, _, _, _, _, _, _, _, _, _, _, rfl, fun hj => (by first | exact (F0 (by rwa [sgx (by decide)] at hj)) | rfl), fun hj => (by first | exact (F1 (by rwa [sgx (by decide)] at hj)) | rfl), fun hj => oa, fun hj => (by first | exact (F3 (by rwa [sgx (by decide)] at hj)) | rfl), fun hj => (by first | exact (F4 (by rwa [sgx (by decide)] at hj)) | rfl), fun hj => ob, fun hj => (by first | exact (F6 (by rwa [sgx (by decide)] at hj)) | rfl), fun hj => (by first | exact (F7 (by rwa [sgx (by decide)] at hj)) | rfl), fun hj => (by first | exact (F8 (by rwa [sgx (by decide)] at hj)) | rfl), fun hj => ⟨pb, rfl, op⟩, fun _ => rfl, fun hj hu => (F11 (by rwa [sgx (by decide)] at hj) (by rwa [sgx (by decide)] at hu)), fun hj => (F12 (by rwa [sgx (by decide)] at hj)), hx⟩
    · as_aux_lemma =>
        obtain ⟨u3, u8, u9, u10, u11, u12, u13, u14, u15, u16, u17, u18, rfl, F0, F1, F2, F3, F4, F5, F6, F7, F8, F9, F10, F11, F12, hx⟩ := hI
        refine wpOp_stepx ho rfl (fun K hK => ?_)
        unfold qb1A
        have hb1 : Below w'.heap.size w' (w'.alloc (.cells #[.slice none 0 0, .slice none 0 0, .slice none 0 0] 27)) := (Below.refl _ _).alloc (Nat.le_refl _) _
        go_simp
        exact hK _ _ ⟨_, _, _, _, _, _, _, _, _, _, _, _, rfl, fun hj => (by first | exact (F0 (by rwa [sgx (by decide)] at hj)) | rfl), fun hj => (by first | exact (F1 (by rwa [sgx (by decide)] at hj)) | rfl), fun hj => OwnR.below (F2 (by rwa [sgx (by decide)] at hj)) hb1 (fun k hk => (OwnR.lt (F2 (by rwa [sgx (by decide)] at hj)) k hk).2), fun hj => (by first | exact (F3 (by rwa [sgx (by decide)] at hj)) | rfl), fun hj => (by first | exact (F4 (by rwa [sgx (by decide)] at hj)) | rfl), fun hj => OwnR.below (F5 (by rwa [sgx (by decide)] at hj)) hb1 (fun k hk => (OwnR.lt (F5 (by rwa [sgx (by decide)] at hj)) k hk).2), fun hj => (by first | exact (F6 (by rwa [sgx (by decide)] at hj)) | rfl), fun hj => (by first | exact (F7 (by rwa [sgx (by decide)] at hj)) | rfl), fun hj => (by first | exact (F8 (by rwa [sgx (by decide)] at hj)) | rfl), fun hj => (let ⟨pb, e, o⟩ := (F9 (by rwa [sgx (by decide)] at hj)); ⟨pb, e, OwnR.below o hb1 (fun k hk => (OwnR.lt o k hk).2)⟩), fun hj => (F10 (by rwa [sgx (by decide)] at hj)), fun _ _ => ⟨_, rfl, hx.size, BoxB.new _ _ _ _⟩, fun hj => absurd (hcl 12 _ rfl (by rwa [sgx (by decide)] at hj) ⟨11, .data⟩ (by simp) rfl) (by rw [getD_both hl]; simp), hx.trans (hb1.mono hx.size)⟩
    · as_aux_lemma =>
        obtain ⟨u3, u8, u9, u10, u11, u12, u13, u14, u15, u16, u17, u18, rfl, F0, F1, F2, F3, F4, F5, F6, F7, F8, F9, F10, F11, F12, hx⟩ := hI
        have l11 := he ⟨11, .data⟩ (by simp) rfl
        have l10 := he ⟨10, .data⟩ (by simp) rfl
        obtain ⟨g, rfl, g1, hB⟩ := F11 l11 (getD_both hl)
        have e10 := F10 l10
        have oa := F2 (hcl 10 _ rfl l10 ⟨2, .data⟩ (by simp) rfl)
        have ob := F5 (hcl 10 _ rfl l10 ⟨5, .data⟩ (by simp) rfl)
        obtain ⟨pb, hpb, op⟩ := F9 (hcl 10 _ rfl l10 ⟨9, .data⟩ (by simp) rfl)
        obtain ⟨y1, y2, e1, _, _⟩ := oa.shape
        obtain ⟨z1, z2, e2, _, _⟩ := ob.shape
        subst e1 e2 hpb e10
        obtain ⟨⟨k0, k1, k2⟩, m0, m1, m2⟩ := hB.bx.three
        refine wpOp_stepx ho rfl (fun K hK => ?_)
        unfold qb1A
        have ht := touchB g w' (.slice y1 ms.length y2) (.slice z1 lat.length z2) (.slice (some ⟨pb, 0, none⟩) n n)
        go_simp
        exact hK _ _ ⟨_, _, _, _, _, _, _, _, _, _, _, _, rfl, fun hj => (by first | exact (F0 (by rwa [sgx (by decide)] at hj)) | rfl), fun hj => (by first | exact (F1 (by rwa [sgx (by decide)] at hj)) | rfl), fun hj => oa.boxB hB (by decide) ht, fun hj => (by first | exact (F3 (by rwa [sgx (by decide)] at hj)) | rfl), fun hj => (by first | exact (F4 (by rwa [sgx (by decide)] at hj)) | rfl), fun hj => ob.boxB hB (by decide) ht, fun hj => (by first | exact (F6 (by rwa [sgx (by decide)] at hj)) | rfl), fun hj => (by first | exact (F7 (by rwa [sgx (by decide)] at hj)) | rfl), fun hj => (by first | exact (F8 (by rwa [sgx (by decide)] at hj)) | rfl), fun hj => ⟨pb, rfl, op.boxB hB (by decide) ht⟩, fun hj => rfl, fun _ hu => absurd hu (by rw [sgix hl]; simp), fun _ => ⟨g, rfl, g1, hB.put _ _ _⟩, Below.touchN hx ht g1 (Nat.le_refl _)⟩
  · intro listed a w' hI hd
    obtain ⟨u3, u8, u9, u10, u11, u12, u13, u14, u15, u16, u17, u18, rfl, F0, F1, F2, F3, F4, F5, F6, F7, F8, F9, F10, F11, F12, hx⟩ := hI
    obtain ⟨g, h3, g1, hB⟩ := F12 (hd 12 (by show 12 < 13; omega))
    have oa := F2 (hd 2 (by show 2 < 13; omega))
    have ob := F5 (hd 5 (by show 5 < 13; omega))
    obtain ⟨pb, hpb, op⟩ := F9 (hd 9 (by show 9 < 13; omega))
    subst hpb
    exact hK _ _ _ _ _ _ _ _ _ _ _ _ w' ⟨g, _, _, pb, h3, g1, hB, oa, ob, op, hx⟩

end Go.Proofs.Yteamebdehembgaa
