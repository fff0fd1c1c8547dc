/-
  ReqReq.copyOf: its drawn region (printed by wip/gen_qc.py).
-/
import Derived.Test.YteamebdehembgaaJY4
import Derived.Test.YteamebdehembgaaJAdr
set_option linter.unusedVariables false
set_option linter.unusedSimpArgs false
namespace Go.Proofs.Yteamebdehembgaa
open Go.RowKit
attribute [local go_sem ↓] Go.wp_at_zero Go.wp_at_succ

def qrA (i0 i2 i11 : Value) (gS : Nat) (u3 u4 u5 u6 u7 u8 u9 u10 : Value) : Act := { tmps := #[i0, .pointer (some ⟨gS, 0, none⟩), i2, u3, u4, u5, u6, u7, u8, u9, u10, i11], defers := [] }
def qrI (i0 i2 i11 : Value) (gS : Nat) (B : Nat) (dv : Value) (lv : Value) (r : Rq) (wq : World) (listed : Array Bool) (a : Act) (w' : World) : Prop :=
  ∃ u3 u4 u5 u6 u7 u8 u9 u10 : Value, a = qrA i0 i2 i11 gS u3 u4 u5 u6 u7 u8 u9 u10 ∧
      (listed.getD 0 false = true → u3 = .pointer (some ⟨gS, 5, none⟩)) ∧
      (listed.getD 1 false = true → u4 = dv) ∧
      (listed.getD 2 false = true → Owns w' wq.heap.size 3 1 rowI u5 r.data) ∧
      (listed.getD 3 false = true → u6 = .pointer (some ⟨gS, 6, none⟩)) ∧
      (listed.getD 4 false = true → u7 = lv) ∧
      (listed.getD 5 false = true → Owns w' wq.heap.size 3 1 rowI u8 r.lanes ∧ Apart u5 u8) ∧
      (listed.getD 6 false = true → u9 = .pointer (some ⟨gS, 5, none⟩)) ∧
      (listed.getD 7 false = true → w'.cell? ⟨gS, 5, none⟩ = some u5) ∧
      (listed.getD 8 false = true → u10 = .pointer (some ⟨gS, 6, none⟩)) ∧
      (listed.getD 9 false = true → w'.cell? ⟨gS, 6, none⟩ = some u8) ∧
      (listed.getD 7 false = false → w'.cell? ⟨gS, 5, none⟩ = some dv) ∧
      (listed.getD 9 false = false → w'.cell? ⟨gS, 6, none⟩ = some lv) ∧
      (Touch gS wq w' ∧ ∃ x y, BoxQ w' gS r x y)
noncomputable def qrCode : Code := (Try.f121.body.bind (regIn2 1)).getD .skip
/-- Behind the region: the lists are new ones. -/
def QrP (gS : Nat) (r : Rq) (wq w' : World) : Prop := ∃ d l, BoxQ w' gS r d l ∧ Owns w' wq.heap.size 3 1 rowI d r.data ∧ Owns w' wq.heap.size 3 1 rowI l r.lanes ∧ Apart d l ∧ Touch gS wq w'

set_option maxRecDepth 100000 in
set_option maxHeartbeats 16000000 in
theorem qr_region (i0 i2 i11 j3 j4 j5 j6 j7 j8 j9 j10 : Value) (gS : Nat) (B : Nat) (dv : Value) (lv : Value) (r : Rq) (wq : World)
    (hgS : gS < wq.heap.size) (hB : B ≤ gS) (hBX : BoxQ wq gS r dv lv) (hD : Ints wq B dv r.data) (hL : Ints wq B lv r.lanes) (hl1 : r.data.length ≤ 1048576) (hl2 : r.lanes.length ≤ 1048576)
    {Q : Exit → Act → World → Prop}
    (hK : ∀ (u3 u4 u5 u6 u7 u8 u9 u10 : Value) w', QrP gS r wq w' → Q .normal (qrA i0 i2 i11 gS u3 u4 u5 u6 u7 u8 u9 u10) w') : qrCode.wp Try.prog Q (qrA i0 i2 i11 gS j3 j4 j5 j6 j7 j8 j9 j10) wq := by
  conv => arg 2; whnf
  refine wp_region_inv2 (qrI i0 i2 i11 gS B dv lv r wq) (by kernel_rfl) (by kernel_rfl) ?_ ?_ ?_
  · exact ⟨_, _, _, _, _, _, _, _, rfl, (fun h => absurd h (by rw [getD_replicate_false]; simp)), (fun h => absurd h (by rw [getD_replicate_false]; simp)), (fun h => absurd h (by rw [getD_replicate_false]; simp)), (fun h => absurd h (by rw [getD_replicate_false]; simp)), (fun h => absurd h (by rw [getD_replicate_false]; simp)), (fun h => absurd h (by rw [getD_replicate_false]; simp)), (fun h => absurd h (by rw [getD_replicate_false]; simp)), (fun h => absurd h (by rw [getD_replicate_false]; simp)), (fun h => absurd h (by rw [getD_replicate_false]; simp)), (fun h => absurd h (by rw [getD_replicate_false]; simp)), (fun _ => hBX.bx.seven.1.2.2.2.2.2.1), (fun _ => hBX.bx.seven.1.2.2.2.2.2.2), ⟨(Touch.refl _ _).drewd, _, _, hBX⟩⟩
  · intro listed a w' i o hI hsz ho hl he hcl
    have hi : i < 10 := (Array.getElem?_eq_some_iff.1 ho).1
    have e : i = 0 ∨ i = 1 ∨ i = 2 ∨ i = 3 ∨ i = 4 ∨ i = 5 ∨ i = 6 ∨ i = 7 ∨ i = 8 ∨ i = 9 := by omega
    clear hi
    rcases e with rfl | rfl | rfl | rfl | rfl | rfl | rfl | rfl | rfl | rfl
    all_goals (have ho2 := ho; obtain rfl := Option.some.inj ho2.symm; clear ho2)
    · as_aux_lemma =>
        obtain ⟨u3, u4, u5, u6, u7, u8, u9, u10, rfl, F0, F1, F2, F3, F4, F5, F6, F7, F8, F9, N7, N9, hx⟩ := hI
        refine wpOp_stepx ho rfl (fun K hK => ?_)
        unfold qrA
        go_simp
        exact hK _ _ ⟨_, _, _, _, _, _, _, _, rfl, fun _ => rfl, fun hj => (by first | exact (F1 (by rwa [sgx (by decide)] at hj)) | rfl), fun hj => (F2 (by rwa [sgx (by decide)] at hj)), fun hj => (by first | exact (F3 (by rwa [sgx (by decide)] at hj)) | rfl), fun hj => (by first | exact (F4 (by rwa [sgx (by decide)] at hj)) | rfl), fun hj => (F5 (by rwa [sgx (by decide)] at hj)), fun hj => (by first | exact (F6 (by rwa [sgx (by decide)] at hj)) | rfl), fun hj => (F7 (by rwa [sgx (by decide)] at hj)), fun hj => (by first | exact (F8 (by rwa [sgx (by decide)] at hj)) | rfl), fun hj => (F9 (by rwa [sgx (by decide)] at hj)), fun hj => (N7 (by rwa [sgx (by decide)] at hj)), fun hj => (N9 (by rwa [sgx (by decide)] at hj)), hx⟩
    · as_aux_lemma =>
        obtain ⟨u3, u4, u5, u6, u7, u8, u9, u10, rfl, F0, F1, F2, F3, F4, F5, F6, F7, F8, F9, N7, N9, hx⟩ := hI
        have l0 := he ⟨0, .data⟩ (by simp) rfl
        have e := F0 l0; subst e
        have q := N7 (by
          rcases hq : listed.getD 7 false with _ | _
          · rfl
          · exact absurd (hcl 7 _ rfl hq ⟨1, .phase⟩ (by simp) rfl) (by rw [getD_both hl]; simp))
        refine wpOp_stepx ho rfl (fun K hK => ?_)
        unfold qrA
        go_simp
        exact hK _ _ ⟨_, _, _, _, _, _, _, _, rfl, fun hj => (by first | exact (F0 (by rwa [sgx (by decide)] at hj)) | rfl), fun _ => rfl, fun hj => (F2 (by rwa [sgx (by decide)] at hj)), fun hj => (by first | exact (F3 (by rwa [sgx (by decide)] at hj)) | rfl), fun hj => (by first | exact (F4 (by rwa [sgx (by decide)] at hj)) | rfl), fun hj => (F5 (by rwa [sgx (by decide)] at hj)), fun hj => (by first | exact (F6 (by rwa [sgx (by decide)] at hj)) | rfl), fun hj => (F7 (by rwa [sgx (by decide)] at hj)), fun hj => (by first | exact (F8 (by rwa [sgx (by decide)] at hj)) | rfl), fun hj => (F9 (by rwa [sgx (by decide)] at hj)), fun hj => (N7 (by rwa [sgx (by decide)] at hj)), fun hj => (N9 (by rwa [sgx (by decide)] at hj)), hx⟩
    · as_aux_lemma =>
        obtain ⟨u3, u4, u5, u6, u7, u8, u9, u10, rfl, F0, F1, F2, F3, F4, F5, F6, F7, F8, F9, N7, N9, hx⟩ := hI
        have l1 := he ⟨1, .data⟩ (by simp) rfl
        have e := F1 l1; subst e
        have hgs := Nat.lt_of_lt_of_le hgS hx.1.size
        refine wpOp_stepx ho rfl (fun K hK => ?_)
        unfold qrA
        go_simp
        (with_reducible refine (clone_int rowI rowI_len rowI_one _ r.data B w' (ints_arr (hD.below (hx.1.below hB (Nat.le_trans hB (Nat.le_of_lt hgS))))) (by omega)).mono ?_)
        rintro e w'' ⟨q, rfl, o1, hb1⟩
        go_wp2_with fail
        exact ⟨_, _, _, _, _, _, _, _, rfl, fun hj => (by first | exact (F0 (by rwa [sgx (by decide)] at hj)) | rfl), fun hj => (by first | exact (F1 (by rwa [sgx (by decide)] at hj)) | rfl), fun _ => o1.rebase hx.1.size, fun hj => (by first | exact (F3 (by rwa [sgx (by decide)] at hj)) | rfl), fun hj => (by first | exact (F4 (by rwa [sgx (by decide)] at hj)) | rfl), fun hj => absurd (hcl 5 _ rfl (by rwa [sgx (by decide)] at hj) ⟨2, .chain⟩ (by simp) rfl) (by rw [getD_both hl]; simp), fun hj => (by first | exact (F6 (by rwa [sgx (by decide)] at hj)) | rfl), fun hj => absurd (hcl 7 _ rfl (by rwa [sgx (by decide)] at hj) ⟨2, .data⟩ (by simp) rfl) (by rw [getD_both hl]; simp), fun hj => (by first | exact (F8 (by rwa [sgx (by decide)] at hj)) | rfl), fun hj => absurd (hcl 9 _ rfl (by rwa [sgx (by decide)] at hj) ⟨2, .phase⟩ (by simp) rfl) (by rw [getD_both hl]; simp), fun hj => (hb1.cell (p := ⟨gS, 5, none⟩) hgs).trans (N7 (by rwa [sgx (by decide)] at hj)), fun hj => (hb1.cell (p := ⟨gS, 6, none⟩) hgs).trans (N9 (by rwa [sgx (by decide)] at hj)), ⟨hx.1.trans (Touch.of_below hb1 (Nat.le_refl _)), let ⟨x, y, h⟩ := hx.2; ⟨x, y, h.below hb1 h.lt⟩⟩⟩
    · as_aux_lemma =>
        obtain ⟨u3, u4, u5, u6, u7, u8, u9, u10, rfl, F0, F1, F2, F3, F4, F5, F6, F7, F8, F9, N7, N9, hx⟩ := hI
        refine wpOp_stepx ho rfl (fun K hK => ?_)
        unfold qrA
        go_simp
        exact hK _ _ ⟨_, _, _, _, _, _, _, _, rfl, fun hj => (by first | exact (F0 (by rwa [sgx (by decide)] at hj)) | rfl), fun hj => (by first | exact (F1 (by rwa [sgx (by decide)] at hj)) | rfl), fun hj => (F2 (by rwa [sgx (by decide)] at hj)), fun _ => rfl, fun hj => (by first | exact (F4 (by rwa [sgx (by decide)] at hj)) | rfl), fun hj => (F5 (by rwa [sgx (by decide)] at hj)), fun hj => (by first | exact (F6 (by rwa [sgx (by decide)] at hj)) | rfl), fun hj => (F7 (by rwa [sgx (by decide)] at hj)), fun hj => (by first | exact (F8 (by rwa [sgx (by decide)] at hj)) | rfl), fun hj => (F9 (by rwa [sgx (by decide)] at hj)), fun hj => (N7 (by rwa [sgx (by decide)] at hj)), fun hj => (N9 (by rwa [sgx (by decide)] at hj)), hx⟩
    · as_aux_lemma =>
        obtain ⟨u3, u4, u5, u6, u7, u8, u9, u10, rfl, F0, F1, F2, F3, F4, F5, F6, F7, F8, F9, N7, N9, hx⟩ := hI
        have l3 := he ⟨3, .data⟩ (by simp) rfl
        have e := F3 l3; subst e
        have q := N9 (by
          rcases hq : listed.getD 9 false with _ | _
          · rfl
          · exact absurd (hcl 9 _ rfl hq ⟨4, .phase⟩ (by simp) rfl) (by rw [getD_both hl]; simp))
        refine wpOp_stepx ho rfl (fun K hK => ?_)
        unfold qrA
        go_simp
        exact hK _ _ ⟨_, _, _, _, _, _, _, _, rfl, fun hj => (by first | exact (F0 (by rwa [sgx (by decide)] at hj)) | rfl), fun hj => (by first | exact (F1 (by rwa [sgx (by decide)] at hj)) | rfl), fun hj => (F2 (by rwa [sgx (by decide)] at hj)), fun hj => (by first | exact (F3 (by rwa [sgx (by decide)] at hj)) | rfl), fun _ => rfl, fun hj => (F5 (by rwa [sgx (by decide)] at hj)), fun hj => (by first | exact (F6 (by rwa [sgx (by decide)] at hj)) | rfl), fun hj => (F7 (by rwa [sgx (by decide)] at hj)), fun hj => (by first | exact (F8 (by rwa [sgx (by decide)] at hj)) | rfl), fun hj => (F9 (by rwa [sgx (by decide)] at hj)), fun hj => (N7 (by rwa [sgx (by decide)] at hj)), fun hj => (N9 (by rwa [sgx (by decide)] at hj)), hx⟩
    · as_aux_lemma =>
        obtain ⟨u3, u4, u5, u6, u7, u8, u9, u10, rfl, F0, F1, F2, F3, F4, F5, F6, F7, F8, F9, N7, N9, hx⟩ := hI
        have l4 := he ⟨4, .data⟩ (by simp) rfl
        have l2 := he ⟨2, .chain⟩ (by simp) rfl
        have e := F4 l4; subst e
        have o2 := F2 l2
        have hgs := Nat.lt_of_lt_of_le hgS hx.1.size
        refine wpOp_stepx ho rfl (fun K hK => ?_)
        unfold qrA
        go_simp
        (with_reducible refine (clone_int rowI rowI_len rowI_one _ r.lanes B w' (ints_arr (hL.below (hx.1.below hB (Nat.le_trans hB (Nat.le_of_lt hgS))))) (by omega)).mono ?_)
        rintro e w'' ⟨q, rfl, o1, hb1⟩
        go_wp2_with fail
        exact ⟨_, _, _, _, _, _, _, _, rfl, fun hj => (by first | exact (F0 (by rwa [sgx (by decide)] at hj)) | rfl), fun hj => (by first | exact (F1 (by rwa [sgx (by decide)] at hj)) | rfl), fun hj => OwnR.below (F2 (by rwa [sgx (by decide)] at hj)) hb1 (fun k hk => (OwnR.lt (F2 (by rwa [sgx (by decide)] at hj)) k hk).2), fun hj => (by first | exact (F3 (by rwa [sgx (by decide)] at hj)) | rfl), fun hj => (by first | exact (F4 (by rwa [sgx (by decide)] at hj)) | rfl), fun _ => ⟨o1.rebase hx.1.size, apart_of o2 o1⟩, fun hj => (by first | exact (F6 (by rwa [sgx (by decide)] at hj)) | rfl), fun hj => absurd (hcl 7 _ rfl (by rwa [sgx (by decide)] at hj) ⟨5, .chain⟩ (by simp) rfl) (by rw [getD_both hl]; simp), fun hj => (by first | exact (F8 (by rwa [sgx (by decide)] at hj)) | rfl), fun hj => absurd (hcl 9 _ rfl (by rwa [sgx (by decide)] at hj) ⟨5, .data⟩ (by simp) rfl) (by rw [getD_both hl]; simp), fun hj => (hb1.cell (p := ⟨gS, 5, none⟩) hgs).trans (N7 (by rwa [sgx (by decide)] at hj)), fun hj => (hb1.cell (p := ⟨gS, 6, none⟩) hgs).trans (N9 (by rwa [sgx (by decide)] at hj)), ⟨hx.1.trans (Touch.of_below hb1 (Nat.le_refl _)), let ⟨x, y, h⟩ := hx.2; ⟨x, y, h.below hb1 h.lt⟩⟩⟩
    · as_aux_lemma =>
        obtain ⟨u3, u4, u5, u6, u7, u8, u9, u10, rfl, F0, F1, F2, F3, F4, F5, F6, F7, F8, F9, N7, N9, hx⟩ := hI
        refine wpOp_stepx ho rfl (fun K hK => ?_)
        unfold qrA
        go_simp
        exact hK _ _ ⟨_, _, _, _, _, _, _, _, rfl, fun hj => (by first | exact (F0 (by rwa [sgx (by decide)] at hj)) | rfl), fun hj => (by first | exact (F1 (by rwa [sgx (by decide)] at hj)) | rfl), fun hj => (F2 (by rwa [sgx (by decide)] at hj)), fun hj => (by first | exact (F3 (by rwa [sgx (by decide)] at hj)) | rfl), fun hj => (by first | exact (F4 (by rwa [sgx (by decide)] at hj)) | rfl), fun hj => (F5 (by rwa [sgx (by decide)] at hj)), fun _ => rfl, fun hj => (F7 (by rwa [sgx (by decide)] at hj)), fun hj => (by first | exact (F8 (by rwa [sgx (by decide)] at hj)) | rfl), fun hj => (F9 (by rwa [sgx (by decide)] at hj)), fun hj => (N7 (by rwa [sgx (by decide)] at hj)), fun hj => (N9 (by rwa [sgx (by decide)] at hj)), hx⟩
    · as_aux_lemma =>
        obtain ⟨u3, u4, u5, u6, u7, u8, u9, u10, rfl, F0, F1, F2, F3, F4, F5, F6, F7, F8, F9, N7, N9, hx⟩ := hI
        have l6 := he ⟨6, .data⟩ (by simp) rfl
        have l2 := he ⟨2, .data⟩ (by simp) rfl
        have e := F6 l6; subst e
        have o2 := F2 l2
        obtain ⟨y1, y2, e1, _, _⟩ := o2.shape
        subst e1
        obtain ⟨x, y, hbx⟩ := hx.2
        obtain ⟨⟨k0, k1, k2, k3, k4, k5, k6⟩, m0, m1, m2, m3, m4, m5, m6⟩ := hbx.bx.seven
        refine wpOp_stepx ho rfl (fun K hK => ?_)
        unfold qrA
        go_simp
        exact hK _ _ ⟨_, _, _, _, _, _, _, _, rfl, fun hj => (by first | exact (F0 (by rwa [sgx (by decide)] at hj)) | rfl), fun hj => (by first | exact (F1 (by rwa [sgx (by decide)] at hj)) | rfl), fun hj => Owns.set' o2 _ _ _ (fun k hk => by have := (OwnR.lt o2 k hk).1; omega), fun hj => (by first | exact (F3 (by rwa [sgx (by decide)] at hj)) | rfl), fun hj => (by first | exact (F4 (by rwa [sgx (by decide)] at hj)) | rfl), fun hj => ⟨Owns.set' (F5 (by rwa [sgx (by decide)] at hj)).1 _ _ _ (fun k hk => by have := (OwnR.lt (F5 (by rwa [sgx (by decide)] at hj)).1 k hk).1; omega), (F5 (by rwa [sgx (by decide)] at hj)).2⟩, fun hj => (by first | exact (F6 (by rwa [sgx (by decide)] at hj)) | rfl), fun _ => (hbx.put5 _).bx.seven.1.2.2.2.2.2.1, fun hj => (by first | exact (F8 (by rwa [sgx (by decide)] at hj)) | rfl), fun hj => absurd (hcl 9 _ rfl (by rwa [sgx (by decide)] at hj) ⟨7, .chain⟩ (by simp) rfl) (by rw [getD_both hl]; simp), fun hj => absurd hj (by rw [sgix hl]; simp), fun hj => ((hbx.put5 _).bx.seven.1.2.2.2.2.2.2).trans ((hbx.bx.seven.1.2.2.2.2.2.2).symm.trans (N9 (by rwa [sgx (by decide)] at hj))), ⟨hx.1.trans (Touch.setCell ..), _, y, hbx.put5 _⟩⟩
    · as_aux_lemma =>
        obtain ⟨u3, u4, u5, u6, u7, u8, u9, u10, rfl, F0, F1, F2, F3, F4, F5, F6, F7, F8, F9, N7, N9, hx⟩ := hI
        refine wpOp_stepx ho rfl (fun K hK => ?_)
        unfold qrA
        go_simp
        exact hK _ _ ⟨_, _, _, _, _, _, _, _, rfl, fun hj => (by first | exact (F0 (by rwa [sgx (by decide)] at hj)) | rfl), fun hj => (by first | exact (F1 (by rwa [sgx (by decide)] at hj)) | rfl), fun hj => (F2 (by rwa [sgx (by decide)] at hj)), fun hj => (by first | exact (F3 (by rwa [sgx (by decide)] at hj)) | rfl), fun hj => (by first | exact (F4 (by rwa [sgx (by decide)] at hj)) | rfl), fun hj => (F5 (by rwa [sgx (by decide)] at hj)), fun hj => (by first | exact (F6 (by rwa [sgx (by decide)] at hj)) | rfl), fun hj => (F7 (by rwa [sgx (by decide)] at hj)), fun _ => rfl, fun hj => (F9 (by rwa [sgx (by decide)] at hj)), fun hj => (N7 (by rwa [sgx (by decide)] at hj)), fun hj => (N9 (by rwa [sgx (by decide)] at hj)), hx⟩
    · as_aux_lemma =>
        obtain ⟨u3, u4, u5, u6, u7, u8, u9, u10, rfl, F0, F1, F2, F3, F4, F5, F6, F7, F8, F9, N7, N9, hx⟩ := hI
        have l8 := he ⟨8, .data⟩ (by simp) rfl
        have l5 := he ⟨5, .data⟩ (by simp) rfl
        have l7 := he ⟨7, .chain⟩ (by simp) rfl
        have e := F8 l8; subst e
        obtain ⟨o3, a3⟩ := F5 l5
        obtain ⟨y1, y2, e1, _, _⟩ := o3.shape
        subst e1
        obtain ⟨x, y, hbx⟩ := hx.2
        obtain ⟨⟨k0, k1, k2, k3, k4, k5, k6⟩, m0, m1, m2, m3, m4, m5, m6⟩ := hbx.bx.seven
        refine wpOp_stepx ho rfl (fun K hK => ?_)
        unfold qrA
        go_simp
        exact hK _ _ ⟨_, _, _, _, _, _, _, _, rfl, fun hj => (by first | exact (F0 (by rwa [sgx (by decide)] at hj)) | rfl), fun hj => (by first | exact (F1 (by rwa [sgx (by decide)] at hj)) | rfl), fun hj => Owns.set' (F2 (by rwa [sgx (by decide)] at hj)) _ _ _ (fun k hk => by have := (OwnR.lt (F2 (by rwa [sgx (by decide)] at hj)) k hk).1; omega), fun hj => (by first | exact (F3 (by rwa [sgx (by decide)] at hj)) | rfl), fun hj => (by first | exact (F4 (by rwa [sgx (by decide)] at hj)) | rfl), fun hj => ⟨Owns.set' o3 _ _ _ (fun k hk => by have := (OwnR.lt o3 k hk).1; omega), a3⟩, fun hj => (by first | exact (F6 (by rwa [sgx (by decide)] at hj)) | rfl), fun hj => ((hbx.put6 _).bx.seven.1.2.2.2.2.2.1).trans ((hbx.bx.seven.1.2.2.2.2.2.1).symm.trans (F7 (by rwa [sgx (by decide)] at hj))), fun hj => (by first | exact (F8 (by rwa [sgx (by decide)] at hj)) | rfl), fun _ => (hbx.put6 _).bx.seven.1.2.2.2.2.2.2, fun hj => absurd (he ⟨7, .chain⟩ (by simp) rfl) (by rw [show listed.getD 7 false = false by rwa [sgx (by decide)] at hj]; simp), fun hj => absurd hj (by rw [sgix hl]; simp), ⟨hx.1.trans (Touch.setCell ..), x, _, hbx.put6 _⟩⟩
  · intro listed a w' hI hd
    obtain ⟨u3, u4, u5, u6, u7, u8, u9, u10, rfl, F0, F1, F2, F3, F4, F5, F6, F7, F8, F9, N7, N9, hx⟩ := hI
    have o2 := F2 (hd 2 (by show 2 < 10; omega))
    obtain ⟨o3, a3⟩ := F5 (hd 5 (by show 5 < 10; omega))
    have c5 := F7 (hd 7 (by show 7 < 10; omega))
    have c6 := F9 (hd 9 (by show 9 < 10; omega))
    obtain ⟨x, y, hbx⟩ := hx.2
    have e5 := hbx.bx.seven.1.2.2.2.2.2.1
    have e6 := hbx.bx.seven.1.2.2.2.2.2.2
    rw [c5] at e5
    rw [c6] at e6
    simp only [Option.some.injEq] at e5 e6
    subst e5 e6
    exact hK _ _ _ _ _ _ _ _ w' ⟨_, _, hbx, o2, o3, a3, hx.1⟩

end Go.Proofs.Yteamebdehembgaa
