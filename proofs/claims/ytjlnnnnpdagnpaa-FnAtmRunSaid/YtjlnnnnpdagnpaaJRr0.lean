/-
  The second half of what is asked: the drawn region 12 of FnAtmRun (printed by wip/gen_run.py).
-/
import Derived.Test.YtjlnnnnpdagnpaaKSr0
import Derived.Test.YtjlnnnnpdagnpaaJRu3
set_option linter.unusedVariables false
set_option linter.unusedSimpArgs false
namespace Go.Proofs.Ytjlnnnnpdagnpaa
open Go.RowKit
attribute [local go_sem ↓] Go.wp_at_zero Go.wp_at_succ

/-- What AtmRun has told, as a value: all its memory new behind w0. -/
def RFR (w0 w : World) (v : Value) (x : List Int × List Int × List Rs) : Prop :=
  ∃ a b d ds, v = .tuple #[.agg #[a, b], d] ∧ Owns w w0.heap.size 3 1 rowI a x.1 ∧ Owns w w0.heap.size 3 1 rowI b x.2.1 ∧ Owns w w0.heap.size 42 3 rowR d (mkRows x.2.2 ds) ∧ ds.length = x.2.2.length ∧ ∀ j, j < x.2.2.length → Owns w w0.heap.size 3 1 rowI (ds.getD j undef) (x.2.2.getD j default).data
theorem RFR.below {w0 w w' : World} {v : Value} {x : List Int × List Int × List Rs} (h : RFR w0 w v x) (hb : Below w.heap.size w w') : RFR w0 w' v x := by
  obtain ⟨a, b, d, ds, e, o1, o2, o3, i, o5⟩ := h; exact ⟨a, b, d, ds, e, o1.below hb, o2.below hb, o3.below hb, i, fun j hj => (o5 j hj).below hb⟩
theorem RFR.boxA {w0 w w' : World} {v : Value} {x : List Int × List Int × List Rs} {g : Nat} {p q : Value} (h : RFR w0 w v x) (hA : BoxA w g p q) (ht : Touch g w w') : RFR w0 w' v x := by
  obtain ⟨a, b, d, ds, e, o1, o2, o3, i, o5⟩ := h
  refine ⟨a, b, d, ds, e, o1.boxA hA ht, o2.boxA hA ht, ?_, i, fun j hj => (o5 j hj).boxA hA ht⟩
  refine o3.kept fun k hk => ht.block k (OwnR.lt o3 k hk).2 ?_
  intro e; subst e
  obtain ⟨_, h2⟩ := o3
  rcases h2 with ⟨rfl, _⟩ | ⟨g, off, cap, cur, rfl, hg, hh, _⟩
  · simp [Value.ownBlock] at hk
  · simp only [Value.ownBlock, Option.some.injEq] at hk
    subst hk
    unfold BoxA at hA
    rw [hh] at hA
    simp at hA
/-- Behind the region: the store lies in a new box. -/
def RrP (u12 u13 : Value) (x : List Int × List Int × List Rs) (wq w' : World) : Prop :=
  ∃ ga a b ds, u12 = .pointer (some ⟨ga, 0, none⟩) ∧ wq.heap.size ≤ ga ∧ BoxA w' ga a b ∧ Owns w' wq.heap.size 3 1 rowI a x.1 ∧ Owns w' wq.heap.size 3 1 rowI b x.2.1 ∧ Owns w' wq.heap.size 42 3 rowR u13 (mkRows x.2.2 ds) ∧ ds.length = x.2.2.length ∧ (∀ j, j < x.2.2.length → Owns w' wq.heap.size 3 1 rowI (ds.getD j undef) (x.2.2.getD j default).data) ∧ Below wq.heap.size wq w'
def rrA (i0 i1 i2 i7 i8 i9 i10 i14 i15 i16 i17 i18 i19 i20 i21 i22 i23 i24 i25 i26 i27 i28 i29 i30 i31 i32 i33 i34 i35 i36 i37 i38 i39 i40 i41 i42 i43 i44 i45 i46 i47 i48 i49 i50 i51 i52 i53 i54 i55 i56 i57 i58 i59 i60 i61 i62 i63 i64 i75 i76 i77 i78 i79 i80 i81 i82 i83 i84 i85 i86 i87 i88 i89 i90 i91 i92 i93 i94 i95 i96 i97 i98 i99 i100 i101 i102 i103 : Value) (mv : Value) (who : Int) (ub : Nat) (uf : Nat) (xl : Nat) (uc : Nat) (gX : Nat) (k : Nat) (u12 u13 u65 u66 u67 u68 u69 u70 u71 u72 u73 u74 : Value) : Act := { tmps := #[i0, i1, i2, mv, .pointer (some ⟨gX, 0, none⟩), .int .i64 who, .slice (some ⟨ub, uf, none⟩) xl uc, i7, i8, i9, i10, .int .i64 (k : Nat), u12, u13, i14, i15, i16, i17, i18, i19, i20, i21, i22, i23, i24, i25, i26, i27, i28, i29, i30, i31, i32, i33, i34, i35, i36, i37, i38, i39, i40, i41, i42, i43, i44, i45, i46, i47, i48, i49, i50, i51, i52, i53, i54, i55, i56, i57, i58, i59, i60, i61, i62, i63, i64, u65, u66, u67, u68, u69, u70, u71, u72, u73, u74, i75, i76, i77, i78, i79, i80, i81, i82, i83, i84, i85, i86, i87, i88, i89, i90, i91, i92, i93, i94, i95, i96, i97, i98, i99, i100, i101, i102, i103], defers := [] }
def rrI (i0 i1 i2 i7 i8 i9 i10 i14 i15 i16 i17 i18 i19 i20 i21 i22 i23 i24 i25 i26 i27 i28 i29 i30 i31 i32 i33 i34 i35 i36 i37 i38 i39 i40 i41 i42 i43 i44 i45 i46 i47 i48 i49 i50 i51 i52 i53 i54 i55 i56 i57 i58 i59 i60 i61 i62 i63 i64 i75 i76 i77 i78 i79 i80 i81 i82 i83 i84 i85 i86 i87 i88 i89 i90 i91 i92 i93 i94 i95 i96 i97 i98 i99 i100 i101 i102 i103 : Value) (mv : Value) (who : Int) (ub : Nat) (uf : Nat) (xl : Nat) (uc : Nat) (gX : Nat) (k : Nat) (av : Value) (bv : Value) (x : List Int × List Int × List Rs) (wq : World) (listed : Array Bool) (a : Act) (w' : World) : Prop :=
  ∃ u12 u13 u65 u66 u67 u68 u69 u70 u71 u72 u73 u74 : Value, a = rrA i0 i1 i2 i7 i8 i9 i10 i14 i15 i16 i17 i18 i19 i20 i21 i22 i23 i24 i25 i26 i27 i28 i29 i30 i31 i32 i33 i34 i35 i36 i37 i38 i39 i40 i41 i42 i43 i44 i45 i46 i47 i48 i49 i50 i51 i52 i53 i54 i55 i56 i57 i58 i59 i60 i61 i62 i63 i64 i75 i76 i77 i78 i79 i80 i81 i82 i83 i84 i85 i86 i87 i88 i89 i90 i91 i92 i93 i94 i95 i96 i97 i98 i99 i100 i101 i102 i103 mv who ub uf xl uc gX k u12 u13 u65 u66 u67 u68 u69 u70 u71 u72 u73 u74 ∧
      (listed.getD 0 false = true → u66 = mv) ∧
      (listed.getD 1 false = true → u67 = .agg #[av, bv]) ∧
      (listed.getD 2 false = true → u68 = .int .i64 who) ∧
      (listed.getD 3 false = true → u69 = .slice (some ⟨ub, uf, none⟩) xl uc) ∧
      (listed.getD 4 false = true → u70 = .int .i64 (k : Nat)) ∧
      (listed.getD 5 false = true → u71 = .slice (some ⟨ub, uf, none⟩) k uc) ∧
      (listed.getD 6 false = true → RFR wq w' u72 x) ∧
      (listed.getD 7 false = true → RFR wq w' u65 x) ∧
      (listed.getD 8 false = true → ∃ y, u65 = .tuple #[u73, y]) ∧
      (listed.getD 9 false = true → ∃ y, u65 = .tuple #[y, u74]) ∧
      (listed.getD 10 false = true → listed.getD 11 false = false → ∃ g, u12 = .pointer (some ⟨g, 0, none⟩) ∧ wq.heap.size ≤ g ∧ BoxA w' g (.slice none 0 0) (.slice none 0 0)) ∧
      (listed.getD 11 false = true → ∃ g a b, u12 = .pointer (some ⟨g, 0, none⟩) ∧ wq.heap.size ≤ g ∧ BoxA w' g a b ∧ u73 = .agg #[a, b]) ∧
      (listed.getD 12 false = true → ∃ y, u65 = .tuple #[y, u13]) ∧
      Below wq.heap.size wq w'
noncomputable def rrCode : Code := (Try.f4.body.bind (regionIn 11)).getD .skip

set_option maxRecDepth 100000 in
set_option maxHeartbeats 16000000 in
theorem rr_region (i0 i1 i2 i7 i8 i9 i10 i14 i15 i16 i17 i18 i19 i20 i21 i22 i23 i24 i25 i26 i27 i28 i29 i30 i31 i32 i33 i34 i35 i36 i37 i38 i39 i40 i41 i42 i43 i44 i45 i46 i47 i48 i49 i50 i51 i52 i53 i54 i55 i56 i57 i58 i59 i60 i61 i62 i63 i64 i75 i76 i77 i78 i79 i80 i81 i82 i83 i84 i85 i86 i87 i88 i89 i90 i91 i92 i93 i94 i95 i96 i97 i98 i99 i100 i101 i102 i103 j12 j13 j65 j66 j67 j68 j69 j70 j71 j72 j73 j74 : Value) (mv : Value) (who : Int) (ub : Nat) (uf : Nat) (xl : Nat) (uc : Nat) (gX : Nat) (k : Nat) (av : Value) (bv : Value) (x : List Int × List Int × List Rs) (wq : World)
    (ms : List MR) (wk hk : List Int) (rs : List Rq) (HX : Hid (x = atmRun ms wk hk who rs)) (hX : BoxA wq gX av bv) (hkl : k ≤ xl) (huc : xl ≤ uc) (hcap : uc ≤ 9223372036854775807) (hkc : Hid ((if uc = k then (some ⟨ub, uf, none⟩ : Option Addr) else some ⟨ub, uf + k * 7, none⟩) = some ⟨ub, uf + k * 7, none⟩)) (hM : Maps wq wq.heap.size mv ms) (hA : Ints wq wq.heap.size av wk) (hB : Ints wq wq.heap.size bv hk) (hQ : Reqs wq wq.heap.size (.slice (some ⟨ub, uf, none⟩) k uc) rs)
    {K : Act → World → Prop} {Q' : Exit → Act → World → Prop}
    (hK : ∀ (u12 u13 u65 u66 u67 u68 u69 u70 u71 u72 u73 u74 : Value) w', RrP u12 u13 x wq w' → K (rrA i0 i1 i2 i7 i8 i9 i10 i14 i15 i16 i17 i18 i19 i20 i21 i22 i23 i24 i25 i26 i27 i28 i29 i30 i31 i32 i33 i34 i35 i36 i37 i38 i39 i40 i41 i42 i43 i44 i45 i46 i47 i48 i49 i50 i51 i52 i53 i54 i55 i56 i57 i58 i59 i60 i61 i62 i63 i64 i75 i76 i77 i78 i79 i80 i81 i82 i83 i84 i85 i86 i87 i88 i89 i90 i91 i92 i93 i94 i95 i96 i97 i98 i99 i100 i101 i102 i103 mv who ub uf xl uc gX k u12 u13 u65 u66 u67 u68 u69 u70 u71 u72 u73 u74) w') : rrCode.wp Try.prog (Exit.then K Q') (rrA i0 i1 i2 i7 i8 i9 i10 i14 i15 i16 i17 i18 i19 i20 i21 i22 i23 i24 i25 i26 i27 i28 i29 i30 i31 i32 i33 i34 i35 i36 i37 i38 i39 i40 i41 i42 i43 i44 i45 i46 i47 i48 i49 i50 i51 i52 i53 i54 i55 i56 i57 i58 i59 i60 i61 i62 i63 i64 i75 i76 i77 i78 i79 i80 i81 i82 i83 i84 i85 i86 i87 i88 i89 i90 i91 i92 i93 i94 i95 i96 i97 i98 i99 i100 i101 i102 i103 mv who ub uf xl uc gX k j12 j13 j65 j66 j67 j68 j69 j70 j71 j72 j73 j74) wq := by
  conv => arg 2; whnf
  refine wp_region_inv2 (rrI i0 i1 i2 i7 i8 i9 i10 i14 i15 i16 i17 i18 i19 i20 i21 i22 i23 i24 i25 i26 i27 i28 i29 i30 i31 i32 i33 i34 i35 i36 i37 i38 i39 i40 i41 i42 i43 i44 i45 i46 i47 i48 i49 i50 i51 i52 i53 i54 i55 i56 i57 i58 i59 i60 i61 i62 i63 i64 i75 i76 i77 i78 i79 i80 i81 i82 i83 i84 i85 i86 i87 i88 i89 i90 i91 i92 i93 i94 i95 i96 i97 i98 i99 i100 i101 i102 i103 mv who ub uf xl uc gX k av bv x wq) (by kernel_rfl) (by kernel_rfl) ?_ ?_ ?_
  · exact ⟨_, _, _, _, _, _, _, _, _, _, _, _, rfl, (fun h => absurd h (by rw [getD_replicate_false]; simp)), (fun h => absurd h (by rw [getD_replicate_false]; simp)), (fun h => absurd h (by rw [getD_replicate_false]; simp)), (fun h => absurd h (by rw [getD_replicate_false]; simp)), (fun h => absurd h (by rw [getD_replicate_false]; simp)), (fun h => absurd h (by rw [getD_replicate_false]; simp)), (fun h => absurd h (by rw [getD_replicate_false]; simp)), (fun h => absurd h (by rw [getD_replicate_false]; simp)), (fun h => absurd h (by rw [getD_replicate_false]; simp)), (fun h => absurd h (by rw [getD_replicate_false]; simp)), (fun h _ => absurd h (by rw [getD_replicate_false]; simp)), (fun h => absurd h (by rw [getD_replicate_false]; simp)), (fun h => absurd h (by rw [getD_replicate_false]; simp)), (Below.refl _ _).drew⟩
  · intro listed a w' i o hI hsz ho hl he hcl
    have hi : i < 13 := (Array.getElem?_eq_some_iff.1 ho).1
    have e : i = 0 ∨ i = 1 ∨ i = 2 ∨ i = 3 ∨ i = 4 ∨ i = 5 ∨ i = 6 ∨ i = 7 ∨ i = 8 ∨ i = 9 ∨ i = 10 ∨ i = 11 ∨ i = 12 := by omega
    clear hi
    rcases e with rfl | rfl | rfl | rfl | rfl | rfl | rfl | rfl | rfl | rfl | rfl | rfl | rfl
    all_goals (have ho2 := ho; obtain rfl := Option.some.inj ho2.symm; clear ho2)
    · as_aux_lemma =>
        obtain ⟨u12, u13, u65, u66, u67, u68, u69, u70, u71, u72, u73, u74, rfl, F0, F1, F2, F3, F4, F5, F6, F7, F8, F9, F10, F11, F12, hx⟩ := hI
        refine wpOp_stepx ho rfl (fun K hK => ?_)
        unfold rrA
        go_simp
        exact hK _ _ ⟨_, _, _, _, _, _, _, _, _, _, _, _, rfl, fun _ => rfl, fun hj => (by first | exact (F1 (by rwa [sgx (by decide)] at hj)) | rfl), fun hj => (by first | exact (F2 (by rwa [sgx (by decide)] at hj)) | rfl), fun hj => (by first | exact (F3 (by rwa [sgx (by decide)] at hj)) | rfl), fun hj => (by first | exact (F4 (by rwa [sgx (by decide)] at hj)) | rfl), fun hj => (by first | exact (F5 (by rwa [sgx (by decide)] at hj)) | rfl), fun hj => (F6 (by rwa [sgx (by decide)] at hj)), fun hj => (F7 (by rwa [sgx (by decide)] at hj)), fun hj => (F8 (by rwa [sgx (by decide)] at hj)), fun hj => (F9 (by rwa [sgx (by decide)] at hj)), fun hj hu => (F10 (by rwa [sgx (by decide)] at hj) (by rwa [sgx (by decide)] at hu)), fun hj => (F11 (by rwa [sgx (by decide)] at hj)), fun hj => (F12 (by rwa [sgx (by decide)] at hj)), hx⟩
    · as_aux_lemma =>
        obtain ⟨u12, u13, u65, u66, u67, u68, u69, u70, u71, u72, u73, u74, rfl, F0, F1, F2, F3, F4, F5, F6, F7, F8, F9, F10, F11, F12, hx⟩ := hI
        obtain ⟨k0, k1, m0, m1⟩ := (hX.below hx hX.lt).cells
        refine wpOp_stepx ho rfl (fun K hK => ?_)
        unfold rrA
        go_simp
        exact hK _ _ ⟨_, _, _, _, _, _, _, _, _, _, _, _, rfl, fun hj => (by first | exact (F0 (by rwa [sgx (by decide)] at hj)) | rfl), fun _ => rfl, fun hj => (by first | exact (F2 (by rwa [sgx (by decide)] at hj)) | rfl), fun hj => (by first | exact (F3 (by rwa [sgx (by decide)] at hj)) | rfl), fun hj => (by first | exact (F4 (by rwa [sgx (by decide)] at hj)) | rfl), fun hj => (by first | exact (F5 (by rwa [sgx (by decide)] at hj)) | rfl), fun hj => (F6 (by rwa [sgx (by decide)] at hj)), fun hj => (F7 (by rwa [sgx (by decide)] at hj)), fun hj => (F8 (by rwa [sgx (by decide)] at hj)), fun hj => (F9 (by rwa [sgx (by decide)] at hj)), fun hj hu => (F10 (by rwa [sgx (by decide)] at hj) (by rwa [sgx (by decide)] at hu)), fun hj => (F11 (by rwa [sgx (by decide)] at hj)), fun hj => (F12 (by rwa [sgx (by decide)] at hj)), hx⟩
    · as_aux_lemma =>
        obtain ⟨u12, u13, u65, u66, u67, u68, u69, u70, u71, u72, u73, u74, rfl, F0, F1, F2, F3, F4, F5, F6, F7, F8, F9, F10, F11, F12, hx⟩ := hI
        refine wpOp_stepx ho rfl (fun K hK => ?_)
        unfold rrA
        go_simp
        exact hK _ _ ⟨_, _, _, _, _, _, _, _, _, _, _, _, rfl, fun hj => (by first | exact (F0 (by rwa [sgx (by decide)] at hj)) | rfl), fun hj => (by first | exact (F1 (by rwa [sgx (by decide)] at hj)) | rfl), fun _ => rfl, fun hj => (by first | exact (F3 (by rwa [sgx (by decide)] at hj)) | rfl), fun hj => (by first | exact (F4 (by rwa [sgx (by decide)] at hj)) | rfl), fun hj => (by first | exact (F5 (by rwa [sgx (by decide)] at hj)) | rfl), fun hj => (F6 (by rwa [sgx (by decide)] at hj)), fun hj => (F7 (by rwa [sgx (by decide)] at hj)), fun hj => (F8 (by rwa [sgx (by decide)] at hj)), fun hj => (F9 (by rwa [sgx (by decide)] at hj)), fun hj hu => (F10 (by rwa [sgx (by decide)] at hj) (by rwa [sgx (by decide)] at hu)), fun hj => (F11 (by rwa [sgx (by decide)] at hj)), fun hj => (F12 (by rwa [sgx (by decide)] at hj)), hx⟩
    · as_aux_lemma =>
        obtain ⟨u12, u13, u65, u66, u67, u68, u69, u70, u71, u72, u73, u74, rfl, F0, F1, F2, F3, F4, F5, F6, F7, F8, F9, F10, F11, F12, hx⟩ := hI
        refine wpOp_stepx ho rfl (fun K hK => ?_)
        unfold rrA
        go_simp
        exact hK _ _ ⟨_, _, _, _, _, _, _, _, _, _, _, _, rfl, fun hj => (by first | exact (F0 (by rwa [sgx (by decide)] at hj)) | rfl), fun hj => (by first | exact (F1 (by rwa [sgx (by decide)] at hj)) | rfl), fun hj => (by first | exact (F2 (by rwa [sgx (by decide)] at hj)) | rfl), fun _ => rfl, fun hj => (by first | exact (F4 (by rwa [sgx (by decide)] at hj)) | rfl), fun hj => (by first | exact (F5 (by rwa [sgx (by decide)] at hj)) | rfl), fun hj => (F6 (by rwa [sgx (by decide)] at hj)), fun hj => (F7 (by rwa [sgx (by decide)] at hj)), fun hj => (F8 (by rwa [sgx (by decide)] at hj)), fun hj => (F9 (by rwa [sgx (by decide)] at hj)), fun hj hu => (F10 (by rwa [sgx (by decide)] at hj) (by rwa [sgx (by decide)] at hu)), fun hj => (F11 (by rwa [sgx (by decide)] at hj)), fun hj => (F12 (by rwa [sgx (by decide)] at hj)), hx⟩
    · as_aux_lemma =>
        obtain ⟨u12, u13, u65, u66, u67, u68, u69, u70, u71, u72, u73, u74, rfl, F0, F1, F2, F3, F4, F5, F6, F7, F8, F9, F10, F11, F12, hx⟩ := hI
        refine wpOp_stepx ho rfl (fun K hK => ?_)
        unfold rrA
        go_simp
        exact hK _ _ ⟨_, _, _, _, _, _, _, _, _, _, _, _, rfl, fun hj => (by first | exact (F0 (by rwa [sgx (by decide)] at hj)) | rfl), fun hj => (by first | exact (F1 (by rwa [sgx (by decide)] at hj)) | rfl), fun hj => (by first | exact (F2 (by rwa [sgx (by decide)] at hj)) | rfl), fun hj => (by first | exact (F3 (by rwa [sgx (by decide)] at hj)) | rfl), fun _ => rfl, fun hj => (by first | exact (F5 (by rwa [sgx (by decide)] at hj)) | rfl), fun hj => (F6 (by rwa [sgx (by decide)] at hj)), fun hj => (F7 (by rwa [sgx (by decide)] at hj)), fun hj => (F8 (by rwa [sgx (by decide)] at hj)), fun hj => (F9 (by rwa [sgx (by decide)] at hj)), fun hj hu => (F10 (by rwa [sgx (by decide)] at hj) (by rwa [sgx (by decide)] at hu)), fun hj => (F11 (by rwa [sgx (by decide)] at hj)), fun hj => (F12 (by rwa [sgx (by decide)] at hj)), hx⟩
    · as_aux_lemma =>
        obtain ⟨u12, u13, u65, u66, u67, u68, u69, u70, u71, u72, u73, u74, rfl, F0, F1, F2, F3, F4, F5, F6, F7, F8, F9, F10, F11, F12, hx⟩ := hI
        have l3 := he ⟨3, .data⟩ (by simp) rfl
        have l4 := he ⟨4, .data⟩ (by simp) rfl
        have e := F3 l3; subst e
        have e := F4 l4; subst e
        have hkx := hkl
        have hux := huc
        have huy := hcap
        have huz := Nat.le_trans hkl huc
        have huq : (if uc = k then (some ⟨ub, uf, none⟩ : Option Addr) else some ⟨ub, uf + k * 7, none⟩) = some ⟨ub, uf + k * 7, none⟩ := hkc.out
        refine wpOp_stepx ho rfl (fun K hK => ?_)
        unfold rrA
        go_simp
        exact hK _ _ ⟨_, _, _, _, _, _, _, _, _, _, _, _, rfl, fun hj => (by first | exact (F0 (by rwa [sgx (by decide)] at hj)) | rfl), fun hj => (by first | exact (F1 (by rwa [sgx (by decide)] at hj)) | rfl), fun hj => (by first | exact (F2 (by rwa [sgx (by decide)] at hj)) | rfl), fun hj => (by first | exact (F3 (by rwa [sgx (by decide)] at hj)) | rfl), fun hj => (by first | exact (F4 (by rwa [sgx (by decide)] at hj)) | rfl), fun _ => rfl, fun hj => (F6 (by rwa [sgx (by decide)] at hj)), fun hj => (F7 (by rwa [sgx (by decide)] at hj)), fun hj => (F8 (by rwa [sgx (by decide)] at hj)), fun hj => (F9 (by rwa [sgx (by decide)] at hj)), fun hj hu => (F10 (by rwa [sgx (by decide)] at hj) (by rwa [sgx (by decide)] at hu)), fun hj => (F11 (by rwa [sgx (by decide)] at hj)), fun hj => (F12 (by rwa [sgx (by decide)] at hj)), hx⟩
    · as_aux_lemma =>
        obtain ⟨u12, u13, u65, u66, u67, u68, u69, u70, u71, u72, u73, u74, rfl, F0, F1, F2, F3, F4, F5, F6, F7, F8, F9, F10, F11, F12, hx⟩ := hI
        have l0 := he ⟨0, .data⟩ (by simp) rfl
        have l1 := he ⟨1, .data⟩ (by simp) rfl
        have l2 := he ⟨2, .data⟩ (by simp) rfl
        have l5 := he ⟨5, .data⟩ (by simp) rfl
        have e := F0 l0; subst e
        have e := F1 l1; subst e
        have e := F2 l2; subst e
        have e := F5 l5; subst e
        refine wpOp_stepx ho rfl (fun K hK => ?_)
        unfold rrA
        go_simp
        (with_reducible refine (implAtmRun_any _ _ _ ms w'.heap.size wk hk who rs w' ((hM.below hx).mono hx.size) (atmV_of ((hA.below hx).mono hx.size) ((hB.below hx).mono hx.size)) ((hQ.below hx).mono hx.size) (Nat.le_refl _)).mono ?_)
        rw [← HX.out]
        rintro e w'' ⟨a1, b1, d1, ds, rfl, o1, o2, o3, ol, o5, _, hb1⟩
        go_wp2_with fail
        exact ⟨_, _, _, _, _, _, _, _, _, _, _, _, rfl, fun hj => (by first | exact (F0 (by rwa [sgx (by decide)] at hj)) | rfl), fun hj => (by first | exact (F1 (by rwa [sgx (by decide)] at hj)) | rfl), fun hj => (by first | exact (F2 (by rwa [sgx (by decide)] at hj)) | rfl), fun hj => (by first | exact (F3 (by rwa [sgx (by decide)] at hj)) | rfl), fun hj => (by first | exact (F4 (by rwa [sgx (by decide)] at hj)) | rfl), fun hj => (by first | exact (F5 (by rwa [sgx (by decide)] at hj)) | rfl), fun _ => ⟨a1, b1, d1, ds, rfl, o1.rebase hx.size, o2.rebase hx.size, o3.rebase hx.size, ol, fun j hj => (o5 j hj).rebase hx.size⟩, fun hj => absurd (hcl 7 _ rfl (by rwa [sgx (by decide)] at hj) ⟨6, .data⟩ (by simp) rfl) (by rw [getD_both hl]; simp), fun hj => (F8 (by rwa [sgx (by decide)] at hj)), fun hj => (F9 (by rwa [sgx (by decide)] at hj)), fun hj hu => (let ⟨g, e1, e2, e3⟩ := (F10 (by rwa [sgx (by decide)] at hj) (by rwa [sgx (by decide)] at hu)); ⟨g, e1, e2, e3.below hb1 e3.lt⟩), fun hj => absurd (hcl 11 _ rfl (by rwa [sgx (by decide)] at hj) ⟨6, .chain⟩ (by simp) rfl) (by rw [getD_both hl]; simp), fun hj => (F12 (by rwa [sgx (by decide)] at hj)), hx.trans (hb1.mono hx.size)⟩
    · as_aux_lemma =>
        obtain ⟨u12, u13, u65, u66, u67, u68, u69, u70, u71, u72, u73, u74, rfl, F0, F1, F2, F3, F4, F5, F6, F7, F8, F9, F10, F11, F12, hx⟩ := hI
        have l6 := he ⟨6, .data⟩ (by simp) rfl
        have l := F6 l6
        refine wpOp_stepx ho rfl (fun K hK => ?_)
        unfold rrA
        go_simp
        exact hK _ _ ⟨_, _, _, _, _, _, _, _, _, _, _, _, rfl, fun hj => (by first | exact (F0 (by rwa [sgx (by decide)] at hj)) | rfl), fun hj => (by first | exact (F1 (by rwa [sgx (by decide)] at hj)) | rfl), fun hj => (by first | exact (F2 (by rwa [sgx (by decide)] at hj)) | rfl), fun hj => (by first | exact (F3 (by rwa [sgx (by decide)] at hj)) | rfl), fun hj => (by first | exact (F4 (by rwa [sgx (by decide)] at hj)) | rfl), fun hj => (by first | exact (F5 (by rwa [sgx (by decide)] at hj)) | rfl), fun hj => (F6 (by rwa [sgx (by decide)] at hj)), fun _ => l, fun hj => absurd (hcl 8 _ rfl (by rwa [sgx (by decide)] at hj) ⟨7, .data⟩ (by simp) rfl) (by rw [getD_both hl]; simp), fun hj => absurd (hcl 9 _ rfl (by rwa [sgx (by decide)] at hj) ⟨7, .data⟩ (by simp) rfl) (by rw [getD_both hl]; simp), fun hj hu => (F10 (by rwa [sgx (by decide)] at hj) (by rwa [sgx (by decide)] at hu)), fun hj => (F11 (by rwa [sgx (by decide)] at hj)), fun hj => absurd (hcl 9 _ rfl (hcl 12 _ rfl (by rwa [sgx (by decide)] at hj) ⟨9, .data⟩ (by simp) rfl) ⟨7, .data⟩ (by simp) rfl) (by rw [getD_both hl]; simp), hx⟩
    · as_aux_lemma =>
        obtain ⟨u12, u13, u65, u66, u67, u68, u69, u70, u71, u72, u73, u74, rfl, F0, F1, F2, F3, F4, F5, F6, F7, F8, F9, F10, F11, F12, hx⟩ := hI
        have l7 := he ⟨7, .data⟩ (by simp) rfl
        obtain ⟨a, b, d, ds, rfl, o1, o2, o3, ol, o5⟩ := F7 l7
        refine wpOp_stepx ho rfl (fun K hK => ?_)
        unfold rrA
        go_simp
        exact hK _ _ ⟨_, _, _, _, _, _, _, _, _, _, _, _, rfl, fun hj => (by first | exact (F0 (by rwa [sgx (by decide)] at hj)) | rfl), fun hj => (by first | exact (F1 (by rwa [sgx (by decide)] at hj)) | rfl), fun hj => (by first | exact (F2 (by rwa [sgx (by decide)] at hj)) | rfl), fun hj => (by first | exact (F3 (by rwa [sgx (by decide)] at hj)) | rfl), fun hj => (by first | exact (F4 (by rwa [sgx (by decide)] at hj)) | rfl), fun hj => (by first | exact (F5 (by rwa [sgx (by decide)] at hj)) | rfl), fun hj => (F6 (by rwa [sgx (by decide)] at hj)), fun hj => ⟨a, b, d, ds, rfl, o1, o2, o3, ol, o5⟩, fun _ => ⟨_, rfl⟩, fun hj => (F9 (by rwa [sgx (by decide)] at hj)), fun hj hu => (F10 (by rwa [sgx (by decide)] at hj) (by rwa [sgx (by decide)] at hu)), fun hj => absurd (hcl 11 _ rfl (by rwa [sgx (by decide)] at hj) ⟨8, .data⟩ (by simp) rfl) (by rw [getD_both hl]; simp), fun hj => (F12 (by rwa [sgx (by decide)] at hj)), hx⟩
    · as_aux_lemma =>
        obtain ⟨u12, u13, u65, u66, u67, u68, u69, u70, u71, u72, u73, u74, rfl, F0, F1, F2, F3, F4, F5, F6, F7, F8, F9, F10, F11, F12, hx⟩ := hI
        have l7 := he ⟨7, .data⟩ (by simp) rfl
        obtain ⟨a, b, d, ds, rfl, o1, o2, o3, ol, o5⟩ := F7 l7
        refine wpOp_stepx ho rfl (fun K hK => ?_)
        unfold rrA
        go_simp
        exact hK _ _ ⟨_, _, _, _, _, _, _, _, _, _, _, _, rfl, fun hj => (by first | exact (F0 (by rwa [sgx (by decide)] at hj)) | rfl), fun hj => (by first | exact (F1 (by rwa [sgx (by decide)] at hj)) | rfl), fun hj => (by first | exact (F2 (by rwa [sgx (by decide)] at hj)) | rfl), fun hj => (by first | exact (F3 (by rwa [sgx (by decide)] at hj)) | rfl), fun hj => (by first | exact (F4 (by rwa [sgx (by decide)] at hj)) | rfl), fun hj => (by first | exact (F5 (by rwa [sgx (by decide)] at hj)) | rfl), fun hj => (F6 (by rwa [sgx (by decide)] at hj)), fun hj => ⟨a, b, d, ds, rfl, o1, o2, o3, ol, o5⟩, fun hj => (F8 (by rwa [sgx (by decide)] at hj)), fun _ => ⟨_, rfl⟩, fun hj hu => (F10 (by rwa [sgx (by decide)] at hj) (by rwa [sgx (by decide)] at hu)), fun hj => (F11 (by rwa [sgx (by decide)] at hj)), fun hj => absurd (hcl 12 _ rfl (by rwa [sgx (by decide)] at hj) ⟨9, .data⟩ (by simp) rfl) (by rw [getD_both hl]; simp), hx⟩
    · as_aux_lemma =>
        obtain ⟨u12, u13, u65, u66, u67, u68, u69, u70, u71, u72, u73, u74, rfl, F0, F1, F2, F3, F4, F5, F6, F7, F8, F9, F10, F11, F12, hx⟩ := hI
        refine wpOp_stepx ho rfl (fun K hK => ?_)
        unfold rrA
        have hb1 : Below w'.heap.size w' (w'.alloc (.cells #[.slice none 0 0, .slice none 0 0] 28)) := (Below.refl _ _).alloc (Nat.le_refl _) _
        go_simp
        exact hK _ _ ⟨_, _, _, _, _, _, _, _, _, _, _, _, rfl, fun hj => (by first | exact (F0 (by rwa [sgx (by decide)] at hj)) | rfl), fun hj => (by first | exact (F1 (by rwa [sgx (by decide)] at hj)) | rfl), fun hj => (by first | exact (F2 (by rwa [sgx (by decide)] at hj)) | rfl), fun hj => (by first | exact (F3 (by rwa [sgx (by decide)] at hj)) | rfl), fun hj => (by first | exact (F4 (by rwa [sgx (by decide)] at hj)) | rfl), fun hj => (by first | exact (F5 (by rwa [sgx (by decide)] at hj)) | rfl), fun hj => (F6 (by rwa [sgx (by decide)] at hj)).below hb1, fun hj => (F7 (by rwa [sgx (by decide)] at hj)).below hb1, fun hj => (F8 (by rwa [sgx (by decide)] at hj)), fun hj => (F9 (by rwa [sgx (by decide)] at hj)), fun _ _ => ⟨_, rfl, hx.size, BoxA.new _ _ _⟩, fun hj => absurd (hcl 11 _ rfl (by rwa [sgx (by decide)] at hj) ⟨10, .data⟩ (by simp) rfl) (by rw [getD_both hl]; simp), fun hj => (F12 (by rwa [sgx (by decide)] at hj)), hx.trans (hb1.mono hx.size)⟩
    · as_aux_lemma =>
        obtain ⟨u12, u13, u65, u66, u67, u68, u69, u70, u71, u72, u73, u74, rfl, F0, F1, F2, F3, F4, F5, F6, F7, F8, F9, F10, F11, F12, hx⟩ := hI
        have l10 := he ⟨10, .data⟩ (by simp) rfl
        have l8 := he ⟨8, .data⟩ (by simp) rfl
        have l7 := he ⟨7, .phase⟩ (by simp) rfl
        obtain ⟨g, rfl, g1, hAA⟩ := F10 l10 (getD_both hl)
        obtain ⟨y, hy⟩ := F8 l8
        obtain ⟨a, b, d, ds, rfl, o1, o2, o3, ol, o5⟩ := F7 l7
        simp at hy
        obtain ⟨rfl, rfl⟩ := hy
        obtain ⟨qa, qc, rfl, _, _⟩ := o1.shape
        obtain ⟨ra, rc, rfl, _, _⟩ := o2.shape
        obtain ⟨k0, k1, m0, m1⟩ := hAA.cells
        refine wpOp_stepx ho rfl (fun K hK => ?_)
        unfold rrA
        have ht := touchA g w' (.slice qa x.1.length qc) (.slice ra x.2.1.length rc)
        go_simp
        exact hK _ _ ⟨_, _, _, _, _, _, _, _, _, _, _, _, rfl, fun hj => (by first | exact (F0 (by rwa [sgx (by decide)] at hj)) | rfl), fun hj => (by first | exact (F1 (by rwa [sgx (by decide)] at hj)) | rfl), fun hj => (by first | exact (F2 (by rwa [sgx (by decide)] at hj)) | rfl), fun hj => (by first | exact (F3 (by rwa [sgx (by decide)] at hj)) | rfl), fun hj => (by first | exact (F4 (by rwa [sgx (by decide)] at hj)) | rfl), fun hj => (by first | exact (F5 (by rwa [sgx (by decide)] at hj)) | rfl), fun hj => (F6 (by rwa [sgx (by decide)] at hj)).boxA hAA ht, fun hj => RFR.boxA ⟨_, _, d, ds, rfl, o1, o2, o3, ol, o5⟩ hAA ht, fun hj => (F8 (by rwa [sgx (by decide)] at hj)), fun hj => (F9 (by rwa [sgx (by decide)] at hj)), fun _ hu => absurd hu (by rw [sgix hl]; simp), fun _ => ⟨g, _, _, rfl, g1, hAA.put _ _, rfl⟩, fun hj => absurd (hcl 12 _ rfl (by rwa [sgx (by decide)] at hj) ⟨11, .chain⟩ (by simp) rfl) (by rw [getD_both hl]; simp), Below.touchN hx ht g1 (Nat.le_refl _)⟩
    · as_aux_lemma =>
        obtain ⟨u12, u13, u65, u66, u67, u68, u69, u70, u71, u72, u73, u74, rfl, F0, F1, F2, F3, F4, F5, F6, F7, F8, F9, F10, F11, F12, hx⟩ := hI
        have l9 := he ⟨9, .data⟩ (by simp) rfl
        have l := F9 l9
        refine wpOp_stepx ho rfl (fun K hK => ?_)
        unfold rrA
        go_simp
        exact hK _ _ ⟨_, _, _, _, _, _, _, _, _, _, _, _, rfl, fun hj => (by first | exact (F0 (by rwa [sgx (by decide)] at hj)) | rfl), fun hj => (by first | exact (F1 (by rwa [sgx (by decide)] at hj)) | rfl), fun hj => (by first | exact (F2 (by rwa [sgx (by decide)] at hj)) | rfl), fun hj => (by first | exact (F3 (by rwa [sgx (by decide)] at hj)) | rfl), fun hj => (by first | exact (F4 (by rwa [sgx (by decide)] at hj)) | rfl), fun hj => (by first | exact (F5 (by rwa [sgx (by decide)] at hj)) | rfl), fun hj => (F6 (by rwa [sgx (by decide)] at hj)), fun hj => (F7 (by rwa [sgx (by decide)] at hj)), fun hj => (F8 (by rwa [sgx (by decide)] at hj)), fun hj => (F9 (by rwa [sgx (by decide)] at hj)), fun hj hu => (F10 (by rwa [sgx (by decide)] at hj) (by rwa [sgx (by decide)] at hu)), fun hj => (F11 (by rwa [sgx (by decide)] at hj)), fun _ => l, hx⟩
  · intro listed a w' hI hd
    obtain ⟨u12, u13, u65, u66, u67, u68, u69, u70, u71, u72, u73, u74, rfl, F0, F1, F2, F3, F4, F5, F6, F7, F8, F9, F10, F11, F12, hx⟩ := hI
    obtain ⟨a, b, d, ds, hr, o1, o2, o3, ol, o5⟩ := F7 (hd 7 (by show 7 < 13; omega))
    obtain ⟨y1, hy1⟩ := F8 (hd 8 (by show 8 < 13; omega))
    obtain ⟨y2, hy2⟩ := F12 (hd 12 (by show 12 < 13; omega))
    obtain ⟨ga, a', b', hp1, ga1, hA0, ha⟩ := F11 (hd 11 (by show 11 < 13; omega))
    clear F0 F1 F2 F3 F4 F5 F6 F7 F8 F9 F10 F11 F12 hd
    subst hr
    simp at hy1 hy2
    obtain ⟨hy1, hz1'⟩ := hy1
    obtain ⟨hz2', hy2⟩ := hy2
    subst hy1 hy2 hz1' hz2'
    simp at ha
    obtain ⟨ha1, ha2⟩ := ha
    subst ha1 ha2 hp1
    exact hK _ _ _ _ _ _ _ _ _ _ _ _ w' ⟨ga, a, b, ds, rfl, ga1, hA0, o1, o2, o3, ol, o5, hx⟩

end Go.Proofs.Ytjlnnnnpdagnpaa

namespace Go.Proofs.Ytjlnnnnpdagnpaa
open Go.RowKit
attribute [local go_sem ↓] Go.wp_at_zero Go.wp_at_succ

def rtA (i0 i1 i2 i4 i7 i8 i9 i10 i13 i16 i17 i18 i19 i20 i21 i22 i23 i24 i25 i26 i27 i28 i29 i30 i31 i32 i33 i34 i35 i36 i37 i38 i39 i40 i41 i42 i43 i44 i45 i46 i47 i48 i49 i50 i51 i52 i53 i54 i55 i56 i57 i58 i59 i60 i61 i62 i63 i64 i65 i66 i67 i68 i69 i70 i71 i72 i73 i74 i85 i86 i87 i88 i89 i90 i91 i92 i93 i94 i95 i96 i97 i98 i99 i100 i101 i102 i103 : Value) (mv : Value) (who : Int) (ub : Nat) (uf : Nat) (xl : Nat) (uc : Nat) (gX : Nat) (k : Nat) (u14 u15 u75 u76 u77 u78 u79 u80 u81 u82 u83 u84 : Value) : Act := { tmps := #[i0, i1, i2, mv, i4, .int .i64 who, .slice (some ⟨ub, uf, none⟩) xl uc, i7, i8, i9, i10, .int .i64 (k : Nat), .pointer (some ⟨gX, 0, none⟩), i13, u14, u15, i16, i17, i18, i19, i20, i21, i22, i23, i24, i25, i26, i27, i28, i29, i30, i31, i32, i33, i34, i35, i36, i37, i38, i39, i40, i41, i42, i43, i44, i45, i46, i47, i48, i49, i50, i51, i52, i53, i54, i55, i56, i57, i58, i59, i60, i61, i62, i63, i64, i65, i66, i67, i68, i69, i70, i71, i72, i73, i74, u75, u76, u77, u78, u79, u80, u81, u82, u83, u84, i85, i86, i87, i88, i89, i90, i91, i92, i93, i94, i95, i96, i97, i98, i99, i100, i101, i102, i103], defers := [] }
def rtI (i0 i1 i2 i4 i7 i8 i9 i10 i13 i16 i17 i18 i19 i20 i21 i22 i23 i24 i25 i26 i27 i28 i29 i30 i31 i32 i33 i34 i35 i36 i37 i38 i39 i40 i41 i42 i43 i44 i45 i46 i47 i48 i49 i50 i51 i52 i53 i54 i55 i56 i57 i58 i59 i60 i61 i62 i63 i64 i65 i66 i67 i68 i69 i70 i71 i72 i73 i74 i85 i86 i87 i88 i89 i90 i91 i92 i93 i94 i95 i96 i97 i98 i99 i100 i101 i102 i103 : Value) (mv : Value) (who : Int) (ub : Nat) (uf : Nat) (xl : Nat) (uc : Nat) (gX : Nat) (k : Nat) (av : Value) (bv : Value) (x : List Int × List Int × List Rs) (wq : World) (listed : Array Bool) (a : Act) (w' : World) : Prop :=
  ∃ u14 u15 u75 u76 u77 u78 u79 u80 u81 u82 u83 u84 : Value, a = rtA i0 i1 i2 i4 i7 i8 i9 i10 i13 i16 i17 i18 i19 i20 i21 i22 i23 i24 i25 i26 i27 i28 i29 i30 i31 i32 i33 i34 i35 i36 i37 i38 i39 i40 i41 i42 i43 i44 i45 i46 i47 i48 i49 i50 i51 i52 i53 i54 i55 i56 i57 i58 i59 i60 i61 i62 i63 i64 i65 i66 i67 i68 i69 i70 i71 i72 i73 i74 i85 i86 i87 i88 i89 i90 i91 i92 i93 i94 i95 i96 i97 i98 i99 i100 i101 i102 i103 mv who ub uf xl uc gX k u14 u15 u75 u76 u77 u78 u79 u80 u81 u82 u83 u84 ∧
      (listed.getD 0 false = true → u76 = mv) ∧
      (listed.getD 1 false = true → u77 = .agg #[av, bv]) ∧
      (listed.getD 2 false = true → u78 = .int .i64 who) ∧
      (listed.getD 3 false = true → u79 = .slice (some ⟨ub, uf, none⟩) xl uc) ∧
      (listed.getD 4 false = true → u80 = .int .i64 (k : Nat)) ∧
      (listed.getD 5 false = true → u81 = .slice (some ⟨ub, uf + k * 7, none⟩) (xl - k) (uc - k)) ∧
      (listed.getD 6 false = true → RFR wq w' u82 x) ∧
      (listed.getD 7 false = true → RFR wq w' u75 x) ∧
      (listed.getD 8 false = true → ∃ y, u75 = .tuple #[u83, y]) ∧
      (listed.getD 9 false = true → ∃ y, u75 = .tuple #[y, u84]) ∧
      (listed.getD 10 false = true → listed.getD 11 false = false → ∃ g, u14 = .pointer (some ⟨g, 0, none⟩) ∧ wq.heap.size ≤ g ∧ BoxA w' g (.slice none 0 0) (.slice none 0 0)) ∧
      (listed.getD 11 false = true → ∃ g a b, u14 = .pointer (some ⟨g, 0, none⟩) ∧ wq.heap.size ≤ g ∧ BoxA w' g a b ∧ u83 = .agg #[a, b]) ∧
      (listed.getD 12 false = true → ∃ y, u75 = .tuple #[y, u15]) ∧
      Below wq.heap.size wq w'
noncomputable def rtCode : Code := (Try.f4.body.bind (regionIn 12)).getD .skip

set_option maxRecDepth 100000 in
set_option maxHeartbeats 16000000 in
theorem rt_region (i0 i1 i2 i4 i7 i8 i9 i10 i13 i16 i17 i18 i19 i20 i21 i22 i23 i24 i25 i26 i27 i28 i29 i30 i31 i32 i33 i34 i35 i36 i37 i38 i39 i40 i41 i42 i43 i44 i45 i46 i47 i48 i49 i50 i51 i52 i53 i54 i55 i56 i57 i58 i59 i60 i61 i62 i63 i64 i65 i66 i67 i68 i69 i70 i71 i72 i73 i74 i85 i86 i87 i88 i89 i90 i91 i92 i93 i94 i95 i96 i97 i98 i99 i100 i101 i102 i103 j14 j15 j75 j76 j77 j78 j79 j80 j81 j82 j83 j84 : Value) (mv : Value) (who : Int) (ub : Nat) (uf : Nat) (xl : Nat) (uc : Nat) (gX : Nat) (k : Nat) (av : Value) (bv : Value) (x : List Int × List Int × List Rs) (wq : World)
    (ms : List MR) (wk hk : List Int) (rs : List Rq) (HX : Hid (x = atmRun ms wk hk who rs)) (hX : BoxA wq gX av bv) (hkl : k ≤ xl) (huc : xl ≤ uc) (hcap : uc ≤ 9223372036854775807) (hkc : Hid ((if uc = k then (some ⟨ub, uf, none⟩ : Option Addr) else some ⟨ub, uf + k * 7, none⟩) = some ⟨ub, uf + k * 7, none⟩)) (hM : Maps wq wq.heap.size mv ms) (hA : Ints wq wq.heap.size av wk) (hB : Ints wq wq.heap.size bv hk) (hQ : Reqs wq wq.heap.size (.slice (some ⟨ub, uf + k * 7, none⟩) (xl - k) (uc - k)) rs)
    {K : Act → World → Prop} {Q' : Exit → Act → World → Prop}
    (hK : ∀ (u14 u15 u75 u76 u77 u78 u79 u80 u81 u82 u83 u84 : Value) w', RrP u14 u15 x wq w' → K (rtA i0 i1 i2 i4 i7 i8 i9 i10 i13 i16 i17 i18 i19 i20 i21 i22 i23 i24 i25 i26 i27 i28 i29 i30 i31 i32 i33 i34 i35 i36 i37 i38 i39 i40 i41 i42 i43 i44 i45 i46 i47 i48 i49 i50 i51 i52 i53 i54 i55 i56 i57 i58 i59 i60 i61 i62 i63 i64 i65 i66 i67 i68 i69 i70 i71 i72 i73 i74 i85 i86 i87 i88 i89 i90 i91 i92 i93 i94 i95 i96 i97 i98 i99 i100 i101 i102 i103 mv who ub uf xl uc gX k u14 u15 u75 u76 u77 u78 u79 u80 u81 u82 u83 u84) w') : rtCode.wp Try.prog (Exit.then K Q') (rtA i0 i1 i2 i4 i7 i8 i9 i10 i13 i16 i17 i18 i19 i20 i21 i22 i23 i24 i25 i26 i27 i28 i29 i30 i31 i32 i33 i34 i35 i36 i37 i38 i39 i40 i41 i42 i43 i44 i45 i46 i47 i48 i49 i50 i51 i52 i53 i54 i55 i56 i57 i58 i59 i60 i61 i62 i63 i64 i65 i66 i67 i68 i69 i70 i71 i72 i73 i74 i85 i86 i87 i88 i89 i90 i91 i92 i93 i94 i95 i96 i97 i98 i99 i100 i101 i102 i103 mv who ub uf xl uc gX k j14 j15 j75 j76 j77 j78 j79 j80 j81 j82 j83 j84) wq := by
  conv => arg 2; whnf
  refine wp_region_inv2 (rtI i0 i1 i2 i4 i7 i8 i9 i10 i13 i16 i17 i18 i19 i20 i21 i22 i23 i24 i25 i26 i27 i28 i29 i30 i31 i32 i33 i34 i35 i36 i37 i38 i39 i40 i41 i42 i43 i44 i45 i46 i47 i48 i49 i50 i51 i52 i53 i54 i55 i56 i57 i58 i59 i60 i61 i62 i63 i64 i65 i66 i67 i68 i69 i70 i71 i72 i73 i74 i85 i86 i87 i88 i89 i90 i91 i92 i93 i94 i95 i96 i97 i98 i99 i100 i101 i102 i103 mv who ub uf xl uc gX k av bv x wq) (by kernel_rfl) (by kernel_rfl) ?_ ?_ ?_
  · exact ⟨_, _, _, _, _, _, _, _, _, _, _, _, rfl, (fun h => absurd h (by rw [getD_replicate_false]; simp)), (fun h => absurd h (by rw [getD_replicate_false]; simp)), (fun h => absurd h (by rw [getD_replicate_false]; simp)), (fun h => absurd h (by rw [getD_replicate_false]; simp)), (fun h => absurd h (by rw [getD_replicate_false]; simp)), (fun h => absurd h (by rw [getD_replicate_false]; simp)), (fun h => absurd h (by rw [getD_replicate_false]; simp)), (fun h => absurd h (by rw [getD_replicate_false]; simp)), (fun h => absurd h (by rw [getD_replicate_false]; simp)), (fun h => absurd h (by rw [getD_replicate_false]; simp)), (fun h _ => absurd h (by rw [getD_replicate_false]; simp)), (fun h => absurd h (by rw [getD_replicate_false]; simp)), (fun h => absurd h (by rw [getD_replicate_false]; simp)), (Below.refl _ _).drew⟩
  · intro listed a w' i o hI hsz ho hl he hcl
    have hi : i < 13 := (Array.getElem?_eq_some_iff.1 ho).1
    have e : i = 0 ∨ i = 1 ∨ i = 2 ∨ i = 3 ∨ i = 4 ∨ i = 5 ∨ i = 6 ∨ i = 7 ∨ i = 8 ∨ i = 9 ∨ i = 10 ∨ i = 11 ∨ i = 12 := by omega
    clear hi
    rcases e with rfl | rfl | rfl | rfl | rfl | rfl | rfl | rfl | rfl | rfl | rfl | rfl | rfl
    all_goals (have ho2 := ho; obtain rfl := Option.some.inj ho2.symm; clear ho2)
    · as_aux_lemma =>
        obtain ⟨u14, u15, u75, u76, u77, u78, u79, u80, u81, u82, u83, u84, rfl, F0, F1, F2, F3, F4, F5, F6, F7, F8, F9, F10, F11, F12, hx⟩ := hI
        refine wpOp_stepx ho rfl (fun K hK => ?_)
        unfold rtA
        go_simp
        exact hK _ _ ⟨_, _, _, _, _, _, _, _, _, _, _, _, rfl, fun _ => rfl, fun hj => (by first | exact (F1 (by rwa [sgx (by decide)] at hj)) | rfl), fun hj => (by first | exact (F2 (by rwa [sgx (by decide)] at hj)) | rfl), fun hj => (by first | exact (F3 (by rwa [sgx (by decide)] at hj)) | rfl), fun hj => (by first | exact (F4 (by rwa [sgx (by decide)] at hj)) | rfl), fun hj => (by first | exact (F5 (by rwa [sgx (by decide)] at hj)) | rfl), fun hj => (F6 (by rwa [sgx (by decide)] at hj)), fun hj => (F7 (by rwa [sgx (by decide)] at hj)), fun hj => (F8 (by rwa [sgx (by decide)] at hj)), fun hj => (F9 (by rwa [sgx (by decide)] at hj)), fun hj hu => (F10 (by rwa [sgx (by decide)] at hj) (by rwa [sgx (by decide)] at hu)), fun hj => (F11 (by rwa [sgx (by decide)] at hj)), fun hj => (F12 (by rwa [sgx (by decide)] at hj)), hx⟩
    · as_aux_lemma =>
        obtain ⟨u14, u15, u75, u76, u77, u78, u79, u80, u81, u82, u83, u84, rfl, F0, F1, F2, F3, F4, F5, F6, F7, F8, F9, F10, F11, F12, hx⟩ := hI
        obtain ⟨k0, k1, m0, m1⟩ := (hX.below hx hX.lt).cells
        refine wpOp_stepx ho rfl (fun K hK => ?_)
        unfold rtA
        go_simp
        exact hK _ _ ⟨_, _, _, _, _, _, _, _, _, _, _, _, rfl, fun hj => (by first | exact (F0 (by rwa [sgx (by decide)] at hj)) | rfl), fun _ => rfl, fun hj => (by first | exact (F2 (by rwa [sgx (by decide)] at hj)) | rfl), fun hj => (by first | exact (F3 (by rwa [sgx (by decide)] at hj)) | rfl), fun hj => (by first | exact (F4 (by rwa [sgx (by decide)] at hj)) | rfl), fun hj => (by first | exact (F5 (by rwa [sgx (by decide)] at hj)) | rfl), fun hj => (F6 (by rwa [sgx (by decide)] at hj)), fun hj => (F7 (by rwa [sgx (by decide)] at hj)), fun hj => (F8 (by rwa [sgx (by decide)] at hj)), fun hj => (F9 (by rwa [sgx (by decide)] at hj)), fun hj hu => (F10 (by rwa [sgx (by decide)] at hj) (by rwa [sgx (by decide)] at hu)), fun hj => (F11 (by rwa [sgx (by decide)] at hj)), fun hj => (F12 (by rwa [sgx (by decide)] at hj)), hx⟩
    · as_aux_lemma =>
        obtain ⟨u14, u15, u75, u76, u77, u78, u79, u80, u81, u82, u83, u84, rfl, F0, F1, F2, F3, F4, F5, F6, F7, F8, F9, F10, F11, F12, hx⟩ := hI
        refine wpOp_stepx ho rfl (fun K hK => ?_)
        unfold rtA
        go_simp
        exact hK _ _ ⟨_, _, _, _, _, _, _, _, _, _, _, _, rfl, fun hj => (by first | exact (F0 (by rwa [sgx (by decide)] at hj)) | rfl), fun hj => (by first | exact (F1 (by rwa [sgx (by decide)] at hj)) | rfl), fun _ => rfl, fun hj => (by first | exact (F3 (by rwa [sgx (by decide)] at hj)) | rfl), fun hj => (by first | exact (F4 (by rwa [sgx (by decide)] at hj)) | rfl), fun hj => (by first | exact (F5 (by rwa [sgx (by decide)] at hj)) | rfl), fun hj => (F6 (by rwa [sgx (by decide)] at hj)), fun hj => (F7 (by rwa [sgx (by decide)] at hj)), fun hj => (F8 (by rwa [sgx (by decide)] at hj)), fun hj => (F9 (by rwa [sgx (by decide)] at hj)), fun hj hu => (F10 (by rwa [sgx (by decide)] at hj) (by rwa [sgx (by decide)] at hu)), fun hj => (F11 (by rwa [sgx (by decide)] at hj)), fun hj => (F12 (by rwa [sgx (by decide)] at hj)), hx⟩
    · as_aux_lemma =>
        obtain ⟨u14, u15, u75, u76, u77, u78, u79, u80, u81, u82, u83, u84, rfl, F0, F1, F2, F3, F4, F5, F6, F7, F8, F9, F10, F11, F12, hx⟩ := hI
        refine wpOp_stepx ho rfl (fun K hK => ?_)
        unfold rtA
        go_simp
        exact hK _ _ ⟨_, _, _, _, _, _, _, _, _, _, _, _, rfl, fun hj => (by first | exact (F0 (by rwa [sgx (by decide)] at hj)) | rfl), fun hj => (by first | exact (F1 (by rwa [sgx (by decide)] at hj)) | rfl), fun hj => (by first | exact (F2 (by rwa [sgx (by decide)] at hj)) | rfl), fun _ => rfl, fun hj => (by first | exact (F4 (by rwa [sgx (by decide)] at hj)) | rfl), fun hj => (by first | exact (F5 (by rwa [sgx (by decide)] at hj)) | rfl), fun hj => (F6 (by rwa [sgx (by decide)] at hj)), fun hj => (F7 (by rwa [sgx (by decide)] at hj)), fun hj => (F8 (by rwa [sgx (by decide)] at hj)), fun hj => (F9 (by rwa [sgx (by decide)] at hj)), fun hj hu => (F10 (by rwa [sgx (by decide)] at hj) (by rwa [sgx (by decide)] at hu)), fun hj => (F11 (by rwa [sgx (by decide)] at hj)), fun hj => (F12 (by rwa [sgx (by decide)] at hj)), hx⟩
    · as_aux_lemma =>
        obtain ⟨u14, u15, u75, u76, u77, u78, u79, u80, u81, u82, u83, u84, rfl, F0, F1, F2, F3, F4, F5, F6, F7, F8, F9, F10, F11, F12, hx⟩ := hI
        refine wpOp_stepx ho rfl (fun K hK => ?_)
        unfold rtA
        go_simp
        exact hK _ _ ⟨_, _, _, _, _, _, _, _, _, _, _, _, rfl, fun hj => (by first | exact (F0 (by rwa [sgx (by decide)] at hj)) | rfl), fun hj => (by first | exact (F1 (by rwa [sgx (by decide)] at hj)) | rfl), fun hj => (by first | exact (F2 (by rwa [sgx (by decide)] at hj)) | rfl), fun hj => (by first | exact (F3 (by rwa [sgx (by decide)] at hj)) | rfl), fun _ => rfl, fun hj => (by first | exact (F5 (by rwa [sgx (by decide)] at hj)) | rfl), fun hj => (F6 (by rwa [sgx (by decide)] at hj)), fun hj => (F7 (by rwa [sgx (by decide)] at hj)), fun hj => (F8 (by rwa [sgx (by decide)] at hj)), fun hj => (F9 (by rwa [sgx (by decide)] at hj)), fun hj hu => (F10 (by rwa [sgx (by decide)] at hj) (by rwa [sgx (by decide)] at hu)), fun hj => (F11 (by rwa [sgx (by decide)] at hj)), fun hj => (F12 (by rwa [sgx (by decide)] at hj)), hx⟩
    · as_aux_lemma =>
        obtain ⟨u14, u15, u75, u76, u77, u78, u79, u80, u81, u82, u83, u84, rfl, F0, F1, F2, F3, F4, F5, F6, F7, F8, F9, F10, F11, F12, hx⟩ := hI
        have l3 := he ⟨3, .data⟩ (by simp) rfl
        have l4 := he ⟨4, .data⟩ (by simp) rfl
        have e := F3 l3; subst e
        have e := F4 l4; subst e
        have hkx := hkl
        have hux := huc
        have huy := hcap
        have huz := Nat.le_trans hkl huc
        have huq : (if uc = k then (some ⟨ub, uf, none⟩ : Option Addr) else some ⟨ub, uf + k * 7, none⟩) = some ⟨ub, uf + k * 7, none⟩ := hkc.out
        refine wpOp_stepx ho rfl (fun K hK => ?_)
        unfold rtA
        go_simp
        exact hK _ _ ⟨_, _, _, _, _, _, _, _, _, _, _, _, rfl, fun hj => (by first | exact (F0 (by rwa [sgx (by decide)] at hj)) | rfl), fun hj => (by first | exact (F1 (by rwa [sgx (by decide)] at hj)) | rfl), fun hj => (by first | exact (F2 (by rwa [sgx (by decide)] at hj)) | rfl), fun hj => (by first | exact (F3 (by rwa [sgx (by decide)] at hj)) | rfl), fun hj => (by first | exact (F4 (by rwa [sgx (by decide)] at hj)) | rfl), fun _ => rfl, fun hj => (F6 (by rwa [sgx (by decide)] at hj)), fun hj => (F7 (by rwa [sgx (by decide)] at hj)), fun hj => (F8 (by rwa [sgx (by decide)] at hj)), fun hj => (F9 (by rwa [sgx (by decide)] at hj)), fun hj hu => (F10 (by rwa [sgx (by decide)] at hj) (by rwa [sgx (by decide)] at hu)), fun hj => (F11 (by rwa [sgx (by decide)] at hj)), fun hj => (F12 (by rwa [sgx (by decide)] at hj)), hx⟩
    · as_aux_lemma =>
        obtain ⟨u14, u15, u75, u76, u77, u78, u79, u80, u81, u82, u83, u84, rfl, F0, F1, F2, F3, F4, F5, F6, F7, F8, F9, F10, F11, F12, hx⟩ := hI
        have l0 := he ⟨0, .data⟩ (by simp) rfl
        have l1 := he ⟨1, .data⟩ (by simp) rfl
        have l2 := he ⟨2, .data⟩ (by simp) rfl
        have l5 := he ⟨5, .data⟩ (by simp) rfl
        have e := F0 l0; subst e
        have e := F1 l1; subst e
        have e := F2 l2; subst e
        have e := F5 l5; subst e
        refine wpOp_stepx ho rfl (fun K hK => ?_)
        unfold rtA
        go_simp
        (with_reducible refine (implAtmRun_any _ _ _ ms w'.heap.size wk hk who rs w' ((hM.below hx).mono hx.size) (atmV_of ((hA.below hx).mono hx.size) ((hB.below hx).mono hx.size)) ((hQ.below hx).mono hx.size) (Nat.le_refl _)).mono ?_)
        rw [← HX.out]
        rintro e w'' ⟨a1, b1, d1, ds, rfl, o1, o2, o3, ol, o5, _, hb1⟩
        go_wp2_with fail
        exact ⟨_, _, _, _, _, _, _, _, _, _, _, _, rfl, fun hj => (by first | exact (F0 (by rwa [sgx (by decide)] at hj)) | rfl), fun hj => (by first | exact (F1 (by rwa [sgx (by decide)] at hj)) | rfl), fun hj => (by first | exact (F2 (by rwa [sgx (by decide)] at hj)) | rfl), fun hj => (by first | exact (F3 (by rwa [sgx (by decide)] at hj)) | rfl), fun hj => (by first | exact (F4 (by rwa [sgx (by decide)] at hj)) | rfl), fun hj => (by first | exact (F5 (by rwa [sgx (by decide)] at hj)) | rfl), fun _ => ⟨a1, b1, d1, ds, rfl, o1.rebase hx.size, o2.rebase hx.size, o3.rebase hx.size, ol, fun j hj => (o5 j hj).rebase hx.size⟩, fun hj => absurd (hcl 7 _ rfl (by rwa [sgx (by decide)] at hj) ⟨6, .data⟩ (by simp) rfl) (by rw [getD_both hl]; simp), fun hj => (F8 (by rwa [sgx (by decide)] at hj)), fun hj => (F9 (by rwa [sgx (by decide)] at hj)), fun hj hu => (let ⟨g, e1, e2, e3⟩ := (F10 (by rwa [sgx (by decide)] at hj) (by rwa [sgx (by decide)] at hu)); ⟨g, e1, e2, e3.below hb1 e3.lt⟩), fun hj => absurd (hcl 11 _ rfl (by rwa [sgx (by decide)] at hj) ⟨6, .chain⟩ (by simp) rfl) (by rw [getD_both hl]; simp), fun hj => (F12 (by rwa [sgx (by decide)] at hj)), hx.trans (hb1.mono hx.size)⟩
    · as_aux_lemma =>
        obtain ⟨u14, u15, u75, u76, u77, u78, u79, u80, u81, u82, u83, u84, rfl, F0, F1, F2, F3, F4, F5, F6, F7, F8, F9, F10, F11, F12, hx⟩ := hI
        have l6 := he ⟨6, .data⟩ (by simp) rfl
        have l := F6 l6
        refine wpOp_stepx ho rfl (fun K hK => ?_)
        unfold rtA
        go_simp
        exact hK _ _ ⟨_, _, _, _, _, _, _, _, _, _, _, _, rfl, fun hj => (by first | exact (F0 (by rwa [sgx (by decide)] at hj)) | rfl), fun hj => (by first | exact (F1 (by rwa [sgx (by decide)] at hj)) | rfl), fun hj => (by first | exact (F2 (by rwa [sgx (by decide)] at hj)) | rfl), fun hj => (by first | exact (F3 (by rwa [sgx (by decide)] at hj)) | rfl), fun hj => (by first | exact (F4 (by rwa [sgx (by decide)] at hj)) | rfl), fun hj => (by first | exact (F5 (by rwa [sgx (by decide)] at hj)) | rfl), fun hj => (F6 (by rwa [sgx (by decide)] at hj)), fun _ => l, fun hj => absurd (hcl 8 _ rfl (by rwa [sgx (by decide)] at hj) ⟨7, .data⟩ (by simp) rfl) (by rw [getD_both hl]; simp), fun hj => absurd (hcl 9 _ rfl (by rwa [sgx (by decide)] at hj) ⟨7, .data⟩ (by simp) rfl) (by rw [getD_both hl]; simp), fun hj hu => (F10 (by rwa [sgx (by decide)] at hj) (by rwa [sgx (by decide)] at hu)), fun hj => (F11 (by rwa [sgx (by decide)] at hj)), fun hj => absurd (hcl 9 _ rfl (hcl 12 _ rfl (by rwa [sgx (by decide)] at hj) ⟨9, .data⟩ (by simp) rfl) ⟨7, .data⟩ (by simp) rfl) (by rw [getD_both hl]; simp), hx⟩
    · as_aux_lemma =>
        obtain ⟨u14, u15, u75, u76, u77, u78, u79, u80, u81, u82, u83, u84, rfl, F0, F1, F2, F3, F4, F5, F6, F7, F8, F9, F10, F11, F12, hx⟩ := hI
        have l7 := he ⟨7, .data⟩ (by simp) rfl
        obtain ⟨a, b, d, ds, rfl, o1, o2, o3, ol, o5⟩ := F7 l7
        refine wpOp_stepx ho rfl (fun K hK => ?_)
        unfold rtA
        go_simp
        exact hK _ _ ⟨_, _, _, _, _, _, _, _, _, _, _, _, rfl, fun hj => (by first | exact (F0 (by rwa [sgx (by decide)] at hj)) | rfl), fun hj => (by first | exact (F1 (by rwa [sgx (by decide)] at hj)) | rfl), fun hj => (by first | exact (F2 (by rwa [sgx (by decide)] at hj)) | rfl), fun hj => (by first | exact (F3 (by rwa [sgx (by decide)] at hj)) | rfl), fun hj => (by first | exact (F4 (by rwa [sgx (by decide)] at hj)) | rfl), fun hj => (by first | exact (F5 (by rwa [sgx (by decide)] at hj)) | rfl), fun hj => (F6 (by rwa [sgx (by decide)] at hj)), fun hj => ⟨a, b, d, ds, rfl, o1, o2, o3, ol, o5⟩, fun _ => ⟨_, rfl⟩, fun hj => (F9 (by rwa [sgx (by decide)] at hj)), fun hj hu => (F10 (by rwa [sgx (by decide)] at hj) (by rwa [sgx (by decide)] at hu)), fun hj => absurd (hcl 11 _ rfl (by rwa [sgx (by decide)] at hj) ⟨8, .data⟩ (by simp) rfl) (by rw [getD_both hl]; simp), fun hj => (F12 (by rwa [sgx (by decide)] at hj)), hx⟩
    · as_aux_lemma =>
        obtain ⟨u14, u15, u75, u76, u77, u78, u79, u80, u81, u82, u83, u84, rfl, F0, F1, F2, F3, F4, F5, F6, F7, F8, F9, F10, F11, F12, hx⟩ := hI
        have l7 := he ⟨7, .data⟩ (by simp) rfl
        obtain ⟨a, b, d, ds, rfl, o1, o2, o3, ol, o5⟩ := F7 l7
        refine wpOp_stepx ho rfl (fun K hK => ?_)
        unfold rtA
        go_simp
        exact hK _ _ ⟨_, _, _, _, _, _, _, _, _, _, _, _, rfl, fun hj => (by first | exact (F0 (by rwa [sgx (by decide)] at hj)) | rfl), fun hj => (by first | exact (F1 (by rwa [sgx (by decide)] at hj)) | rfl), fun hj => (by first | exact (F2 (by rwa [sgx (by decide)] at hj)) | rfl), fun hj => (by first | exact (F3 (by rwa [sgx (by decide)] at hj)) | rfl), fun hj => (by first | exact (F4 (by rwa [sgx (by decide)] at hj)) | rfl), fun hj => (by first | exact (F5 (by rwa [sgx (by decide)] at hj)) | rfl), fun hj => (F6 (by rwa [sgx (by decide)] at hj)), fun hj => ⟨a, b, d, ds, rfl, o1, o2, o3, ol, o5⟩, fun hj => (F8 (by rwa [sgx (by decide)] at hj)), fun _ => ⟨_, rfl⟩, fun hj hu => (F10 (by rwa [sgx (by decide)] at hj) (by rwa [sgx (by decide)] at hu)), fun hj => (F11 (by rwa [sgx (by decide)] at hj)), fun hj => absurd (hcl 12 _ rfl (by rwa [sgx (by decide)] at hj) ⟨9, .data⟩ (by simp) rfl) (by rw [getD_both hl]; simp), hx⟩
    · as_aux_lemma =>
        obtain ⟨u14, u15, u75, u76, u77, u78, u79, u80, u81, u82, u83, u84, rfl, F0, F1, F2, F3, F4, F5, F6, F7, F8, F9, F10, F11, F12, hx⟩ := hI
        refine wpOp_stepx ho rfl (fun K hK => ?_)
        unfold rtA
        have hb1 : Below w'.heap.size w' (w'.alloc (.cells #[.slice none 0 0, .slice none 0 0] 28)) := (Below.refl _ _).alloc (Nat.le_refl _) _
        go_simp
        exact hK _ _ ⟨_, _, _, _, _, _, _, _, _, _, _, _, rfl, fun hj => (by first | exact (F0 (by rwa [sgx (by decide)] at hj)) | rfl), fun hj => (by first | exact (F1 (by rwa [sgx (by decide)] at hj)) | rfl), fun hj => (by first | exact (F2 (by rwa [sgx (by decide)] at hj)) | rfl), fun hj => (by first | exact (F3 (by rwa [sgx (by decide)] at hj)) | rfl), fun hj => (by first | exact (F4 (by rwa [sgx (by decide)] at hj)) | rfl), fun hj => (by first | exact (F5 (by rwa [sgx (by decide)] at hj)) | rfl), fun hj => (F6 (by rwa [sgx (by decide)] at hj)).below hb1, fun hj => (F7 (by rwa [sgx (by decide)] at hj)).below hb1, fun hj => (F8 (by rwa [sgx (by decide)] at hj)), fun hj => (F9 (by rwa [sgx (by decide)] at hj)), fun _ _ => ⟨_, rfl, hx.size, BoxA.new _ _ _⟩, fun hj => absurd (hcl 11 _ rfl (by rwa [sgx (by decide)] at hj) ⟨10, .data⟩ (by simp) rfl) (by rw [getD_both hl]; simp), fun hj => (F12 (by rwa [sgx (by decide)] at hj)), hx.trans (hb1.mono hx.size)⟩
    · as_aux_lemma =>
        obtain ⟨u14, u15, u75, u76, u77, u78, u79, u80, u81, u82, u83, u84, rfl, F0, F1, F2, F3, F4, F5, F6, F7, F8, F9, F10, F11, F12, hx⟩ := hI
        have l10 := he ⟨10, .data⟩ (by simp) rfl
        have l8 := he ⟨8, .data⟩ (by simp) rfl
        have l7 := he ⟨7, .phase⟩ (by simp) rfl
        obtain ⟨g, rfl, g1, hAA⟩ := F10 l10 (getD_both hl)
        obtain ⟨y, hy⟩ := F8 l8
        obtain ⟨a, b, d, ds, rfl, o1, o2, o3, ol, o5⟩ := F7 l7
        simp at hy
        obtain ⟨rfl, rfl⟩ := hy
        obtain ⟨qa, qc, rfl, _, _⟩ := o1.shape
        obtain ⟨ra, rc, rfl, _, _⟩ := o2.shape
        obtain ⟨k0, k1, m0, m1⟩ := hAA.cells
        refine wpOp_stepx ho rfl (fun K hK => ?_)
        unfold rtA
        have ht := touchA g w' (.slice qa x.1.length qc) (.slice ra x.2.1.length rc)
        go_simp
        exact hK _ _ ⟨_, _, _, _, _, _, _, _, _, _, _, _, rfl, fun hj => (by first | exact (F0 (by rwa [sgx (by decide)] at hj)) | rfl), fun hj => (by first | exact (F1 (by rwa [sgx (by decide)] at hj)) | rfl), fun hj => (by first | exact (F2 (by rwa [sgx (by decide)] at hj)) | rfl), fun hj => (by first | exact (F3 (by rwa [sgx (by decide)] at hj)) | rfl), fun hj => (by first | exact (F4 (by rwa [sgx (by decide)] at hj)) | rfl), fun hj => (by first | exact (F5 (by rwa [sgx (by decide)] at hj)) | rfl), fun hj => (F6 (by rwa [sgx (by decide)] at hj)).boxA hAA ht, fun hj => RFR.boxA ⟨_, _, d, ds, rfl, o1, o2, o3, ol, o5⟩ hAA ht, fun hj => (F8 (by rwa [sgx (by decide)] at hj)), fun hj => (F9 (by rwa [sgx (by decide)] at hj)), fun _ hu => absurd hu (by rw [sgix hl]; simp), fun _ => ⟨g, _, _, rfl, g1, hAA.put _ _, rfl⟩, fun hj => absurd (hcl 12 _ rfl (by rwa [sgx (by decide)] at hj) ⟨11, .chain⟩ (by simp) rfl) (by rw [getD_both hl]; simp), Below.touchN hx ht g1 (Nat.le_refl _)⟩
    · as_aux_lemma =>
        obtain ⟨u14, u15, u75, u76, u77, u78, u79, u80, u81, u82, u83, u84, rfl, F0, F1, F2, F3, F4, F5, F6, F7, F8, F9, F10, F11, F12, hx⟩ := hI
        have l9 := he ⟨9, .data⟩ (by simp) rfl
        have l := F9 l9
        refine wpOp_stepx ho rfl (fun K hK => ?_)
        unfold rtA
        go_simp
        exact hK _ _ ⟨_, _, _, _, _, _, _, _, _, _, _, _, rfl, fun hj => (by first | exact (F0 (by rwa [sgx (by decide)] at hj)) | rfl), fun hj => (by first | exact (F1 (by rwa [sgx (by decide)] at hj)) | rfl), fun hj => (by first | exact (F2 (by rwa [sgx (by decide)] at hj)) | rfl), fun hj => (by first | exact (F3 (by rwa [sgx (by decide)] at hj)) | rfl), fun hj => (by first | exact (F4 (by rwa [sgx (by decide)] at hj)) | rfl), fun hj => (by first | exact (F5 (by rwa [sgx (by decide)] at hj)) | rfl), fun hj => (F6 (by rwa [sgx (by decide)] at hj)), fun hj => (F7 (by rwa [sgx (by decide)] at hj)), fun hj => (F8 (by rwa [sgx (by decide)] at hj)), fun hj => (F9 (by rwa [sgx (by decide)] at hj)), fun hj hu => (F10 (by rwa [sgx (by decide)] at hj) (by rwa [sgx (by decide)] at hu)), fun hj => (F11 (by rwa [sgx (by decide)] at hj)), fun _ => l, hx⟩
  · intro listed a w' hI hd
    obtain ⟨u14, u15, u75, u76, u77, u78, u79, u80, u81, u82, u83, u84, rfl, F0, F1, F2, F3, F4, F5, F6, F7, F8, F9, F10, F11, F12, hx⟩ := hI
    obtain ⟨a, b, d, ds, hr, o1, o2, o3, ol, o5⟩ := F7 (hd 7 (by show 7 < 13; omega))
    obtain ⟨y1, hy1⟩ := F8 (hd 8 (by show 8 < 13; omega))
    obtain ⟨y2, hy2⟩ := F12 (hd 12 (by show 12 < 13; omega))
    obtain ⟨ga, a', b', hp1, ga1, hA0, ha⟩ := F11 (hd 11 (by show 11 < 13; omega))
    clear F0 F1 F2 F3 F4 F5 F6 F7 F8 F9 F10 F11 F12 hd
    subst hr
    simp at hy1 hy2
    obtain ⟨hy1, hz1'⟩ := hy1
    obtain ⟨hz2', hy2⟩ := hy2
    subst hy1 hy2 hz1' hz2'
    simp at ha
    obtain ⟨ha1, ha2⟩ := ha
    subst ha1 ha2 hp1
    exact hK _ _ _ _ _ _ _ _ _ _ _ _ w' ⟨ga, a, b, ds, rfl, ga1, hA0, o1, o2, o3, ol, o5, hx⟩

end Go.Proofs.Ytjlnnnnpdagnpaa
