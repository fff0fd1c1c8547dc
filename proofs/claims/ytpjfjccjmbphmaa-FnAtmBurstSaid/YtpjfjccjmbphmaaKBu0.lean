/-
  One word of a burst: the drawn region of FnAtmBurst's loop (printed by wip/gen_burst.py).
-/
import Derived.Test.YtpjfjccjmbphmaaKCn
import Derived.Test.YtpjfjccjmbphmaaKDq0
import Derived.Test.YtpjfjccjmbphmaaJSa3
set_option linter.unusedVariables false
set_option linter.unusedSimpArgs false
namespace Go.Proofs.Ytpjfjccjmbphmaa
open Go.RowKit
attribute [local go_sem ↓] Go.wp_at_zero Go.wp_at_succ

theorem ReqAt.lt' {w : World} {g : Nat} {id kind addr many : Int} {wp : Bool} {dv lv : Value} (h : ReqAt w g id kind addr many wp dv lv) : g < w.heap.size := World.block_lt_of_cell? w _ h.1
def buA (mv i0 i1 i2 i4 i7 i8 i9 i10 i13 i17 i18 i19 i20 i21 i22 i23 i24 i25 i26 i27 i28 i29 i30 i31 i32 i33 i34 i35 i36 i37 i38 i39 i40 i41 i42 i43 i44 i45 i46 i47 i48 i49 i50 i51 i52 i53 i54 i55 i56 i57 i58 i59 i60 i61 i62 i63 i64 i65 i66 i67 i68 i69 i70 i71 i72 i73 i74 i75 i90 i91 i92 i93 i94 i95 i96 i97 i98 i99 i100 i101 i102 i103 i104 i105 i106 : Value) (who : Int) (gQ gY ub uo xl uc k : Nat) (u15 u16 u76 u77 u78 u79 u80 u81 u82 u83 u84 u85 u86 u87 u88 u89 : Value) : Act := { tmps := #[i0, i1, i2, mv, i4, .int .i64 who, .pointer (some ⟨gQ, 0, none⟩), i7, i8, i9, i10, .slice (some ⟨ub, uo, none⟩) xl uc, .pointer (some ⟨gY, 0, none⟩), i13, .int .i64 (k : Nat), u15, u16, i17, i18, i19, i20, i21, i22, i23, i24, i25, i26, i27, i28, i29, i30, i31, i32, i33, i34, i35, i36, i37, i38, i39, i40, i41, i42, i43, i44, i45, i46, i47, i48, i49, i50, i51, i52, i53, i54, i55, i56, i57, i58, i59, i60, i61, i62, i63, i64, i65, i66, i67, i68, i69, i70, i71, i72, i73, i74, i75, u76, u77, u78, u79, u80, u81, u82, u83, u84, u85, u86, u87, u88, u89, i90, i91, i92, i93, i94, i95, i96, i97, i98, i99, i100, i101, i102, i103, i104, i105, i106], defers := [] }
def buI (mv i0 i1 i2 i4 i7 i8 i9 i10 i13 i17 i18 i19 i20 i21 i22 i23 i24 i25 i26 i27 i28 i29 i30 i31 i32 i33 i34 i35 i36 i37 i38 i39 i40 i41 i42 i43 i44 i45 i46 i47 i48 i49 i50 i51 i52 i53 i54 i55 i56 i57 i58 i59 i60 i61 i62 i63 i64 i65 i66 i67 i68 i69 i70 i71 i72 i73 i74 i75 i90 i91 i92 i93 i94 i95 i96 i97 i98 i99 i100 i101 i102 i103 i104 i105 i106 : Value) (who : Int) (gQ gY ub uo xl uc k : Nat) (av bv dv lv : Value) (ak : Int) (r : Rq) (x : List Int × List Int × Rs) (wq : World) (listed : Array Bool) (a : Act) (w' : World) : Prop :=
  ∃ u15 u16 u76 u77 u78 u79 u80 u81 u82 u83 u84 u85 u86 u87 u88 u89 : Value, a = buA mv i0 i1 i2 i4 i7 i8 i9 i10 i13 i17 i18 i19 i20 i21 i22 i23 i24 i25 i26 i27 i28 i29 i30 i31 i32 i33 i34 i35 i36 i37 i38 i39 i40 i41 i42 i43 i44 i45 i46 i47 i48 i49 i50 i51 i52 i53 i54 i55 i56 i57 i58 i59 i60 i61 i62 i63 i64 i65 i66 i67 i68 i69 i70 i71 i72 i73 i74 i75 i90 i91 i92 i93 i94 i95 i96 i97 i98 i99 i100 i101 i102 i103 i104 i105 i106 who gQ gY ub uo xl uc k u15 u16 u76 u77 u78 u79 u80 u81 u82 u83 u84 u85 u86 u87 u88 u89 ∧
      (listed.getD 0 false = true → u77 = mv) ∧
      (listed.getD 1 false = true → u78 = .agg #[av, bv]) ∧
      (listed.getD 2 false = true → u79 = .int .i64 who) ∧
      (listed.getD 3 false = true → u80 = .agg #[.int .i64 r.id, .int .i64 r.kind, .int .i64 r.addr, .int .i64 r.many, .bool r.wrap, dv, lv]) ∧
      (listed.getD 4 false = true → u81 = .slice (some ⟨ub, uo, none⟩) xl uc) ∧
      (listed.getD 5 false = true → u82 = .int .i64 (k : Nat)) ∧
      (listed.getD 6 false = true → u83 = .pointer (some ⟨ub, uo + k, none⟩)) ∧
      (listed.getD 7 false = true → u84 = .int .i64 ak) ∧
      (listed.getD 8 false = true → u85 = .int .i64 (k : Nat)) ∧
      (listed.getD 9 false = true → listed.getD 10 false = false → ReqV w' (World.heap w').size u86 (oneOf r ak k)) ∧
      (listed.getD 10 false = true → RF wq w' u87 x) ∧
      (listed.getD 11 false = true → RF wq w' u76 x) ∧
      (listed.getD 12 false = true → ∃ y, u76 = .tuple #[u88, y]) ∧
      (listed.getD 13 false = true → ∃ y, u76 = .tuple #[y, u89]) ∧
      (listed.getD 14 false = true → listed.getD 16 false = false → ∃ g, u15 = .pointer (some ⟨g, 0, none⟩) ∧ wq.heap.size ≤ g ∧ BoxA w' g (.slice none 0 0) (.slice none 0 0)) ∧
      (listed.getD 15 false = true → listed.getD 17 false = false → ∃ g, u16 = .pointer (some ⟨g, 0, none⟩) ∧ wq.heap.size ≤ g ∧ BoxR w' g 0 0 (.slice none 0 0)) ∧
      (listed.getD 16 false = true → ∃ g a b, u15 = .pointer (some ⟨g, 0, none⟩) ∧ wq.heap.size ≤ g ∧ BoxA w' g a b ∧ u88 = .agg #[a, b]) ∧
      (listed.getD 17 false = true → ∃ g i c d, u16 = .pointer (some ⟨g, 0, none⟩) ∧ wq.heap.size ≤ g ∧ BoxR w' g i c d ∧ u89 = .agg #[.int .i64 i, .int .i64 c, d]) ∧
      Below wq.heap.size wq w'
noncomputable def buCode : Code := (Try.f10.body.bind (regionIn 16)).getD .skip
/-- Behind the region: z and one lie in new boxes. -/
def BuP (u15 u16 : Value) (x : List Int × List Int × Rs) (wq w' : World) : Prop :=
  ∃ ga gr a b d, u15 = .pointer (some ⟨ga, 0, none⟩) ∧ u16 = .pointer (some ⟨gr, 0, none⟩) ∧ wq.heap.size ≤ ga ∧ wq.heap.size ≤ gr ∧ BoxA w' ga a b ∧ BoxR w' gr x.2.2.id x.2.2.code d ∧ Owns w' wq.heap.size 3 1 rowI a x.1 ∧ Owns w' wq.heap.size 3 1 rowI b x.2.1 ∧ Owns w' wq.heap.size 3 1 rowI d x.2.2.data ∧ Below wq.heap.size wq w'

set_option maxRecDepth 100000 in
set_option maxHeartbeats 16000000 in
theorem bu_region (mv i0 i1 i2 i4 i7 i8 i9 i10 i13 i17 i18 i19 i20 i21 i22 i23 i24 i25 i26 i27 i28 i29 i30 i31 i32 i33 i34 i35 i36 i37 i38 i39 i40 i41 i42 i43 i44 i45 i46 i47 i48 i49 i50 i51 i52 i53 i54 i55 i56 i57 i58 i59 i60 i61 i62 i63 i64 i65 i66 i67 i68 i69 i70 i71 i72 i73 i74 i75 i90 i91 i92 i93 i94 i95 i96 i97 i98 i99 i100 i101 i102 i103 i104 i105 i106 : Value) (ms : List MR) (who : Int) (gQ gY ub uo xl uc k : Nat) (av bv dv lv : Value) (ak : Int) (r : Rq) (wk hk : List Int) (x : List Int × List Int × Rs) (HX : Hid (x = atmDo ms wk hk who (oneOf r ak k))) (wq : World)
    (hY : BoxA wq gY av bv) (hQ : ReqAt wq gQ r.id r.kind r.addr r.many r.wrap dv lv) (hcu : wq.cell? ⟨ub, uo + k, none⟩ = some (.int .i64 ak)) (hub : ub < wq.heap.size) (hkl : k < xl) (hM : Maps wq wq.heap.size mv ms) (hA : Ints wq wq.heap.size av wk) (hB : Ints wq wq.heap.size bv hk) (hD : Ints wq wq.heap.size dv r.data) (hL : Ints wq wq.heap.size lv r.lanes)
    (hI64 : I64 r.id ∧ I64 r.kind) (hA64 : I64 ak) (hDK : r.kind = 2 → k < r.data.length ∧ k < r.lanes.length) (hxl : xl ≤ 4) (i15 i16 i76 i77 i78 i79 i80 i81 i82 i83 i84 i85 i86 i87 i88 i89 : Value) {K : Act → World → Prop} {Q' : Exit → Act → World → Prop}
    (hK : ∀ (u15 u16 u76 u77 u78 u79 u80 u81 u82 u83 u84 u85 u86 u87 u88 u89 : Value) w', BuP u15 u16 x wq w' → K (buA mv i0 i1 i2 i4 i7 i8 i9 i10 i13 i17 i18 i19 i20 i21 i22 i23 i24 i25 i26 i27 i28 i29 i30 i31 i32 i33 i34 i35 i36 i37 i38 i39 i40 i41 i42 i43 i44 i45 i46 i47 i48 i49 i50 i51 i52 i53 i54 i55 i56 i57 i58 i59 i60 i61 i62 i63 i64 i65 i66 i67 i68 i69 i70 i71 i72 i73 i74 i75 i90 i91 i92 i93 i94 i95 i96 i97 i98 i99 i100 i101 i102 i103 i104 i105 i106 who gQ gY ub uo xl uc k u15 u16 u76 u77 u78 u79 u80 u81 u82 u83 u84 u85 u86 u87 u88 u89) w') : buCode.wp Try.prog (Exit.then K Q') (buA mv i0 i1 i2 i4 i7 i8 i9 i10 i13 i17 i18 i19 i20 i21 i22 i23 i24 i25 i26 i27 i28 i29 i30 i31 i32 i33 i34 i35 i36 i37 i38 i39 i40 i41 i42 i43 i44 i45 i46 i47 i48 i49 i50 i51 i52 i53 i54 i55 i56 i57 i58 i59 i60 i61 i62 i63 i64 i65 i66 i67 i68 i69 i70 i71 i72 i73 i74 i75 i90 i91 i92 i93 i94 i95 i96 i97 i98 i99 i100 i101 i102 i103 i104 i105 i106 who gQ gY ub uo xl uc k i15 i16 i76 i77 i78 i79 i80 i81 i82 i83 i84 i85 i86 i87 i88 i89) wq := by
  conv => arg 2; whnf
  refine wp_region_inv2 (buI mv i0 i1 i2 i4 i7 i8 i9 i10 i13 i17 i18 i19 i20 i21 i22 i23 i24 i25 i26 i27 i28 i29 i30 i31 i32 i33 i34 i35 i36 i37 i38 i39 i40 i41 i42 i43 i44 i45 i46 i47 i48 i49 i50 i51 i52 i53 i54 i55 i56 i57 i58 i59 i60 i61 i62 i63 i64 i65 i66 i67 i68 i69 i70 i71 i72 i73 i74 i75 i90 i91 i92 i93 i94 i95 i96 i97 i98 i99 i100 i101 i102 i103 i104 i105 i106 who gQ gY ub uo xl uc k av bv dv lv ak r x wq) (by kernel_rfl) (by kernel_rfl) ?_ ?_ ?_
  · exact ⟨_, _, _, _, _, _, _, _, _, _, _, _, _, _, _, _, rfl, (fun h => absurd h (by rw [getD_replicate_false]; simp)), (fun h => absurd h (by rw [getD_replicate_false]; simp)), (fun h => absurd h (by rw [getD_replicate_false]; simp)), (fun h => absurd h (by rw [getD_replicate_false]; simp)), (fun h => absurd h (by rw [getD_replicate_false]; simp)), (fun h => absurd h (by rw [getD_replicate_false]; simp)), (fun h => absurd h (by rw [getD_replicate_false]; simp)), (fun h => absurd h (by rw [getD_replicate_false]; simp)), (fun h => absurd h (by rw [getD_replicate_false]; simp)), (fun h _ => absurd h (by rw [getD_replicate_false]; simp)), (fun h => absurd h (by rw [getD_replicate_false]; simp)), (fun h => absurd h (by rw [getD_replicate_false]; simp)), (fun h => absurd h (by rw [getD_replicate_false]; simp)), (fun h => absurd h (by rw [getD_replicate_false]; simp)), (fun h _ => absurd h (by rw [getD_replicate_false]; simp)), (fun h _ => absurd h (by rw [getD_replicate_false]; simp)), (fun h => absurd h (by rw [getD_replicate_false]; simp)), (fun h => absurd h (by rw [getD_replicate_false]; simp)), (Below.refl _ _).drew⟩
  · intro listed a w' i o hI hsz ho hl he hcl
    have hi : i < 18 := (Array.getElem?_eq_some_iff.1 ho).1
    have e : i = 0 ∨ i = 1 ∨ i = 2 ∨ i = 3 ∨ i = 4 ∨ i = 5 ∨ i = 6 ∨ i = 7 ∨ i = 8 ∨ i = 9 ∨ i = 10 ∨ i = 11 ∨ i = 12 ∨ i = 13 ∨ i = 14 ∨ i = 15 ∨ i = 16 ∨ i = 17 := by omega
    clear hi
    rcases e with rfl | rfl | rfl | rfl | rfl | rfl | rfl | rfl | rfl | rfl | rfl | rfl | rfl | rfl | rfl | rfl | rfl | rfl
    all_goals (have ho2 := ho; obtain rfl := Option.some.inj ho2.symm; clear ho2)
    · as_aux_lemma =>
        obtain ⟨u15, u16, u76, u77, u78, u79, u80, u81, u82, u83, u84, u85, u86, u87, u88, u89, rfl, F0, F1, F2, F3, F4, F5, F6, F7, F8, F9, F10, F11, F12, F13, F14, F15, F16, F17, hx⟩ := hI
        refine wpOp_stepx ho rfl (fun K hK => ?_)
        unfold buA
        go_simp
        exact hK _ _ ⟨_, _, _, _, _, _, _, _, _, _, _, _, _, _, _, _, rfl, fun _ => rfl, fun hj => (by first | exact (F1 (by rwa [sgx (by decide)] at hj)) | rfl), fun hj => (by first | exact (F2 (by rwa [sgx (by decide)] at hj)) | rfl), fun hj => (by first | exact (F3 (by rwa [sgx (by decide)] at hj)) | rfl), fun hj => (by first | exact (F4 (by rwa [sgx (by decide)] at hj)) | rfl), fun hj => (by first | exact (F5 (by rwa [sgx (by decide)] at hj)) | rfl), fun hj => (by first | exact (F6 (by rwa [sgx (by decide)] at hj)) | rfl), fun hj => (by first | exact (F7 (by rwa [sgx (by decide)] at hj)) | rfl), fun hj => (by first | exact (F8 (by rwa [sgx (by decide)] at hj)) | rfl), fun hj hu => (F9 (by rwa [sgx (by decide)] at hj) (by rwa [sgx (by decide)] at hu)), fun hj => (F10 (by rwa [sgx (by decide)] at hj)), fun hj => (F11 (by rwa [sgx (by decide)] at hj)), fun hj => (F12 (by rwa [sgx (by decide)] at hj)), fun hj => (F13 (by rwa [sgx (by decide)] at hj)), fun hj hu => (F14 (by rwa [sgx (by decide)] at hj) (by rwa [sgx (by decide)] at hu)), fun hj hu => (F15 (by rwa [sgx (by decide)] at hj) (by rwa [sgx (by decide)] at hu)), fun hj => (F16 (by rwa [sgx (by decide)] at hj)), fun hj => (F17 (by rwa [sgx (by decide)] at hj)), hx⟩
    · as_aux_lemma =>
        obtain ⟨u15, u16, u76, u77, u78, u79, u80, u81, u82, u83, u84, u85, u86, u87, u88, u89, rfl, F0, F1, F2, F3, F4, F5, F6, F7, F8, F9, F10, F11, F12, F13, F14, F15, F16, F17, hx⟩ := hI
        obtain ⟨k0, k1, m0, m1⟩ := (hY.below hx hY.lt).cells
        refine wpOp_stepx ho rfl (fun K hK => ?_)
        unfold buA
        go_simp
        exact hK _ _ ⟨_, _, _, _, _, _, _, _, _, _, _, _, _, _, _, _, rfl, fun hj => (by first | exact (F0 (by rwa [sgx (by decide)] at hj)) | rfl), fun _ => rfl, fun hj => (by first | exact (F2 (by rwa [sgx (by decide)] at hj)) | rfl), fun hj => (by first | exact (F3 (by rwa [sgx (by decide)] at hj)) | rfl), fun hj => (by first | exact (F4 (by rwa [sgx (by decide)] at hj)) | rfl), fun hj => (by first | exact (F5 (by rwa [sgx (by decide)] at hj)) | rfl), fun hj => (by first | exact (F6 (by rwa [sgx (by decide)] at hj)) | rfl), fun hj => (by first | exact (F7 (by rwa [sgx (by decide)] at hj)) | rfl), fun hj => (by first | exact (F8 (by rwa [sgx (by decide)] at hj)) | rfl), fun hj hu => (F9 (by rwa [sgx (by decide)] at hj) (by rwa [sgx (by decide)] at hu)), fun hj => (F10 (by rwa [sgx (by decide)] at hj)), fun hj => (F11 (by rwa [sgx (by decide)] at hj)), fun hj => (F12 (by rwa [sgx (by decide)] at hj)), fun hj => (F13 (by rwa [sgx (by decide)] at hj)), fun hj hu => (F14 (by rwa [sgx (by decide)] at hj) (by rwa [sgx (by decide)] at hu)), fun hj hu => (F15 (by rwa [sgx (by decide)] at hj) (by rwa [sgx (by decide)] at hu)), fun hj => (F16 (by rwa [sgx (by decide)] at hj)), fun hj => (F17 (by rwa [sgx (by decide)] at hj)), hx⟩
    · as_aux_lemma =>
        obtain ⟨u15, u16, u76, u77, u78, u79, u80, u81, u82, u83, u84, u85, u86, u87, u88, u89, rfl, F0, F1, F2, F3, F4, F5, F6, F7, F8, F9, F10, F11, F12, F13, F14, F15, F16, F17, hx⟩ := hI
        refine wpOp_stepx ho rfl (fun K hK => ?_)
        unfold buA
        go_simp
        exact hK _ _ ⟨_, _, _, _, _, _, _, _, _, _, _, _, _, _, _, _, rfl, fun hj => (by first | exact (F0 (by rwa [sgx (by decide)] at hj)) | rfl), fun hj => (by first | exact (F1 (by rwa [sgx (by decide)] at hj)) | rfl), fun _ => rfl, fun hj => (by first | exact (F3 (by rwa [sgx (by decide)] at hj)) | rfl), fun hj => (by first | exact (F4 (by rwa [sgx (by decide)] at hj)) | rfl), fun hj => (by first | exact (F5 (by rwa [sgx (by decide)] at hj)) | rfl), fun hj => (by first | exact (F6 (by rwa [sgx (by decide)] at hj)) | rfl), fun hj => (by first | exact (F7 (by rwa [sgx (by decide)] at hj)) | rfl), fun hj => (by first | exact (F8 (by rwa [sgx (by decide)] at hj)) | rfl), fun hj hu => (F9 (by rwa [sgx (by decide)] at hj) (by rwa [sgx (by decide)] at hu)), fun hj => (F10 (by rwa [sgx (by decide)] at hj)), fun hj => (F11 (by rwa [sgx (by decide)] at hj)), fun hj => (F12 (by rwa [sgx (by decide)] at hj)), fun hj => (F13 (by rwa [sgx (by decide)] at hj)), fun hj hu => (F14 (by rwa [sgx (by decide)] at hj) (by rwa [sgx (by decide)] at hu)), fun hj hu => (F15 (by rwa [sgx (by decide)] at hj) (by rwa [sgx (by decide)] at hu)), fun hj => (F16 (by rwa [sgx (by decide)] at hj)), fun hj => (F17 (by rwa [sgx (by decide)] at hj)), hx⟩
    · as_aux_lemma =>
        obtain ⟨u15, u16, u76, u77, u78, u79, u80, u81, u82, u83, u84, u85, u86, u87, u88, u89, rfl, F0, F1, F2, F3, F4, F5, F6, F7, F8, F9, F10, F11, F12, F13, F14, F15, F16, F17, hx⟩ := hI
        obtain ⟨f0, f1, f2, f3, f4, f5, f6⟩ := hQ.below hx hQ.lt
        refine wpOp_stepx ho rfl (fun K hK => ?_)
        unfold buA
        go_simp
        exact hK _ _ ⟨_, _, _, _, _, _, _, _, _, _, _, _, _, _, _, _, rfl, fun hj => (by first | exact (F0 (by rwa [sgx (by decide)] at hj)) | rfl), fun hj => (by first | exact (F1 (by rwa [sgx (by decide)] at hj)) | rfl), fun hj => (by first | exact (F2 (by rwa [sgx (by decide)] at hj)) | rfl), fun _ => rfl, fun hj => (by first | exact (F4 (by rwa [sgx (by decide)] at hj)) | rfl), fun hj => (by first | exact (F5 (by rwa [sgx (by decide)] at hj)) | rfl), fun hj => (by first | exact (F6 (by rwa [sgx (by decide)] at hj)) | rfl), fun hj => (by first | exact (F7 (by rwa [sgx (by decide)] at hj)) | rfl), fun hj => (by first | exact (F8 (by rwa [sgx (by decide)] at hj)) | rfl), fun hj hu => (F9 (by rwa [sgx (by decide)] at hj) (by rwa [sgx (by decide)] at hu)), fun hj => (F10 (by rwa [sgx (by decide)] at hj)), fun hj => (F11 (by rwa [sgx (by decide)] at hj)), fun hj => (F12 (by rwa [sgx (by decide)] at hj)), fun hj => (F13 (by rwa [sgx (by decide)] at hj)), fun hj hu => (F14 (by rwa [sgx (by decide)] at hj) (by rwa [sgx (by decide)] at hu)), fun hj hu => (F15 (by rwa [sgx (by decide)] at hj) (by rwa [sgx (by decide)] at hu)), fun hj => (F16 (by rwa [sgx (by decide)] at hj)), fun hj => (F17 (by rwa [sgx (by decide)] at hj)), hx⟩
    · as_aux_lemma =>
        obtain ⟨u15, u16, u76, u77, u78, u79, u80, u81, u82, u83, u84, u85, u86, u87, u88, u89, rfl, F0, F1, F2, F3, F4, F5, F6, F7, F8, F9, F10, F11, F12, F13, F14, F15, F16, F17, hx⟩ := hI
        refine wpOp_stepx ho rfl (fun K hK => ?_)
        unfold buA
        go_simp
        exact hK _ _ ⟨_, _, _, _, _, _, _, _, _, _, _, _, _, _, _, _, rfl, fun hj => (by first | exact (F0 (by rwa [sgx (by decide)] at hj)) | rfl), fun hj => (by first | exact (F1 (by rwa [sgx (by decide)] at hj)) | rfl), fun hj => (by first | exact (F2 (by rwa [sgx (by decide)] at hj)) | rfl), fun hj => (by first | exact (F3 (by rwa [sgx (by decide)] at hj)) | rfl), fun _ => rfl, fun hj => (by first | exact (F5 (by rwa [sgx (by decide)] at hj)) | rfl), fun hj => (by first | exact (F6 (by rwa [sgx (by decide)] at hj)) | rfl), fun hj => (by first | exact (F7 (by rwa [sgx (by decide)] at hj)) | rfl), fun hj => (by first | exact (F8 (by rwa [sgx (by decide)] at hj)) | rfl), fun hj hu => (F9 (by rwa [sgx (by decide)] at hj) (by rwa [sgx (by decide)] at hu)), fun hj => (F10 (by rwa [sgx (by decide)] at hj)), fun hj => (F11 (by rwa [sgx (by decide)] at hj)), fun hj => (F12 (by rwa [sgx (by decide)] at hj)), fun hj => (F13 (by rwa [sgx (by decide)] at hj)), fun hj hu => (F14 (by rwa [sgx (by decide)] at hj) (by rwa [sgx (by decide)] at hu)), fun hj hu => (F15 (by rwa [sgx (by decide)] at hj) (by rwa [sgx (by decide)] at hu)), fun hj => (F16 (by rwa [sgx (by decide)] at hj)), fun hj => (F17 (by rwa [sgx (by decide)] at hj)), hx⟩
    · as_aux_lemma =>
        obtain ⟨u15, u16, u76, u77, u78, u79, u80, u81, u82, u83, u84, u85, u86, u87, u88, u89, rfl, F0, F1, F2, F3, F4, F5, F6, F7, F8, F9, F10, F11, F12, F13, F14, F15, F16, F17, hx⟩ := hI
        refine wpOp_stepx ho rfl (fun K hK => ?_)
        unfold buA
        go_simp
        exact hK _ _ ⟨_, _, _, _, _, _, _, _, _, _, _, _, _, _, _, _, rfl, fun hj => (by first | exact (F0 (by rwa [sgx (by decide)] at hj)) | rfl), fun hj => (by first | exact (F1 (by rwa [sgx (by decide)] at hj)) | rfl), fun hj => (by first | exact (F2 (by rwa [sgx (by decide)] at hj)) | rfl), fun hj => (by first | exact (F3 (by rwa [sgx (by decide)] at hj)) | rfl), fun hj => (by first | exact (F4 (by rwa [sgx (by decide)] at hj)) | rfl), fun _ => rfl, fun hj => (by first | exact (F6 (by rwa [sgx (by decide)] at hj)) | rfl), fun hj => (by first | exact (F7 (by rwa [sgx (by decide)] at hj)) | rfl), fun hj => (by first | exact (F8 (by rwa [sgx (by decide)] at hj)) | rfl), fun hj hu => (F9 (by rwa [sgx (by decide)] at hj) (by rwa [sgx (by decide)] at hu)), fun hj => (F10 (by rwa [sgx (by decide)] at hj)), fun hj => (F11 (by rwa [sgx (by decide)] at hj)), fun hj => (F12 (by rwa [sgx (by decide)] at hj)), fun hj => (F13 (by rwa [sgx (by decide)] at hj)), fun hj hu => (F14 (by rwa [sgx (by decide)] at hj) (by rwa [sgx (by decide)] at hu)), fun hj hu => (F15 (by rwa [sgx (by decide)] at hj) (by rwa [sgx (by decide)] at hu)), fun hj => (F16 (by rwa [sgx (by decide)] at hj)), fun hj => (F17 (by rwa [sgx (by decide)] at hj)), hx⟩
    · as_aux_lemma =>
        obtain ⟨u15, u16, u76, u77, u78, u79, u80, u81, u82, u83, u84, u85, u86, u87, u88, u89, rfl, F0, F1, F2, F3, F4, F5, F6, F7, F8, F9, F10, F11, F12, F13, F14, F15, F16, F17, hx⟩ := hI
        have l4 := he ⟨4, .data⟩ (by simp) rfl
        have l5 := he ⟨5, .data⟩ (by simp) rfl
        have e := F4 l4; subst e
        have e := F5 l5; subst e
        have hkx := hkl
        refine wpOp_stepx ho rfl (fun K hK => ?_)
        unfold buA
        go_simp
        exact hK _ _ ⟨_, _, _, _, _, _, _, _, _, _, _, _, _, _, _, _, rfl, fun hj => (by first | exact (F0 (by rwa [sgx (by decide)] at hj)) | rfl), fun hj => (by first | exact (F1 (by rwa [sgx (by decide)] at hj)) | rfl), fun hj => (by first | exact (F2 (by rwa [sgx (by decide)] at hj)) | rfl), fun hj => (by first | exact (F3 (by rwa [sgx (by decide)] at hj)) | rfl), fun hj => (by first | exact (F4 (by rwa [sgx (by decide)] at hj)) | rfl), fun hj => (by first | exact (F5 (by rwa [sgx (by decide)] at hj)) | rfl), fun _ => rfl, fun hj => (by first | exact (F7 (by rwa [sgx (by decide)] at hj)) | rfl), fun hj => (by first | exact (F8 (by rwa [sgx (by decide)] at hj)) | rfl), fun hj hu => (F9 (by rwa [sgx (by decide)] at hj) (by rwa [sgx (by decide)] at hu)), fun hj => (F10 (by rwa [sgx (by decide)] at hj)), fun hj => (F11 (by rwa [sgx (by decide)] at hj)), fun hj => (F12 (by rwa [sgx (by decide)] at hj)), fun hj => (F13 (by rwa [sgx (by decide)] at hj)), fun hj hu => (F14 (by rwa [sgx (by decide)] at hj) (by rwa [sgx (by decide)] at hu)), fun hj hu => (F15 (by rwa [sgx (by decide)] at hj) (by rwa [sgx (by decide)] at hu)), fun hj => (F16 (by rwa [sgx (by decide)] at hj)), fun hj => (F17 (by rwa [sgx (by decide)] at hj)), hx⟩
    · as_aux_lemma =>
        obtain ⟨u15, u16, u76, u77, u78, u79, u80, u81, u82, u83, u84, u85, u86, u87, u88, u89, rfl, F0, F1, F2, F3, F4, F5, F6, F7, F8, F9, F10, F11, F12, F13, F14, F15, F16, F17, hx⟩ := hI
        have l6 := he ⟨6, .data⟩ (by simp) rfl
        have e := F6 l6; subst e
        have cu := (hx.cell (p := ⟨ub, uo + k, none⟩) hub).trans hcu
        refine wpOp_stepx ho rfl (fun K hK => ?_)
        unfold buA
        go_simp
        exact hK _ _ ⟨_, _, _, _, _, _, _, _, _, _, _, _, _, _, _, _, rfl, fun hj => (by first | exact (F0 (by rwa [sgx (by decide)] at hj)) | rfl), fun hj => (by first | exact (F1 (by rwa [sgx (by decide)] at hj)) | rfl), fun hj => (by first | exact (F2 (by rwa [sgx (by decide)] at hj)) | rfl), fun hj => (by first | exact (F3 (by rwa [sgx (by decide)] at hj)) | rfl), fun hj => (by first | exact (F4 (by rwa [sgx (by decide)] at hj)) | rfl), fun hj => (by first | exact (F5 (by rwa [sgx (by decide)] at hj)) | rfl), fun hj => (by first | exact (F6 (by rwa [sgx (by decide)] at hj)) | rfl), fun _ => rfl, fun hj => (by first | exact (F8 (by rwa [sgx (by decide)] at hj)) | rfl), fun hj hu => (F9 (by rwa [sgx (by decide)] at hj) (by rwa [sgx (by decide)] at hu)), fun hj => (F10 (by rwa [sgx (by decide)] at hj)), fun hj => (F11 (by rwa [sgx (by decide)] at hj)), fun hj => (F12 (by rwa [sgx (by decide)] at hj)), fun hj => (F13 (by rwa [sgx (by decide)] at hj)), fun hj hu => (F14 (by rwa [sgx (by decide)] at hj) (by rwa [sgx (by decide)] at hu)), fun hj hu => (F15 (by rwa [sgx (by decide)] at hj) (by rwa [sgx (by decide)] at hu)), fun hj => (F16 (by rwa [sgx (by decide)] at hj)), fun hj => (F17 (by rwa [sgx (by decide)] at hj)), hx⟩
    · as_aux_lemma =>
        obtain ⟨u15, u16, u76, u77, u78, u79, u80, u81, u82, u83, u84, u85, u86, u87, u88, u89, rfl, F0, F1, F2, F3, F4, F5, F6, F7, F8, F9, F10, F11, F12, F13, F14, F15, F16, F17, hx⟩ := hI
        refine wpOp_stepx ho rfl (fun K hK => ?_)
        unfold buA
        go_simp
        exact hK _ _ ⟨_, _, _, _, _, _, _, _, _, _, _, _, _, _, _, _, rfl, fun hj => (by first | exact (F0 (by rwa [sgx (by decide)] at hj)) | rfl), fun hj => (by first | exact (F1 (by rwa [sgx (by decide)] at hj)) | rfl), fun hj => (by first | exact (F2 (by rwa [sgx (by decide)] at hj)) | rfl), fun hj => (by first | exact (F3 (by rwa [sgx (by decide)] at hj)) | rfl), fun hj => (by first | exact (F4 (by rwa [sgx (by decide)] at hj)) | rfl), fun hj => (by first | exact (F5 (by rwa [sgx (by decide)] at hj)) | rfl), fun hj => (by first | exact (F6 (by rwa [sgx (by decide)] at hj)) | rfl), fun hj => (by first | exact (F7 (by rwa [sgx (by decide)] at hj)) | rfl), fun _ => rfl, fun hj hu => (F9 (by rwa [sgx (by decide)] at hj) (by rwa [sgx (by decide)] at hu)), fun hj => (F10 (by rwa [sgx (by decide)] at hj)), fun hj => (F11 (by rwa [sgx (by decide)] at hj)), fun hj => (F12 (by rwa [sgx (by decide)] at hj)), fun hj => (F13 (by rwa [sgx (by decide)] at hj)), fun hj hu => (F14 (by rwa [sgx (by decide)] at hj) (by rwa [sgx (by decide)] at hu)), fun hj hu => (F15 (by rwa [sgx (by decide)] at hj) (by rwa [sgx (by decide)] at hu)), fun hj => (F16 (by rwa [sgx (by decide)] at hj)), fun hj => (F17 (by rwa [sgx (by decide)] at hj)), hx⟩
    · as_aux_lemma =>
        obtain ⟨u15, u16, u76, u77, u78, u79, u80, u81, u82, u83, u84, u85, u86, u87, u88, u89, rfl, F0, F1, F2, F3, F4, F5, F6, F7, F8, F9, F10, F11, F12, F13, F14, F15, F16, F17, hx⟩ := hI
        have l3 := he ⟨3, .data⟩ (by simp) rfl
        have l7 := he ⟨7, .data⟩ (by simp) rfl
        have l8 := he ⟨8, .data⟩ (by simp) rfl
        have e := F3 l3; subst e
        have e := F7 l7; subst e
        have e := F8 l8; subst e
        refine wpOp_stepx ho rfl (fun K hK => ?_)
        unfold buA
        go_simp
        (with_reducible refine (crOne_any dv lv r ak k wq.heap.size w' (hD.below hx) (hL.below hx) hx.size hI64 hA64 hDK).mono ?_)
        rintro e w'' ⟨v1, rfl, hrv, hb1⟩
        go_wp2_with fail
        exact ⟨_, _, _, _, _, _, _, _, _, _, _, _, _, _, _, _, rfl, fun hj => (by first | exact (F0 (by rwa [sgx (by decide)] at hj)) | rfl), fun hj => (by first | exact (F1 (by rwa [sgx (by decide)] at hj)) | rfl), fun hj => (by first | exact (F2 (by rwa [sgx (by decide)] at hj)) | rfl), fun hj => (by first | exact (F3 (by rwa [sgx (by decide)] at hj)) | rfl), fun hj => (by first | exact (F4 (by rwa [sgx (by decide)] at hj)) | rfl), fun hj => (by first | exact (F5 (by rwa [sgx (by decide)] at hj)) | rfl), fun hj => (by first | exact (F6 (by rwa [sgx (by decide)] at hj)) | rfl), fun hj => (by first | exact (F7 (by rwa [sgx (by decide)] at hj)) | rfl), fun hj => (by first | exact (F8 (by rwa [sgx (by decide)] at hj)) | rfl), fun _ _ => hrv, fun hj => absurd (hcl 10 _ rfl (by rwa [sgx (by decide)] at hj) ⟨9, .data⟩ (by simp) rfl) (by rw [getD_both hl]; simp), fun hj => absurd (hcl 10 _ rfl (hcl 11 _ rfl (by rwa [sgx (by decide)] at hj) ⟨10, .data⟩ (by simp) rfl) ⟨9, .data⟩ (by simp) rfl) (by rw [getD_both hl]; simp), fun hj => (F12 (by rwa [sgx (by decide)] at hj)), fun hj => (F13 (by rwa [sgx (by decide)] at hj)), fun hj hu => (let ⟨g, e1, e2, e3⟩ := (F14 (by rwa [sgx (by decide)] at hj) (by rwa [sgx (by decide)] at hu)); ⟨g, e1, e2, e3.below hb1 e3.lt⟩), fun hj hu => (let ⟨g, e1, e2, e3⟩ := (F15 (by rwa [sgx (by decide)] at hj) (by rwa [sgx (by decide)] at hu)); ⟨g, e1, e2, e3.below hb1 e3.lt⟩), fun hj => absurd (hcl 16 _ rfl (by rwa [sgx (by decide)] at hj) ⟨9, .phase⟩ (by simp) rfl) (by rw [getD_both hl]; simp), fun hj => absurd (hcl 17 _ rfl (by rwa [sgx (by decide)] at hj) ⟨9, .phase⟩ (by simp) rfl) (by rw [getD_both hl]; simp), hx.trans (hb1.mono hx.size)⟩
    · as_aux_lemma =>
        obtain ⟨u15, u16, u76, u77, u78, u79, u80, u81, u82, u83, u84, u85, u86, u87, u88, u89, rfl, F0, F1, F2, F3, F4, F5, F6, F7, F8, F9, F10, F11, F12, F13, F14, F15, F16, F17, hx⟩ := hI
        have l0 := he ⟨0, .data⟩ (by simp) rfl
        have l1 := he ⟨1, .data⟩ (by simp) rfl
        have l2 := he ⟨2, .data⟩ (by simp) rfl
        have l9 := he ⟨9, .data⟩ (by simp) rfl
        have e := F0 l0; subst e
        have e := F1 l1; subst e
        have e := F2 l2; subst e
        have hrv := F9 l9 (getD_both hl)
        refine wpOp_stepx ho rfl (fun K hK => ?_)
        unfold buA
        go_simp
        (with_reducible refine (implAtmDo_any _ _ _ ms w'.heap.size wk hk who (oneOf r ak k) w' ((hM.below hx).mono hx.size) (atmV_of ((hA.below hx).mono hx.size) ((hB.below hx).mono hx.size)) hrv (Nat.le_refl _)).mono ?_)
        rw [← HX.out]
        rintro e w'' ⟨a1, b1, d1, rfl, o1, o2, o3, oa, _, _, hb1⟩
        go_wp2_with fail
        exact ⟨_, _, _, _, _, _, _, _, _, _, _, _, _, _, _, _, rfl, fun hj => (by first | exact (F0 (by rwa [sgx (by decide)] at hj)) | rfl), fun hj => (by first | exact (F1 (by rwa [sgx (by decide)] at hj)) | rfl), fun hj => (by first | exact (F2 (by rwa [sgx (by decide)] at hj)) | rfl), fun hj => (by first | exact (F3 (by rwa [sgx (by decide)] at hj)) | rfl), fun hj => (by first | exact (F4 (by rwa [sgx (by decide)] at hj)) | rfl), fun hj => (by first | exact (F5 (by rwa [sgx (by decide)] at hj)) | rfl), fun hj => (by first | exact (F6 (by rwa [sgx (by decide)] at hj)) | rfl), fun hj => (by first | exact (F7 (by rwa [sgx (by decide)] at hj)) | rfl), fun hj => (by first | exact (F8 (by rwa [sgx (by decide)] at hj)) | rfl), fun _ hu => absurd hu (by rw [sgix hl]; simp), fun _ => ⟨a1, b1, d1, rfl, o1.rebase hx.size, o2.rebase hx.size, o3.rebase hx.size, oa⟩, fun hj => absurd (hcl 11 _ rfl (by rwa [sgx (by decide)] at hj) ⟨10, .data⟩ (by simp) rfl) (by rw [getD_both hl]; simp), fun hj => (F12 (by rwa [sgx (by decide)] at hj)), fun hj => (F13 (by rwa [sgx (by decide)] at hj)), fun hj hu => (let ⟨g, e1, e2, e3⟩ := (F14 (by rwa [sgx (by decide)] at hj) (by rwa [sgx (by decide)] at hu)); ⟨g, e1, e2, e3.below hb1 e3.lt⟩), fun hj hu => (let ⟨g, e1, e2, e3⟩ := (F15 (by rwa [sgx (by decide)] at hj) (by rwa [sgx (by decide)] at hu)); ⟨g, e1, e2, e3.below hb1 e3.lt⟩), fun hj => absurd (hcl 16 _ rfl (by rwa [sgx (by decide)] at hj) ⟨10, .chain⟩ (by simp) rfl) (by rw [getD_both hl]; simp), fun hj => absurd (hcl 17 _ rfl (by rwa [sgx (by decide)] at hj) ⟨10, .phase⟩ (by simp) rfl) (by rw [getD_both hl]; simp), hx.trans (hb1.mono hx.size)⟩
    · as_aux_lemma =>
        obtain ⟨u15, u16, u76, u77, u78, u79, u80, u81, u82, u83, u84, u85, u86, u87, u88, u89, rfl, F0, F1, F2, F3, F4, F5, F6, F7, F8, F9, F10, F11, F12, F13, F14, F15, F16, F17, hx⟩ := hI
        have l10 := he ⟨10, .data⟩ (by simp) rfl
        have l := F10 l10
        refine wpOp_stepx ho rfl (fun K hK => ?_)
        unfold buA
        go_simp
        exact hK _ _ ⟨_, _, _, _, _, _, _, _, _, _, _, _, _, _, _, _, rfl, fun hj => (by first | exact (F0 (by rwa [sgx (by decide)] at hj)) | rfl), fun hj => (by first | exact (F1 (by rwa [sgx (by decide)] at hj)) | rfl), fun hj => (by first | exact (F2 (by rwa [sgx (by decide)] at hj)) | rfl), fun hj => (by first | exact (F3 (by rwa [sgx (by decide)] at hj)) | rfl), fun hj => (by first | exact (F4 (by rwa [sgx (by decide)] at hj)) | rfl), fun hj => (by first | exact (F5 (by rwa [sgx (by decide)] at hj)) | rfl), fun hj => (by first | exact (F6 (by rwa [sgx (by decide)] at hj)) | rfl), fun hj => (by first | exact (F7 (by rwa [sgx (by decide)] at hj)) | rfl), fun hj => (by first | exact (F8 (by rwa [sgx (by decide)] at hj)) | rfl), fun hj hu => (F9 (by rwa [sgx (by decide)] at hj) (by rwa [sgx (by decide)] at hu)), fun hj => (F10 (by rwa [sgx (by decide)] at hj)), fun _ => l, fun hj => absurd (hcl 12 _ rfl (by rwa [sgx (by decide)] at hj) ⟨11, .data⟩ (by simp) rfl) (by rw [getD_both hl]; simp), fun hj => absurd (hcl 13 _ rfl (by rwa [sgx (by decide)] at hj) ⟨11, .data⟩ (by simp) rfl) (by rw [getD_both hl]; simp), fun hj hu => (F14 (by rwa [sgx (by decide)] at hj) (by rwa [sgx (by decide)] at hu)), fun hj hu => (F15 (by rwa [sgx (by decide)] at hj) (by rwa [sgx (by decide)] at hu)), fun hj => (F16 (by rwa [sgx (by decide)] at hj)), fun hj => (F17 (by rwa [sgx (by decide)] at hj)), hx⟩
    · as_aux_lemma =>
        obtain ⟨u15, u16, u76, u77, u78, u79, u80, u81, u82, u83, u84, u85, u86, u87, u88, u89, rfl, F0, F1, F2, F3, F4, F5, F6, F7, F8, F9, F10, F11, F12, F13, F14, F15, F16, F17, hx⟩ := hI
        have l11 := he ⟨11, .data⟩ (by simp) rfl
        obtain ⟨a, b, d, rfl, o1, o2, o3, oa⟩ := F11 l11
        refine wpOp_stepx ho rfl (fun K hK => ?_)
        unfold buA
        go_simp
        exact hK _ _ ⟨_, _, _, _, _, _, _, _, _, _, _, _, _, _, _, _, rfl, fun hj => (by first | exact (F0 (by rwa [sgx (by decide)] at hj)) | rfl), fun hj => (by first | exact (F1 (by rwa [sgx (by decide)] at hj)) | rfl), fun hj => (by first | exact (F2 (by rwa [sgx (by decide)] at hj)) | rfl), fun hj => (by first | exact (F3 (by rwa [sgx (by decide)] at hj)) | rfl), fun hj => (by first | exact (F4 (by rwa [sgx (by decide)] at hj)) | rfl), fun hj => (by first | exact (F5 (by rwa [sgx (by decide)] at hj)) | rfl), fun hj => (by first | exact (F6 (by rwa [sgx (by decide)] at hj)) | rfl), fun hj => (by first | exact (F7 (by rwa [sgx (by decide)] at hj)) | rfl), fun hj => (by first | exact (F8 (by rwa [sgx (by decide)] at hj)) | rfl), fun hj hu => (F9 (by rwa [sgx (by decide)] at hj) (by rwa [sgx (by decide)] at hu)), fun hj => (F10 (by rwa [sgx (by decide)] at hj)), fun hj => ⟨a, b, d, rfl, o1, o2, o3, oa⟩, fun _ => ⟨_, rfl⟩, fun hj => (F13 (by rwa [sgx (by decide)] at hj)), fun hj hu => (F14 (by rwa [sgx (by decide)] at hj) (by rwa [sgx (by decide)] at hu)), fun hj hu => (F15 (by rwa [sgx (by decide)] at hj) (by rwa [sgx (by decide)] at hu)), fun hj => absurd (hcl 16 _ rfl (by rwa [sgx (by decide)] at hj) ⟨12, .data⟩ (by simp) rfl) (by rw [getD_both hl]; simp), fun hj => (F17 (by rwa [sgx (by decide)] at hj)), hx⟩
    · as_aux_lemma =>
        obtain ⟨u15, u16, u76, u77, u78, u79, u80, u81, u82, u83, u84, u85, u86, u87, u88, u89, rfl, F0, F1, F2, F3, F4, F5, F6, F7, F8, F9, F10, F11, F12, F13, F14, F15, F16, F17, hx⟩ := hI
        have l11 := he ⟨11, .data⟩ (by simp) rfl
        obtain ⟨a, b, d, rfl, o1, o2, o3, oa⟩ := F11 l11
        refine wpOp_stepx ho rfl (fun K hK => ?_)
        unfold buA
        go_simp
        exact hK _ _ ⟨_, _, _, _, _, _, _, _, _, _, _, _, _, _, _, _, rfl, fun hj => (by first | exact (F0 (by rwa [sgx (by decide)] at hj)) | rfl), fun hj => (by first | exact (F1 (by rwa [sgx (by decide)] at hj)) | rfl), fun hj => (by first | exact (F2 (by rwa [sgx (by decide)] at hj)) | rfl), fun hj => (by first | exact (F3 (by rwa [sgx (by decide)] at hj)) | rfl), fun hj => (by first | exact (F4 (by rwa [sgx (by decide)] at hj)) | rfl), fun hj => (by first | exact (F5 (by rwa [sgx (by decide)] at hj)) | rfl), fun hj => (by first | exact (F6 (by rwa [sgx (by decide)] at hj)) | rfl), fun hj => (by first | exact (F7 (by rwa [sgx (by decide)] at hj)) | rfl), fun hj => (by first | exact (F8 (by rwa [sgx (by decide)] at hj)) | rfl), fun hj hu => (F9 (by rwa [sgx (by decide)] at hj) (by rwa [sgx (by decide)] at hu)), fun hj => (F10 (by rwa [sgx (by decide)] at hj)), fun hj => ⟨a, b, d, rfl, o1, o2, o3, oa⟩, fun hj => (F12 (by rwa [sgx (by decide)] at hj)), fun _ => ⟨_, rfl⟩, fun hj hu => (F14 (by rwa [sgx (by decide)] at hj) (by rwa [sgx (by decide)] at hu)), fun hj hu => (F15 (by rwa [sgx (by decide)] at hj) (by rwa [sgx (by decide)] at hu)), fun hj => (F16 (by rwa [sgx (by decide)] at hj)), fun hj => absurd (hcl 17 _ rfl (by rwa [sgx (by decide)] at hj) ⟨13, .data⟩ (by simp) rfl) (by rw [getD_both hl]; simp), hx⟩
    · as_aux_lemma =>
        obtain ⟨u15, u16, u76, u77, u78, u79, u80, u81, u82, u83, u84, u85, u86, u87, u88, u89, rfl, F0, F1, F2, F3, F4, F5, F6, F7, F8, F9, F10, F11, F12, F13, F14, F15, F16, F17, hx⟩ := hI
        refine wpOp_stepx ho rfl (fun K hK => ?_)
        unfold buA
        have hb1 : Below w'.heap.size w' (w'.alloc (.cells #[.slice none 0 0, .slice none 0 0] 28)) := (Below.refl _ _).alloc (Nat.le_refl _) _
        go_simp
        exact hK _ _ ⟨_, _, _, _, _, _, _, _, _, _, _, _, _, _, _, _, rfl, fun hj => (by first | exact (F0 (by rwa [sgx (by decide)] at hj)) | rfl), fun hj => (by first | exact (F1 (by rwa [sgx (by decide)] at hj)) | rfl), fun hj => (by first | exact (F2 (by rwa [sgx (by decide)] at hj)) | rfl), fun hj => (by first | exact (F3 (by rwa [sgx (by decide)] at hj)) | rfl), fun hj => (by first | exact (F4 (by rwa [sgx (by decide)] at hj)) | rfl), fun hj => (by first | exact (F5 (by rwa [sgx (by decide)] at hj)) | rfl), fun hj => (by first | exact (F6 (by rwa [sgx (by decide)] at hj)) | rfl), fun hj => (by first | exact (F7 (by rwa [sgx (by decide)] at hj)) | rfl), fun hj => (by first | exact (F8 (by rwa [sgx (by decide)] at hj)) | rfl), fun hj hu => ((F9 (by rwa [sgx (by decide)] at hj) (by rwa [sgx (by decide)] at hu)).below hb1).mono hb1.size, fun hj => (F10 (by rwa [sgx (by decide)] at hj)).below hb1, fun hj => (F11 (by rwa [sgx (by decide)] at hj)).below hb1, fun hj => (F12 (by rwa [sgx (by decide)] at hj)), fun hj => (F13 (by rwa [sgx (by decide)] at hj)), fun _ _ => ⟨_, rfl, hx.size, BoxA.new _ _ _⟩, fun hj hu => (let ⟨g, e1, e2, e3⟩ := (F15 (by rwa [sgx (by decide)] at hj) (by rwa [sgx (by decide)] at hu)); ⟨g, e1, e2, e3.below hb1 e3.lt⟩), fun hj => absurd (hcl 16 _ rfl (by rwa [sgx (by decide)] at hj) ⟨14, .data⟩ (by simp) rfl) (by rw [getD_both hl]; simp), fun hj => (let ⟨g, a, b, c, e1, e2, e3, e4⟩ := (F17 (by rwa [sgx (by decide)] at hj)); ⟨g, a, b, c, e1, e2, e3.below hb1 e3.lt, e4⟩), hx.trans (hb1.mono hx.size)⟩
    · as_aux_lemma =>
        obtain ⟨u15, u16, u76, u77, u78, u79, u80, u81, u82, u83, u84, u85, u86, u87, u88, u89, rfl, F0, F1, F2, F3, F4, F5, F6, F7, F8, F9, F10, F11, F12, F13, F14, F15, F16, F17, hx⟩ := hI
        refine wpOp_stepx ho rfl (fun K hK => ?_)
        unfold buA
        have hb1 : Below w'.heap.size w' (w'.alloc (.cells #[.int .i64 0, .int .i64 0, .slice none 0 0] 42)) := (Below.refl _ _).alloc (Nat.le_refl _) _
        go_simp
        exact hK _ _ ⟨_, _, _, _, _, _, _, _, _, _, _, _, _, _, _, _, rfl, fun hj => (by first | exact (F0 (by rwa [sgx (by decide)] at hj)) | rfl), fun hj => (by first | exact (F1 (by rwa [sgx (by decide)] at hj)) | rfl), fun hj => (by first | exact (F2 (by rwa [sgx (by decide)] at hj)) | rfl), fun hj => (by first | exact (F3 (by rwa [sgx (by decide)] at hj)) | rfl), fun hj => (by first | exact (F4 (by rwa [sgx (by decide)] at hj)) | rfl), fun hj => (by first | exact (F5 (by rwa [sgx (by decide)] at hj)) | rfl), fun hj => (by first | exact (F6 (by rwa [sgx (by decide)] at hj)) | rfl), fun hj => (by first | exact (F7 (by rwa [sgx (by decide)] at hj)) | rfl), fun hj => (by first | exact (F8 (by rwa [sgx (by decide)] at hj)) | rfl), fun hj hu => ((F9 (by rwa [sgx (by decide)] at hj) (by rwa [sgx (by decide)] at hu)).below hb1).mono hb1.size, fun hj => (F10 (by rwa [sgx (by decide)] at hj)).below hb1, fun hj => (F11 (by rwa [sgx (by decide)] at hj)).below hb1, fun hj => (F12 (by rwa [sgx (by decide)] at hj)), fun hj => (F13 (by rwa [sgx (by decide)] at hj)), fun hj hu => (let ⟨g, e1, e2, e3⟩ := (F14 (by rwa [sgx (by decide)] at hj) (by rwa [sgx (by decide)] at hu)); ⟨g, e1, e2, e3.below hb1 e3.lt⟩), fun _ _ => ⟨_, rfl, hx.size, BoxR.new _ _ _ _⟩, fun hj => (let ⟨g, a, b, e1, e2, e3, e4⟩ := (F16 (by rwa [sgx (by decide)] at hj)); ⟨g, a, b, e1, e2, e3.below hb1 e3.lt, e4⟩), fun hj => absurd (hcl 17 _ rfl (by rwa [sgx (by decide)] at hj) ⟨15, .data⟩ (by simp) rfl) (by rw [getD_both hl]; simp), hx.trans (hb1.mono hx.size)⟩
    · as_aux_lemma =>
        obtain ⟨u15, u16, u76, u77, u78, u79, u80, u81, u82, u83, u84, u85, u86, u87, u88, u89, rfl, F0, F1, F2, F3, F4, F5, F6, F7, F8, F9, F10, F11, F12, F13, F14, F15, F16, F17, hx⟩ := hI
        have l14 := he ⟨14, .data⟩ (by simp) rfl
        have l12 := he ⟨12, .data⟩ (by simp) rfl
        have l11 := he ⟨11, .phase⟩ (by simp) rfl
        obtain ⟨g, rfl, g1, hAA⟩ := F14 l14 (getD_both hl)
        obtain ⟨y, hy⟩ := F12 l12
        obtain ⟨a, b, d, rfl, o1, o2, o3, oa⟩ := F11 l11
        simp at hy
        obtain ⟨rfl, rfl⟩ := hy
        obtain ⟨qa, qc, rfl, _, _⟩ := o1.shape
        obtain ⟨ra, rc, rfl, _, _⟩ := o2.shape
        obtain ⟨k0, k1, m0, m1⟩ := hAA.cells
        refine wpOp_stepx ho rfl (fun K hK => ?_)
        unfold buA
        have ht := touchA g w' (.slice qa x.1.length qc) (.slice ra x.2.1.length rc)
        go_simp
        exact hK _ _ ⟨_, _, _, _, _, _, _, _, _, _, _, _, _, _, _, _, rfl, fun hj => (by first | exact (F0 (by rwa [sgx (by decide)] at hj)) | rfl), fun hj => (by first | exact (F1 (by rwa [sgx (by decide)] at hj)) | rfl), fun hj => (by first | exact (F2 (by rwa [sgx (by decide)] at hj)) | rfl), fun hj => (by first | exact (F3 (by rwa [sgx (by decide)] at hj)) | rfl), fun hj => (by first | exact (F4 (by rwa [sgx (by decide)] at hj)) | rfl), fun hj => (by first | exact (F5 (by rwa [sgx (by decide)] at hj)) | rfl), fun hj => (by first | exact (F6 (by rwa [sgx (by decide)] at hj)) | rfl), fun hj => (by first | exact (F7 (by rwa [sgx (by decide)] at hj)) | rfl), fun hj => (by first | exact (F8 (by rwa [sgx (by decide)] at hj)) | rfl), fun hj hu => absurd (he ⟨10, .chain⟩ (by simp) rfl) (by rw [show listed.getD 10 false = false by rwa [sgx (by decide)] at hu]; simp), fun hj => (F10 (by rwa [sgx (by decide)] at hj)).boxA hAA ht, fun hj => RF.boxA ⟨_, _, d, rfl, o1, o2, o3, oa⟩ hAA ht, fun hj => (F12 (by rwa [sgx (by decide)] at hj)), fun hj => (F13 (by rwa [sgx (by decide)] at hj)), fun _ hu => absurd hu (by rw [sgix hl]; simp), fun hj hu => (let ⟨g, e1, e2, e3⟩ := (F15 (by rwa [sgx (by decide)] at hj) (by rwa [sgx (by decide)] at hu)); ⟨g, e1, e2, e3.touch ht (hAA.ne e3)⟩), fun _ => ⟨g, _, _, rfl, g1, hAA.put _ _, rfl⟩, fun hj => absurd (hcl 17 _ rfl (by rwa [sgx (by decide)] at hj) ⟨16, .chain⟩ (by simp) rfl) (by rw [getD_both hl]; simp), Below.touchN hx ht g1 (Nat.le_refl _)⟩
    · as_aux_lemma =>
        obtain ⟨u15, u16, u76, u77, u78, u79, u80, u81, u82, u83, u84, u85, u86, u87, u88, u89, rfl, F0, F1, F2, F3, F4, F5, F6, F7, F8, F9, F10, F11, F12, F13, F14, F15, F16, F17, hx⟩ := hI
        have l15 := he ⟨15, .data⟩ (by simp) rfl
        have l13 := he ⟨13, .data⟩ (by simp) rfl
        have l11 := he ⟨11, .phase⟩ (by simp) rfl
        obtain ⟨g, rfl, g1, hR⟩ := F15 l15 (getD_both hl)
        obtain ⟨y, hy⟩ := F13 l13
        obtain ⟨a, b, d, rfl, o1, o2, o3, oa⟩ := F11 l11
        simp at hy
        obtain ⟨rfl, rfl⟩ := hy
        obtain ⟨qa, qc, rfl, _, _⟩ := o3.shape
        obtain ⟨k0, k1, k2, m0, m1, m2⟩ := hR.cells
        refine wpOp_stepx ho rfl (fun K hK => ?_)
        unfold buA
        have ht := touchR g w' (.int .i64 x.2.2.id) (.int .i64 x.2.2.code) (.slice qa x.2.2.data.length qc)
        go_simp
        exact hK _ _ ⟨_, _, _, _, _, _, _, _, _, _, _, _, _, _, _, _, rfl, fun hj => (by first | exact (F0 (by rwa [sgx (by decide)] at hj)) | rfl), fun hj => (by first | exact (F1 (by rwa [sgx (by decide)] at hj)) | rfl), fun hj => (by first | exact (F2 (by rwa [sgx (by decide)] at hj)) | rfl), fun hj => (by first | exact (F3 (by rwa [sgx (by decide)] at hj)) | rfl), fun hj => (by first | exact (F4 (by rwa [sgx (by decide)] at hj)) | rfl), fun hj => (by first | exact (F5 (by rwa [sgx (by decide)] at hj)) | rfl), fun hj => (by first | exact (F6 (by rwa [sgx (by decide)] at hj)) | rfl), fun hj => (by first | exact (F7 (by rwa [sgx (by decide)] at hj)) | rfl), fun hj => (by first | exact (F8 (by rwa [sgx (by decide)] at hj)) | rfl), fun hj hu => absurd (he ⟨10, .phase⟩ (by simp) rfl) (by rw [show listed.getD 10 false = false by rwa [sgx (by decide)] at hu]; simp), fun hj => (F10 (by rwa [sgx (by decide)] at hj)).boxR hR ht, fun hj => RF.boxR ⟨a, b, _, rfl, o1, o2, o3, oa⟩ hR ht, fun hj => (F12 (by rwa [sgx (by decide)] at hj)), fun hj => (F13 (by rwa [sgx (by decide)] at hj)), fun hj hu => absurd (he ⟨16, .chain⟩ (by simp) rfl) (by rw [show listed.getD 16 false = false by rwa [sgx (by decide)] at hu]; simp), fun _ hu => absurd hu (by rw [sgix hl]; simp), fun hj => (let ⟨g2, a2, b2, e1, e2, e3, e4⟩ := (F16 (by rwa [sgx (by decide)] at hj)); ⟨g2, a2, b2, e1, e2, e3.touch ht (Ne.symm (e3.ne hR)), e4⟩), fun _ => ⟨g, _, _, _, rfl, g1, hR.put _ _ _, rfl⟩, Below.touchN hx ht g1 (Nat.le_refl _)⟩
  · intro listed a w' hI hd
    obtain ⟨u15, u16, u76, u77, u78, u79, u80, u81, u82, u83, u84, u85, u86, u87, u88, u89, rfl, F0, F1, F2, F3, F4, F5, F6, F7, F8, F9, F10, F11, F12, F13, F14, F15, F16, F17, hx⟩ := hI
    obtain ⟨a, b, d, hr, o1, o2, o3, oa⟩ := F11 (hd 11 (by show 11 < 18; omega))
    obtain ⟨y1, hy1⟩ := F12 (hd 12 (by show 12 < 18; omega))
    obtain ⟨y2, hy2⟩ := F13 (hd 13 (by show 13 < 18; omega))
    obtain ⟨ga, a', b', hp1, ga1, hA0, ha⟩ := F16 (hd 16 (by show 16 < 18; omega))
    obtain ⟨gr, i', c', d', hp2, gr1, hR0, hrr⟩ := F17 (hd 17 (by show 17 < 18; omega))
    clear F0 F1 F2 F3 F4 F5 F6 F7 F8 F9 F10 F11 F12 F13 F14 F15 F16 F17 hd
    subst hr
    simp at hy1 hy2
    obtain ⟨hy1, hz1'⟩ := hy1
    obtain ⟨hz2', hy2⟩ := hy2
    subst hy1 hy2 hz1' hz2'
    simp at ha hrr
    obtain ⟨ha1, ha2⟩ := ha
    obtain ⟨hr1, hr2, hr3⟩ := hrr
    subst ha1 ha2 hr1 hr2 hr3 hp1 hp2
    exact hK _ _ _ _ _ _ _ _ _ _ _ _ _ _ _ _ w' ⟨ga, gr, a, b, d, rfl, rfl, ga1, gr1, hA0, hR0, o1, o2, o3, hx⟩

end Go.Proofs.Ytpjfjccjmbphmaa
