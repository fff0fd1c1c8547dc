/-
  The reference, of copies: the drawn region 11 of FnExactAtmDo (printed by wip/gen_xa.py).
-/
import Derived.Test.YteamebdehembgaaJSa3
import Derived.Test.YteamebdehembgaaJXt
set_option linter.unusedVariables false
set_option linter.unusedSimpArgs false
namespace Go.Proofs.Yteamebdehembgaa
open Go.RowKit
attribute [local go_sem ↓] Go.wp_at_zero Go.wp_at_succ

def xaA (i1 i3 i4 i6 i8 i9 i12 i13 i14 i15 i16 i17 i18 i19 i20 i21 i22 i23 i24 i25 i26 i27 i28 i29 i30 i31 i32 i33 i34 i35 i36 i48 i49 i50 i51 i52 i53 i54 i55 i56 i57 i58 i59 i60 i61 i62 i63 i64 i65 i66 i67 i68 i69 i70 i71 i72 i73 i74 i75 i76 i77 i78 i79 i80 i81 i82 i83 i84 i85 i86 i87 i88 i89 i90 i91 i92 i93 i94 i95 i96 i97 i98 i99 i100 i101 i102 i103 i104 i105 i106 i107 i108 i109 i110 i111 i112 i113 i114 i115 i116 i117 i118 i119 i120 i121 i122 i123 i124 i125 i126 i127 i128 i129 i130 i131 i132 i133 i134 i135 i136 i137 i138 i139 i140 i141 i142 i143 i144 i145 i146 i147 i148 i149 i150 i151 i152 i153 i154 i155 i156 i157 i158 i159 i160 i161 i162 : Value) (mv : Value) (who : Int) (gX : Nat) (gY : Nat) (u10 u11 u37 u38 u39 u40 u41 u42 u43 u44 u45 u46 u47 : Value) : Act := { tmps := #[mv, i1, .int .i64 who, i3, i4, .pointer (some ⟨gX, 0, none⟩), i6, .pointer (some ⟨gY, 0, none⟩), i8, i9, u10, u11, i12, i13, i14, i15, i16, i17, i18, i19, i20, i21, i22, i23, i24, i25, i26, i27, i28, i29, i30, i31, i32, i33, i34, i35, i36, u37, u38, u39, u40, u41, u42, u43, u44, u45, u46, u47, i48, i49, i50, i51, i52, i53, i54, i55, i56, i57, i58, i59, i60, i61, i62, i63, i64, i65, i66, i67, i68, i69, i70, i71, i72, i73, i74, i75, i76, i77, i78, i79, i80, i81, i82, i83, i84, i85, i86, i87, i88, i89, i90, i91, i92, i93, i94, i95, i96, i97, i98, i99, i100, i101, i102, i103, i104, i105, i106, i107, i108, i109, i110, i111, i112, i113, i114, i115, i116, i117, i118, i119, i120, i121, i122, i123, i124, i125, i126, i127, i128, i129, i130, i131, i132, i133, i134, i135, i136, i137, i138, i139, i140, i141, i142, i143, i144, i145, i146, i147, i148, i149, i150, i151, i152, i153, i154, i155, i156, i157, i158, i159, i160, i161, i162], defers := [] }
def xaI (i1 i3 i4 i6 i8 i9 i12 i13 i14 i15 i16 i17 i18 i19 i20 i21 i22 i23 i24 i25 i26 i27 i28 i29 i30 i31 i32 i33 i34 i35 i36 i48 i49 i50 i51 i52 i53 i54 i55 i56 i57 i58 i59 i60 i61 i62 i63 i64 i65 i66 i67 i68 i69 i70 i71 i72 i73 i74 i75 i76 i77 i78 i79 i80 i81 i82 i83 i84 i85 i86 i87 i88 i89 i90 i91 i92 i93 i94 i95 i96 i97 i98 i99 i100 i101 i102 i103 i104 i105 i106 i107 i108 i109 i110 i111 i112 i113 i114 i115 i116 i117 i118 i119 i120 i121 i122 i123 i124 i125 i126 i127 i128 i129 i130 i131 i132 i133 i134 i135 i136 i137 i138 i139 i140 i141 i142 i143 i144 i145 i146 i147 i148 i149 i150 i151 i152 i153 i154 i155 i156 i157 i158 i159 i160 i161 i162 : Value) (mv : Value) (who : Int) (gX : Nat) (gY : Nat) (av : Value) (bv : Value) (dv : Value) (lv : Value) (r : Rq) (x : List Int × List Int × Rs) (wq : World) (ms : List MR) (wk : List Int) (hk : List Int) (listed : Array Bool) (a : Act) (w' : World) : Prop :=
  ∃ u10 u11 u37 u38 u39 u40 u41 u42 u43 u44 u45 u46 u47 : Value, a = xaA i1 i3 i4 i6 i8 i9 i12 i13 i14 i15 i16 i17 i18 i19 i20 i21 i22 i23 i24 i25 i26 i27 i28 i29 i30 i31 i32 i33 i34 i35 i36 i48 i49 i50 i51 i52 i53 i54 i55 i56 i57 i58 i59 i60 i61 i62 i63 i64 i65 i66 i67 i68 i69 i70 i71 i72 i73 i74 i75 i76 i77 i78 i79 i80 i81 i82 i83 i84 i85 i86 i87 i88 i89 i90 i91 i92 i93 i94 i95 i96 i97 i98 i99 i100 i101 i102 i103 i104 i105 i106 i107 i108 i109 i110 i111 i112 i113 i114 i115 i116 i117 i118 i119 i120 i121 i122 i123 i124 i125 i126 i127 i128 i129 i130 i131 i132 i133 i134 i135 i136 i137 i138 i139 i140 i141 i142 i143 i144 i145 i146 i147 i148 i149 i150 i151 i152 i153 i154 i155 i156 i157 i158 i159 i160 i161 i162 mv who gX gY u10 u11 u37 u38 u39 u40 u41 u42 u43 u44 u45 u46 u47 ∧
      (listed.getD 0 false = true → u38 = mv) ∧
      (listed.getD 1 false = true → listed.getD 7 false = false → Maps w' w'.heap.size u39 ms) ∧
      (listed.getD 2 false = true → u40 = .agg #[av, bv]) ∧
      (listed.getD 3 false = true → listed.getD 7 false = false → AtmV w' w'.heap.size u41 wk hk) ∧
      (listed.getD 4 false = true → u42 = .int .i64 who) ∧
      (listed.getD 5 false = true → u43 = .agg #[.int .i64 r.id, .int .i64 r.kind, .int .i64 r.addr, .int .i64 r.many, .bool r.wrap, dv, lv]) ∧
      (listed.getD 6 false = true → listed.getD 7 false = false → ReqV w' w'.heap.size u44 r) ∧
      (listed.getD 7 false = true → RF wq w' u45 x) ∧
      (listed.getD 8 false = true → RF wq w' u37 x) ∧
      (listed.getD 9 false = true → ∃ y, u37 = .tuple #[u46, y]) ∧
      (listed.getD 10 false = true → ∃ y, u37 = .tuple #[y, u47]) ∧
      (listed.getD 11 false = true → listed.getD 13 false = false → ∃ g, u10 = .pointer (some ⟨g, 0, none⟩) ∧ wq.heap.size ≤ g ∧ BoxA w' g (.slice none 0 0) (.slice none 0 0)) ∧
      (listed.getD 12 false = true → listed.getD 14 false = false → ∃ g, u11 = .pointer (some ⟨g, 0, none⟩) ∧ wq.heap.size ≤ g ∧ BoxR w' g 0 0 (.slice none 0 0)) ∧
      (listed.getD 13 false = true → ∃ g a b, u10 = .pointer (some ⟨g, 0, none⟩) ∧ wq.heap.size ≤ g ∧ BoxA w' g a b ∧ u46 = .agg #[a, b]) ∧
      (listed.getD 14 false = true → ∃ g i c d, u11 = .pointer (some ⟨g, 0, none⟩) ∧ wq.heap.size ≤ g ∧ BoxR w' g i c d ∧ u47 = .agg #[.int .i64 i, .int .i64 c, d]) ∧
      Below wq.heap.size wq w'
/-- A region of a function's body. -/
def regIn (n : Nat) : Code → Option Code
  | .region id ops d => if id = n then some (.region id ops d) else none
  | .seq a b => match regIn n a with
    | some c => some c
    | none => regIn n b
  | .loop c => regIn n c
  | .block _ c => regIn n c
  | .scope c => regIn n c
  | .cond _ a b => match regIn n a with
    | some c => some c
    | none => regIn n b
  | _ => none
/-- Behind the region: the store and what came of it lie in new boxes. -/
def XrP (ua ub : Value) (x : List Int × List Int × Rs) (wq w' : World) : Prop :=
  ∃ ga gr a b d, ua = .pointer (some ⟨ga, 0, none⟩) ∧ ub = .pointer (some ⟨gr, 0, none⟩) ∧ wq.heap.size ≤ ga ∧ wq.heap.size ≤ gr ∧ BoxA w' ga a b ∧ BoxR w' gr x.2.2.id x.2.2.code d ∧ Owns w' wq.heap.size 3 1 rowI a x.1 ∧ Owns w' wq.heap.size 3 1 rowI b x.2.1 ∧ Owns w' wq.heap.size 3 1 rowI d x.2.2.data ∧ Below wq.heap.size wq w'

noncomputable def xaCode : Code := (Try.f6.body.bind (regIn 11)).getD .skip

set_option maxRecDepth 100000 in
set_option maxHeartbeats 16000000 in
theorem xa_region (i1 i3 i4 i6 i8 i9 i12 i13 i14 i15 i16 i17 i18 i19 i20 i21 i22 i23 i24 i25 i26 i27 i28 i29 i30 i31 i32 i33 i34 i35 i36 i48 i49 i50 i51 i52 i53 i54 i55 i56 i57 i58 i59 i60 i61 i62 i63 i64 i65 i66 i67 i68 i69 i70 i71 i72 i73 i74 i75 i76 i77 i78 i79 i80 i81 i82 i83 i84 i85 i86 i87 i88 i89 i90 i91 i92 i93 i94 i95 i96 i97 i98 i99 i100 i101 i102 i103 i104 i105 i106 i107 i108 i109 i110 i111 i112 i113 i114 i115 i116 i117 i118 i119 i120 i121 i122 i123 i124 i125 i126 i127 i128 i129 i130 i131 i132 i133 i134 i135 i136 i137 i138 i139 i140 i141 i142 i143 i144 i145 i146 i147 i148 i149 i150 i151 i152 i153 i154 i155 i156 i157 i158 i159 i160 i161 i162 j10 j11 j37 j38 j39 j40 j41 j42 j43 j44 j45 j46 j47 : Value) (mv : Value) (who : Int) (gX : Nat) (gY : Nat) (av : Value) (bv : Value) (dv : Value) (lv : Value) (r : Rq) (x : List Int × List Int × Rs) (wq : World) (ms : List MR) (wk : List Int) (hk : List Int)
    (HX : Hid (x = atmDo ms wk hk who r)) (hX : Bx wq gX [av, bv]) (hY : Bx wq gY [.int .i64 r.id, .int .i64 r.kind, .int .i64 r.addr, .int .i64 r.many, .bool r.wrap, dv, lv]) (hM : Maps wq wq.heap.size mv ms) (hA : AtmV wq wq.heap.size (.agg #[av, bv]) wk hk) (hA2 : (∀ y ∈ wk, I64 y) ∧ ∀ y ∈ hk, I64 y) (hQ : ReqV wq wq.heap.size (.agg #[.int .i64 r.id, .int .i64 r.kind, .int .i64 r.addr, .int .i64 r.many, .bool r.wrap, dv, lv]) r) (hQ2 : (∀ y ∈ r.data, I64 y) ∧ (∀ y ∈ r.lanes, I64 y) ∧ I64 r.id ∧ I64 r.kind ∧ I64 r.addr ∧ I64 r.many) (hl0 : ms.length ≤ 1048576) (hl1 : wk.length ≤ 1048576) (hl2 : hk.length ≤ 1048576) (hl3 : r.data.length ≤ 1048576) (hl4 : r.lanes.length ≤ 1048576)
    {K : Act → World → Prop} {Q' : Exit → Act → World → Prop}
    (hK : ∀ (u10 u11 u37 u38 u39 u40 u41 u42 u43 u44 u45 u46 u47 : Value) w', XrP u10 u11 x wq w' → K (xaA i1 i3 i4 i6 i8 i9 i12 i13 i14 i15 i16 i17 i18 i19 i20 i21 i22 i23 i24 i25 i26 i27 i28 i29 i30 i31 i32 i33 i34 i35 i36 i48 i49 i50 i51 i52 i53 i54 i55 i56 i57 i58 i59 i60 i61 i62 i63 i64 i65 i66 i67 i68 i69 i70 i71 i72 i73 i74 i75 i76 i77 i78 i79 i80 i81 i82 i83 i84 i85 i86 i87 i88 i89 i90 i91 i92 i93 i94 i95 i96 i97 i98 i99 i100 i101 i102 i103 i104 i105 i106 i107 i108 i109 i110 i111 i112 i113 i114 i115 i116 i117 i118 i119 i120 i121 i122 i123 i124 i125 i126 i127 i128 i129 i130 i131 i132 i133 i134 i135 i136 i137 i138 i139 i140 i141 i142 i143 i144 i145 i146 i147 i148 i149 i150 i151 i152 i153 i154 i155 i156 i157 i158 i159 i160 i161 i162 mv who gX gY u10 u11 u37 u38 u39 u40 u41 u42 u43 u44 u45 u46 u47) w') : xaCode.wp Try.prog (Exit.then K Q') (xaA i1 i3 i4 i6 i8 i9 i12 i13 i14 i15 i16 i17 i18 i19 i20 i21 i22 i23 i24 i25 i26 i27 i28 i29 i30 i31 i32 i33 i34 i35 i36 i48 i49 i50 i51 i52 i53 i54 i55 i56 i57 i58 i59 i60 i61 i62 i63 i64 i65 i66 i67 i68 i69 i70 i71 i72 i73 i74 i75 i76 i77 i78 i79 i80 i81 i82 i83 i84 i85 i86 i87 i88 i89 i90 i91 i92 i93 i94 i95 i96 i97 i98 i99 i100 i101 i102 i103 i104 i105 i106 i107 i108 i109 i110 i111 i112 i113 i114 i115 i116 i117 i118 i119 i120 i121 i122 i123 i124 i125 i126 i127 i128 i129 i130 i131 i132 i133 i134 i135 i136 i137 i138 i139 i140 i141 i142 i143 i144 i145 i146 i147 i148 i149 i150 i151 i152 i153 i154 i155 i156 i157 i158 i159 i160 i161 i162 mv who gX gY j10 j11 j37 j38 j39 j40 j41 j42 j43 j44 j45 j46 j47) wq := by
  conv => arg 2; whnf
  refine wp_region_inv2 (xaI i1 i3 i4 i6 i8 i9 i12 i13 i14 i15 i16 i17 i18 i19 i20 i21 i22 i23 i24 i25 i26 i27 i28 i29 i30 i31 i32 i33 i34 i35 i36 i48 i49 i50 i51 i52 i53 i54 i55 i56 i57 i58 i59 i60 i61 i62 i63 i64 i65 i66 i67 i68 i69 i70 i71 i72 i73 i74 i75 i76 i77 i78 i79 i80 i81 i82 i83 i84 i85 i86 i87 i88 i89 i90 i91 i92 i93 i94 i95 i96 i97 i98 i99 i100 i101 i102 i103 i104 i105 i106 i107 i108 i109 i110 i111 i112 i113 i114 i115 i116 i117 i118 i119 i120 i121 i122 i123 i124 i125 i126 i127 i128 i129 i130 i131 i132 i133 i134 i135 i136 i137 i138 i139 i140 i141 i142 i143 i144 i145 i146 i147 i148 i149 i150 i151 i152 i153 i154 i155 i156 i157 i158 i159 i160 i161 i162 mv who gX gY av bv dv lv r x wq ms wk hk) (by kernel_rfl) (by kernel_rfl) ?_ ?_ ?_
  · exact ⟨_, _, _, _, _, _, _, _, _, _, _, _, _, rfl, (fun h => absurd h (by rw [getD_replicate_false]; simp)), (fun h _ => absurd h (by rw [getD_replicate_false]; simp)), (fun h => absurd h (by rw [getD_replicate_false]; simp)), (fun h _ => absurd h (by rw [getD_replicate_false]; simp)), (fun h => absurd h (by rw [getD_replicate_false]; simp)), (fun h => absurd h (by rw [getD_replicate_false]; simp)), (fun h _ => absurd h (by rw [getD_replicate_false]; simp)), (fun h => absurd h (by rw [getD_replicate_false]; simp)), (fun h => absurd h (by rw [getD_replicate_false]; simp)), (fun h => absurd h (by rw [getD_replicate_false]; simp)), (fun h => absurd h (by rw [getD_replicate_false]; simp)), (fun h _ => absurd h (by rw [getD_replicate_false]; simp)), (fun h _ => absurd h (by rw [getD_replicate_false]; simp)), (fun h => absurd h (by rw [getD_replicate_false]; simp)), (fun h => absurd h (by rw [getD_replicate_false]; simp)), (Below.refl _ _).drew⟩
  · intro listed a w' i o hI hsz ho hl he hcl
    have hi : i < 15 := (Array.getElem?_eq_some_iff.1 ho).1
    have e : i = 0 ∨ i = 1 ∨ i = 2 ∨ i = 3 ∨ i = 4 ∨ i = 5 ∨ i = 6 ∨ i = 7 ∨ i = 8 ∨ i = 9 ∨ i = 10 ∨ i = 11 ∨ i = 12 ∨ i = 13 ∨ i = 14 := by omega
    clear hi
    rcases e with rfl | rfl | rfl | rfl | rfl | rfl | rfl | rfl | rfl | rfl | rfl | rfl | rfl | rfl | rfl
    all_goals (have ho2 := ho; obtain rfl := Option.some.inj ho2.symm; clear ho2)
    · as_aux_lemma =>
        obtain ⟨u10, u11, u37, u38, u39, u40, u41, u42, u43, u44, u45, u46, u47, rfl, F0, F1, F2, F3, F4, F5, F6, F7, F8, F9, F10, F11, F12, F13, F14, hx⟩ := hI
        refine wpOp_stepx ho rfl (fun K hK => ?_)
        unfold xaA
        go_simp
        exact hK _ _ ⟨_, _, _, _, _, _, _, _, _, _, _, _, _, rfl, fun _ => rfl, fun hj hu => (F1 (by rwa [sgx (by decide)] at hj) (by rwa [sgx (by decide)] at hu)), fun hj => (by first | exact (F2 (by rwa [sgx (by decide)] at hj)) | rfl), fun hj hu => (F3 (by rwa [sgx (by decide)] at hj) (by rwa [sgx (by decide)] at hu)), fun hj => (by first | exact (F4 (by rwa [sgx (by decide)] at hj)) | rfl), fun hj => (by first | exact (F5 (by rwa [sgx (by decide)] at hj)) | rfl), fun hj hu => (F6 (by rwa [sgx (by decide)] at hj) (by rwa [sgx (by decide)] at hu)), fun hj => (F7 (by rwa [sgx (by decide)] at hj)), fun hj => (F8 (by rwa [sgx (by decide)] at hj)), fun hj => (F9 (by rwa [sgx (by decide)] at hj)), fun hj => (F10 (by rwa [sgx (by decide)] at hj)), fun hj hu => (F11 (by rwa [sgx (by decide)] at hj) (by rwa [sgx (by decide)] at hu)), fun hj hu => (F12 (by rwa [sgx (by decide)] at hj) (by rwa [sgx (by decide)] at hu)), fun hj => (F13 (by rwa [sgx (by decide)] at hj)), fun hj => (F14 (by rwa [sgx (by decide)] at hj)), hx⟩
    · as_aux_lemma =>
        obtain ⟨u10, u11, u37, u38, u39, u40, u41, u42, u43, u44, u45, u46, u47, rfl, F0, F1, F2, F3, F4, F5, F6, F7, F8, F9, F10, F11, F12, F13, F14, hx⟩ := hI
        have l0 := he ⟨0, .data⟩ (by simp) rfl
        have e := F0 l0; subst e
        refine wpOp_stepx ho rfl (fun K hK => ?_)
        unfold xaA
        go_simp
        (with_reducible refine (toRanges_any _ ms w'.heap.size w' ((hM.below hx).mono hx.size) (Nat.le_refl _) hl0).mono ?_)
        rintro e w'' ⟨uu, rfl, ho, hb1⟩
        go_wp2_with fail
        exact ⟨_, _, _, _, _, _, _, _, _, _, _, _, _, rfl, fun hj => (by first | exact (F0 (by rwa [sgx (by decide)] at hj)) | rfl), fun _ _ => ho.maps hl0 hM.2, fun hj => (by first | exact (F2 (by rwa [sgx (by decide)] at hj)) | rfl), fun hj hu => ((F3 (by rwa [sgx (by decide)] at hj) (by rwa [sgx (by decide)] at hu)).below hb1).mono hb1.size, fun hj => (by first | exact (F4 (by rwa [sgx (by decide)] at hj)) | rfl), fun hj => (by first | exact (F5 (by rwa [sgx (by decide)] at hj)) | rfl), fun hj hu => ((F6 (by rwa [sgx (by decide)] at hj) (by rwa [sgx (by decide)] at hu)).below hb1).mono hb1.size, fun hj => (F7 (by rwa [sgx (by decide)] at hj)).below hb1, fun hj => (F8 (by rwa [sgx (by decide)] at hj)).below hb1, fun hj => (F9 (by rwa [sgx (by decide)] at hj)), fun hj => (F10 (by rwa [sgx (by decide)] at hj)), fun hj hu => (let ⟨g, e1, e2, e3⟩ := (F11 (by rwa [sgx (by decide)] at hj) (by rwa [sgx (by decide)] at hu)); ⟨g, e1, e2, e3.below hb1 e3.lt⟩), fun hj hu => (let ⟨g, e1, e2, e3⟩ := (F12 (by rwa [sgx (by decide)] at hj) (by rwa [sgx (by decide)] at hu)); ⟨g, e1, e2, e3.below hb1 e3.lt⟩), fun hj => (let ⟨g, a, b, e1, e2, e3, e4⟩ := (F13 (by rwa [sgx (by decide)] at hj)); ⟨g, a, b, e1, e2, e3.below hb1 e3.lt, e4⟩), fun hj => (let ⟨g, a, b, c, e1, e2, e3, e4⟩ := (F14 (by rwa [sgx (by decide)] at hj)); ⟨g, a, b, c, e1, e2, e3.below hb1 e3.lt, e4⟩), hx.trans (hb1.mono hx.size)⟩
    · as_aux_lemma =>
        obtain ⟨u10, u11, u37, u38, u39, u40, u41, u42, u43, u44, u45, u46, u47, rfl, F0, F1, F2, F3, F4, F5, F6, F7, F8, F9, F10, F11, F12, F13, F14, hx⟩ := hI
        obtain ⟨⟨k0, k1⟩, m0, m1⟩ := (hX.below hx hX.lt).two
        refine wpOp_stepx ho rfl (fun K hK => ?_)
        unfold xaA
        go_simp
        exact hK _ _ ⟨_, _, _, _, _, _, _, _, _, _, _, _, _, rfl, fun hj => (by first | exact (F0 (by rwa [sgx (by decide)] at hj)) | rfl), fun hj hu => (F1 (by rwa [sgx (by decide)] at hj) (by rwa [sgx (by decide)] at hu)), fun _ => rfl, fun hj hu => (F3 (by rwa [sgx (by decide)] at hj) (by rwa [sgx (by decide)] at hu)), fun hj => (by first | exact (F4 (by rwa [sgx (by decide)] at hj)) | rfl), fun hj => (by first | exact (F5 (by rwa [sgx (by decide)] at hj)) | rfl), fun hj hu => (F6 (by rwa [sgx (by decide)] at hj) (by rwa [sgx (by decide)] at hu)), fun hj => (F7 (by rwa [sgx (by decide)] at hj)), fun hj => (F8 (by rwa [sgx (by decide)] at hj)), fun hj => (F9 (by rwa [sgx (by decide)] at hj)), fun hj => (F10 (by rwa [sgx (by decide)] at hj)), fun hj hu => (F11 (by rwa [sgx (by decide)] at hj) (by rwa [sgx (by decide)] at hu)), fun hj hu => (F12 (by rwa [sgx (by decide)] at hj) (by rwa [sgx (by decide)] at hu)), fun hj => (F13 (by rwa [sgx (by decide)] at hj)), fun hj => (F14 (by rwa [sgx (by decide)] at hj)), hx⟩
    · as_aux_lemma =>
        obtain ⟨u10, u11, u37, u38, u39, u40, u41, u42, u43, u44, u45, u46, u47, rfl, F0, F1, F2, F3, F4, F5, F6, F7, F8, F9, F10, F11, F12, F13, F14, hx⟩ := hI
        have l2 := he ⟨2, .data⟩ (by simp) rfl
        have e := F2 l2; subst e
        refine wpOp_stepx ho rfl (fun K hK => ?_)
        unfold xaA
        go_simp
        (with_reducible refine (toAtm_any _ wk hk w'.heap.size w' ((hA.below hx).mono hx.size) (Nat.le_refl _) hl1 hl2).mono ?_)
        rintro e w'' ⟨uu, zz, rfl, ho, ho2, _, hb1⟩
        go_wp2_with fail
        exact ⟨_, _, _, _, _, _, _, _, _, _, _, _, _, rfl, fun hj => (by first | exact (F0 (by rwa [sgx (by decide)] at hj)) | rfl), fun hj hu => ((F1 (by rwa [sgx (by decide)] at hj) (by rwa [sgx (by decide)] at hu)).below hb1).mono hb1.size, fun hj => (by first | exact (F2 (by rwa [sgx (by decide)] at hj)) | rfl), fun _ _ => ⟨_, _, rfl, ho.ints (by omega) hA2.1, ho2.ints (by omega) hA2.2⟩, fun hj => (by first | exact (F4 (by rwa [sgx (by decide)] at hj)) | rfl), fun hj => (by first | exact (F5 (by rwa [sgx (by decide)] at hj)) | rfl), fun hj hu => ((F6 (by rwa [sgx (by decide)] at hj) (by rwa [sgx (by decide)] at hu)).below hb1).mono hb1.size, fun hj => (F7 (by rwa [sgx (by decide)] at hj)).below hb1, fun hj => (F8 (by rwa [sgx (by decide)] at hj)).below hb1, fun hj => (F9 (by rwa [sgx (by decide)] at hj)), fun hj => (F10 (by rwa [sgx (by decide)] at hj)), fun hj hu => (let ⟨g, e1, e2, e3⟩ := (F11 (by rwa [sgx (by decide)] at hj) (by rwa [sgx (by decide)] at hu)); ⟨g, e1, e2, e3.below hb1 e3.lt⟩), fun hj hu => (let ⟨g, e1, e2, e3⟩ := (F12 (by rwa [sgx (by decide)] at hj) (by rwa [sgx (by decide)] at hu)); ⟨g, e1, e2, e3.below hb1 e3.lt⟩), fun hj => (let ⟨g, a, b, e1, e2, e3, e4⟩ := (F13 (by rwa [sgx (by decide)] at hj)); ⟨g, a, b, e1, e2, e3.below hb1 e3.lt, e4⟩), fun hj => (let ⟨g, a, b, c, e1, e2, e3, e4⟩ := (F14 (by rwa [sgx (by decide)] at hj)); ⟨g, a, b, c, e1, e2, e3.below hb1 e3.lt, e4⟩), hx.trans (hb1.mono hx.size)⟩
    · as_aux_lemma =>
        obtain ⟨u10, u11, u37, u38, u39, u40, u41, u42, u43, u44, u45, u46, u47, rfl, F0, F1, F2, F3, F4, F5, F6, F7, F8, F9, F10, F11, F12, F13, F14, hx⟩ := hI
        refine wpOp_stepx ho rfl (fun K hK => ?_)
        unfold xaA
        go_simp
        exact hK _ _ ⟨_, _, _, _, _, _, _, _, _, _, _, _, _, rfl, fun hj => (by first | exact (F0 (by rwa [sgx (by decide)] at hj)) | rfl), fun hj hu => (F1 (by rwa [sgx (by decide)] at hj) (by rwa [sgx (by decide)] at hu)), fun hj => (by first | exact (F2 (by rwa [sgx (by decide)] at hj)) | rfl), fun hj hu => (F3 (by rwa [sgx (by decide)] at hj) (by rwa [sgx (by decide)] at hu)), fun _ => rfl, fun hj => (by first | exact (F5 (by rwa [sgx (by decide)] at hj)) | rfl), fun hj hu => (F6 (by rwa [sgx (by decide)] at hj) (by rwa [sgx (by decide)] at hu)), fun hj => (F7 (by rwa [sgx (by decide)] at hj)), fun hj => (F8 (by rwa [sgx (by decide)] at hj)), fun hj => (F9 (by rwa [sgx (by decide)] at hj)), fun hj => (F10 (by rwa [sgx (by decide)] at hj)), fun hj hu => (F11 (by rwa [sgx (by decide)] at hj) (by rwa [sgx (by decide)] at hu)), fun hj hu => (F12 (by rwa [sgx (by decide)] at hj) (by rwa [sgx (by decide)] at hu)), fun hj => (F13 (by rwa [sgx (by decide)] at hj)), fun hj => (F14 (by rwa [sgx (by decide)] at hj)), hx⟩
    · as_aux_lemma =>
        obtain ⟨u10, u11, u37, u38, u39, u40, u41, u42, u43, u44, u45, u46, u47, rfl, F0, F1, F2, F3, F4, F5, F6, F7, F8, F9, F10, F11, F12, F13, F14, hx⟩ := hI
        obtain ⟨⟨q0, q1, q2, q3, q4, q5, q6⟩, _⟩ := (hY.below hx hY.lt).seven
        refine wpOp_stepx ho rfl (fun K hK => ?_)
        unfold xaA
        go_simp
        exact hK _ _ ⟨_, _, _, _, _, _, _, _, _, _, _, _, _, rfl, fun hj => (by first | exact (F0 (by rwa [sgx (by decide)] at hj)) | rfl), fun hj hu => (F1 (by rwa [sgx (by decide)] at hj) (by rwa [sgx (by decide)] at hu)), fun hj => (by first | exact (F2 (by rwa [sgx (by decide)] at hj)) | rfl), fun hj hu => (F3 (by rwa [sgx (by decide)] at hj) (by rwa [sgx (by decide)] at hu)), fun hj => (by first | exact (F4 (by rwa [sgx (by decide)] at hj)) | rfl), fun _ => rfl, fun hj hu => (F6 (by rwa [sgx (by decide)] at hj) (by rwa [sgx (by decide)] at hu)), fun hj => (F7 (by rwa [sgx (by decide)] at hj)), fun hj => (F8 (by rwa [sgx (by decide)] at hj)), fun hj => (F9 (by rwa [sgx (by decide)] at hj)), fun hj => (F10 (by rwa [sgx (by decide)] at hj)), fun hj hu => (F11 (by rwa [sgx (by decide)] at hj) (by rwa [sgx (by decide)] at hu)), fun hj hu => (F12 (by rwa [sgx (by decide)] at hj) (by rwa [sgx (by decide)] at hu)), fun hj => (F13 (by rwa [sgx (by decide)] at hj)), fun hj => (F14 (by rwa [sgx (by decide)] at hj)), hx⟩
    · as_aux_lemma =>
        obtain ⟨u10, u11, u37, u38, u39, u40, u41, u42, u43, u44, u45, u46, u47, rfl, F0, F1, F2, F3, F4, F5, F6, F7, F8, F9, F10, F11, F12, F13, F14, hx⟩ := hI
        have l5 := he ⟨5, .data⟩ (by simp) rfl
        have e := F5 l5; subst e
        refine wpOp_stepx ho rfl (fun K hK => ?_)
        unfold xaA
        go_simp
        (with_reducible refine (toReq_any _ r w'.heap.size w' ((hQ.below hx).mono hx.size) (Nat.le_refl _) hl3 hl4).mono ?_)
        rintro e w'' ⟨uu, zz, rfl, ho, ho2, _, hb1⟩
        go_wp2_with fail
        exact ⟨_, _, _, _, _, _, _, _, _, _, _, _, _, rfl, fun hj => (by first | exact (F0 (by rwa [sgx (by decide)] at hj)) | rfl), fun hj hu => ((F1 (by rwa [sgx (by decide)] at hj) (by rwa [sgx (by decide)] at hu)).below hb1).mono hb1.size, fun hj => (by first | exact (F2 (by rwa [sgx (by decide)] at hj)) | rfl), fun hj hu => ((F3 (by rwa [sgx (by decide)] at hj) (by rwa [sgx (by decide)] at hu)).below hb1).mono hb1.size, fun hj => (by first | exact (F4 (by rwa [sgx (by decide)] at hj)) | rfl), fun hj => (by first | exact (F5 (by rwa [sgx (by decide)] at hj)) | rfl), fun _ _ => ⟨_, _, rfl, ho.ints (by omega) hQ2.1, ho2.ints (by omega) hQ2.2.1, hQ2.2.2⟩, fun hj => (F7 (by rwa [sgx (by decide)] at hj)).below hb1, fun hj => (F8 (by rwa [sgx (by decide)] at hj)).below hb1, fun hj => (F9 (by rwa [sgx (by decide)] at hj)), fun hj => (F10 (by rwa [sgx (by decide)] at hj)), fun hj hu => (let ⟨g, e1, e2, e3⟩ := (F11 (by rwa [sgx (by decide)] at hj) (by rwa [sgx (by decide)] at hu)); ⟨g, e1, e2, e3.below hb1 e3.lt⟩), fun hj hu => (let ⟨g, e1, e2, e3⟩ := (F12 (by rwa [sgx (by decide)] at hj) (by rwa [sgx (by decide)] at hu)); ⟨g, e1, e2, e3.below hb1 e3.lt⟩), fun hj => (let ⟨g, a, b, e1, e2, e3, e4⟩ := (F13 (by rwa [sgx (by decide)] at hj)); ⟨g, a, b, e1, e2, e3.below hb1 e3.lt, e4⟩), fun hj => (let ⟨g, a, b, c, e1, e2, e3, e4⟩ := (F14 (by rwa [sgx (by decide)] at hj)); ⟨g, a, b, c, e1, e2, e3.below hb1 e3.lt, e4⟩), hx.trans (hb1.mono hx.size)⟩
    · as_aux_lemma =>
        obtain ⟨u10, u11, u37, u38, u39, u40, u41, u42, u43, u44, u45, u46, u47, rfl, F0, F1, F2, F3, F4, F5, F6, F7, F8, F9, F10, F11, F12, F13, F14, hx⟩ := hI
        have l1 := he ⟨1, .data⟩ (by simp) rfl
        have l3 := he ⟨3, .data⟩ (by simp) rfl
        have l4 := he ⟨4, .data⟩ (by simp) rfl
        have l6 := he ⟨6, .data⟩ (by simp) rfl
        have e := F4 l4; subst e
        have gM := F1 l1 (getD_both hl)
        have gA := F3 l3 (getD_both hl)
        have gQ := F6 l6 (getD_both hl)
        refine wpOp_stepx ho rfl (fun K hK => ?_)
        unfold xaA
        go_simp
        (with_reducible refine (specAtmDo_any _ _ _ ms w'.heap.size wk hk who r w' gM gA gQ (Nat.le_refl _)).mono ?_)
        rw [← HX.out]
        rintro e w'' ⟨a1, b1, d1, rfl, o1, o2, o3, oa, _, _, hb1⟩
        go_wp2_with fail
        exact ⟨_, _, _, _, _, _, _, _, _, _, _, _, _, rfl, fun hj => (by first | exact (F0 (by rwa [sgx (by decide)] at hj)) | rfl), fun _ hu => absurd hu (by rw [sgix hl]; simp), fun hj => (by first | exact (F2 (by rwa [sgx (by decide)] at hj)) | rfl), fun _ hu => absurd hu (by rw [sgix hl]; simp), fun hj => (by first | exact (F4 (by rwa [sgx (by decide)] at hj)) | rfl), fun hj => (by first | exact (F5 (by rwa [sgx (by decide)] at hj)) | rfl), fun _ hu => absurd hu (by rw [sgix hl]; simp), fun _ => ⟨a1, b1, d1, rfl, o1.rebase hx.size, o2.rebase hx.size, o3.rebase hx.size, oa⟩, fun hj => absurd (hcl 8 _ rfl (by rwa [sgx (by decide)] at hj) ⟨7, .data⟩ (by simp) rfl) (by rw [getD_both hl]; simp), fun hj => (F9 (by rwa [sgx (by decide)] at hj)), fun hj => (F10 (by rwa [sgx (by decide)] at hj)), fun hj hu => (let ⟨g, e1, e2, e3⟩ := (F11 (by rwa [sgx (by decide)] at hj) (by rwa [sgx (by decide)] at hu)); ⟨g, e1, e2, e3.below hb1 e3.lt⟩), fun hj hu => (let ⟨g, e1, e2, e3⟩ := (F12 (by rwa [sgx (by decide)] at hj) (by rwa [sgx (by decide)] at hu)); ⟨g, e1, e2, e3.below hb1 e3.lt⟩), fun hj => absurd (hcl 13 _ rfl (by rwa [sgx (by decide)] at hj) ⟨7, .chain⟩ (by simp) rfl) (by rw [getD_both hl]; simp), fun hj => absurd (hcl 14 _ rfl (by rwa [sgx (by decide)] at hj) ⟨7, .phase⟩ (by simp) rfl) (by rw [getD_both hl]; simp), hx.trans (hb1.mono hx.size)⟩
    · as_aux_lemma =>
        obtain ⟨u10, u11, u37, u38, u39, u40, u41, u42, u43, u44, u45, u46, u47, rfl, F0, F1, F2, F3, F4, F5, F6, F7, F8, F9, F10, F11, F12, F13, F14, hx⟩ := hI
        have l7 := he ⟨7, .data⟩ (by simp) rfl
        have l := F7 l7
        refine wpOp_stepx ho rfl (fun K hK => ?_)
        unfold xaA
        go_simp
        exact hK _ _ ⟨_, _, _, _, _, _, _, _, _, _, _, _, _, rfl, fun hj => (by first | exact (F0 (by rwa [sgx (by decide)] at hj)) | rfl), fun hj hu => (F1 (by rwa [sgx (by decide)] at hj) (by rwa [sgx (by decide)] at hu)), fun hj => (by first | exact (F2 (by rwa [sgx (by decide)] at hj)) | rfl), fun hj hu => (F3 (by rwa [sgx (by decide)] at hj) (by rwa [sgx (by decide)] at hu)), fun hj => (by first | exact (F4 (by rwa [sgx (by decide)] at hj)) | rfl), fun hj => (by first | exact (F5 (by rwa [sgx (by decide)] at hj)) | rfl), fun hj hu => (F6 (by rwa [sgx (by decide)] at hj) (by rwa [sgx (by decide)] at hu)), fun hj => (F7 (by rwa [sgx (by decide)] at hj)), fun _ => l, fun hj => absurd (hcl 9 _ rfl (by rwa [sgx (by decide)] at hj) ⟨8, .data⟩ (by simp) rfl) (by rw [getD_both hl]; simp), fun hj => absurd (hcl 10 _ rfl (by rwa [sgx (by decide)] at hj) ⟨8, .data⟩ (by simp) rfl) (by rw [getD_both hl]; simp), fun hj hu => (F11 (by rwa [sgx (by decide)] at hj) (by rwa [sgx (by decide)] at hu)), fun hj hu => (F12 (by rwa [sgx (by decide)] at hj) (by rwa [sgx (by decide)] at hu)), fun hj => (F13 (by rwa [sgx (by decide)] at hj)), fun hj => (F14 (by rwa [sgx (by decide)] at hj)), hx⟩
    · as_aux_lemma =>
        obtain ⟨u10, u11, u37, u38, u39, u40, u41, u42, u43, u44, u45, u46, u47, rfl, F0, F1, F2, F3, F4, F5, F6, F7, F8, F9, F10, F11, F12, F13, F14, hx⟩ := hI
        have l8 := he ⟨8, .data⟩ (by simp) rfl
        obtain ⟨a, b, d, rfl, o1, o2, o3, oa⟩ := F8 l8
        refine wpOp_stepx ho rfl (fun K hK => ?_)
        unfold xaA
        go_simp
        exact hK _ _ ⟨_, _, _, _, _, _, _, _, _, _, _, _, _, rfl, fun hj => (by first | exact (F0 (by rwa [sgx (by decide)] at hj)) | rfl), fun hj hu => (F1 (by rwa [sgx (by decide)] at hj) (by rwa [sgx (by decide)] at hu)), fun hj => (by first | exact (F2 (by rwa [sgx (by decide)] at hj)) | rfl), fun hj hu => (F3 (by rwa [sgx (by decide)] at hj) (by rwa [sgx (by decide)] at hu)), fun hj => (by first | exact (F4 (by rwa [sgx (by decide)] at hj)) | rfl), fun hj => (by first | exact (F5 (by rwa [sgx (by decide)] at hj)) | rfl), fun hj hu => (F6 (by rwa [sgx (by decide)] at hj) (by rwa [sgx (by decide)] at hu)), fun hj => (F7 (by rwa [sgx (by decide)] at hj)), fun hj => ⟨a, b, d, rfl, o1, o2, o3, oa⟩, fun _ => ⟨_, rfl⟩, fun hj => (F10 (by rwa [sgx (by decide)] at hj)), fun hj hu => (F11 (by rwa [sgx (by decide)] at hj) (by rwa [sgx (by decide)] at hu)), fun hj hu => (F12 (by rwa [sgx (by decide)] at hj) (by rwa [sgx (by decide)] at hu)), fun hj => absurd (hcl 13 _ rfl (by rwa [sgx (by decide)] at hj) ⟨9, .data⟩ (by simp) rfl) (by rw [getD_both hl]; simp), fun hj => (F14 (by rwa [sgx (by decide)] at hj)), hx⟩
    · as_aux_lemma =>
        obtain ⟨u10, u11, u37, u38, u39, u40, u41, u42, u43, u44, u45, u46, u47, rfl, F0, F1, F2, F3, F4, F5, F6, F7, F8, F9, F10, F11, F12, F13, F14, hx⟩ := hI
        have l8 := he ⟨8, .data⟩ (by simp) rfl
        obtain ⟨a, b, d, rfl, o1, o2, o3, oa⟩ := F8 l8
        refine wpOp_stepx ho rfl (fun K hK => ?_)
        unfold xaA
        go_simp
        exact hK _ _ ⟨_, _, _, _, _, _, _, _, _, _, _, _, _, rfl, fun hj => (by first | exact (F0 (by rwa [sgx (by decide)] at hj)) | rfl), fun hj hu => (F1 (by rwa [sgx (by decide)] at hj) (by rwa [sgx (by decide)] at hu)), fun hj => (by first | exact (F2 (by rwa [sgx (by decide)] at hj)) | rfl), fun hj hu => (F3 (by rwa [sgx (by decide)] at hj) (by rwa [sgx (by decide)] at hu)), fun hj => (by first | exact (F4 (by rwa [sgx (by decide)] at hj)) | rfl), fun hj => (by first | exact (F5 (by rwa [sgx (by decide)] at hj)) | rfl), fun hj hu => (F6 (by rwa [sgx (by decide)] at hj) (by rwa [sgx (by decide)] at hu)), fun hj => (F7 (by rwa [sgx (by decide)] at hj)), fun hj => ⟨a, b, d, rfl, o1, o2, o3, oa⟩, fun hj => (F9 (by rwa [sgx (by decide)] at hj)), fun _ => ⟨_, rfl⟩, fun hj hu => (F11 (by rwa [sgx (by decide)] at hj) (by rwa [sgx (by decide)] at hu)), fun hj hu => (F12 (by rwa [sgx (by decide)] at hj) (by rwa [sgx (by decide)] at hu)), fun hj => (F13 (by rwa [sgx (by decide)] at hj)), fun hj => absurd (hcl 14 _ rfl (by rwa [sgx (by decide)] at hj) ⟨10, .data⟩ (by simp) rfl) (by rw [getD_both hl]; simp), hx⟩
    · as_aux_lemma =>
        obtain ⟨u10, u11, u37, u38, u39, u40, u41, u42, u43, u44, u45, u46, u47, rfl, F0, F1, F2, F3, F4, F5, F6, F7, F8, F9, F10, F11, F12, F13, F14, hx⟩ := hI
        refine wpOp_stepx ho rfl (fun K hK => ?_)
        unfold xaA
        have hb1 : Below w'.heap.size w' (w'.alloc (.cells #[.slice none 0 0, .slice none 0 0] 40)) := (Below.refl _ _).alloc (Nat.le_refl _) _
        go_simp
        exact hK _ _ ⟨_, _, _, _, _, _, _, _, _, _, _, _, _, rfl, fun hj => (by first | exact (F0 (by rwa [sgx (by decide)] at hj)) | rfl), fun hj hu => ((F1 (by rwa [sgx (by decide)] at hj) (by rwa [sgx (by decide)] at hu)).below hb1).mono hb1.size, fun hj => (by first | exact (F2 (by rwa [sgx (by decide)] at hj)) | rfl), fun hj hu => ((F3 (by rwa [sgx (by decide)] at hj) (by rwa [sgx (by decide)] at hu)).below hb1).mono hb1.size, fun hj => (by first | exact (F4 (by rwa [sgx (by decide)] at hj)) | rfl), fun hj => (by first | exact (F5 (by rwa [sgx (by decide)] at hj)) | rfl), fun hj hu => ((F6 (by rwa [sgx (by decide)] at hj) (by rwa [sgx (by decide)] at hu)).below hb1).mono hb1.size, fun hj => (F7 (by rwa [sgx (by decide)] at hj)).below hb1, fun hj => (F8 (by rwa [sgx (by decide)] at hj)).below hb1, fun hj => (F9 (by rwa [sgx (by decide)] at hj)), fun hj => (F10 (by rwa [sgx (by decide)] at hj)), fun _ _ => ⟨_, rfl, hx.size, BoxA.new _ _ _⟩, fun hj hu => (let ⟨g, e1, e2, e3⟩ := (F12 (by rwa [sgx (by decide)] at hj) (by rwa [sgx (by decide)] at hu)); ⟨g, e1, e2, e3.below hb1 e3.lt⟩), fun hj => absurd (hcl 13 _ rfl (by rwa [sgx (by decide)] at hj) ⟨11, .data⟩ (by simp) rfl) (by rw [getD_both hl]; simp), fun hj => (let ⟨g, a, b, c, e1, e2, e3, e4⟩ := (F14 (by rwa [sgx (by decide)] at hj)); ⟨g, a, b, c, e1, e2, e3.below hb1 e3.lt, e4⟩), hx.trans (hb1.mono hx.size)⟩
    · as_aux_lemma =>
        obtain ⟨u10, u11, u37, u38, u39, u40, u41, u42, u43, u44, u45, u46, u47, rfl, F0, F1, F2, F3, F4, F5, F6, F7, F8, F9, F10, F11, F12, F13, F14, hx⟩ := hI
        refine wpOp_stepx ho rfl (fun K hK => ?_)
        unfold xaA
        have hb1 : Below w'.heap.size w' (w'.alloc (.cells #[.int .i64 0, .int .i64 0, .slice none 0 0] 66)) := (Below.refl _ _).alloc (Nat.le_refl _) _
        go_simp
        exact hK _ _ ⟨_, _, _, _, _, _, _, _, _, _, _, _, _, rfl, fun hj => (by first | exact (F0 (by rwa [sgx (by decide)] at hj)) | rfl), fun hj hu => ((F1 (by rwa [sgx (by decide)] at hj) (by rwa [sgx (by decide)] at hu)).below hb1).mono hb1.size, fun hj => (by first | exact (F2 (by rwa [sgx (by decide)] at hj)) | rfl), fun hj hu => ((F3 (by rwa [sgx (by decide)] at hj) (by rwa [sgx (by decide)] at hu)).below hb1).mono hb1.size, fun hj => (by first | exact (F4 (by rwa [sgx (by decide)] at hj)) | rfl), fun hj => (by first | exact (F5 (by rwa [sgx (by decide)] at hj)) | rfl), fun hj hu => ((F6 (by rwa [sgx (by decide)] at hj) (by rwa [sgx (by decide)] at hu)).below hb1).mono hb1.size, fun hj => (F7 (by rwa [sgx (by decide)] at hj)).below hb1, fun hj => (F8 (by rwa [sgx (by decide)] at hj)).below hb1, fun hj => (F9 (by rwa [sgx (by decide)] at hj)), fun hj => (F10 (by rwa [sgx (by decide)] at hj)), fun hj hu => (let ⟨g, e1, e2, e3⟩ := (F11 (by rwa [sgx (by decide)] at hj) (by rwa [sgx (by decide)] at hu)); ⟨g, e1, e2, e3.below hb1 e3.lt⟩), fun _ _ => ⟨_, rfl, hx.size, BoxR.new _ _ _ _⟩, fun hj => (let ⟨g, a, b, e1, e2, e3, e4⟩ := (F13 (by rwa [sgx (by decide)] at hj)); ⟨g, a, b, e1, e2, e3.below hb1 e3.lt, e4⟩), fun hj => absurd (hcl 14 _ rfl (by rwa [sgx (by decide)] at hj) ⟨12, .data⟩ (by simp) rfl) (by rw [getD_both hl]; simp), hx.trans (hb1.mono hx.size)⟩
    · as_aux_lemma =>
        obtain ⟨u10, u11, u37, u38, u39, u40, u41, u42, u43, u44, u45, u46, u47, rfl, F0, F1, F2, F3, F4, F5, F6, F7, F8, F9, F10, F11, F12, F13, F14, hx⟩ := hI
        have l11 := he ⟨11, .data⟩ (by simp) rfl
        have l9 := he ⟨9, .data⟩ (by simp) rfl
        have l8 := he ⟨8, .phase⟩ (by simp) rfl
        obtain ⟨g, rfl, g1, hAA⟩ := F11 l11 (getD_both hl)
        obtain ⟨y, hy⟩ := F9 l9
        obtain ⟨a, b, d, rfl, o1, o2, o3, oa⟩ := F8 l8
        simp at hy
        obtain ⟨rfl, rfl⟩ := hy
        obtain ⟨qa, qc, rfl, _, _⟩ := o1.shape
        obtain ⟨ra, rc, rfl, _, _⟩ := o2.shape
        obtain ⟨k0, k1, m0, m1⟩ := hAA.cells
        refine wpOp_stepx ho rfl (fun K hK => ?_)
        unfold xaA
        have ht := touchA g w' (.slice qa x.1.length qc) (.slice ra x.2.1.length rc)
        go_simp
        exact hK _ _ ⟨_, _, _, _, _, _, _, _, _, _, _, _, _, rfl, fun hj => (by first | exact (F0 (by rwa [sgx (by decide)] at hj)) | rfl), fun hj hu => absurd (he ⟨7, .chain⟩ (by simp) rfl) (by rw [show listed.getD 7 false = false by rwa [sgx (by decide)] at hu]; simp), fun hj => (by first | exact (F2 (by rwa [sgx (by decide)] at hj)) | rfl), fun hj hu => absurd (he ⟨7, .chain⟩ (by simp) rfl) (by rw [show listed.getD 7 false = false by rwa [sgx (by decide)] at hu]; simp), fun hj => (by first | exact (F4 (by rwa [sgx (by decide)] at hj)) | rfl), fun hj => (by first | exact (F5 (by rwa [sgx (by decide)] at hj)) | rfl), fun hj hu => absurd (he ⟨7, .chain⟩ (by simp) rfl) (by rw [show listed.getD 7 false = false by rwa [sgx (by decide)] at hu]; simp), fun hj => (F7 (by rwa [sgx (by decide)] at hj)).boxA hAA ht, fun hj => RF.boxA ⟨_, _, d, rfl, o1, o2, o3, oa⟩ hAA ht, fun hj => (F9 (by rwa [sgx (by decide)] at hj)), fun hj => (F10 (by rwa [sgx (by decide)] at hj)), fun _ hu => absurd hu (by rw [sgix hl]; simp), fun hj hu => (let ⟨g, e1, e2, e3⟩ := (F12 (by rwa [sgx (by decide)] at hj) (by rwa [sgx (by decide)] at hu)); ⟨g, e1, e2, e3.touch ht (hAA.ne e3)⟩), fun _ => ⟨g, _, _, rfl, g1, hAA.put _ _, rfl⟩, fun hj => absurd (hcl 14 _ rfl (by rwa [sgx (by decide)] at hj) ⟨13, .chain⟩ (by simp) rfl) (by rw [getD_both hl]; simp), Below.touchN hx ht g1 (Nat.le_refl _)⟩
    · as_aux_lemma =>
        obtain ⟨u10, u11, u37, u38, u39, u40, u41, u42, u43, u44, u45, u46, u47, rfl, F0, F1, F2, F3, F4, F5, F6, F7, F8, F9, F10, F11, F12, F13, F14, hx⟩ := hI
        have l12 := he ⟨12, .data⟩ (by simp) rfl
        have l10 := he ⟨10, .data⟩ (by simp) rfl
        have l8 := he ⟨8, .phase⟩ (by simp) rfl
        obtain ⟨g, rfl, g1, hR⟩ := F12 l12 (getD_both hl)
        obtain ⟨y, hy⟩ := F10 l10
        obtain ⟨a, b, d, rfl, o1, o2, o3, oa⟩ := F8 l8
        simp at hy
        obtain ⟨rfl, rfl⟩ := hy
        obtain ⟨qa, qc, rfl, _, _⟩ := o3.shape
        obtain ⟨k0, k1, k2, m0, m1, m2⟩ := hR.cells
        refine wpOp_stepx ho rfl (fun K hK => ?_)
        unfold xaA
        have ht := touchR g w' (.int .i64 x.2.2.id) (.int .i64 x.2.2.code) (.slice qa x.2.2.data.length qc)
        go_simp
        exact hK _ _ ⟨_, _, _, _, _, _, _, _, _, _, _, _, _, rfl, fun hj => (by first | exact (F0 (by rwa [sgx (by decide)] at hj)) | rfl), fun hj hu => absurd (he ⟨7, .phase⟩ (by simp) rfl) (by rw [show listed.getD 7 false = false by rwa [sgx (by decide)] at hu]; simp), fun hj => (by first | exact (F2 (by rwa [sgx (by decide)] at hj)) | rfl), fun hj hu => absurd (he ⟨7, .phase⟩ (by simp) rfl) (by rw [show listed.getD 7 false = false by rwa [sgx (by decide)] at hu]; simp), fun hj => (by first | exact (F4 (by rwa [sgx (by decide)] at hj)) | rfl), fun hj => (by first | exact (F5 (by rwa [sgx (by decide)] at hj)) | rfl), fun hj hu => absurd (he ⟨7, .phase⟩ (by simp) rfl) (by rw [show listed.getD 7 false = false by rwa [sgx (by decide)] at hu]; simp), fun hj => (F7 (by rwa [sgx (by decide)] at hj)).boxR hR ht, fun hj => RF.boxR ⟨a, b, _, rfl, o1, o2, o3, oa⟩ hR ht, fun hj => (F9 (by rwa [sgx (by decide)] at hj)), fun hj => (F10 (by rwa [sgx (by decide)] at hj)), fun hj hu => absurd (he ⟨13, .chain⟩ (by simp) rfl) (by rw [show listed.getD 13 false = false by rwa [sgx (by decide)] at hu]; simp), fun _ hu => absurd hu (by rw [sgix hl]; simp), fun hj => (let ⟨g2, a2, b2, e1, e2, e3, e4⟩ := (F13 (by rwa [sgx (by decide)] at hj)); ⟨g2, a2, b2, e1, e2, e3.touch ht (Ne.symm (e3.ne hR)), e4⟩), fun _ => ⟨g, _, _, _, rfl, g1, hR.put _ _ _, rfl⟩, Below.touchN hx ht g1 (Nat.le_refl _)⟩
  · intro listed a w' hI hd
    obtain ⟨u10, u11, u37, u38, u39, u40, u41, u42, u43, u44, u45, u46, u47, rfl, F0, F1, F2, F3, F4, F5, F6, F7, F8, F9, F10, F11, F12, F13, F14, hx⟩ := hI
    obtain ⟨a, b, d, hr, o1, o2, o3, oa⟩ := F8 (hd 8 (by show 8 < 15; omega))
    obtain ⟨y1, hy1⟩ := F9 (hd 9 (by show 9 < 15; omega))
    obtain ⟨y2, hy2⟩ := F10 (hd 10 (by show 10 < 15; omega))
    obtain ⟨ga, a', b', hp1, ga1, hA0, ha⟩ := F13 (hd 13 (by show 13 < 15; omega))
    obtain ⟨gr, i', c', d', hp2, gr1, hR0, hrr⟩ := F14 (hd 14 (by show 14 < 15; omega))
    clear F0 F1 F2 F3 F4 F5 F6 F7 F8 F9 F10 F11 F12 F13 F14 hd
    subst hr
    simp at hy1 hy2
    obtain ⟨hy1, hz1'⟩ := hy1
    obtain ⟨hz2', hy2⟩ := hy2
    subst hy1 hy2 hz1' hz2'
    simp at ha hrr
    obtain ⟨ha1, ha2⟩ := ha
    obtain ⟨hr1, hr2, hr3⟩ := hrr
    subst ha1 ha2 hr1 hr2 hr3 hp1 hp2
    exact hK _ _ _ _ _ _ _ _ _ _ _ _ _ w' ⟨ga, gr, a, b, d, rfl, rfl, ga1, gr1, hA0, hR0, o1, o2, o3, hx⟩

end Go.Proofs.Yteamebdehembgaa
