/-
  The program, of copies: the drawn region 42 of FnExactAtmRun (printed by wip/gen_xc.py).
-/
import Derived.Test.YteamebdehembgaaJSr1
import Derived.Test.YteamebdehembgaaKXa
import Derived.Test.YteamebdehembgaaJXn
import Derived.Test.YteamebdehembgaaJRu3
set_option linter.unusedVariables false
set_option linter.unusedSimpArgs false
namespace Go.Proofs.Yteamebdehembgaa
open Go.RowKit
attribute [local go_sem ↓] Go.wp_at_zero Go.wp_at_succ

/-- What AtmRun has told, as a value, read in blocks from lo up to hi; the box (if it is there) lies elsewhere. -/
def RG (l : Bool) (w : World) (ub v : Value) (x : List Int × List Int × List Rs) : Prop :=
  ∃ wa wc ha hc da dc lo hi, v = .tuple #[.agg #[.slice wa x.1.length wc, .slice ha x.2.1.length hc], .slice da x.2.2.length dc] ∧ IntsD w (fun b => lo ≤ b ∧ b < hi) (.slice wa x.1.length wc) x.1 ∧ IntsD w (fun b => lo ≤ b ∧ b < hi) (.slice ha x.2.1.length hc) x.2.1 ∧ RspsD w (fun b => lo ≤ b ∧ b < hi) (.slice da x.2.2.length dc) x.2.2 ∧ hi ≤ w.heap.size ∧ (l = true → ∀ g : Nat, ub = .pointer (some ⟨g, 0, none⟩) → g < lo ∨ hi ≤ g)
theorem RG.kept {l : Bool} {w w' : World} {ub v : Value} {x : List Int × List Int × List Rs} (h : RG l w ub v x) (hs : w.heap.size ≤ w'.heap.size) (hk : ∀ lo hi : Nat, hi ≤ w.heap.size → (l = true → ∀ g : Nat, ub = .pointer (some ⟨g, 0, none⟩) → g < lo ∨ hi ≤ g) → ∀ b, lo ≤ b → b < hi → w'.heap[b]? = w.heap[b]?) : RG l w' ub v x := by
  obtain ⟨wa, wc, ha, hc, da, dc, lo, hi, e, i1, i2, i3, h1, h2⟩ := h
  have kp : Keeps (fun b => lo ≤ b ∧ b < hi) w w' := fun b hb => hk lo hi h1 h2 b hb.1 hb.2
  exact ⟨wa, wc, ha, hc, da, dc, lo, hi, e, i1.kept kp, i2.kept kp, i3.kept kp, Nat.le_trans h1 hs, h2⟩
theorem RG.below {l : Bool} {w w' : World} {ub v : Value} {x : List Int × List Int × List Rs} (h : RG l w ub v x) (hb : Below w.heap.size w w') : RG l w' ub v x := h.kept hb.size fun _ hi h1 _ b _ hb2 => hb.block b (by omega)
theorem RG.touch {l : Bool} {w w' : World} {g : Nat} {v : Value} {x : List Int × List Int × List Rs} (h : RG l w (.pointer (some ⟨g, 0, none⟩)) v x) (hl : l = true) (ht : Touch g w w') : RG l w' (.pointer (some ⟨g, 0, none⟩)) v x :=
  h.kept ht.size fun lo hi h1 h2 b hb hb2 => ht.block b (by omega) (by have := h2 hl g rfl; omega)
theorem RG.alloc {l : Bool} {w : World} {ub v : Value} {x : List Int × List Int × List Rs} (h : RG l w ub v x) (o : Obj) : RG true (w.alloc o) (.pointer (some ⟨w.heap.size, 0, none⟩)) v x := by
  obtain ⟨wa, wc, ha, hc, da, dc, lo, hi, e, i1, i2, i3, h1, h2⟩ := h
  have kp : Keeps (fun b => lo ≤ b ∧ b < hi) w (w.alloc o) := fun b hb => ((Below.refl w.heap.size w).alloc (Nat.le_refl _) o).block b (by omega)
  refine ⟨wa, wc, ha, hc, da, dc, lo, hi, e, i1.kept kp, i2.kept kp, i3.kept kp, by simp; omega, fun _ g hg => ?_⟩
  simp only [Value.pointer.injEq, Option.some.injEq, Addr.mk.injEq, and_true] at hg
  omega
/-- Behind the region: the store lies in a new box; what was told is read. -/
def XsP (ua ub : Value) (x : List Int × List Int × List Rs) (wq w' : World) : Prop :=
  ∃ ga wa wc ha hc da dc, ua = .pointer (some ⟨ga, 0, none⟩) ∧ ub = .slice da x.2.2.length dc ∧ wq.heap.size ≤ ga ∧ BoxA w' ga (.slice wa x.1.length wc) (.slice ha x.2.1.length hc) ∧ Ints w' w'.heap.size (.slice wa x.1.length wc) x.1 ∧ Ints w' w'.heap.size (.slice ha x.2.1.length hc) x.2.1 ∧ Rsps w' w'.heap.size (.slice da x.2.2.length dc) x.2.2 ∧ Below wq.heap.size wq w'
theorem implRun_d (v sv u : Value) (ms : List MR) (B : Nat) (ws hs : List Int) (who : Int) (rs : List Rq) (w : World) (hv : Maps w B v ms) (hs1 : AtmV w B sv ws hs) (hu : Reqs w B u rs) (hB : B ≤ w.heap.size) :
    Calls Try.prog 47 #[v, sv, .int .i64 who, u] w (RunVD (atmRun ms ws hs who rs) w) := by
  have hsm := atmRun_small ms ws hs who rs
  refine (implAtmRun_any v sv u ms B ws hs who rs w hv hs1 hu hB).mono ?_
  rintro e w' ⟨wv, hv', dv, ds, rfl, o1, o2, o3, o4, o5, _, hb⟩
  have i1 := o1.intsD (P := fun b => w.heap.size ≤ b ∧ b < w'.heap.size) (OwnR.lt o1) (by have := hsm.lw; omega) hsm.w
  have i2 := o2.intsD (P := fun b => w.heap.size ≤ b ∧ b < w'.heap.size) (OwnR.lt o2) (by have := hsm.lh; omega) hsm.h
  have i3 : RspsD w' (fun b => w.heap.size ≤ b ∧ b < w'.heap.size) dv (atmRun ms ws hs who rs).2.2 := ⟨ds, o4, o3.arrD (OwnR.lt o3) rowR_len (by rw [mkRows_len _ _ o4]; have := hsm.ld; omega), fun j hj => (o5 j hj).intsD (OwnR.lt (o5 j hj)) (by have := (hsm.d _ (getD_mem (d := default) hj)).2.2.2; omega) (hsm.d _ (getD_mem (d := default) hj)).1, fun r hr => ⟨(hsm.d r hr).2.1, (hsm.d r hr).2.2.1⟩⟩
  obtain ⟨q1, k1, rfl, _, _⟩ := o1.shape
  obtain ⟨q2, k2, rfl, _, _⟩ := o2.shape
  obtain ⟨q3, k3, rfl, _, _⟩ := o3.shape
  rw [mkRows_len _ _ o4] at i3 ⊢
  exact ⟨_, _, _, _, _, _, rfl, i1, i2, i3, hb⟩
def xcA (i1 i4 i6 i7 i8 i9 i12 i13 i14 i15 i16 i17 i18 i19 i20 i21 i22 i23 i24 i25 i26 i27 i28 i29 i30 i31 i32 i33 i34 i35 i36 i48 i49 i50 i51 i52 i53 i54 i55 i56 i57 i58 i59 i60 i61 i62 i63 i64 i65 i66 i67 i68 i69 i70 i71 i72 i73 i74 i75 i76 i77 i78 i79 i80 i81 i82 i83 i84 i85 i86 i87 i88 i89 i90 i91 i92 i93 i94 i95 i96 i97 i98 i99 i100 i101 i102 i103 i104 i105 i106 i107 i108 i109 i110 i111 i112 i113 i114 i115 i116 i117 i118 i119 i120 i121 i122 i123 i124 i125 i126 i127 i128 i129 i130 i131 i132 i133 i134 i135 i136 i137 i138 i139 i140 i141 i142 i143 i144 i145 i146 i147 i148 i149 i150 i151 i152 i153 i154 i155 i156 i157 i158 i159 i160 i161 i162 : Value) (mv : Value) (uv : Value) (who : Int) (gX : Nat) (u10 u11 u37 u38 u39 u40 u41 u42 u43 u44 u45 u46 u47 : Value) : Act := { tmps := #[mv, i1, .int .i64 who, uv, i4, .pointer (some ⟨gX, 0, none⟩), i6, i7, i8, i9, u10, u11, i12, i13, i14, i15, i16, i17, i18, i19, i20, i21, i22, i23, i24, i25, i26, i27, i28, i29, i30, i31, i32, i33, i34, i35, i36, u37, u38, u39, u40, u41, u42, u43, u44, u45, u46, u47, i48, i49, i50, i51, i52, i53, i54, i55, i56, i57, i58, i59, i60, i61, i62, i63, i64, i65, i66, i67, i68, i69, i70, i71, i72, i73, i74, i75, i76, i77, i78, i79, i80, i81, i82, i83, i84, i85, i86, i87, i88, i89, i90, i91, i92, i93, i94, i95, i96, i97, i98, i99, i100, i101, i102, i103, i104, i105, i106, i107, i108, i109, i110, i111, i112, i113, i114, i115, i116, i117, i118, i119, i120, i121, i122, i123, i124, i125, i126, i127, i128, i129, i130, i131, i132, i133, i134, i135, i136, i137, i138, i139, i140, i141, i142, i143, i144, i145, i146, i147, i148, i149, i150, i151, i152, i153, i154, i155, i156, i157, i158, i159, i160, i161, i162], defers := [] }
def xcI (i1 i4 i6 i7 i8 i9 i12 i13 i14 i15 i16 i17 i18 i19 i20 i21 i22 i23 i24 i25 i26 i27 i28 i29 i30 i31 i32 i33 i34 i35 i36 i48 i49 i50 i51 i52 i53 i54 i55 i56 i57 i58 i59 i60 i61 i62 i63 i64 i65 i66 i67 i68 i69 i70 i71 i72 i73 i74 i75 i76 i77 i78 i79 i80 i81 i82 i83 i84 i85 i86 i87 i88 i89 i90 i91 i92 i93 i94 i95 i96 i97 i98 i99 i100 i101 i102 i103 i104 i105 i106 i107 i108 i109 i110 i111 i112 i113 i114 i115 i116 i117 i118 i119 i120 i121 i122 i123 i124 i125 i126 i127 i128 i129 i130 i131 i132 i133 i134 i135 i136 i137 i138 i139 i140 i141 i142 i143 i144 i145 i146 i147 i148 i149 i150 i151 i152 i153 i154 i155 i156 i157 i158 i159 i160 i161 i162 : Value) (mv : Value) (uv : Value) (who : Int) (gX : Nat) (av : Value) (bv : Value) (x : List Int × List Int × List Rs) (wq : World) (ms : List MR) (wk : List Int) (hk : List Int) (rs : List Rq) (listed : Array Bool) (a : Act) (w' : World) : Prop :=
  ∃ u10 u11 u37 u38 u39 u40 u41 u42 u43 u44 u45 u46 u47 : Value, a = xcA i1 i4 i6 i7 i8 i9 i12 i13 i14 i15 i16 i17 i18 i19 i20 i21 i22 i23 i24 i25 i26 i27 i28 i29 i30 i31 i32 i33 i34 i35 i36 i48 i49 i50 i51 i52 i53 i54 i55 i56 i57 i58 i59 i60 i61 i62 i63 i64 i65 i66 i67 i68 i69 i70 i71 i72 i73 i74 i75 i76 i77 i78 i79 i80 i81 i82 i83 i84 i85 i86 i87 i88 i89 i90 i91 i92 i93 i94 i95 i96 i97 i98 i99 i100 i101 i102 i103 i104 i105 i106 i107 i108 i109 i110 i111 i112 i113 i114 i115 i116 i117 i118 i119 i120 i121 i122 i123 i124 i125 i126 i127 i128 i129 i130 i131 i132 i133 i134 i135 i136 i137 i138 i139 i140 i141 i142 i143 i144 i145 i146 i147 i148 i149 i150 i151 i152 i153 i154 i155 i156 i157 i158 i159 i160 i161 i162 mv uv who gX u10 u11 u37 u38 u39 u40 u41 u42 u43 u44 u45 u46 u47 ∧
      (listed.getD 0 false = true → u38 = mv) ∧
      (listed.getD 1 false = true → listed.getD 7 false = false → Maps w' w'.heap.size u39 ms) ∧
      (listed.getD 2 false = true → u40 = .agg #[av, bv]) ∧
      (listed.getD 3 false = true → listed.getD 7 false = false → AtmV w' w'.heap.size u41 wk hk) ∧
      (listed.getD 4 false = true → u42 = .int .i64 who) ∧
      (listed.getD 5 false = true → u43 = uv) ∧
      (listed.getD 6 false = true → listed.getD 7 false = false → Reqs w' w'.heap.size u44 rs) ∧
      (listed.getD 7 false = true → RG (listed.getD 11 false) w' u10 u45 x) ∧
      (listed.getD 8 false = true → RG (listed.getD 11 false) w' u10 u37 x) ∧
      (listed.getD 9 false = true → ∃ y, u37 = .tuple #[u46, y]) ∧
      (listed.getD 10 false = true → ∃ y, u37 = .tuple #[y, u47]) ∧
      (listed.getD 11 false = true → listed.getD 12 false = false → ∃ g, u10 = .pointer (some ⟨g, 0, none⟩) ∧ wq.heap.size ≤ g ∧ BoxA w' g (.slice none 0 0) (.slice none 0 0)) ∧
      (listed.getD 12 false = true → ∃ g a b, u10 = .pointer (some ⟨g, 0, none⟩) ∧ wq.heap.size ≤ g ∧ BoxA w' g a b ∧ u46 = .agg #[a, b]) ∧
      (listed.getD 13 false = true → ∃ y, u37 = .tuple #[y, u11]) ∧
      Below wq.heap.size wq w'
noncomputable def xcCode : Code := (Try.f7.body.bind (regIn 11)).getD .skip

set_option maxRecDepth 100000 in
set_option maxHeartbeats 16000000 in
theorem xc_region (i1 i4 i6 i7 i8 i9 i12 i13 i14 i15 i16 i17 i18 i19 i20 i21 i22 i23 i24 i25 i26 i27 i28 i29 i30 i31 i32 i33 i34 i35 i36 i48 i49 i50 i51 i52 i53 i54 i55 i56 i57 i58 i59 i60 i61 i62 i63 i64 i65 i66 i67 i68 i69 i70 i71 i72 i73 i74 i75 i76 i77 i78 i79 i80 i81 i82 i83 i84 i85 i86 i87 i88 i89 i90 i91 i92 i93 i94 i95 i96 i97 i98 i99 i100 i101 i102 i103 i104 i105 i106 i107 i108 i109 i110 i111 i112 i113 i114 i115 i116 i117 i118 i119 i120 i121 i122 i123 i124 i125 i126 i127 i128 i129 i130 i131 i132 i133 i134 i135 i136 i137 i138 i139 i140 i141 i142 i143 i144 i145 i146 i147 i148 i149 i150 i151 i152 i153 i154 i155 i156 i157 i158 i159 i160 i161 i162 j10 j11 j37 j38 j39 j40 j41 j42 j43 j44 j45 j46 j47 : Value) (mv : Value) (uv : Value) (who : Int) (gX : Nat) (av : Value) (bv : Value) (x : List Int × List Int × List Rs) (wq : World) (ms : List MR) (wk : List Int) (hk : List Int) (rs : List Rq)
    (HX : Hid (x = atmRun ms wk hk who rs)) (hX : Bx wq gX [av, bv]) (hM : Maps wq wq.heap.size mv ms) (hA : AtmV wq wq.heap.size (.agg #[av, bv]) wk hk) (hA2 : (∀ y ∈ wk, I64 y) ∧ ∀ y ∈ hk, I64 y) (hU : Reqs wq wq.heap.size uv rs) (hQ2 : ∀ q ∈ rs, Rq20 q ∧ (∀ y ∈ q.data, I64 y) ∧ (∀ y ∈ q.lanes, I64 y) ∧ I64 q.id ∧ I64 q.kind ∧ I64 q.addr ∧ I64 q.many) (h20 : ∀ j, j < rs.length → Rq20 (rs.getD j default)) (hl0 : ms.length ≤ 1048576) (hl1 : wk.length ≤ 1048576) (hl2 : hk.length ≤ 1048576) (hl3 : rs.length ≤ 1048576)
    {K : Act → World → Prop} {Q' : Exit → Act → World → Prop}
    (hK : ∀ (u10 u11 u37 u38 u39 u40 u41 u42 u43 u44 u45 u46 u47 : Value) w', XsP u10 u11 x wq w' → K (xcA i1 i4 i6 i7 i8 i9 i12 i13 i14 i15 i16 i17 i18 i19 i20 i21 i22 i23 i24 i25 i26 i27 i28 i29 i30 i31 i32 i33 i34 i35 i36 i48 i49 i50 i51 i52 i53 i54 i55 i56 i57 i58 i59 i60 i61 i62 i63 i64 i65 i66 i67 i68 i69 i70 i71 i72 i73 i74 i75 i76 i77 i78 i79 i80 i81 i82 i83 i84 i85 i86 i87 i88 i89 i90 i91 i92 i93 i94 i95 i96 i97 i98 i99 i100 i101 i102 i103 i104 i105 i106 i107 i108 i109 i110 i111 i112 i113 i114 i115 i116 i117 i118 i119 i120 i121 i122 i123 i124 i125 i126 i127 i128 i129 i130 i131 i132 i133 i134 i135 i136 i137 i138 i139 i140 i141 i142 i143 i144 i145 i146 i147 i148 i149 i150 i151 i152 i153 i154 i155 i156 i157 i158 i159 i160 i161 i162 mv uv who gX u10 u11 u37 u38 u39 u40 u41 u42 u43 u44 u45 u46 u47) w') : xcCode.wp Try.prog (Exit.then K Q') (xcA i1 i4 i6 i7 i8 i9 i12 i13 i14 i15 i16 i17 i18 i19 i20 i21 i22 i23 i24 i25 i26 i27 i28 i29 i30 i31 i32 i33 i34 i35 i36 i48 i49 i50 i51 i52 i53 i54 i55 i56 i57 i58 i59 i60 i61 i62 i63 i64 i65 i66 i67 i68 i69 i70 i71 i72 i73 i74 i75 i76 i77 i78 i79 i80 i81 i82 i83 i84 i85 i86 i87 i88 i89 i90 i91 i92 i93 i94 i95 i96 i97 i98 i99 i100 i101 i102 i103 i104 i105 i106 i107 i108 i109 i110 i111 i112 i113 i114 i115 i116 i117 i118 i119 i120 i121 i122 i123 i124 i125 i126 i127 i128 i129 i130 i131 i132 i133 i134 i135 i136 i137 i138 i139 i140 i141 i142 i143 i144 i145 i146 i147 i148 i149 i150 i151 i152 i153 i154 i155 i156 i157 i158 i159 i160 i161 i162 mv uv who gX j10 j11 j37 j38 j39 j40 j41 j42 j43 j44 j45 j46 j47) wq := by
  conv => arg 2; whnf
  refine wp_region_inv2 (xcI i1 i4 i6 i7 i8 i9 i12 i13 i14 i15 i16 i17 i18 i19 i20 i21 i22 i23 i24 i25 i26 i27 i28 i29 i30 i31 i32 i33 i34 i35 i36 i48 i49 i50 i51 i52 i53 i54 i55 i56 i57 i58 i59 i60 i61 i62 i63 i64 i65 i66 i67 i68 i69 i70 i71 i72 i73 i74 i75 i76 i77 i78 i79 i80 i81 i82 i83 i84 i85 i86 i87 i88 i89 i90 i91 i92 i93 i94 i95 i96 i97 i98 i99 i100 i101 i102 i103 i104 i105 i106 i107 i108 i109 i110 i111 i112 i113 i114 i115 i116 i117 i118 i119 i120 i121 i122 i123 i124 i125 i126 i127 i128 i129 i130 i131 i132 i133 i134 i135 i136 i137 i138 i139 i140 i141 i142 i143 i144 i145 i146 i147 i148 i149 i150 i151 i152 i153 i154 i155 i156 i157 i158 i159 i160 i161 i162 mv uv who gX av bv x wq ms wk hk rs) (by kernel_rfl) (by kernel_rfl) ?_ ?_ ?_
  · exact ⟨_, _, _, _, _, _, _, _, _, _, _, _, _, rfl, (fun h => absurd h (by rw [getD_replicate_false]; simp)), (fun h _ => absurd h (by rw [getD_replicate_false]; simp)), (fun h => absurd h (by rw [getD_replicate_false]; simp)), (fun h _ => absurd h (by rw [getD_replicate_false]; simp)), (fun h => absurd h (by rw [getD_replicate_false]; simp)), (fun h => absurd h (by rw [getD_replicate_false]; simp)), (fun h _ => absurd h (by rw [getD_replicate_false]; simp)), (fun h => absurd h (by rw [getD_replicate_false]; simp)), (fun h => absurd h (by rw [getD_replicate_false]; simp)), (fun h => absurd h (by rw [getD_replicate_false]; simp)), (fun h => absurd h (by rw [getD_replicate_false]; simp)), (fun h _ => absurd h (by rw [getD_replicate_false]; simp)), (fun h => absurd h (by rw [getD_replicate_false]; simp)), (fun h => absurd h (by rw [getD_replicate_false]; simp)), (Below.refl _ _).drew⟩
  · intro listed a w' i o hI hsz ho hl he hcl
    have hi : i < 14 := (Array.getElem?_eq_some_iff.1 ho).1
    have e : i = 0 ∨ i = 1 ∨ i = 2 ∨ i = 3 ∨ i = 4 ∨ i = 5 ∨ i = 6 ∨ i = 7 ∨ i = 8 ∨ i = 9 ∨ i = 10 ∨ i = 11 ∨ i = 12 ∨ i = 13 := by omega
    clear hi
    rcases e with rfl | rfl | rfl | rfl | rfl | rfl | rfl | rfl | rfl | rfl | rfl | rfl | rfl | rfl
    all_goals (have ho2 := ho; obtain rfl := Option.some.inj ho2.symm; clear ho2)
    · as_aux_lemma =>
        obtain ⟨u10, u11, u37, u38, u39, u40, u41, u42, u43, u44, u45, u46, u47, rfl, F0, F1, F2, F3, F4, F5, F6, F7, F8, F9, F10, F11, F12, F13, hx⟩ := hI
        refine wpOp_stepx ho rfl (fun K hK => ?_)
        unfold xcA
        go_simp
        exact hK _ _ ⟨_, _, _, _, _, _, _, _, _, _, _, _, _, rfl, fun _ => rfl, fun hj hu => (F1 (by rwa [sgx (by decide)] at hj) (by rwa [sgx (by decide)] at hu)), fun hj => (by first | exact (F2 (by rwa [sgx (by decide)] at hj)) | rfl), fun hj hu => (F3 (by rwa [sgx (by decide)] at hj) (by rwa [sgx (by decide)] at hu)), fun hj => (by first | exact (F4 (by rwa [sgx (by decide)] at hj)) | rfl), fun hj => (by first | exact (F5 (by rwa [sgx (by decide)] at hj)) | rfl), fun hj hu => (F6 (by rwa [sgx (by decide)] at hj) (by rwa [sgx (by decide)] at hu)), fun hj => (by rw [sgx (by decide)]; exact (F7 (by rwa [sgx (by decide)] at hj))), fun hj => (by rw [sgx (by decide)]; exact (F8 (by rwa [sgx (by decide)] at hj))), fun hj => (F9 (by rwa [sgx (by decide)] at hj)), fun hj => (F10 (by rwa [sgx (by decide)] at hj)), fun hj hu => (F11 (by rwa [sgx (by decide)] at hj) (by rwa [sgx (by decide)] at hu)), fun hj => (F12 (by rwa [sgx (by decide)] at hj)), fun hj => (F13 (by rwa [sgx (by decide)] at hj)), hx⟩
    · as_aux_lemma =>
        obtain ⟨u10, u11, u37, u38, u39, u40, u41, u42, u43, u44, u45, u46, u47, rfl, F0, F1, F2, F3, F4, F5, F6, F7, F8, F9, F10, F11, F12, F13, hx⟩ := hI
        have l0 := he ⟨0, .data⟩ (by simp) rfl
        have e := F0 l0; subst e
        refine wpOp_stepx ho rfl (fun K hK => ?_)
        unfold xcA
        go_simp
        (with_reducible refine (toRanges_any _ ms w'.heap.size w' ((hM.below hx).mono hx.size) (Nat.le_refl _) hl0).mono ?_)
        rintro e w'' ⟨uu, rfl, ho, hb1⟩
        go_wp2_with fail
        exact ⟨_, _, _, _, _, _, _, _, _, _, _, _, _, rfl, fun hj => (by first | exact (F0 (by rwa [sgx (by decide)] at hj)) | rfl), fun _ _ => ho.maps hl0 hM.2, fun hj => (by first | exact (F2 (by rwa [sgx (by decide)] at hj)) | rfl), fun hj hu => ((F3 (by rwa [sgx (by decide)] at hj) (by rwa [sgx (by decide)] at hu)).below hb1).mono hb1.size, fun hj => (by first | exact (F4 (by rwa [sgx (by decide)] at hj)) | rfl), fun hj => (by first | exact (F5 (by rwa [sgx (by decide)] at hj)) | rfl), fun hj hu => ((F6 (by rwa [sgx (by decide)] at hj) (by rwa [sgx (by decide)] at hu)).below hb1).mono hb1.size, fun hj => (by rw [sgx (by decide)]; exact ((F7 (by rwa [sgx (by decide)] at hj))).below hb1), fun hj => (by rw [sgx (by decide)]; exact ((F8 (by rwa [sgx (by decide)] at hj))).below hb1), fun hj => (F9 (by rwa [sgx (by decide)] at hj)), fun hj => (F10 (by rwa [sgx (by decide)] at hj)), fun hj hu => (let ⟨g, e1, e2, e3⟩ := (F11 (by rwa [sgx (by decide)] at hj) (by rwa [sgx (by decide)] at hu)); ⟨g, e1, e2, e3.below hb1 e3.lt⟩), fun hj => (let ⟨g, a, b, e1, e2, e3, e4⟩ := (F12 (by rwa [sgx (by decide)] at hj)); ⟨g, a, b, e1, e2, e3.below hb1 e3.lt, e4⟩), fun hj => (F13 (by rwa [sgx (by decide)] at hj)), hx.trans (hb1.mono hx.size)⟩
    · as_aux_lemma =>
        obtain ⟨u10, u11, u37, u38, u39, u40, u41, u42, u43, u44, u45, u46, u47, rfl, F0, F1, F2, F3, F4, F5, F6, F7, F8, F9, F10, F11, F12, F13, hx⟩ := hI
        obtain ⟨⟨k0, k1⟩, m0, m1⟩ := (hX.below hx hX.lt).two
        refine wpOp_stepx ho rfl (fun K hK => ?_)
        unfold xcA
        go_simp
        exact hK _ _ ⟨_, _, _, _, _, _, _, _, _, _, _, _, _, rfl, fun hj => (by first | exact (F0 (by rwa [sgx (by decide)] at hj)) | rfl), fun hj hu => (F1 (by rwa [sgx (by decide)] at hj) (by rwa [sgx (by decide)] at hu)), fun _ => rfl, fun hj hu => (F3 (by rwa [sgx (by decide)] at hj) (by rwa [sgx (by decide)] at hu)), fun hj => (by first | exact (F4 (by rwa [sgx (by decide)] at hj)) | rfl), fun hj => (by first | exact (F5 (by rwa [sgx (by decide)] at hj)) | rfl), fun hj hu => (F6 (by rwa [sgx (by decide)] at hj) (by rwa [sgx (by decide)] at hu)), fun hj => (by rw [sgx (by decide)]; exact (F7 (by rwa [sgx (by decide)] at hj))), fun hj => (by rw [sgx (by decide)]; exact (F8 (by rwa [sgx (by decide)] at hj))), fun hj => (F9 (by rwa [sgx (by decide)] at hj)), fun hj => (F10 (by rwa [sgx (by decide)] at hj)), fun hj hu => (F11 (by rwa [sgx (by decide)] at hj) (by rwa [sgx (by decide)] at hu)), fun hj => (F12 (by rwa [sgx (by decide)] at hj)), fun hj => (F13 (by rwa [sgx (by decide)] at hj)), hx⟩
    · as_aux_lemma =>
        obtain ⟨u10, u11, u37, u38, u39, u40, u41, u42, u43, u44, u45, u46, u47, rfl, F0, F1, F2, F3, F4, F5, F6, F7, F8, F9, F10, F11, F12, F13, hx⟩ := hI
        have l2 := he ⟨2, .data⟩ (by simp) rfl
        have e := F2 l2; subst e
        refine wpOp_stepx ho rfl (fun K hK => ?_)
        unfold xcA
        go_simp
        (with_reducible refine (toAtm_any _ wk hk w'.heap.size w' ((hA.below hx).mono hx.size) (Nat.le_refl _) hl1 hl2).mono ?_)
        rintro e w'' ⟨uu, zz, rfl, ho, ho2, _, hb1⟩
        go_wp2_with fail
        exact ⟨_, _, _, _, _, _, _, _, _, _, _, _, _, rfl, fun hj => (by first | exact (F0 (by rwa [sgx (by decide)] at hj)) | rfl), fun hj hu => ((F1 (by rwa [sgx (by decide)] at hj) (by rwa [sgx (by decide)] at hu)).below hb1).mono hb1.size, fun hj => (by first | exact (F2 (by rwa [sgx (by decide)] at hj)) | rfl), fun _ _ => ⟨_, _, rfl, ho.ints (by omega) hA2.1, ho2.ints (by omega) hA2.2⟩, fun hj => (by first | exact (F4 (by rwa [sgx (by decide)] at hj)) | rfl), fun hj => (by first | exact (F5 (by rwa [sgx (by decide)] at hj)) | rfl), fun hj hu => ((F6 (by rwa [sgx (by decide)] at hj) (by rwa [sgx (by decide)] at hu)).below hb1).mono hb1.size, fun hj => (by rw [sgx (by decide)]; exact ((F7 (by rwa [sgx (by decide)] at hj))).below hb1), fun hj => (by rw [sgx (by decide)]; exact ((F8 (by rwa [sgx (by decide)] at hj))).below hb1), fun hj => (F9 (by rwa [sgx (by decide)] at hj)), fun hj => (F10 (by rwa [sgx (by decide)] at hj)), fun hj hu => (let ⟨g, e1, e2, e3⟩ := (F11 (by rwa [sgx (by decide)] at hj) (by rwa [sgx (by decide)] at hu)); ⟨g, e1, e2, e3.below hb1 e3.lt⟩), fun hj => (let ⟨g, a, b, e1, e2, e3, e4⟩ := (F12 (by rwa [sgx (by decide)] at hj)); ⟨g, a, b, e1, e2, e3.below hb1 e3.lt, e4⟩), fun hj => (F13 (by rwa [sgx (by decide)] at hj)), hx.trans (hb1.mono hx.size)⟩
    · as_aux_lemma =>
        obtain ⟨u10, u11, u37, u38, u39, u40, u41, u42, u43, u44, u45, u46, u47, rfl, F0, F1, F2, F3, F4, F5, F6, F7, F8, F9, F10, F11, F12, F13, hx⟩ := hI
        refine wpOp_stepx ho rfl (fun K hK => ?_)
        unfold xcA
        go_simp
        exact hK _ _ ⟨_, _, _, _, _, _, _, _, _, _, _, _, _, rfl, fun hj => (by first | exact (F0 (by rwa [sgx (by decide)] at hj)) | rfl), fun hj hu => (F1 (by rwa [sgx (by decide)] at hj) (by rwa [sgx (by decide)] at hu)), fun hj => (by first | exact (F2 (by rwa [sgx (by decide)] at hj)) | rfl), fun hj hu => (F3 (by rwa [sgx (by decide)] at hj) (by rwa [sgx (by decide)] at hu)), fun _ => rfl, fun hj => (by first | exact (F5 (by rwa [sgx (by decide)] at hj)) | rfl), fun hj hu => (F6 (by rwa [sgx (by decide)] at hj) (by rwa [sgx (by decide)] at hu)), fun hj => (by rw [sgx (by decide)]; exact (F7 (by rwa [sgx (by decide)] at hj))), fun hj => (by rw [sgx (by decide)]; exact (F8 (by rwa [sgx (by decide)] at hj))), fun hj => (F9 (by rwa [sgx (by decide)] at hj)), fun hj => (F10 (by rwa [sgx (by decide)] at hj)), fun hj hu => (F11 (by rwa [sgx (by decide)] at hj) (by rwa [sgx (by decide)] at hu)), fun hj => (F12 (by rwa [sgx (by decide)] at hj)), fun hj => (F13 (by rwa [sgx (by decide)] at hj)), hx⟩
    · as_aux_lemma =>
        obtain ⟨u10, u11, u37, u38, u39, u40, u41, u42, u43, u44, u45, u46, u47, rfl, F0, F1, F2, F3, F4, F5, F6, F7, F8, F9, F10, F11, F12, F13, hx⟩ := hI
        refine wpOp_stepx ho rfl (fun K hK => ?_)
        unfold xcA
        go_simp
        exact hK _ _ ⟨_, _, _, _, _, _, _, _, _, _, _, _, _, rfl, fun hj => (by first | exact (F0 (by rwa [sgx (by decide)] at hj)) | rfl), fun hj hu => (F1 (by rwa [sgx (by decide)] at hj) (by rwa [sgx (by decide)] at hu)), fun hj => (by first | exact (F2 (by rwa [sgx (by decide)] at hj)) | rfl), fun hj hu => (F3 (by rwa [sgx (by decide)] at hj) (by rwa [sgx (by decide)] at hu)), fun hj => (by first | exact (F4 (by rwa [sgx (by decide)] at hj)) | rfl), fun _ => rfl, fun hj hu => (F6 (by rwa [sgx (by decide)] at hj) (by rwa [sgx (by decide)] at hu)), fun hj => (by rw [sgx (by decide)]; exact (F7 (by rwa [sgx (by decide)] at hj))), fun hj => (by rw [sgx (by decide)]; exact (F8 (by rwa [sgx (by decide)] at hj))), fun hj => (F9 (by rwa [sgx (by decide)] at hj)), fun hj => (F10 (by rwa [sgx (by decide)] at hj)), fun hj hu => (F11 (by rwa [sgx (by decide)] at hj) (by rwa [sgx (by decide)] at hu)), fun hj => (F12 (by rwa [sgx (by decide)] at hj)), fun hj => (F13 (by rwa [sgx (by decide)] at hj)), hx⟩
    · as_aux_lemma =>
        obtain ⟨u10, u11, u37, u38, u39, u40, u41, u42, u43, u44, u45, u46, u47, rfl, F0, F1, F2, F3, F4, F5, F6, F7, F8, F9, F10, F11, F12, F13, hx⟩ := hI
        have l5 := he ⟨5, .data⟩ (by simp) rfl
        have e := F5 l5; subst e
        refine wpOp_stepx ho rfl (fun K hK => ?_)
        unfold xcA
        go_simp
        (with_reducible refine (toReqs_any _ rs w'.heap.size w' ((hU.below hx).mono hx.size) (Nat.le_refl _) hl3 h20).mono ?_)
        rintro e w'' ⟨gg, vs, rfl, ho, hb1⟩
        go_wp2_with fail
        exact ⟨_, _, _, _, _, _, _, _, _, _, _, _, _, rfl, fun hj => (by first | exact (F0 (by rwa [sgx (by decide)] at hj)) | rfl), fun hj hu => ((F1 (by rwa [sgx (by decide)] at hj) (by rwa [sgx (by decide)] at hu)).below hb1).mono hb1.size, fun hj => (by first | exact (F2 (by rwa [sgx (by decide)] at hj)) | rfl), fun hj hu => ((F3 (by rwa [sgx (by decide)] at hj) (by rwa [sgx (by decide)] at hu)).below hb1).mono hb1.size, fun hj => (by first | exact (F4 (by rwa [sgx (by decide)] at hj)) | rfl), fun hj => (by first | exact (F5 (by rwa [sgx (by decide)] at hj)) | rfl), fun _ _ => ho.reqs hl3 hQ2, fun hj => (by rw [sgx (by decide)]; exact ((F7 (by rwa [sgx (by decide)] at hj))).below hb1), fun hj => (by rw [sgx (by decide)]; exact ((F8 (by rwa [sgx (by decide)] at hj))).below hb1), fun hj => (F9 (by rwa [sgx (by decide)] at hj)), fun hj => (F10 (by rwa [sgx (by decide)] at hj)), fun hj hu => (let ⟨g, e1, e2, e3⟩ := (F11 (by rwa [sgx (by decide)] at hj) (by rwa [sgx (by decide)] at hu)); ⟨g, e1, e2, e3.below hb1 e3.lt⟩), fun hj => (let ⟨g, a, b, e1, e2, e3, e4⟩ := (F12 (by rwa [sgx (by decide)] at hj)); ⟨g, a, b, e1, e2, e3.below hb1 e3.lt, e4⟩), fun hj => (F13 (by rwa [sgx (by decide)] at hj)), hx.trans (hb1.mono hx.size)⟩
    · as_aux_lemma =>
        obtain ⟨u10, u11, u37, u38, u39, u40, u41, u42, u43, u44, u45, u46, u47, rfl, F0, F1, F2, F3, F4, F5, F6, F7, F8, F9, F10, F11, F12, F13, hx⟩ := hI
        have l1 := he ⟨1, .data⟩ (by simp) rfl
        have l3 := he ⟨3, .data⟩ (by simp) rfl
        have l4 := he ⟨4, .data⟩ (by simp) rfl
        have l6 := he ⟨6, .data⟩ (by simp) rfl
        have e := F4 l4; subst e
        have gM := F1 l1 (getD_both hl)
        have gA := F3 l3 (getD_both hl)
        have gQ := F6 l6 (getD_both hl)
        have hbx : listed.getD 11 false = true → ∀ g, u10 = .pointer (some ⟨g, 0, none⟩) → g < w'.heap.size := fun h11 g hg => by
          have h12 : listed.getD 12 false = false := by
            rcases hq : listed.getD 12 false with _ | _
            · rfl
            · exact absurd (hcl 12 _ rfl hq ⟨7, .chain⟩ (by simp) rfl) (by rw [getD_both hl]; simp)
          obtain ⟨g2, e2, _, hBA⟩ := F11 h11 h12
          rw [hg] at e2
          simp only [Value.pointer.injEq, Option.some.injEq, Addr.mk.injEq, and_true] at e2
          rw [e2]; exact hBA.lt
        refine wpOp_stepx ho rfl (fun K hK => ?_)
        unfold xcA
        go_simp
        (with_reducible refine (specRun_d _ _ _ ms w'.heap.size wk hk who rs w' gM gA gQ (Nat.le_refl _)).mono ?_)
        rw [← HX.out]
        rintro e w'' ⟨a1, c1, a2, c2, a3, c3, rfl, o1, o2, o3, hb1⟩
        go_wp2_with fail
        exact ⟨_, _, _, _, _, _, _, _, _, _, _, _, _, rfl, fun hj => (by first | exact (F0 (by rwa [sgx (by decide)] at hj)) | rfl), fun _ hu => absurd hu (by rw [sgix hl]; simp), fun hj => (by first | exact (F2 (by rwa [sgx (by decide)] at hj)) | rfl), fun _ hu => absurd hu (by rw [sgix hl]; simp), fun hj => (by first | exact (F4 (by rwa [sgx (by decide)] at hj)) | rfl), fun hj => (by first | exact (F5 (by rwa [sgx (by decide)] at hj)) | rfl), fun _ hu => absurd hu (by rw [sgix hl]; simp), fun _ => (by rw [sgx (by decide)]; exact ⟨_, _, _, _, _, _, _, _, rfl, o1, o2, o3, Nat.le_refl _, fun h g hg => .inl (hbx h g hg)⟩), fun hj => absurd (hcl 8 _ rfl (by rwa [sgx (by decide)] at hj) ⟨7, .data⟩ (by simp) rfl) (by rw [getD_both hl]; simp), fun hj => (F9 (by rwa [sgx (by decide)] at hj)), fun hj => (F10 (by rwa [sgx (by decide)] at hj)), fun hj hu => (let ⟨g, e1, e2, e3⟩ := (F11 (by rwa [sgx (by decide)] at hj) (by rwa [sgx (by decide)] at hu)); ⟨g, e1, e2, e3.below hb1 e3.lt⟩), fun hj => absurd (hcl 12 _ rfl (by rwa [sgx (by decide)] at hj) ⟨7, .chain⟩ (by simp) rfl) (by rw [getD_both hl]; simp), fun hj => (F13 (by rwa [sgx (by decide)] at hj)), hx.trans (hb1.mono hx.size)⟩
    · as_aux_lemma =>
        obtain ⟨u10, u11, u37, u38, u39, u40, u41, u42, u43, u44, u45, u46, u47, rfl, F0, F1, F2, F3, F4, F5, F6, F7, F8, F9, F10, F11, F12, F13, hx⟩ := hI
        have l7 := he ⟨7, .data⟩ (by simp) rfl
        have l := F7 l7
        refine wpOp_stepx ho rfl (fun K hK => ?_)
        unfold xcA
        go_simp
        exact hK _ _ ⟨_, _, _, _, _, _, _, _, _, _, _, _, _, rfl, fun hj => (by first | exact (F0 (by rwa [sgx (by decide)] at hj)) | rfl), fun hj hu => (F1 (by rwa [sgx (by decide)] at hj) (by rwa [sgx (by decide)] at hu)), fun hj => (by first | exact (F2 (by rwa [sgx (by decide)] at hj)) | rfl), fun hj hu => (F3 (by rwa [sgx (by decide)] at hj) (by rwa [sgx (by decide)] at hu)), fun hj => (by first | exact (F4 (by rwa [sgx (by decide)] at hj)) | rfl), fun hj => (by first | exact (F5 (by rwa [sgx (by decide)] at hj)) | rfl), fun hj hu => (F6 (by rwa [sgx (by decide)] at hj) (by rwa [sgx (by decide)] at hu)), fun hj => (by rw [sgx (by decide)]; exact (F7 (by rwa [sgx (by decide)] at hj))), fun _ => (by rw [sgx (by decide)]; exact l), fun hj => absurd (hcl 9 _ rfl (by rwa [sgx (by decide)] at hj) ⟨8, .data⟩ (by simp) rfl) (by rw [getD_both hl]; simp), fun hj => absurd (hcl 10 _ rfl (by rwa [sgx (by decide)] at hj) ⟨8, .data⟩ (by simp) rfl) (by rw [getD_both hl]; simp), fun hj hu => (F11 (by rwa [sgx (by decide)] at hj) (by rwa [sgx (by decide)] at hu)), fun hj => (F12 (by rwa [sgx (by decide)] at hj)), fun hj => absurd (hcl 10 _ rfl (hcl 13 _ rfl (by rwa [sgx (by decide)] at hj) ⟨10, .data⟩ (by simp) rfl) ⟨8, .data⟩ (by simp) rfl) (by rw [getD_both hl]; simp), hx⟩
    · as_aux_lemma =>
        obtain ⟨u10, u11, u37, u38, u39, u40, u41, u42, u43, u44, u45, u46, u47, rfl, F0, F1, F2, F3, F4, F5, F6, F7, F8, F9, F10, F11, F12, F13, hx⟩ := hI
        have l8 := he ⟨8, .data⟩ (by simp) rfl
        obtain ⟨wa, wc, ha, hc, da, dc, lo, hi, rfl, i1, i2, i3, hh, hc9⟩ := F8 l8
        refine wpOp_stepx ho rfl (fun K hK => ?_)
        unfold xcA
        go_simp
        exact hK _ _ ⟨_, _, _, _, _, _, _, _, _, _, _, _, _, rfl, fun hj => (by first | exact (F0 (by rwa [sgx (by decide)] at hj)) | rfl), fun hj hu => (F1 (by rwa [sgx (by decide)] at hj) (by rwa [sgx (by decide)] at hu)), fun hj => (by first | exact (F2 (by rwa [sgx (by decide)] at hj)) | rfl), fun hj hu => (F3 (by rwa [sgx (by decide)] at hj) (by rwa [sgx (by decide)] at hu)), fun hj => (by first | exact (F4 (by rwa [sgx (by decide)] at hj)) | rfl), fun hj => (by first | exact (F5 (by rwa [sgx (by decide)] at hj)) | rfl), fun hj hu => (F6 (by rwa [sgx (by decide)] at hj) (by rwa [sgx (by decide)] at hu)), fun hj => (by rw [sgx (by decide)]; exact (F7 (by rwa [sgx (by decide)] at hj))), fun hj => (by rw [sgx (by decide)]; exact ⟨wa, wc, ha, hc, da, dc, lo, hi, rfl, i1, i2, i3, hh, hc9⟩), fun _ => ⟨_, rfl⟩, fun hj => (F10 (by rwa [sgx (by decide)] at hj)), fun hj hu => (F11 (by rwa [sgx (by decide)] at hj) (by rwa [sgx (by decide)] at hu)), fun hj => absurd (hcl 12 _ rfl (by rwa [sgx (by decide)] at hj) ⟨9, .data⟩ (by simp) rfl) (by rw [getD_both hl]; simp), fun hj => (F13 (by rwa [sgx (by decide)] at hj)), hx⟩
    · as_aux_lemma =>
        obtain ⟨u10, u11, u37, u38, u39, u40, u41, u42, u43, u44, u45, u46, u47, rfl, F0, F1, F2, F3, F4, F5, F6, F7, F8, F9, F10, F11, F12, F13, hx⟩ := hI
        have l8 := he ⟨8, .data⟩ (by simp) rfl
        obtain ⟨wa, wc, ha, hc, da, dc, lo, hi, rfl, i1, i2, i3, hh, hc9⟩ := F8 l8
        refine wpOp_stepx ho rfl (fun K hK => ?_)
        unfold xcA
        go_simp
        exact hK _ _ ⟨_, _, _, _, _, _, _, _, _, _, _, _, _, rfl, fun hj => (by first | exact (F0 (by rwa [sgx (by decide)] at hj)) | rfl), fun hj hu => (F1 (by rwa [sgx (by decide)] at hj) (by rwa [sgx (by decide)] at hu)), fun hj => (by first | exact (F2 (by rwa [sgx (by decide)] at hj)) | rfl), fun hj hu => (F3 (by rwa [sgx (by decide)] at hj) (by rwa [sgx (by decide)] at hu)), fun hj => (by first | exact (F4 (by rwa [sgx (by decide)] at hj)) | rfl), fun hj => (by first | exact (F5 (by rwa [sgx (by decide)] at hj)) | rfl), fun hj hu => (F6 (by rwa [sgx (by decide)] at hj) (by rwa [sgx (by decide)] at hu)), fun hj => (by rw [sgx (by decide)]; exact (F7 (by rwa [sgx (by decide)] at hj))), fun hj => (by rw [sgx (by decide)]; exact ⟨wa, wc, ha, hc, da, dc, lo, hi, rfl, i1, i2, i3, hh, hc9⟩), fun hj => (F9 (by rwa [sgx (by decide)] at hj)), fun _ => ⟨_, rfl⟩, fun hj hu => (F11 (by rwa [sgx (by decide)] at hj) (by rwa [sgx (by decide)] at hu)), fun hj => (F12 (by rwa [sgx (by decide)] at hj)), fun hj => absurd (hcl 13 _ rfl (by rwa [sgx (by decide)] at hj) ⟨10, .data⟩ (by simp) rfl) (by rw [getD_both hl]; simp), hx⟩
    · as_aux_lemma =>
        obtain ⟨u10, u11, u37, u38, u39, u40, u41, u42, u43, u44, u45, u46, u47, rfl, F0, F1, F2, F3, F4, F5, F6, F7, F8, F9, F10, F11, F12, F13, hx⟩ := hI
        refine wpOp_stepx ho rfl (fun K hK => ?_)
        unfold xcA
        have hb1 : Below w'.heap.size w' (w'.alloc (.cells #[.slice none 0 0, .slice none 0 0] 40)) := (Below.refl _ _).alloc (Nat.le_refl _) _
        go_simp
        exact hK _ _ ⟨_, _, _, _, _, _, _, _, _, _, _, _, _, rfl, fun hj => (by first | exact (F0 (by rwa [sgx (by decide)] at hj)) | rfl), fun hj hu => ((F1 (by rwa [sgx (by decide)] at hj) (by rwa [sgx (by decide)] at hu)).below hb1).mono hb1.size, fun hj => (by first | exact (F2 (by rwa [sgx (by decide)] at hj)) | rfl), fun hj hu => ((F3 (by rwa [sgx (by decide)] at hj) (by rwa [sgx (by decide)] at hu)).below hb1).mono hb1.size, fun hj => (by first | exact (F4 (by rwa [sgx (by decide)] at hj)) | rfl), fun hj => (by first | exact (F5 (by rwa [sgx (by decide)] at hj)) | rfl), fun hj hu => ((F6 (by rwa [sgx (by decide)] at hj) (by rwa [sgx (by decide)] at hu)).below hb1).mono hb1.size, fun hj => (by rw [sgix hl]; exact ((F7 (by rwa [sgx (by decide)] at hj))).alloc _), fun hj => (by rw [sgix hl]; exact ((F8 (by rwa [sgx (by decide)] at hj))).alloc _), fun hj => (F9 (by rwa [sgx (by decide)] at hj)), fun hj => (F10 (by rwa [sgx (by decide)] at hj)), fun _ _ => ⟨_, rfl, hx.size, BoxA.new _ _ _⟩, fun hj => absurd (hcl 12 _ rfl (by rwa [sgx (by decide)] at hj) ⟨11, .data⟩ (by simp) rfl) (by rw [getD_both hl]; simp), fun hj => (F13 (by rwa [sgx (by decide)] at hj)), hx.trans (hb1.mono hx.size)⟩
    · as_aux_lemma =>
        obtain ⟨u10, u11, u37, u38, u39, u40, u41, u42, u43, u44, u45, u46, u47, rfl, F0, F1, F2, F3, F4, F5, F6, F7, F8, F9, F10, F11, F12, F13, hx⟩ := hI
        have l11 := he ⟨11, .data⟩ (by simp) rfl
        have l9 := he ⟨9, .data⟩ (by simp) rfl
        have l8 := he ⟨8, .phase⟩ (by simp) rfl
        obtain ⟨g, rfl, g1, hAA⟩ := F11 l11 (getD_both hl)
        obtain ⟨y, hy⟩ := F9 l9
        obtain ⟨wa, wc, ha, hc, da, dc, lo, hi, rfl, i1, i2, i3, hh, hc9⟩ := F8 l8
        simp at hy
        obtain ⟨rfl, rfl⟩ := hy
        obtain ⟨k0, k1, m0, m1⟩ := hAA.cells
        refine wpOp_stepx ho rfl (fun K hK => ?_)
        unfold xcA
        have ht := touchA g w' (.slice wa x.1.length wc) (.slice ha x.2.1.length hc)
        go_simp
        exact hK _ _ ⟨_, _, _, _, _, _, _, _, _, _, _, _, _, rfl, fun hj => (by first | exact (F0 (by rwa [sgx (by decide)] at hj)) | rfl), fun hj hu => absurd (he ⟨7, .chain⟩ (by simp) rfl) (by rw [show listed.getD 7 false = false by rwa [sgx (by decide)] at hu]; simp), fun hj => (by first | exact (F2 (by rwa [sgx (by decide)] at hj)) | rfl), fun hj hu => absurd (he ⟨7, .chain⟩ (by simp) rfl) (by rw [show listed.getD 7 false = false by rwa [sgx (by decide)] at hu]; simp), fun hj => (by first | exact (F4 (by rwa [sgx (by decide)] at hj)) | rfl), fun hj => (by first | exact (F5 (by rwa [sgx (by decide)] at hj)) | rfl), fun hj hu => absurd (he ⟨7, .chain⟩ (by simp) rfl) (by rw [show listed.getD 7 false = false by rwa [sgx (by decide)] at hu]; simp), fun hj => (by rw [sgx (by decide)]; exact ((F7 (by rwa [sgx (by decide)] at hj))).touch l11 ht), fun hj => (by rw [sgx (by decide)]; exact RG.touch ⟨wa, wc, ha, hc, da, dc, lo, hi, rfl, i1, i2, i3, hh, hc9⟩ l11 ht), fun hj => (F9 (by rwa [sgx (by decide)] at hj)), fun hj => (F10 (by rwa [sgx (by decide)] at hj)), fun _ hu => absurd hu (by rw [sgix hl]; simp), fun _ => ⟨g, _, _, rfl, g1, hAA.put _ _, rfl⟩, fun hj => absurd (hcl 13 _ rfl (by rwa [sgx (by decide)] at hj) ⟨12, .chain⟩ (by simp) rfl) (by rw [getD_both hl]; simp), Below.touchN hx ht g1 (Nat.le_refl _)⟩
    · as_aux_lemma =>
        obtain ⟨u10, u11, u37, u38, u39, u40, u41, u42, u43, u44, u45, u46, u47, rfl, F0, F1, F2, F3, F4, F5, F6, F7, F8, F9, F10, F11, F12, F13, hx⟩ := hI
        have l10 := he ⟨10, .data⟩ (by simp) rfl
        have l := F10 l10
        refine wpOp_stepx ho rfl (fun K hK => ?_)
        unfold xcA
        go_simp
        exact hK _ _ ⟨_, _, _, _, _, _, _, _, _, _, _, _, _, rfl, fun hj => (by first | exact (F0 (by rwa [sgx (by decide)] at hj)) | rfl), fun hj hu => (F1 (by rwa [sgx (by decide)] at hj) (by rwa [sgx (by decide)] at hu)), fun hj => (by first | exact (F2 (by rwa [sgx (by decide)] at hj)) | rfl), fun hj hu => (F3 (by rwa [sgx (by decide)] at hj) (by rwa [sgx (by decide)] at hu)), fun hj => (by first | exact (F4 (by rwa [sgx (by decide)] at hj)) | rfl), fun hj => (by first | exact (F5 (by rwa [sgx (by decide)] at hj)) | rfl), fun hj hu => (F6 (by rwa [sgx (by decide)] at hj) (by rwa [sgx (by decide)] at hu)), fun hj => (by rw [sgx (by decide)]; exact (F7 (by rwa [sgx (by decide)] at hj))), fun hj => (by rw [sgx (by decide)]; exact (F8 (by rwa [sgx (by decide)] at hj))), fun hj => (F9 (by rwa [sgx (by decide)] at hj)), fun hj => (F10 (by rwa [sgx (by decide)] at hj)), fun hj hu => (F11 (by rwa [sgx (by decide)] at hj) (by rwa [sgx (by decide)] at hu)), fun hj => (F12 (by rwa [sgx (by decide)] at hj)), fun _ => l, hx⟩
  · intro listed a w' hI hd
    obtain ⟨u10, u11, u37, u38, u39, u40, u41, u42, u43, u44, u45, u46, u47, rfl, F0, F1, F2, F3, F4, F5, F6, F7, F8, F9, F10, F11, F12, F13, hx⟩ := hI
    obtain ⟨wa, wc, ha, hc, da, dc, lo, hi, hr, i1, i2, i3, hh, _⟩ := F8 (hd 8 (by show 8 < 14; omega))
    obtain ⟨y1, hy1⟩ := F9 (hd 9 (by show 9 < 14; omega))
    obtain ⟨y2, hy2⟩ := F13 (hd 13 (by show 13 < 14; omega))
    obtain ⟨ga, a', b', hp1, ga1, hA0, ha'⟩ := F12 (hd 12 (by show 12 < 14; omega))
    clear F0 F1 F2 F3 F4 F5 F6 F7 F8 F9 F10 F11 F12 F13 hd
    subst hr
    simp at hy1 hy2
    obtain ⟨hy1, hz1'⟩ := hy1
    obtain ⟨hz2', hy2⟩ := hy2
    subst hy1 hy2 hz1' hz2'
    simp at ha'
    obtain ⟨ha1, ha2⟩ := ha'
    subst ha1 ha2 hp1
    exact hK _ _ _ _ _ _ _ _ _ _ _ _ _ w' ⟨ga, wa, wc, ha, hc, da, dc, rfl, rfl, ga1, hA0, i1.to (fun b hb => Nat.lt_of_lt_of_le hb.2 hh), i2.to (fun b hb => Nat.lt_of_lt_of_le hb.2 hh), i3.to (fun b hb => Nat.lt_of_lt_of_le hb.2 hh), hx⟩

end Go.Proofs.Yteamebdehembgaa

namespace Go.Proofs.Yteamebdehembgaa
open Go.RowKit
attribute [local go_sem ↓] Go.wp_at_zero Go.wp_at_succ

def xdA (i1 i4 i6 i7 i8 i9 i10 i11 i12 i13 i14 i15 i16 i17 i18 i19 i22 i23 i24 i25 i26 i27 i28 i29 i30 i31 i32 i33 i34 i35 i36 i37 i38 i39 i40 i41 i42 i43 i44 i45 i46 i47 i48 i49 i50 i51 i52 i53 i54 i55 i56 i57 i58 i59 i60 i61 i62 i63 i64 i65 i66 i67 i68 i69 i70 i71 i72 i73 i74 i75 i76 i77 i78 i79 i80 i81 i82 i83 i84 i85 i86 i87 i88 i89 i90 i91 i92 i93 i94 i95 i96 i97 i98 i99 i100 i101 i102 i103 i104 i105 i106 i107 i108 i109 i110 i111 i112 i113 i114 i115 i116 i117 i118 i119 i120 i121 i122 i123 i124 i125 i126 i127 i128 i140 i141 i142 i143 i144 i145 i146 i147 i148 i149 i150 i151 i152 i153 i154 i155 i156 i157 i158 i159 i160 i161 i162 : Value) (mv : Value) (uv : Value) (who : Int) (gX : Nat) (u20 u21 u129 u130 u131 u132 u133 u134 u135 u136 u137 u138 u139 : Value) : Act := { tmps := #[mv, i1, .int .i64 who, uv, i4, .pointer (some ⟨gX, 0, none⟩), i6, i7, i8, i9, i10, i11, i12, i13, i14, i15, i16, i17, i18, i19, u20, u21, i22, i23, i24, i25, i26, i27, i28, i29, i30, i31, i32, i33, i34, i35, i36, i37, i38, i39, i40, i41, i42, i43, i44, i45, i46, i47, i48, i49, i50, i51, i52, i53, i54, i55, i56, i57, i58, i59, i60, i61, i62, i63, i64, i65, i66, i67, i68, i69, i70, i71, i72, i73, i74, i75, i76, i77, i78, i79, i80, i81, i82, i83, i84, i85, i86, i87, i88, i89, i90, i91, i92, i93, i94, i95, i96, i97, i98, i99, i100, i101, i102, i103, i104, i105, i106, i107, i108, i109, i110, i111, i112, i113, i114, i115, i116, i117, i118, i119, i120, i121, i122, i123, i124, i125, i126, i127, i128, u129, u130, u131, u132, u133, u134, u135, u136, u137, u138, u139, i140, i141, i142, i143, i144, i145, i146, i147, i148, i149, i150, i151, i152, i153, i154, i155, i156, i157, i158, i159, i160, i161, i162], defers := [] }
def xdI (i1 i4 i6 i7 i8 i9 i10 i11 i12 i13 i14 i15 i16 i17 i18 i19 i22 i23 i24 i25 i26 i27 i28 i29 i30 i31 i32 i33 i34 i35 i36 i37 i38 i39 i40 i41 i42 i43 i44 i45 i46 i47 i48 i49 i50 i51 i52 i53 i54 i55 i56 i57 i58 i59 i60 i61 i62 i63 i64 i65 i66 i67 i68 i69 i70 i71 i72 i73 i74 i75 i76 i77 i78 i79 i80 i81 i82 i83 i84 i85 i86 i87 i88 i89 i90 i91 i92 i93 i94 i95 i96 i97 i98 i99 i100 i101 i102 i103 i104 i105 i106 i107 i108 i109 i110 i111 i112 i113 i114 i115 i116 i117 i118 i119 i120 i121 i122 i123 i124 i125 i126 i127 i128 i140 i141 i142 i143 i144 i145 i146 i147 i148 i149 i150 i151 i152 i153 i154 i155 i156 i157 i158 i159 i160 i161 i162 : Value) (mv : Value) (uv : Value) (who : Int) (gX : Nat) (av : Value) (bv : Value) (x : List Int × List Int × List Rs) (wq : World) (ms : List MR) (wk : List Int) (hk : List Int) (rs : List Rq) (listed : Array Bool) (a : Act) (w' : World) : Prop :=
  ∃ u20 u21 u129 u130 u131 u132 u133 u134 u135 u136 u137 u138 u139 : Value, a = xdA i1 i4 i6 i7 i8 i9 i10 i11 i12 i13 i14 i15 i16 i17 i18 i19 i22 i23 i24 i25 i26 i27 i28 i29 i30 i31 i32 i33 i34 i35 i36 i37 i38 i39 i40 i41 i42 i43 i44 i45 i46 i47 i48 i49 i50 i51 i52 i53 i54 i55 i56 i57 i58 i59 i60 i61 i62 i63 i64 i65 i66 i67 i68 i69 i70 i71 i72 i73 i74 i75 i76 i77 i78 i79 i80 i81 i82 i83 i84 i85 i86 i87 i88 i89 i90 i91 i92 i93 i94 i95 i96 i97 i98 i99 i100 i101 i102 i103 i104 i105 i106 i107 i108 i109 i110 i111 i112 i113 i114 i115 i116 i117 i118 i119 i120 i121 i122 i123 i124 i125 i126 i127 i128 i140 i141 i142 i143 i144 i145 i146 i147 i148 i149 i150 i151 i152 i153 i154 i155 i156 i157 i158 i159 i160 i161 i162 mv uv who gX u20 u21 u129 u130 u131 u132 u133 u134 u135 u136 u137 u138 u139 ∧
      (listed.getD 0 false = true → u130 = mv) ∧
      (listed.getD 1 false = true → listed.getD 7 false = false → Maps w' w'.heap.size u131 ms) ∧
      (listed.getD 2 false = true → u132 = .agg #[av, bv]) ∧
      (listed.getD 3 false = true → listed.getD 7 false = false → AtmV w' w'.heap.size u133 wk hk) ∧
      (listed.getD 4 false = true → u134 = .int .i64 who) ∧
      (listed.getD 5 false = true → u135 = uv) ∧
      (listed.getD 6 false = true → listed.getD 7 false = false → Reqs w' w'.heap.size u136 rs) ∧
      (listed.getD 7 false = true → RG (listed.getD 11 false) w' u20 u137 x) ∧
      (listed.getD 8 false = true → RG (listed.getD 11 false) w' u20 u129 x) ∧
      (listed.getD 9 false = true → ∃ y, u129 = .tuple #[u138, y]) ∧
      (listed.getD 10 false = true → ∃ y, u129 = .tuple #[y, u139]) ∧
      (listed.getD 11 false = true → listed.getD 12 false = false → ∃ g, u20 = .pointer (some ⟨g, 0, none⟩) ∧ wq.heap.size ≤ g ∧ BoxA w' g (.slice none 0 0) (.slice none 0 0)) ∧
      (listed.getD 12 false = true → ∃ g a b, u20 = .pointer (some ⟨g, 0, none⟩) ∧ wq.heap.size ≤ g ∧ BoxA w' g a b ∧ u138 = .agg #[a, b]) ∧
      (listed.getD 13 false = true → ∃ y, u129 = .tuple #[y, u21]) ∧
      Below wq.heap.size wq w'
noncomputable def xdCode : Code := (Try.f7.body.bind (regIn 42)).getD .skip

set_option maxRecDepth 100000 in
set_option maxHeartbeats 16000000 in
theorem xd_region (i1 i4 i6 i7 i8 i9 i10 i11 i12 i13 i14 i15 i16 i17 i18 i19 i22 i23 i24 i25 i26 i27 i28 i29 i30 i31 i32 i33 i34 i35 i36 i37 i38 i39 i40 i41 i42 i43 i44 i45 i46 i47 i48 i49 i50 i51 i52 i53 i54 i55 i56 i57 i58 i59 i60 i61 i62 i63 i64 i65 i66 i67 i68 i69 i70 i71 i72 i73 i74 i75 i76 i77 i78 i79 i80 i81 i82 i83 i84 i85 i86 i87 i88 i89 i90 i91 i92 i93 i94 i95 i96 i97 i98 i99 i100 i101 i102 i103 i104 i105 i106 i107 i108 i109 i110 i111 i112 i113 i114 i115 i116 i117 i118 i119 i120 i121 i122 i123 i124 i125 i126 i127 i128 i140 i141 i142 i143 i144 i145 i146 i147 i148 i149 i150 i151 i152 i153 i154 i155 i156 i157 i158 i159 i160 i161 i162 j20 j21 j129 j130 j131 j132 j133 j134 j135 j136 j137 j138 j139 : Value) (mv : Value) (uv : Value) (who : Int) (gX : Nat) (av : Value) (bv : Value) (x : List Int × List Int × List Rs) (wq : World) (ms : List MR) (wk : List Int) (hk : List Int) (rs : List Rq)
    (HX : Hid (x = atmRun ms wk hk who rs)) (hX : Bx wq gX [av, bv]) (hM : Maps wq wq.heap.size mv ms) (hA : AtmV wq wq.heap.size (.agg #[av, bv]) wk hk) (hA2 : (∀ y ∈ wk, I64 y) ∧ ∀ y ∈ hk, I64 y) (hU : Reqs wq wq.heap.size uv rs) (hQ2 : ∀ q ∈ rs, Rq20 q ∧ (∀ y ∈ q.data, I64 y) ∧ (∀ y ∈ q.lanes, I64 y) ∧ I64 q.id ∧ I64 q.kind ∧ I64 q.addr ∧ I64 q.many) (h20 : ∀ j, j < rs.length → Rq20 (rs.getD j default)) (hl0 : ms.length ≤ 1048576) (hl1 : wk.length ≤ 1048576) (hl2 : hk.length ≤ 1048576) (hl3 : rs.length ≤ 1048576)
    {K : Act → World → Prop} {Q' : Exit → Act → World → Prop}
    (hK : ∀ (u20 u21 u129 u130 u131 u132 u133 u134 u135 u136 u137 u138 u139 : Value) w', XsP u20 u21 x wq w' → K (xdA i1 i4 i6 i7 i8 i9 i10 i11 i12 i13 i14 i15 i16 i17 i18 i19 i22 i23 i24 i25 i26 i27 i28 i29 i30 i31 i32 i33 i34 i35 i36 i37 i38 i39 i40 i41 i42 i43 i44 i45 i46 i47 i48 i49 i50 i51 i52 i53 i54 i55 i56 i57 i58 i59 i60 i61 i62 i63 i64 i65 i66 i67 i68 i69 i70 i71 i72 i73 i74 i75 i76 i77 i78 i79 i80 i81 i82 i83 i84 i85 i86 i87 i88 i89 i90 i91 i92 i93 i94 i95 i96 i97 i98 i99 i100 i101 i102 i103 i104 i105 i106 i107 i108 i109 i110 i111 i112 i113 i114 i115 i116 i117 i118 i119 i120 i121 i122 i123 i124 i125 i126 i127 i128 i140 i141 i142 i143 i144 i145 i146 i147 i148 i149 i150 i151 i152 i153 i154 i155 i156 i157 i158 i159 i160 i161 i162 mv uv who gX u20 u21 u129 u130 u131 u132 u133 u134 u135 u136 u137 u138 u139) w') : xdCode.wp Try.prog (Exit.then K Q') (xdA i1 i4 i6 i7 i8 i9 i10 i11 i12 i13 i14 i15 i16 i17 i18 i19 i22 i23 i24 i25 i26 i27 i28 i29 i30 i31 i32 i33 i34 i35 i36 i37 i38 i39 i40 i41 i42 i43 i44 i45 i46 i47 i48 i49 i50 i51 i52 i53 i54 i55 i56 i57 i58 i59 i60 i61 i62 i63 i64 i65 i66 i67 i68 i69 i70 i71 i72 i73 i74 i75 i76 i77 i78 i79 i80 i81 i82 i83 i84 i85 i86 i87 i88 i89 i90 i91 i92 i93 i94 i95 i96 i97 i98 i99 i100 i101 i102 i103 i104 i105 i106 i107 i108 i109 i110 i111 i112 i113 i114 i115 i116 i117 i118 i119 i120 i121 i122 i123 i124 i125 i126 i127 i128 i140 i141 i142 i143 i144 i145 i146 i147 i148 i149 i150 i151 i152 i153 i154 i155 i156 i157 i158 i159 i160 i161 i162 mv uv who gX j20 j21 j129 j130 j131 j132 j133 j134 j135 j136 j137 j138 j139) wq := by
  conv => arg 2; whnf
  refine wp_region_inv2 (xdI i1 i4 i6 i7 i8 i9 i10 i11 i12 i13 i14 i15 i16 i17 i18 i19 i22 i23 i24 i25 i26 i27 i28 i29 i30 i31 i32 i33 i34 i35 i36 i37 i38 i39 i40 i41 i42 i43 i44 i45 i46 i47 i48 i49 i50 i51 i52 i53 i54 i55 i56 i57 i58 i59 i60 i61 i62 i63 i64 i65 i66 i67 i68 i69 i70 i71 i72 i73 i74 i75 i76 i77 i78 i79 i80 i81 i82 i83 i84 i85 i86 i87 i88 i89 i90 i91 i92 i93 i94 i95 i96 i97 i98 i99 i100 i101 i102 i103 i104 i105 i106 i107 i108 i109 i110 i111 i112 i113 i114 i115 i116 i117 i118 i119 i120 i121 i122 i123 i124 i125 i126 i127 i128 i140 i141 i142 i143 i144 i145 i146 i147 i148 i149 i150 i151 i152 i153 i154 i155 i156 i157 i158 i159 i160 i161 i162 mv uv who gX av bv x wq ms wk hk rs) (by kernel_rfl) (by kernel_rfl) ?_ ?_ ?_
  · exact ⟨_, _, _, _, _, _, _, _, _, _, _, _, _, rfl, (fun h => absurd h (by rw [getD_replicate_false]; simp)), (fun h _ => absurd h (by rw [getD_replicate_false]; simp)), (fun h => absurd h (by rw [getD_replicate_false]; simp)), (fun h _ => absurd h (by rw [getD_replicate_false]; simp)), (fun h => absurd h (by rw [getD_replicate_false]; simp)), (fun h => absurd h (by rw [getD_replicate_false]; simp)), (fun h _ => absurd h (by rw [getD_replicate_false]; simp)), (fun h => absurd h (by rw [getD_replicate_false]; simp)), (fun h => absurd h (by rw [getD_replicate_false]; simp)), (fun h => absurd h (by rw [getD_replicate_false]; simp)), (fun h => absurd h (by rw [getD_replicate_false]; simp)), (fun h _ => absurd h (by rw [getD_replicate_false]; simp)), (fun h => absurd h (by rw [getD_replicate_false]; simp)), (fun h => absurd h (by rw [getD_replicate_false]; simp)), (Below.refl _ _).drew⟩
  · intro listed a w' i o hI hsz ho hl he hcl
    have hi : i < 14 := (Array.getElem?_eq_some_iff.1 ho).1
    have e : i = 0 ∨ i = 1 ∨ i = 2 ∨ i = 3 ∨ i = 4 ∨ i = 5 ∨ i = 6 ∨ i = 7 ∨ i = 8 ∨ i = 9 ∨ i = 10 ∨ i = 11 ∨ i = 12 ∨ i = 13 := by omega
    clear hi
    rcases e with rfl | rfl | rfl | rfl | rfl | rfl | rfl | rfl | rfl | rfl | rfl | rfl | rfl | rfl
    all_goals (have ho2 := ho; obtain rfl := Option.some.inj ho2.symm; clear ho2)
    · as_aux_lemma =>
        obtain ⟨u20, u21, u129, u130, u131, u132, u133, u134, u135, u136, u137, u138, u139, rfl, F0, F1, F2, F3, F4, F5, F6, F7, F8, F9, F10, F11, F12, F13, hx⟩ := hI
        refine wpOp_stepx ho rfl (fun K hK => ?_)
        unfold xdA
        go_simp
        exact hK _ _ ⟨_, _, _, _, _, _, _, _, _, _, _, _, _, rfl, fun _ => rfl, fun hj hu => (F1 (by rwa [sgx (by decide)] at hj) (by rwa [sgx (by decide)] at hu)), fun hj => (by first | exact (F2 (by rwa [sgx (by decide)] at hj)) | rfl), fun hj hu => (F3 (by rwa [sgx (by decide)] at hj) (by rwa [sgx (by decide)] at hu)), fun hj => (by first | exact (F4 (by rwa [sgx (by decide)] at hj)) | rfl), fun hj => (by first | exact (F5 (by rwa [sgx (by decide)] at hj)) | rfl), fun hj hu => (F6 (by rwa [sgx (by decide)] at hj) (by rwa [sgx (by decide)] at hu)), fun hj => (by rw [sgx (by decide)]; exact (F7 (by rwa [sgx (by decide)] at hj))), fun hj => (by rw [sgx (by decide)]; exact (F8 (by rwa [sgx (by decide)] at hj))), fun hj => (F9 (by rwa [sgx (by decide)] at hj)), fun hj => (F10 (by rwa [sgx (by decide)] at hj)), fun hj hu => (F11 (by rwa [sgx (by decide)] at hj) (by rwa [sgx (by decide)] at hu)), fun hj => (F12 (by rwa [sgx (by decide)] at hj)), fun hj => (F13 (by rwa [sgx (by decide)] at hj)), hx⟩
    · as_aux_lemma =>
        obtain ⟨u20, u21, u129, u130, u131, u132, u133, u134, u135, u136, u137, u138, u139, rfl, F0, F1, F2, F3, F4, F5, F6, F7, F8, F9, F10, F11, F12, F13, hx⟩ := hI
        have l0 := he ⟨0, .data⟩ (by simp) rfl
        have e := F0 l0; subst e
        refine wpOp_stepx ho rfl (fun K hK => ?_)
        unfold xdA
        go_simp
        (with_reducible refine (toRanges_any _ ms w'.heap.size w' ((hM.below hx).mono hx.size) (Nat.le_refl _) hl0).mono ?_)
        rintro e w'' ⟨uu, rfl, ho, hb1⟩
        go_wp2_with fail
        exact ⟨_, _, _, _, _, _, _, _, _, _, _, _, _, rfl, fun hj => (by first | exact (F0 (by rwa [sgx (by decide)] at hj)) | rfl), fun _ _ => ho.maps hl0 hM.2, fun hj => (by first | exact (F2 (by rwa [sgx (by decide)] at hj)) | rfl), fun hj hu => ((F3 (by rwa [sgx (by decide)] at hj) (by rwa [sgx (by decide)] at hu)).below hb1).mono hb1.size, fun hj => (by first | exact (F4 (by rwa [sgx (by decide)] at hj)) | rfl), fun hj => (by first | exact (F5 (by rwa [sgx (by decide)] at hj)) | rfl), fun hj hu => ((F6 (by rwa [sgx (by decide)] at hj) (by rwa [sgx (by decide)] at hu)).below hb1).mono hb1.size, fun hj => (by rw [sgx (by decide)]; exact ((F7 (by rwa [sgx (by decide)] at hj))).below hb1), fun hj => (by rw [sgx (by decide)]; exact ((F8 (by rwa [sgx (by decide)] at hj))).below hb1), fun hj => (F9 (by rwa [sgx (by decide)] at hj)), fun hj => (F10 (by rwa [sgx (by decide)] at hj)), fun hj hu => (let ⟨g, e1, e2, e3⟩ := (F11 (by rwa [sgx (by decide)] at hj) (by rwa [sgx (by decide)] at hu)); ⟨g, e1, e2, e3.below hb1 e3.lt⟩), fun hj => (let ⟨g, a, b, e1, e2, e3, e4⟩ := (F12 (by rwa [sgx (by decide)] at hj)); ⟨g, a, b, e1, e2, e3.below hb1 e3.lt, e4⟩), fun hj => (F13 (by rwa [sgx (by decide)] at hj)), hx.trans (hb1.mono hx.size)⟩
    · as_aux_lemma =>
        obtain ⟨u20, u21, u129, u130, u131, u132, u133, u134, u135, u136, u137, u138, u139, rfl, F0, F1, F2, F3, F4, F5, F6, F7, F8, F9, F10, F11, F12, F13, hx⟩ := hI
        obtain ⟨⟨k0, k1⟩, m0, m1⟩ := (hX.below hx hX.lt).two
        refine wpOp_stepx ho rfl (fun K hK => ?_)
        unfold xdA
        go_simp
        exact hK _ _ ⟨_, _, _, _, _, _, _, _, _, _, _, _, _, rfl, fun hj => (by first | exact (F0 (by rwa [sgx (by decide)] at hj)) | rfl), fun hj hu => (F1 (by rwa [sgx (by decide)] at hj) (by rwa [sgx (by decide)] at hu)), fun _ => rfl, fun hj hu => (F3 (by rwa [sgx (by decide)] at hj) (by rwa [sgx (by decide)] at hu)), fun hj => (by first | exact (F4 (by rwa [sgx (by decide)] at hj)) | rfl), fun hj => (by first | exact (F5 (by rwa [sgx (by decide)] at hj)) | rfl), fun hj hu => (F6 (by rwa [sgx (by decide)] at hj) (by rwa [sgx (by decide)] at hu)), fun hj => (by rw [sgx (by decide)]; exact (F7 (by rwa [sgx (by decide)] at hj))), fun hj => (by rw [sgx (by decide)]; exact (F8 (by rwa [sgx (by decide)] at hj))), fun hj => (F9 (by rwa [sgx (by decide)] at hj)), fun hj => (F10 (by rwa [sgx (by decide)] at hj)), fun hj hu => (F11 (by rwa [sgx (by decide)] at hj) (by rwa [sgx (by decide)] at hu)), fun hj => (F12 (by rwa [sgx (by decide)] at hj)), fun hj => (F13 (by rwa [sgx (by decide)] at hj)), hx⟩
    · as_aux_lemma =>
        obtain ⟨u20, u21, u129, u130, u131, u132, u133, u134, u135, u136, u137, u138, u139, rfl, F0, F1, F2, F3, F4, F5, F6, F7, F8, F9, F10, F11, F12, F13, hx⟩ := hI
        have l2 := he ⟨2, .data⟩ (by simp) rfl
        have e := F2 l2; subst e
        refine wpOp_stepx ho rfl (fun K hK => ?_)
        unfold xdA
        go_simp
        (with_reducible refine (toAtm_any _ wk hk w'.heap.size w' ((hA.below hx).mono hx.size) (Nat.le_refl _) hl1 hl2).mono ?_)
        rintro e w'' ⟨uu, zz, rfl, ho, ho2, _, hb1⟩
        go_wp2_with fail
        exact ⟨_, _, _, _, _, _, _, _, _, _, _, _, _, rfl, fun hj => (by first | exact (F0 (by rwa [sgx (by decide)] at hj)) | rfl), fun hj hu => ((F1 (by rwa [sgx (by decide)] at hj) (by rwa [sgx (by decide)] at hu)).below hb1).mono hb1.size, fun hj => (by first | exact (F2 (by rwa [sgx (by decide)] at hj)) | rfl), fun _ _ => ⟨_, _, rfl, ho.ints (by omega) hA2.1, ho2.ints (by omega) hA2.2⟩, fun hj => (by first | exact (F4 (by rwa [sgx (by decide)] at hj)) | rfl), fun hj => (by first | exact (F5 (by rwa [sgx (by decide)] at hj)) | rfl), fun hj hu => ((F6 (by rwa [sgx (by decide)] at hj) (by rwa [sgx (by decide)] at hu)).below hb1).mono hb1.size, fun hj => (by rw [sgx (by decide)]; exact ((F7 (by rwa [sgx (by decide)] at hj))).below hb1), fun hj => (by rw [sgx (by decide)]; exact ((F8 (by rwa [sgx (by decide)] at hj))).below hb1), fun hj => (F9 (by rwa [sgx (by decide)] at hj)), fun hj => (F10 (by rwa [sgx (by decide)] at hj)), fun hj hu => (let ⟨g, e1, e2, e3⟩ := (F11 (by rwa [sgx (by decide)] at hj) (by rwa [sgx (by decide)] at hu)); ⟨g, e1, e2, e3.below hb1 e3.lt⟩), fun hj => (let ⟨g, a, b, e1, e2, e3, e4⟩ := (F12 (by rwa [sgx (by decide)] at hj)); ⟨g, a, b, e1, e2, e3.below hb1 e3.lt, e4⟩), fun hj => (F13 (by rwa [sgx (by decide)] at hj)), hx.trans (hb1.mono hx.size)⟩
    · as_aux_lemma =>
        obtain ⟨u20, u21, u129, u130, u131, u132, u133, u134, u135, u136, u137, u138, u139, rfl, F0, F1, F2, F3, F4, F5, F6, F7, F8, F9, F10, F11, F12, F13, hx⟩ := hI
        refine wpOp_stepx ho rfl (fun K hK => ?_)
        unfold xdA
        go_simp
        exact hK _ _ ⟨_, _, _, _, _, _, _, _, _, _, _, _, _, rfl, fun hj => (by first | exact (F0 (by rwa [sgx (by decide)] at hj)) | rfl), fun hj hu => (F1 (by rwa [sgx (by decide)] at hj) (by rwa [sgx (by decide)] at hu)), fun hj => (by first | exact (F2 (by rwa [sgx (by decide)] at hj)) | rfl), fun hj hu => (F3 (by rwa [sgx (by decide)] at hj) (by rwa [sgx (by decide)] at hu)), fun _ => rfl, fun hj => (by first | exact (F5 (by rwa [sgx (by decide)] at hj)) | rfl), fun hj hu => (F6 (by rwa [sgx (by decide)] at hj) (by rwa [sgx (by decide)] at hu)), fun hj => (by rw [sgx (by decide)]; exact (F7 (by rwa [sgx (by decide)] at hj))), fun hj => (by rw [sgx (by decide)]; exact (F8 (by rwa [sgx (by decide)] at hj))), fun hj => (F9 (by rwa [sgx (by decide)] at hj)), fun hj => (F10 (by rwa [sgx (by decide)] at hj)), fun hj hu => (F11 (by rwa [sgx (by decide)] at hj) (by rwa [sgx (by decide)] at hu)), fun hj => (F12 (by rwa [sgx (by decide)] at hj)), fun hj => (F13 (by rwa [sgx (by decide)] at hj)), hx⟩
    · as_aux_lemma =>
        obtain ⟨u20, u21, u129, u130, u131, u132, u133, u134, u135, u136, u137, u138, u139, rfl, F0, F1, F2, F3, F4, F5, F6, F7, F8, F9, F10, F11, F12, F13, hx⟩ := hI
        refine wpOp_stepx ho rfl (fun K hK => ?_)
        unfold xdA
        go_simp
        exact hK _ _ ⟨_, _, _, _, _, _, _, _, _, _, _, _, _, rfl, fun hj => (by first | exact (F0 (by rwa [sgx (by decide)] at hj)) | rfl), fun hj hu => (F1 (by rwa [sgx (by decide)] at hj) (by rwa [sgx (by decide)] at hu)), fun hj => (by first | exact (F2 (by rwa [sgx (by decide)] at hj)) | rfl), fun hj hu => (F3 (by rwa [sgx (by decide)] at hj) (by rwa [sgx (by decide)] at hu)), fun hj => (by first | exact (F4 (by rwa [sgx (by decide)] at hj)) | rfl), fun _ => rfl, fun hj hu => (F6 (by rwa [sgx (by decide)] at hj) (by rwa [sgx (by decide)] at hu)), fun hj => (by rw [sgx (by decide)]; exact (F7 (by rwa [sgx (by decide)] at hj))), fun hj => (by rw [sgx (by decide)]; exact (F8 (by rwa [sgx (by decide)] at hj))), fun hj => (F9 (by rwa [sgx (by decide)] at hj)), fun hj => (F10 (by rwa [sgx (by decide)] at hj)), fun hj hu => (F11 (by rwa [sgx (by decide)] at hj) (by rwa [sgx (by decide)] at hu)), fun hj => (F12 (by rwa [sgx (by decide)] at hj)), fun hj => (F13 (by rwa [sgx (by decide)] at hj)), hx⟩
    · as_aux_lemma =>
        obtain ⟨u20, u21, u129, u130, u131, u132, u133, u134, u135, u136, u137, u138, u139, rfl, F0, F1, F2, F3, F4, F5, F6, F7, F8, F9, F10, F11, F12, F13, hx⟩ := hI
        have l5 := he ⟨5, .data⟩ (by simp) rfl
        have e := F5 l5; subst e
        refine wpOp_stepx ho rfl (fun K hK => ?_)
        unfold xdA
        go_simp
        (with_reducible refine (toReqs_any _ rs w'.heap.size w' ((hU.below hx).mono hx.size) (Nat.le_refl _) hl3 h20).mono ?_)
        rintro e w'' ⟨gg, vs, rfl, ho, hb1⟩
        go_wp2_with fail
        exact ⟨_, _, _, _, _, _, _, _, _, _, _, _, _, rfl, fun hj => (by first | exact (F0 (by rwa [sgx (by decide)] at hj)) | rfl), fun hj hu => ((F1 (by rwa [sgx (by decide)] at hj) (by rwa [sgx (by decide)] at hu)).below hb1).mono hb1.size, fun hj => (by first | exact (F2 (by rwa [sgx (by decide)] at hj)) | rfl), fun hj hu => ((F3 (by rwa [sgx (by decide)] at hj) (by rwa [sgx (by decide)] at hu)).below hb1).mono hb1.size, fun hj => (by first | exact (F4 (by rwa [sgx (by decide)] at hj)) | rfl), fun hj => (by first | exact (F5 (by rwa [sgx (by decide)] at hj)) | rfl), fun _ _ => ho.reqs hl3 hQ2, fun hj => (by rw [sgx (by decide)]; exact ((F7 (by rwa [sgx (by decide)] at hj))).below hb1), fun hj => (by rw [sgx (by decide)]; exact ((F8 (by rwa [sgx (by decide)] at hj))).below hb1), fun hj => (F9 (by rwa [sgx (by decide)] at hj)), fun hj => (F10 (by rwa [sgx (by decide)] at hj)), fun hj hu => (let ⟨g, e1, e2, e3⟩ := (F11 (by rwa [sgx (by decide)] at hj) (by rwa [sgx (by decide)] at hu)); ⟨g, e1, e2, e3.below hb1 e3.lt⟩), fun hj => (let ⟨g, a, b, e1, e2, e3, e4⟩ := (F12 (by rwa [sgx (by decide)] at hj)); ⟨g, a, b, e1, e2, e3.below hb1 e3.lt, e4⟩), fun hj => (F13 (by rwa [sgx (by decide)] at hj)), hx.trans (hb1.mono hx.size)⟩
    · as_aux_lemma =>
        obtain ⟨u20, u21, u129, u130, u131, u132, u133, u134, u135, u136, u137, u138, u139, rfl, F0, F1, F2, F3, F4, F5, F6, F7, F8, F9, F10, F11, F12, F13, hx⟩ := hI
        have l1 := he ⟨1, .data⟩ (by simp) rfl
        have l3 := he ⟨3, .data⟩ (by simp) rfl
        have l4 := he ⟨4, .data⟩ (by simp) rfl
        have l6 := he ⟨6, .data⟩ (by simp) rfl
        have e := F4 l4; subst e
        have gM := F1 l1 (getD_both hl)
        have gA := F3 l3 (getD_both hl)
        have gQ := F6 l6 (getD_both hl)
        have hbx : listed.getD 11 false = true → ∀ g, u20 = .pointer (some ⟨g, 0, none⟩) → g < w'.heap.size := fun h11 g hg => by
          have h12 : listed.getD 12 false = false := by
            rcases hq : listed.getD 12 false with _ | _
            · rfl
            · exact absurd (hcl 12 _ rfl hq ⟨7, .chain⟩ (by simp) rfl) (by rw [getD_both hl]; simp)
          obtain ⟨g2, e2, _, hBA⟩ := F11 h11 h12
          rw [hg] at e2
          simp only [Value.pointer.injEq, Option.some.injEq, Addr.mk.injEq, and_true] at e2
          rw [e2]; exact hBA.lt
        refine wpOp_stepx ho rfl (fun K hK => ?_)
        unfold xdA
        go_simp
        (with_reducible refine (implRun_d _ _ _ ms w'.heap.size wk hk who rs w' gM gA gQ (Nat.le_refl _)).mono ?_)
        rw [← HX.out]
        rintro e w'' ⟨a1, c1, a2, c2, a3, c3, rfl, o1, o2, o3, hb1⟩
        go_wp2_with fail
        exact ⟨_, _, _, _, _, _, _, _, _, _, _, _, _, rfl, fun hj => (by first | exact (F0 (by rwa [sgx (by decide)] at hj)) | rfl), fun _ hu => absurd hu (by rw [sgix hl]; simp), fun hj => (by first | exact (F2 (by rwa [sgx (by decide)] at hj)) | rfl), fun _ hu => absurd hu (by rw [sgix hl]; simp), fun hj => (by first | exact (F4 (by rwa [sgx (by decide)] at hj)) | rfl), fun hj => (by first | exact (F5 (by rwa [sgx (by decide)] at hj)) | rfl), fun _ hu => absurd hu (by rw [sgix hl]; simp), fun _ => (by rw [sgx (by decide)]; exact ⟨_, _, _, _, _, _, _, _, rfl, o1, o2, o3, Nat.le_refl _, fun h g hg => .inl (hbx h g hg)⟩), fun hj => absurd (hcl 8 _ rfl (by rwa [sgx (by decide)] at hj) ⟨7, .data⟩ (by simp) rfl) (by rw [getD_both hl]; simp), fun hj => (F9 (by rwa [sgx (by decide)] at hj)), fun hj => (F10 (by rwa [sgx (by decide)] at hj)), fun hj hu => (let ⟨g, e1, e2, e3⟩ := (F11 (by rwa [sgx (by decide)] at hj) (by rwa [sgx (by decide)] at hu)); ⟨g, e1, e2, e3.below hb1 e3.lt⟩), fun hj => absurd (hcl 12 _ rfl (by rwa [sgx (by decide)] at hj) ⟨7, .chain⟩ (by simp) rfl) (by rw [getD_both hl]; simp), fun hj => (F13 (by rwa [sgx (by decide)] at hj)), hx.trans (hb1.mono hx.size)⟩
    · as_aux_lemma =>
        obtain ⟨u20, u21, u129, u130, u131, u132, u133, u134, u135, u136, u137, u138, u139, rfl, F0, F1, F2, F3, F4, F5, F6, F7, F8, F9, F10, F11, F12, F13, hx⟩ := hI
        have l7 := he ⟨7, .data⟩ (by simp) rfl
        have l := F7 l7
        refine wpOp_stepx ho rfl (fun K hK => ?_)
        unfold xdA
        go_simp
        exact hK _ _ ⟨_, _, _, _, _, _, _, _, _, _, _, _, _, rfl, fun hj => (by first | exact (F0 (by rwa [sgx (by decide)] at hj)) | rfl), fun hj hu => (F1 (by rwa [sgx (by decide)] at hj) (by rwa [sgx (by decide)] at hu)), fun hj => (by first | exact (F2 (by rwa [sgx (by decide)] at hj)) | rfl), fun hj hu => (F3 (by rwa [sgx (by decide)] at hj) (by rwa [sgx (by decide)] at hu)), fun hj => (by first | exact (F4 (by rwa [sgx (by decide)] at hj)) | rfl), fun hj => (by first | exact (F5 (by rwa [sgx (by decide)] at hj)) | rfl), fun hj hu => (F6 (by rwa [sgx (by decide)] at hj) (by rwa [sgx (by decide)] at hu)), fun hj => (by rw [sgx (by decide)]; exact (F7 (by rwa [sgx (by decide)] at hj))), fun _ => (by rw [sgx (by decide)]; exact l), fun hj => absurd (hcl 9 _ rfl (by rwa [sgx (by decide)] at hj) ⟨8, .data⟩ (by simp) rfl) (by rw [getD_both hl]; simp), fun hj => absurd (hcl 10 _ rfl (by rwa [sgx (by decide)] at hj) ⟨8, .data⟩ (by simp) rfl) (by rw [getD_both hl]; simp), fun hj hu => (F11 (by rwa [sgx (by decide)] at hj) (by rwa [sgx (by decide)] at hu)), fun hj => (F12 (by rwa [sgx (by decide)] at hj)), fun hj => absurd (hcl 10 _ rfl (hcl 13 _ rfl (by rwa [sgx (by decide)] at hj) ⟨10, .data⟩ (by simp) rfl) ⟨8, .data⟩ (by simp) rfl) (by rw [getD_both hl]; simp), hx⟩
    · as_aux_lemma =>
        obtain ⟨u20, u21, u129, u130, u131, u132, u133, u134, u135, u136, u137, u138, u139, rfl, F0, F1, F2, F3, F4, F5, F6, F7, F8, F9, F10, F11, F12, F13, hx⟩ := hI
        have l8 := he ⟨8, .data⟩ (by simp) rfl
        obtain ⟨wa, wc, ha, hc, da, dc, lo, hi, rfl, i1, i2, i3, hh, hc9⟩ := F8 l8
        refine wpOp_stepx ho rfl (fun K hK => ?_)
        unfold xdA
        go_simp
        exact hK _ _ ⟨_, _, _, _, _, _, _, _, _, _, _, _, _, rfl, fun hj => (by first | exact (F0 (by rwa [sgx (by decide)] at hj)) | rfl), fun hj hu => (F1 (by rwa [sgx (by decide)] at hj) (by rwa [sgx (by decide)] at hu)), fun hj => (by first | exact (F2 (by rwa [sgx (by decide)] at hj)) | rfl), fun hj hu => (F3 (by rwa [sgx (by decide)] at hj) (by rwa [sgx (by decide)] at hu)), fun hj => (by first | exact (F4 (by rwa [sgx (by decide)] at hj)) | rfl), fun hj => (by first | exact (F5 (by rwa [sgx (by decide)] at hj)) | rfl), fun hj hu => (F6 (by rwa [sgx (by decide)] at hj) (by rwa [sgx (by decide)] at hu)), fun hj => (by rw [sgx (by decide)]; exact (F7 (by rwa [sgx (by decide)] at hj))), fun hj => (by rw [sgx (by decide)]; exact ⟨wa, wc, ha, hc, da, dc, lo, hi, rfl, i1, i2, i3, hh, hc9⟩), fun _ => ⟨_, rfl⟩, fun hj => (F10 (by rwa [sgx (by decide)] at hj)), fun hj hu => (F11 (by rwa [sgx (by decide)] at hj) (by rwa [sgx (by decide)] at hu)), fun hj => absurd (hcl 12 _ rfl (by rwa [sgx (by decide)] at hj) ⟨9, .data⟩ (by simp) rfl) (by rw [getD_both hl]; simp), fun hj => (F13 (by rwa [sgx (by decide)] at hj)), hx⟩
    · as_aux_lemma =>
        obtain ⟨u20, u21, u129, u130, u131, u132, u133, u134, u135, u136, u137, u138, u139, rfl, F0, F1, F2, F3, F4, F5, F6, F7, F8, F9, F10, F11, F12, F13, hx⟩ := hI
        have l8 := he ⟨8, .data⟩ (by simp) rfl
        obtain ⟨wa, wc, ha, hc, da, dc, lo, hi, rfl, i1, i2, i3, hh, hc9⟩ := F8 l8
        refine wpOp_stepx ho rfl (fun K hK => ?_)
        unfold xdA
        go_simp
        exact hK _ _ ⟨_, _, _, _, _, _, _, _, _, _, _, _, _, rfl, fun hj => (by first | exact (F0 (by rwa [sgx (by decide)] at hj)) | rfl), fun hj hu => (F1 (by rwa [sgx (by decide)] at hj) (by rwa [sgx (by decide)] at hu)), fun hj => (by first | exact (F2 (by rwa [sgx (by decide)] at hj)) | rfl), fun hj hu => (F3 (by rwa [sgx (by decide)] at hj) (by rwa [sgx (by decide)] at hu)), fun hj => (by first | exact (F4 (by rwa [sgx (by decide)] at hj)) | rfl), fun hj => (by first | exact (F5 (by rwa [sgx (by decide)] at hj)) | rfl), fun hj hu => (F6 (by rwa [sgx (by decide)] at hj) (by rwa [sgx (by decide)] at hu)), fun hj => (by rw [sgx (by decide)]; exact (F7 (by rwa [sgx (by decide)] at hj))), fun hj => (by rw [sgx (by decide)]; exact ⟨wa, wc, ha, hc, da, dc, lo, hi, rfl, i1, i2, i3, hh, hc9⟩), fun hj => (F9 (by rwa [sgx (by decide)] at hj)), fun _ => ⟨_, rfl⟩, fun hj hu => (F11 (by rwa [sgx (by decide)] at hj) (by rwa [sgx (by decide)] at hu)), fun hj => (F12 (by rwa [sgx (by decide)] at hj)), fun hj => absurd (hcl 13 _ rfl (by rwa [sgx (by decide)] at hj) ⟨10, .data⟩ (by simp) rfl) (by rw [getD_both hl]; simp), hx⟩
    · as_aux_lemma =>
        obtain ⟨u20, u21, u129, u130, u131, u132, u133, u134, u135, u136, u137, u138, u139, rfl, F0, F1, F2, F3, F4, F5, F6, F7, F8, F9, F10, F11, F12, F13, hx⟩ := hI
        refine wpOp_stepx ho rfl (fun K hK => ?_)
        unfold xdA
        have hb1 : Below w'.heap.size w' (w'.alloc (.cells #[.slice none 0 0, .slice none 0 0] 40)) := (Below.refl _ _).alloc (Nat.le_refl _) _
        go_simp
        exact hK _ _ ⟨_, _, _, _, _, _, _, _, _, _, _, _, _, rfl, fun hj => (by first | exact (F0 (by rwa [sgx (by decide)] at hj)) | rfl), fun hj hu => ((F1 (by rwa [sgx (by decide)] at hj) (by rwa [sgx (by decide)] at hu)).below hb1).mono hb1.size, fun hj => (by first | exact (F2 (by rwa [sgx (by decide)] at hj)) | rfl), fun hj hu => ((F3 (by rwa [sgx (by decide)] at hj) (by rwa [sgx (by decide)] at hu)).below hb1).mono hb1.size, fun hj => (by first | exact (F4 (by rwa [sgx (by decide)] at hj)) | rfl), fun hj => (by first | exact (F5 (by rwa [sgx (by decide)] at hj)) | rfl), fun hj hu => ((F6 (by rwa [sgx (by decide)] at hj) (by rwa [sgx (by decide)] at hu)).below hb1).mono hb1.size, fun hj => (by rw [sgix hl]; exact ((F7 (by rwa [sgx (by decide)] at hj))).alloc _), fun hj => (by rw [sgix hl]; exact ((F8 (by rwa [sgx (by decide)] at hj))).alloc _), fun hj => (F9 (by rwa [sgx (by decide)] at hj)), fun hj => (F10 (by rwa [sgx (by decide)] at hj)), fun _ _ => ⟨_, rfl, hx.size, BoxA.new _ _ _⟩, fun hj => absurd (hcl 12 _ rfl (by rwa [sgx (by decide)] at hj) ⟨11, .data⟩ (by simp) rfl) (by rw [getD_both hl]; simp), fun hj => (F13 (by rwa [sgx (by decide)] at hj)), hx.trans (hb1.mono hx.size)⟩
    · as_aux_lemma =>
        obtain ⟨u20, u21, u129, u130, u131, u132, u133, u134, u135, u136, u137, u138, u139, rfl, F0, F1, F2, F3, F4, F5, F6, F7, F8, F9, F10, F11, F12, F13, hx⟩ := hI
        have l11 := he ⟨11, .data⟩ (by simp) rfl
        have l9 := he ⟨9, .data⟩ (by simp) rfl
        have l8 := he ⟨8, .phase⟩ (by simp) rfl
        obtain ⟨g, rfl, g1, hAA⟩ := F11 l11 (getD_both hl)
        obtain ⟨y, hy⟩ := F9 l9
        obtain ⟨wa, wc, ha, hc, da, dc, lo, hi, rfl, i1, i2, i3, hh, hc9⟩ := F8 l8
        simp at hy
        obtain ⟨rfl, rfl⟩ := hy
        obtain ⟨k0, k1, m0, m1⟩ := hAA.cells
        refine wpOp_stepx ho rfl (fun K hK => ?_)
        unfold xdA
        have ht := touchA g w' (.slice wa x.1.length wc) (.slice ha x.2.1.length hc)
        go_simp
        exact hK _ _ ⟨_, _, _, _, _, _, _, _, _, _, _, _, _, rfl, fun hj => (by first | exact (F0 (by rwa [sgx (by decide)] at hj)) | rfl), fun hj hu => absurd (he ⟨7, .chain⟩ (by simp) rfl) (by rw [show listed.getD 7 false = false by rwa [sgx (by decide)] at hu]; simp), fun hj => (by first | exact (F2 (by rwa [sgx (by decide)] at hj)) | rfl), fun hj hu => absurd (he ⟨7, .chain⟩ (by simp) rfl) (by rw [show listed.getD 7 false = false by rwa [sgx (by decide)] at hu]; simp), fun hj => (by first | exact (F4 (by rwa [sgx (by decide)] at hj)) | rfl), fun hj => (by first | exact (F5 (by rwa [sgx (by decide)] at hj)) | rfl), fun hj hu => absurd (he ⟨7, .chain⟩ (by simp) rfl) (by rw [show listed.getD 7 false = false by rwa [sgx (by decide)] at hu]; simp), fun hj => (by rw [sgx (by decide)]; exact ((F7 (by rwa [sgx (by decide)] at hj))).touch l11 ht), fun hj => (by rw [sgx (by decide)]; exact RG.touch ⟨wa, wc, ha, hc, da, dc, lo, hi, rfl, i1, i2, i3, hh, hc9⟩ l11 ht), fun hj => (F9 (by rwa [sgx (by decide)] at hj)), fun hj => (F10 (by rwa [sgx (by decide)] at hj)), fun _ hu => absurd hu (by rw [sgix hl]; simp), fun _ => ⟨g, _, _, rfl, g1, hAA.put _ _, rfl⟩, fun hj => absurd (hcl 13 _ rfl (by rwa [sgx (by decide)] at hj) ⟨12, .chain⟩ (by simp) rfl) (by rw [getD_both hl]; simp), Below.touchN hx ht g1 (Nat.le_refl _)⟩
    · as_aux_lemma =>
        obtain ⟨u20, u21, u129, u130, u131, u132, u133, u134, u135, u136, u137, u138, u139, rfl, F0, F1, F2, F3, F4, F5, F6, F7, F8, F9, F10, F11, F12, F13, hx⟩ := hI
        have l10 := he ⟨10, .data⟩ (by simp) rfl
        have l := F10 l10
        refine wpOp_stepx ho rfl (fun K hK => ?_)
        unfold xdA
        go_simp
        exact hK _ _ ⟨_, _, _, _, _, _, _, _, _, _, _, _, _, rfl, fun hj => (by first | exact (F0 (by rwa [sgx (by decide)] at hj)) | rfl), fun hj hu => (F1 (by rwa [sgx (by decide)] at hj) (by rwa [sgx (by decide)] at hu)), fun hj => (by first | exact (F2 (by rwa [sgx (by decide)] at hj)) | rfl), fun hj hu => (F3 (by rwa [sgx (by decide)] at hj) (by rwa [sgx (by decide)] at hu)), fun hj => (by first | exact (F4 (by rwa [sgx (by decide)] at hj)) | rfl), fun hj => (by first | exact (F5 (by rwa [sgx (by decide)] at hj)) | rfl), fun hj hu => (F6 (by rwa [sgx (by decide)] at hj) (by rwa [sgx (by decide)] at hu)), fun hj => (by rw [sgx (by decide)]; exact (F7 (by rwa [sgx (by decide)] at hj))), fun hj => (by rw [sgx (by decide)]; exact (F8 (by rwa [sgx (by decide)] at hj))), fun hj => (F9 (by rwa [sgx (by decide)] at hj)), fun hj => (F10 (by rwa [sgx (by decide)] at hj)), fun hj hu => (F11 (by rwa [sgx (by decide)] at hj) (by rwa [sgx (by decide)] at hu)), fun hj => (F12 (by rwa [sgx (by decide)] at hj)), fun _ => l, hx⟩
  · intro listed a w' hI hd
    obtain ⟨u20, u21, u129, u130, u131, u132, u133, u134, u135, u136, u137, u138, u139, rfl, F0, F1, F2, F3, F4, F5, F6, F7, F8, F9, F10, F11, F12, F13, hx⟩ := hI
    obtain ⟨wa, wc, ha, hc, da, dc, lo, hi, hr, i1, i2, i3, hh, _⟩ := F8 (hd 8 (by show 8 < 14; omega))
    obtain ⟨y1, hy1⟩ := F9 (hd 9 (by show 9 < 14; omega))
    obtain ⟨y2, hy2⟩ := F13 (hd 13 (by show 13 < 14; omega))
    obtain ⟨ga, a', b', hp1, ga1, hA0, ha'⟩ := F12 (hd 12 (by show 12 < 14; omega))
    clear F0 F1 F2 F3 F4 F5 F6 F7 F8 F9 F10 F11 F12 F13 hd
    subst hr
    simp at hy1 hy2
    obtain ⟨hy1, hz1'⟩ := hy1
    obtain ⟨hz2', hy2⟩ := hy2
    subst hy1 hy2 hz1' hz2'
    simp at ha'
    obtain ⟨ha1, ha2⟩ := ha'
    subst ha1 ha2 hp1
    exact hK _ _ _ _ _ _ _ _ _ _ _ _ _ w' ⟨ga, wa, wc, ha, hc, da, dc, rfl, rfl, ga1, hA0, i1.to (fun b hb => Nat.lt_of_lt_of_le hb.2 hh), i2.to (fun b hb => Nat.lt_of_lt_of_le hb.2 hh), i3.to (fun b hb => Nat.lt_of_lt_of_le hb.2 hh), hx⟩

end Go.Proofs.Yteamebdehembgaa
