/- A cycle: may's region 4: the id of what one asks first, in a box of its own (printed by wip/gen_may4.py). -/
import Derived.Test.YtghngenglefofaaGreatGMz
import Derived.Test.YtghngenglefofaaGreatGY0
import Derived.Test.YtghngenglefofaaGreatGDq0
set_option linter.unusedVariables false
set_option linter.unusedSimpArgs false
namespace Go.Proofs.YtghngenglefofaaGreat
open Go.RowKit
theorem IntB.new (w : World) (n : Int) : IntB (w.alloc (.cells #[.int .i64 n] 3)) w.heap.size n := alloc_at _ _ rfl
theorem IntB.fz {w : World} {g : Nat} {n : Int} (h : IntB w g n) : w.frozen? ⟨g, 0, none⟩ = false := by
 unfold IntB at h; simp [World.frozen?, h]
theorem IntB.put {w : World} {g : Nat} {n : Int} (h : IntB w g n) (m : Int) : IntB (w.setCell ⟨g, 0, none⟩ (.int .i64 m)) g m := by
 unfold IntB at h ⊢; simp [World.setCell, Array.getElem?_modify, h]
def mfA (i0 i1 i2 i3 i4 i7 i8 i11 i12 i13 i14 i15 i16 i17 i18 i19 i20 i21 i22 i23 i24 i25 i26 i27 i28 i29 i30 i31 i32 i33 i34 i35 i36 i37 i38 i39 i40 i41 i42 i43 i44 i45 i53 i54 i55 i56 i57 : Value) (g1 : Nat) (g2 : Nat) (gp : Nat) (u10 u46 u47 u48 u49 u50 u51 u52 : Value) : Act := { tmps := #[i0, i1, i2, i3, i4, .pointer (some ⟨g1, 0, none⟩), .pointer (some ⟨g2, 0, none⟩), i7, i8, .pointer (some ⟨gp, 0, none⟩), u10, i11, i12, i13, i14, i15, i16, i17, i18, i19, i20, i21, i22, i23, i24, i25, i26, i27, i28, i29, i30, i31, i32, i33, i34, i35, i36, i37, i38, i39, i40, i41, i42, i43, i44, i45, u46, u47, u48, u49, u50, u51, u52, i53, i54, i55, i56, i57], defers := [] }
def mfI (i0 i1 i2 i3 i4 i7 i8 i11 i12 i13 i14 i15 i16 i17 i18 i19 i20 i21 i22 i23 i24 i25 i26 i27 i28 i29 i30 i31 i32 i33 i34 i35 i36 i37 i38 i39 i40 i41 i42 i43 i44 i45 i53 i54 i55 i56 i57 : Value) (g1 : Nat) (g2 : Nat) (gp : Nat) (ma : Option Addr) (mn : Nat) (mk : Nat) (lb : Nat) (lo : Nat) (lc : Nat) (pb : Nat) (po : Nat) (pc : Nat) (who : Nat) (n : Nat) (iz : Int) (qb : Nat) (qo : Nat) (ql : Nat) (qc : Nat) (wq : World) (listed : Array Bool) (a : Act) (w' : World) : Prop :=
 ∃ u10 u46 u47 u48 u49 u50 u51 u52 : Value, a = mfA i0 i1 i2 i3 i4 i7 i8 i11 i12 i13 i14 i15 i16 i17 i18 i19 i20 i21 i22 i23 i24 i25 i26 i27 i28 i29 i30 i31 i32 i33 i34 i35 i36 i37 i38 i39 i40 i41 i42 i43 i44 i45 i53 i54 i55 i56 i57 g1 g2 gp u10 u46 u47 u48 u49 u50 u51 u52 ∧
   (listed.getD 0 false = true → u46 = .agg #[.slice ma mn mk, .slice (some ⟨lb, lo, none⟩) 4 lc, .slice (some ⟨pb, po, none⟩) 3 pc]) ∧
   (listed.getD 1 false = true → u47 = .int .i64 who) ∧
   (listed.getD 2 false = true → u48 = .pointer (some ⟨gp, 1, none⟩)) ∧
   (listed.getD 3 false = true → u49 = .slice (some ⟨qb, qo, none⟩) ql qc) ∧
   (listed.getD 4 false = true → u50 = .pointer (some ⟨qb, qo, none⟩)) ∧
   (listed.getD 5 false = true → u51 = .int .i64 n) ∧
   (listed.getD 6 false = true → u52 = .int .i64 iz) ∧
   (listed.getD 7 false = true → listed.getD 8 false = false → ∃ g, u10 = .pointer (some ⟨g, 0, none⟩) ∧ wq.heap.size ≤ g ∧ IntB w' g 0) ∧
   (listed.getD 8 false = true → ∃ g, u10 = .pointer (some ⟨g, 0, none⟩) ∧ wq.heap.size ≤ g ∧ IntB w' g iz) ∧
   Below wq.heap.size wq w'
noncomputable def mfCode : Code := (Tryz.f129.body.bind (regionIn 4)).getD .skip
set_option maxRecDepth 100000 in
set_option maxHeartbeats 16000000 in
theorem mf_region (i0 i1 i2 i3 i4 i7 i8 i11 i12 i13 i14 i15 i16 i17 i18 i19 i20 i21 i22 i23 i24 i25 i26 i27 i28 i29 i30 i31 i32 i33 i34 i35 i36 i37 i38 i39 i40 i41 i42 i43 i44 i45 i53 i54 i55 i56 i57 j10 j46 j47 j48 j49 j50 j51 j52 : Value) (g1 : Nat) (g2 : Nat) (gp : Nat) (ma : Option Addr) (mn : Nat) (mk : Nat) (lb : Nat) (lo : Nat) (lc : Nat) (pb : Nat) (po : Nat) (pc : Nat) (who : Nat) (n : Nat) (iz : Int) (qb : Nat) (qo : Nat) (ql : Nat) (qc : Nat) (wq : World)
  {c : Cfg} (hbus : Bus c) {B : Nat} {QQ : Nat → Option Addr} {KK : Nat → Nat} (HO : BusO wq B c ma mn mk lb lo lc pb po pc QQ KK) (hBw : B ≤ wq.heap.size) (hwi : who < 3) (hni : n < (c.prog who).length) (HY : Hid (iz = c.id who n))
  (t0 : wq.cell? ⟨g1, 0, none⟩ = some (.slice ma mn mk)) (t1 : wq.cell? ⟨g1, 1, none⟩ = some (.slice (some ⟨lb, lo, none⟩) 4 lc)) (t2 : wq.cell? ⟨g1, 2, none⟩ = some (.slice (some ⟨pb, po, none⟩) 3 pc)) (z1 : g1 < wq.heap.size)
  (t3 : wq.cell? ⟨g2, 0, none⟩ = some (.int .i64 who)) (z2 : g2 < wq.heap.size) (t4 : wq.cell? ⟨gp, 1, none⟩ = some (.slice (some ⟨qb, qo, none⟩) ql qc)) (z3 : gp < wq.heap.size) (t5 : wq.cell? ⟨qb, qo, none⟩ = some (.int .i64 n)) (z4 : qb < wq.heap.size)
  (hqi : (0 : Int) < (ql : Int)) (hqp : 0 < ql)
  {K : Act → World → Prop} {Q' : Exit → Act → World → Prop}
  (hK : ∀ (u10 u46 u47 u48 u49 u50 u51 u52 : Value) w', (∃ g, u10 = .pointer (some ⟨g, 0, none⟩) ∧ wq.heap.size ≤ g ∧ IntB w' g iz ∧ Below wq.heap.size wq w') → K (mfA i0 i1 i2 i3 i4 i7 i8 i11 i12 i13 i14 i15 i16 i17 i18 i19 i20 i21 i22 i23 i24 i25 i26 i27 i28 i29 i30 i31 i32 i33 i34 i35 i36 i37 i38 i39 i40 i41 i42 i43 i44 i45 i53 i54 i55 i56 i57 g1 g2 gp u10 u46 u47 u48 u49 u50 u51 u52) w') :
  mfCode.wp Tryz.prog (Exit.then K Q') (mfA i0 i1 i2 i3 i4 i7 i8 i11 i12 i13 i14 i15 i16 i17 i18 i19 i20 i21 i22 i23 i24 i25 i26 i27 i28 i29 i30 i31 i32 i33 i34 i35 i36 i37 i38 i39 i40 i41 i42 i43 i44 i45 i53 i54 i55 i56 i57 g1 g2 gp j10 j46 j47 j48 j49 j50 j51 j52) wq := by
 conv => arg 2; whnf
 refine wp_region_inv3 (mfI i0 i1 i2 i3 i4 i7 i8 i11 i12 i13 i14 i15 i16 i17 i18 i19 i20 i21 i22 i23 i24 i25 i26 i27 i28 i29 i30 i31 i32 i33 i34 i35 i36 i37 i38 i39 i40 i41 i42 i43 i44 i45 i53 i54 i55 i56 i57 g1 g2 gp ma mn mk lb lo lc pb po pc who n iz qb qo ql qc wq) (by kernel_rfl) (by kernel_rfl) ?_ ?_ ?_
 ·exact ⟨_, _, _, _, _, _, _, _, rfl, (fun h => absurd h (by rw [getD_replicate_false]; simp)), (fun h => absurd h (by rw [getD_replicate_false]; simp)), (fun h => absurd h (by rw [getD_replicate_false]; simp)), (fun h => absurd h (by rw [getD_replicate_false]; simp)), (fun h => absurd h (by rw [getD_replicate_false]; simp)), (fun h => absurd h (by rw [getD_replicate_false]; simp)), (fun h => absurd h (by rw [getD_replicate_false]; simp)), (fun h _ => absurd h (by rw [getD_replicate_false]; simp)), (fun h => absurd h (by rw [getD_replicate_false]; simp)), (Below.refl _ _).drew⟩
 ·intro listed a w' i o hI hsz ho hl he hcl
  have hi : i < 9 := (Array.getElem?_eq_some_iff.1 ho).1
  have e : i = 0 ∨ i = 1 ∨ i = 2 ∨ i = 3 ∨ i = 4 ∨ i = 5 ∨ i = 6 ∨ i = 7 ∨ i = 8 := by omega
  clear hi
  rcases e with rfl | rfl | rfl | rfl | rfl | rfl | rfl | rfl | rfl
  all_goals (have ho2 := ho; obtain rfl := Option.some.inj ho2.symm; clear ho2)
  ·as_aux_lemma =>
    obtain ⟨u10, u46, u47, u48, u49, u50, u51, u52, rfl, F0, F1, F2, F3, F4, F5, F6, F7, F8, hx⟩ := hI
    have q_t0 := (hx.cell (p := ⟨g1, 0, none⟩) z1).trans t0
    have q_t1 := (hx.cell (p := ⟨g1, 1, none⟩) z1).trans t1
    have q_t2 := (hx.cell (p := ⟨g1, 2, none⟩) z1).trans t2
    refine wpOp_stepy ho rfl (fun K hK => ?_)
    unfold mfA
    go_simp
    exact hK _ _ ⟨_, _, _, _, _, _, _, _, rfl, fun _ => rfl, cy F1 rfl, cy F2 rfl, cy F3 rfl, cy F4 rfl, cy F5 rfl, cy F6 rfl, cyu F7 rfl rfl, cy F8 rfl, hx⟩
  ·as_aux_lemma =>
    obtain ⟨u10, u46, u47, u48, u49, u50, u51, u52, rfl, F0, F1, F2, F3, F4, F5, F6, F7, F8, hx⟩ := hI
    have q_t3 := (hx.cell (p := ⟨g2, 0, none⟩) z2).trans t3
    refine wpOp_stepy ho rfl (fun K hK => ?_)
    unfold mfA
    go_simp
    exact hK _ _ ⟨_, _, _, _, _, _, _, _, rfl, cy F0 rfl, fun _ => rfl, cy F2 rfl, cy F3 rfl, cy F4 rfl, cy F5 rfl, cy F6 rfl, cyu F7 rfl rfl, cy F8 rfl, hx⟩
  ·as_aux_lemma =>
    obtain ⟨u10, u46, u47, u48, u49, u50, u51, u52, rfl, F0, F1, F2, F3, F4, F5, F6, F7, F8, hx⟩ := hI
    refine wpOp_stepy ho rfl (fun K hK => ?_)
    unfold mfA
    go_simp
    exact hK _ _ ⟨_, _, _, _, _, _, _, _, rfl, cy F0 rfl, cy F1 rfl, fun _ => rfl, cy F3 rfl, cy F4 rfl, cy F5 rfl, cy F6 rfl, cyu F7 rfl rfl, cy F8 rfl, hx⟩
  ·as_aux_lemma =>
    obtain ⟨u10, u46, u47, u48, u49, u50, u51, u52, rfl, F0, F1, F2, F3, F4, F5, F6, F7, F8, hx⟩ := hI
    have l2 := he ⟨2, .data⟩ (by simp) rfl
    have e := F2 l2; subst e
    have q_t4 := (hx.cell (p := ⟨gp, 1, none⟩) z3).trans t4
    refine wpOp_stepy ho rfl (fun K hK => ?_)
    unfold mfA
    go_simp
    exact hK _ _ ⟨_, _, _, _, _, _, _, _, rfl, cy F0 rfl, cy F1 rfl, cy F2 rfl, fun _ => rfl, cy F4 rfl, cy F5 rfl, cy F6 rfl, cyu F7 rfl rfl, cy F8 rfl, hx⟩
  ·as_aux_lemma =>
    obtain ⟨u10, u46, u47, u48, u49, u50, u51, u52, rfl, F0, F1, F2, F3, F4, F5, F6, F7, F8, hx⟩ := hI
    have l3 := he ⟨3, .data⟩ (by simp) rfl
    have e := F3 l3; subst e
    have hq1 := hqi; have hq2 := hqp
    refine wpOp_stepy ho rfl (fun K hK => ?_)
    unfold mfA
    go_simp
    exact hK _ _ ⟨_, _, _, _, _, _, _, _, rfl, cy F0 rfl, cy F1 rfl, cy F2 rfl, cy F3 rfl, fun _ => rfl, cy F5 rfl, cy F6 rfl, cyu F7 rfl rfl, cy F8 rfl, hx⟩
  ·as_aux_lemma =>
    obtain ⟨u10, u46, u47, u48, u49, u50, u51, u52, rfl, F0, F1, F2, F3, F4, F5, F6, F7, F8, hx⟩ := hI
    have l4 := he ⟨4, .data⟩ (by simp) rfl
    have e := F4 l4; subst e
    have q_t5 := (hx.cell (p := ⟨qb, qo, none⟩) z4).trans t5
    refine wpOp_stepy ho rfl (fun K hK => ?_)
    unfold mfA
    go_simp
    exact hK _ _ ⟨_, _, _, _, _, _, _, _, rfl, cy F0 rfl, cy F1 rfl, cy F2 rfl, cy F3 rfl, cy F4 rfl, fun _ => rfl, cy F6 rfl, cyu F7 rfl rfl, cy F8 rfl, hx⟩
  ·as_aux_lemma =>
    obtain ⟨u10, u46, u47, u48, u49, u50, u51, u52, rfl, F0, F1, F2, F3, F4, F5, F6, F7, F8, hx⟩ := hI
    have l0 := he ⟨0, .data⟩ (by simp) rfl
    have l1 := he ⟨1, .data⟩ (by simp) rfl
    have l5 := he ⟨5, .data⟩ (by simp) rfl
    have e := F0 l0; subst e
    have e := F1 l1; subst e
    have e := F5 l5; subst e
    refine wpOp_stepy ho rfl (fun K hK => ?_)
    unfold mfA
    go_simp
    (with_reducible refine (id_any hbus (B := B) (HO.below (hx.mono hBw)) (Nat.le_trans hBw hx.size) hwi hni).mono ?_)
    rw [← HY.out]
    rintro e w'' ⟨rfl, hb1⟩
    go_wp2_with fail
    exact ⟨_, _, _, _, _, _, _, _, rfl, fun _ => rfl, fun _ => rfl, cy F2 rfl, cy F3 rfl, cy F4 rfl, fun _ => rfl, fun _ => rfl, fun hj hu => (let ⟨g, e1, e2, e3⟩ := (cyu F7 rfl rfl hj hu); ⟨g, e1, e2, e3.below hb1 (heap_lt' e3)⟩), fun hj => absurd (hcl 8 _ rfl (by rwa [sgy (by decide)] at hj) ⟨6, .data⟩ (by simp) rfl) (by rw [getD_both hl]; simp), hx.trans (hb1.mono hx.size)⟩
  ·as_aux_lemma =>
    obtain ⟨u10, u46, u47, u48, u49, u50, u51, u52, rfl, F0, F1, F2, F3, F4, F5, F6, F7, F8, hx⟩ := hI
    refine wpOp_stepy ho rfl (fun K hK => ?_)
    unfold mfA
    have hb1 : Below w'.heap.size w' (w'.alloc (.cells #[.int .i64 0] 3)) := (Below.refl _ _).alloc (Nat.le_refl _) _
    go_simp
    exact hK _ _ ⟨_, _, _, _, _, _, _, _, rfl, cy F0 rfl, cy F1 rfl, cy F2 rfl, cy F3 rfl, cy F4 rfl, cy F5 rfl, cy F6 rfl, fun _ _ => ⟨_, rfl, hx.size, IntB.new _ _⟩, fun hj => absurd (hcl 8 _ rfl (by rwa [sgy (by decide)] at hj) ⟨7, .data⟩ (by simp) rfl) (by rw [getD_both hl]; simp), hx.trans (hb1.mono hx.size)⟩
  ·as_aux_lemma =>
    obtain ⟨u10, u46, u47, u48, u49, u50, u51, u52, rfl, F0, F1, F2, F3, F4, F5, F6, F7, F8, hx⟩ := hI
    have l7 := he ⟨7, .data⟩ (by simp) rfl
    have l6 := he ⟨6, .data⟩ (by simp) rfl
    obtain ⟨g, rfl, g1l, hI3⟩ := F7 l7 (getD_both hl)
    have e := F6 l6; subst e
    obtain ⟨k0, _⟩ := hI3.cells
    have k1 := hI3.fz
    refine wpOp_stepy ho rfl (fun K hK => ?_)
    unfold mfA
    have ht : Touch g w' (w'.setCell ⟨g, 0, none⟩ (.int .i64 iz)) := Touch.setCell _ _ _ _
    go_simp
    exact hK _ _ ⟨_, _, _, _, _, _, _, _, rfl, cy F0 rfl, cy F1 rfl, cy F2 rfl, cy F3 rfl, cy F4 rfl, cy F5 rfl, cy F6 rfl, fun _ hu => absurd hu (by rw [sgiy hl]; simp), fun _ => ⟨g, rfl, g1l, hI3.put _⟩, hx.trans (ht.below g1l hx.size)⟩
 ·intro listed a w' hI hd
  obtain ⟨u10, u46, u47, u48, u49, u50, u51, u52, rfl, F0, F1, F2, F3, F4, F5, F6, F7, F8, hx⟩ := hI
  have e8 := F8 (hd 8 (by show 8 < 9; omega))
  obtain ⟨g, e1, e2, e3⟩ := e8
  exact hK _ _ _ _ _ _ _ _ w' ⟨g, e1, e2, e3, hx⟩
end Go.Proofs.YtghngenglefofaaGreat
