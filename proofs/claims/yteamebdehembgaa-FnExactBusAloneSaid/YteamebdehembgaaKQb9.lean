/-
  BusCfg.copyOf: its drawn region 9 (printed by wip/gen_qb.py).
-/
import Derived.Test.YteamebdehembgaaJY4
import Derived.Test.YteamebdehembgaaJQ24
set_option linter.unusedVariables false
set_option linter.unusedSimpArgs false
namespace Go.Proofs.Yteamebdehembgaa
open Go.RowKit
attribute [local go_sem ↓] Go.wp_at_zero Go.wp_at_succ

def qb9A (i0 i1 i2 i5 i8 i9 i10 i11 i12 i13 i14 i15 i16 i17 i18 i19 i20 i21 i22 i23 i24 i25 i26 i27 i28 i29 i30 i31 i32 i33 i34 i35 i36 i37 i38 i39 i49 i50 i51 : Value) (g : Nat) (i : Nat) (qs : List Rq) (gE : Nat) (u40 u41 u42 u43 u44 u45 u46 u47 u48 : Value) : Act := { tmps := #[i0, i1, i2, .pointer (some ⟨g, 0, none⟩), .int .i64 (i : Nat), i5, .int .i64 (qs.length : Nat), .pointer (some ⟨gE, 0, none⟩), i8, i9, i10, i11, i12, i13, i14, i15, i16, i17, i18, i19, i20, i21, i22, i23, i24, i25, i26, i27, i28, i29, i30, i31, i32, i33, i34, i35, i36, i37, i38, i39, u40, u41, u42, u43, u44, u45, u46, u47, u48, i49, i50, i51], defers := [] }
def qb9I (i0 i1 i2 i5 i8 i9 i10 i11 i12 i13 i14 i15 i16 i17 i18 i19 i20 i21 i22 i23 i24 i25 i26 i27 i28 i29 i30 i31 i32 i33 i34 i35 i36 i37 i38 i39 i49 i50 i51 : Value) (g : Nat) (i : Nat) (qs : List Rq) (gE : Nat) (lo : Nat) (gr : Nat) (o : Nat) (c : Nat) (m : Nat) (pb : Nat) (n : Nat) (B : Nat) (vs : List (Value × Value)) (row : RqV) (rest : List RqV) (r : Rq) (dv : Value) (lv : Value) (wq : World) (listed : Array Bool) (a : Act) (w' : World) : Prop :=
  ∃ u40 u41 u42 u43 u44 u45 u46 u47 u48 : Value, a = qb9A i0 i1 i2 i5 i8 i9 i10 i11 i12 i13 i14 i15 i16 i17 i18 i19 i20 i21 i22 i23 i24 i25 i26 i27 i28 i29 i30 i31 i32 i33 i34 i35 i36 i37 i38 i39 i49 i50 i51 g i qs gE u40 u41 u42 u43 u44 u45 u46 u47 u48 ∧
      (listed.getD 0 false = true → u40 = .pointer (some ⟨g, 2, none⟩)) ∧
      (listed.getD 1 false = true → u41 = .slice (some ⟨pb, 0, none⟩) n n) ∧
      (listed.getD 2 false = true → u42 = .int .i64 (i : Nat)) ∧
      (listed.getD 3 false = true → u43 = .pointer (some ⟨pb, i, none⟩)) ∧
      (listed.getD 4 false = true → u44 = .slice (some ⟨gr, o, none⟩) m c) ∧
      (listed.getD 5 false = true → u45 = .int .i64 (qs.length : Nat)) ∧
      (listed.getD 6 false = true → u46 = .agg #[.int .i64 r.id, .int .i64 r.kind, .int .i64 r.addr, .int .i64 r.many, .bool r.wrap, dv, lv]) ∧
      (listed.getD 7 false = true → listed.getD 9 false = false → ∃ d l, u47 = .agg #[.int .i64 r.id, .int .i64 r.kind, .int .i64 r.addr, .int .i64 r.many, .bool r.wrap, d, l] ∧ Owns w' wq.heap.size 3 1 rowI d r.data ∧ Owns w' wq.heap.size 3 1 rowI l r.lanes ∧ Apart d l) ∧
      (listed.getD 8 false = true → u48 = .pointer (some ⟨gr, o + qs.length * 7, none⟩)) ∧
      (listed.getD 9 false = true → ∃ d l, QcO w' lo gr o c m (qs ++ [r]) (vs ++ [(d, l)]) rest) ∧
      (listed.getD 9 false = false → Below wq.heap.size wq w') ∧
      Touch gr wq w'
noncomputable def qb9Code : Code := (Try.f57.body.bind (regIn2 9)).getD .skip
/-- Behind the region: one more of what is asked is a copy. -/
def QdP (lo gr o c m : Nat) (qs : List Rq) (vs : List (Value × Value)) (rest : List RqV) (r : Rq) (wq w' : World) : Prop := ∃ d l, QcO w' lo gr o c m (qs ++ [r]) (vs ++ [(d, l)]) rest ∧ Touch gr wq w'

set_option maxRecDepth 100000 in
set_option maxHeartbeats 16000000 in
theorem qb9_region (i0 i1 i2 i5 i8 i9 i10 i11 i12 i13 i14 i15 i16 i17 i18 i19 i20 i21 i22 i23 i24 i25 i26 i27 i28 i29 i30 i31 i32 i33 i34 i35 i36 i37 i38 i39 i49 i50 i51 j40 j41 j42 j43 j44 j45 j46 j47 j48 : Value) (g : Nat) (i : Nat) (qs : List Rq) (gE : Nat) (lo : Nat) (gr : Nat) (o : Nat) (c : Nat) (m : Nat) (pb : Nat) (n : Nat) (B : Nat) (vs : List (Value × Value)) (row : RqV) (rest : List RqV) (r : Rq) (dv : Value) (lv : Value) (wq : World)
    (hne1 : g ≠ gr) (hlt1 : g < wq.heap.size) (hG : wq.cell? ⟨g, 2, none⟩ = some (.slice (some ⟨pb, 0, none⟩) n n)) (hin : i < n) (hne2 : pb ≠ gr) (hlt2 : pb < wq.heap.size) (hP : wq.cell? ⟨pb, i, none⟩ = some (.slice (some ⟨gr, o, none⟩) m c)) (hne3 : gE ≠ gr) (hlt3 : gE < wq.heap.size) (hE : (wq.cell? ⟨gE, 0, none⟩ = some (.int .i64 r.id) ∧ wq.cell? ⟨gE, 1, none⟩ = some (.int .i64 r.kind) ∧ wq.cell? ⟨gE, 2, none⟩ = some (.int .i64 r.addr) ∧ wq.cell? ⟨gE, 3, none⟩ = some (.int .i64 r.many) ∧ wq.cell? ⟨gE, 4, none⟩ = some (.bool r.wrap) ∧ wq.cell? ⟨gE, 5, none⟩ = some dv ∧ wq.cell? ⟨gE, 6, none⟩ = some lv) ∧ True) (hgr : gr < wq.heap.size) (hB : B ≤ gr) (hR : ReqV wq B (.agg #[.int .i64 r.id, .int .i64 r.kind, .int .i64 r.addr, .int .i64 r.many, .bool r.wrap, dv, lv]) r) (hl1 : r.data.length ≤ 1048576) (hl2 : r.lanes.length ≤ 1048576) (hkm : qs.length < m) (hQ : QcO wq lo gr o c m qs vs (row :: rest))
    {Q : Exit → Act → World → Prop}
    (hK : ∀ (u40 u41 u42 u43 u44 u45 u46 u47 u48 : Value) w', QdP lo gr o c m qs vs rest r wq w' → Q .normal (qb9A i0 i1 i2 i5 i8 i9 i10 i11 i12 i13 i14 i15 i16 i17 i18 i19 i20 i21 i22 i23 i24 i25 i26 i27 i28 i29 i30 i31 i32 i33 i34 i35 i36 i37 i38 i39 i49 i50 i51 g i qs gE u40 u41 u42 u43 u44 u45 u46 u47 u48) w') : qb9Code.wp Try.prog Q (qb9A i0 i1 i2 i5 i8 i9 i10 i11 i12 i13 i14 i15 i16 i17 i18 i19 i20 i21 i22 i23 i24 i25 i26 i27 i28 i29 i30 i31 i32 i33 i34 i35 i36 i37 i38 i39 i49 i50 i51 g i qs gE j40 j41 j42 j43 j44 j45 j46 j47 j48) wq := by
  conv => arg 2; whnf
  refine wp_region_inv2 (qb9I i0 i1 i2 i5 i8 i9 i10 i11 i12 i13 i14 i15 i16 i17 i18 i19 i20 i21 i22 i23 i24 i25 i26 i27 i28 i29 i30 i31 i32 i33 i34 i35 i36 i37 i38 i39 i49 i50 i51 g i qs gE lo gr o c m pb n B vs row rest r dv lv wq) (by kernel_rfl) (by kernel_rfl) ?_ ?_ ?_
  · exact ⟨_, _, _, _, _, _, _, _, _, rfl, (fun h => absurd h (by rw [getD_replicate_false]; simp)), (fun h => absurd h (by rw [getD_replicate_false]; simp)), (fun h => absurd h (by rw [getD_replicate_false]; simp)), (fun h => absurd h (by rw [getD_replicate_false]; simp)), (fun h => absurd h (by rw [getD_replicate_false]; simp)), (fun h => absurd h (by rw [getD_replicate_false]; simp)), (fun h => absurd h (by rw [getD_replicate_false]; simp)), (fun h _ => absurd h (by rw [getD_replicate_false]; simp)), (fun h => absurd h (by rw [getD_replicate_false]; simp)), (fun h => absurd h (by rw [getD_replicate_false]; simp)), (fun _ => (Below.refl _ _).drew), (Touch.refl _ _).drewd⟩
  · intro listed a w' i o hI hsz ho hl he hcl
    have hi : i < 10 := (Array.getElem?_eq_some_iff.1 ho).1
    have e : i = 0 ∨ i = 1 ∨ i = 2 ∨ i = 3 ∨ i = 4 ∨ i = 5 ∨ i = 6 ∨ i = 7 ∨ i = 8 ∨ i = 9 := by omega
    clear hi
    rcases e with rfl | rfl | rfl | rfl | rfl | rfl | rfl | rfl | rfl | rfl
    all_goals (have ho2 := ho; obtain rfl := Option.some.inj ho2.symm; clear ho2)
    · as_aux_lemma =>
        obtain ⟨u40, u41, u42, u43, u44, u45, u46, u47, u48, rfl, F0, F1, F2, F3, F4, F5, F6, F7, F8, F9, N9, hx⟩ := hI
        refine wpOp_stepx ho rfl (fun K hK => ?_)
        unfold qb9A
        go_simp
        exact hK _ _ ⟨_, _, _, _, _, _, _, _, _, rfl, fun _ => rfl, fun hj => (by first | exact (F1 (by rwa [sgx (by decide)] at hj)) | rfl), fun hj => (by first | exact (F2 (by rwa [sgx (by decide)] at hj)) | rfl), fun hj => (by first | exact (F3 (by rwa [sgx (by decide)] at hj)) | rfl), fun hj => (by first | exact (F4 (by rwa [sgx (by decide)] at hj)) | rfl), fun hj => (by first | exact (F5 (by rwa [sgx (by decide)] at hj)) | rfl), fun hj => (by first | exact (F6 (by rwa [sgx (by decide)] at hj)) | rfl), fun hj hu => (F7 (by rwa [sgx (by decide)] at hj) (by rwa [sgx (by decide)] at hu)), fun hj => (by first | exact (F8 (by rwa [sgx (by decide)] at hj)) | rfl), fun hj => (F9 (by rwa [sgx (by decide)] at hj)), fun hj => (N9 (by rwa [sgx (by decide)] at hj)), hx⟩
    · as_aux_lemma =>
        obtain ⟨u40, u41, u42, u43, u44, u45, u46, u47, u48, rfl, F0, F1, F2, F3, F4, F5, F6, F7, F8, F9, N9, hx⟩ := hI
        have l0 := he ⟨0, .data⟩ (by simp) rfl
        have e := F0 l0; subst e
        have q := (hx.cell (p := ⟨g, 2, none⟩) hne1 hlt1).trans hG
        refine wpOp_stepx ho rfl (fun K hK => ?_)
        unfold qb9A
        go_simp
        exact hK _ _ ⟨_, _, _, _, _, _, _, _, _, rfl, fun hj => (by first | exact (F0 (by rwa [sgx (by decide)] at hj)) | rfl), fun _ => rfl, fun hj => (by first | exact (F2 (by rwa [sgx (by decide)] at hj)) | rfl), fun hj => (by first | exact (F3 (by rwa [sgx (by decide)] at hj)) | rfl), fun hj => (by first | exact (F4 (by rwa [sgx (by decide)] at hj)) | rfl), fun hj => (by first | exact (F5 (by rwa [sgx (by decide)] at hj)) | rfl), fun hj => (by first | exact (F6 (by rwa [sgx (by decide)] at hj)) | rfl), fun hj hu => (F7 (by rwa [sgx (by decide)] at hj) (by rwa [sgx (by decide)] at hu)), fun hj => (by first | exact (F8 (by rwa [sgx (by decide)] at hj)) | rfl), fun hj => (F9 (by rwa [sgx (by decide)] at hj)), fun hj => (N9 (by rwa [sgx (by decide)] at hj)), hx⟩
    · as_aux_lemma =>
        obtain ⟨u40, u41, u42, u43, u44, u45, u46, u47, u48, rfl, F0, F1, F2, F3, F4, F5, F6, F7, F8, F9, N9, hx⟩ := hI
        refine wpOp_stepx ho rfl (fun K hK => ?_)
        unfold qb9A
        go_simp
        exact hK _ _ ⟨_, _, _, _, _, _, _, _, _, rfl, fun hj => (by first | exact (F0 (by rwa [sgx (by decide)] at hj)) | rfl), fun hj => (by first | exact (F1 (by rwa [sgx (by decide)] at hj)) | rfl), fun _ => rfl, fun hj => (by first | exact (F3 (by rwa [sgx (by decide)] at hj)) | rfl), fun hj => (by first | exact (F4 (by rwa [sgx (by decide)] at hj)) | rfl), fun hj => (by first | exact (F5 (by rwa [sgx (by decide)] at hj)) | rfl), fun hj => (by first | exact (F6 (by rwa [sgx (by decide)] at hj)) | rfl), fun hj hu => (F7 (by rwa [sgx (by decide)] at hj) (by rwa [sgx (by decide)] at hu)), fun hj => (by first | exact (F8 (by rwa [sgx (by decide)] at hj)) | rfl), fun hj => (F9 (by rwa [sgx (by decide)] at hj)), fun hj => (N9 (by rwa [sgx (by decide)] at hj)), hx⟩
    · as_aux_lemma =>
        obtain ⟨u40, u41, u42, u43, u44, u45, u46, u47, u48, rfl, F0, F1, F2, F3, F4, F5, F6, F7, F8, F9, N9, hx⟩ := hI
        have l1 := he ⟨1, .data⟩ (by simp) rfl
        have l2 := he ⟨2, .data⟩ (by simp) rfl
        have e := F1 l1; subst e
        have e := F2 l2; subst e
        have hkx := hin
        refine wpOp_stepx ho rfl (fun K hK => ?_)
        unfold qb9A
        go_simp
        exact hK _ _ ⟨_, _, _, _, _, _, _, _, _, rfl, fun hj => (by first | exact (F0 (by rwa [sgx (by decide)] at hj)) | rfl), fun hj => (by first | exact (F1 (by rwa [sgx (by decide)] at hj)) | rfl), fun hj => (by first | exact (F2 (by rwa [sgx (by decide)] at hj)) | rfl), fun _ => rfl, fun hj => (by first | exact (F4 (by rwa [sgx (by decide)] at hj)) | rfl), fun hj => (by first | exact (F5 (by rwa [sgx (by decide)] at hj)) | rfl), fun hj => (by first | exact (F6 (by rwa [sgx (by decide)] at hj)) | rfl), fun hj hu => (F7 (by rwa [sgx (by decide)] at hj) (by rwa [sgx (by decide)] at hu)), fun hj => (by first | exact (F8 (by rwa [sgx (by decide)] at hj)) | rfl), fun hj => (F9 (by rwa [sgx (by decide)] at hj)), fun hj => (N9 (by rwa [sgx (by decide)] at hj)), hx⟩
    · as_aux_lemma =>
        obtain ⟨u40, u41, u42, u43, u44, u45, u46, u47, u48, rfl, F0, F1, F2, F3, F4, F5, F6, F7, F8, F9, N9, hx⟩ := hI
        have l3 := he ⟨3, .data⟩ (by simp) rfl
        have e := F3 l3; subst e
        have q := (hx.cell (p := ⟨pb, i, none⟩) hne2 hlt2).trans hP
        refine wpOp_stepx ho rfl (fun K hK => ?_)
        unfold qb9A
        go_simp
        exact hK _ _ ⟨_, _, _, _, _, _, _, _, _, rfl, fun hj => (by first | exact (F0 (by rwa [sgx (by decide)] at hj)) | rfl), fun hj => (by first | exact (F1 (by rwa [sgx (by decide)] at hj)) | rfl), fun hj => (by first | exact (F2 (by rwa [sgx (by decide)] at hj)) | rfl), fun hj => (by first | exact (F3 (by rwa [sgx (by decide)] at hj)) | rfl), fun _ => rfl, fun hj => (by first | exact (F5 (by rwa [sgx (by decide)] at hj)) | rfl), fun hj => (by first | exact (F6 (by rwa [sgx (by decide)] at hj)) | rfl), fun hj hu => (F7 (by rwa [sgx (by decide)] at hj) (by rwa [sgx (by decide)] at hu)), fun hj => (by first | exact (F8 (by rwa [sgx (by decide)] at hj)) | rfl), fun hj => (F9 (by rwa [sgx (by decide)] at hj)), fun hj => (N9 (by rwa [sgx (by decide)] at hj)), hx⟩
    · as_aux_lemma =>
        obtain ⟨u40, u41, u42, u43, u44, u45, u46, u47, u48, rfl, F0, F1, F2, F3, F4, F5, F6, F7, F8, F9, N9, hx⟩ := hI
        refine wpOp_stepx ho rfl (fun K hK => ?_)
        unfold qb9A
        go_simp
        exact hK _ _ ⟨_, _, _, _, _, _, _, _, _, rfl, fun hj => (by first | exact (F0 (by rwa [sgx (by decide)] at hj)) | rfl), fun hj => (by first | exact (F1 (by rwa [sgx (by decide)] at hj)) | rfl), fun hj => (by first | exact (F2 (by rwa [sgx (by decide)] at hj)) | rfl), fun hj => (by first | exact (F3 (by rwa [sgx (by decide)] at hj)) | rfl), fun hj => (by first | exact (F4 (by rwa [sgx (by decide)] at hj)) | rfl), fun _ => rfl, fun hj => (by first | exact (F6 (by rwa [sgx (by decide)] at hj)) | rfl), fun hj hu => (F7 (by rwa [sgx (by decide)] at hj) (by rwa [sgx (by decide)] at hu)), fun hj => (by first | exact (F8 (by rwa [sgx (by decide)] at hj)) | rfl), fun hj => (F9 (by rwa [sgx (by decide)] at hj)), fun hj => (N9 (by rwa [sgx (by decide)] at hj)), hx⟩
    · as_aux_lemma =>
        obtain ⟨u40, u41, u42, u43, u44, u45, u46, u47, u48, rfl, F0, F1, F2, F3, F4, F5, F6, F7, F8, F9, N9, hx⟩ := hI
        have q0 := (hx.cell (p := ⟨gE, 0, none⟩) hne3 hlt3).trans hE.1.1
        have q1 := (hx.cell (p := ⟨gE, 1, none⟩) hne3 hlt3).trans hE.1.2.1
        have q2 := (hx.cell (p := ⟨gE, 2, none⟩) hne3 hlt3).trans hE.1.2.2.1
        have q3 := (hx.cell (p := ⟨gE, 3, none⟩) hne3 hlt3).trans hE.1.2.2.2.1
        have q4 := (hx.cell (p := ⟨gE, 4, none⟩) hne3 hlt3).trans hE.1.2.2.2.2.1
        have q5 := (hx.cell (p := ⟨gE, 5, none⟩) hne3 hlt3).trans hE.1.2.2.2.2.2.1
        have q6 := (hx.cell (p := ⟨gE, 6, none⟩) hne3 hlt3).trans hE.1.2.2.2.2.2.2
        refine wpOp_stepx ho rfl (fun K hK => ?_)
        unfold qb9A
        go_simp
        exact hK _ _ ⟨_, _, _, _, _, _, _, _, _, rfl, fun hj => (by first | exact (F0 (by rwa [sgx (by decide)] at hj)) | rfl), fun hj => (by first | exact (F1 (by rwa [sgx (by decide)] at hj)) | rfl), fun hj => (by first | exact (F2 (by rwa [sgx (by decide)] at hj)) | rfl), fun hj => (by first | exact (F3 (by rwa [sgx (by decide)] at hj)) | rfl), fun hj => (by first | exact (F4 (by rwa [sgx (by decide)] at hj)) | rfl), fun hj => (by first | exact (F5 (by rwa [sgx (by decide)] at hj)) | rfl), fun _ => rfl, fun hj hu => (F7 (by rwa [sgx (by decide)] at hj) (by rwa [sgx (by decide)] at hu)), fun hj => (by first | exact (F8 (by rwa [sgx (by decide)] at hj)) | rfl), fun hj => (F9 (by rwa [sgx (by decide)] at hj)), fun hj => (N9 (by rwa [sgx (by decide)] at hj)), hx⟩
    · as_aux_lemma =>
        obtain ⟨u40, u41, u42, u43, u44, u45, u46, u47, u48, rfl, F0, F1, F2, F3, F4, F5, F6, F7, F8, F9, N9, hx⟩ := hI
        have l6 := he ⟨6, .data⟩ (by simp) rfl
        have e := F6 l6; subst e
        refine wpOp_stepx ho rfl (fun K hK => ?_)
        unfold qb9A
        go_simp
        (with_reducible refine (reqCopy_any _ r B w' (hR.below (hx.below hB (Nat.le_trans hB (Nat.le_of_lt hgr)))) (Nat.le_trans (Nat.le_trans hB (Nat.le_of_lt hgr)) hx.size) hl1 hl2).mono ?_)
        rintro e w'' ⟨d, l, rfl, o1, o2, ap, hb1⟩
        go_wp2_with fail
        exact ⟨_, _, _, _, _, _, _, _, _, rfl, fun hj => (by first | exact (F0 (by rwa [sgx (by decide)] at hj)) | rfl), fun hj => (by first | exact (F1 (by rwa [sgx (by decide)] at hj)) | rfl), fun hj => (by first | exact (F2 (by rwa [sgx (by decide)] at hj)) | rfl), fun hj => (by first | exact (F3 (by rwa [sgx (by decide)] at hj)) | rfl), fun hj => (by first | exact (F4 (by rwa [sgx (by decide)] at hj)) | rfl), fun hj => (by first | exact (F5 (by rwa [sgx (by decide)] at hj)) | rfl), fun hj => (by first | exact (F6 (by rwa [sgx (by decide)] at hj)) | rfl), fun _ _ => ⟨d, l, rfl, o1.rebase hx.size, o2.rebase hx.size, ap⟩, fun hj => (by first | exact (F8 (by rwa [sgx (by decide)] at hj)) | rfl), fun hj => absurd (hcl 9 _ rfl (by rwa [sgx (by decide)] at hj) ⟨7, .data⟩ (by simp) rfl) (by rw [getD_both hl]; simp), fun hj => (N9 (by rwa [sgx (by decide)] at hj)).trans (hb1.mono (N9 (by rwa [sgx (by decide)] at hj)).size), hx.trans (Touch.of_below hb1 (Nat.le_refl _))⟩
    · as_aux_lemma =>
        obtain ⟨u40, u41, u42, u43, u44, u45, u46, u47, u48, rfl, F0, F1, F2, F3, F4, F5, F6, F7, F8, F9, N9, hx⟩ := hI
        have l4 := he ⟨4, .data⟩ (by simp) rfl
        have l5 := he ⟨5, .data⟩ (by simp) rfl
        have e := F4 l4; subst e
        have e := F5 l5; subst e
        have hkx := hkm
        refine wpOp_stepx ho rfl (fun K hK => ?_)
        unfold qb9A
        go_simp
        exact hK _ _ ⟨_, _, _, _, _, _, _, _, _, rfl, fun hj => (by first | exact (F0 (by rwa [sgx (by decide)] at hj)) | rfl), fun hj => (by first | exact (F1 (by rwa [sgx (by decide)] at hj)) | rfl), fun hj => (by first | exact (F2 (by rwa [sgx (by decide)] at hj)) | rfl), fun hj => (by first | exact (F3 (by rwa [sgx (by decide)] at hj)) | rfl), fun hj => (by first | exact (F4 (by rwa [sgx (by decide)] at hj)) | rfl), fun hj => (by first | exact (F5 (by rwa [sgx (by decide)] at hj)) | rfl), fun hj => (by first | exact (F6 (by rwa [sgx (by decide)] at hj)) | rfl), fun hj hu => (F7 (by rwa [sgx (by decide)] at hj) (by rwa [sgx (by decide)] at hu)), fun _ => rfl, fun hj => (F9 (by rwa [sgx (by decide)] at hj)), fun hj => (N9 (by rwa [sgx (by decide)] at hj)), hx⟩
    · as_aux_lemma =>
        obtain ⟨u40, u41, u42, u43, u44, u45, u46, u47, u48, rfl, F0, F1, F2, F3, F4, F5, F6, F7, F8, F9, N9, hx⟩ := hI
        have l8 := he ⟨8, .data⟩ (by simp) rfl
        have l7 := he ⟨7, .data⟩ (by simp) rfl
        have e := F8 l8; subst e
        obtain ⟨d, l, e47, od, ol, ap⟩ := F7 l7 (getD_both hl)
        have n9 := N9 (getD_both hl)
        obtain ⟨y1, y2, e1, _, _⟩ := od.shape
        obtain ⟨z1, z2, e2, _, _⟩ := ol.shape
        subst e1 e2 e47
        have hq := hQ.snoc n9 od ol ap
        have hth := fun j hj => (hQ.below n9).rows.cellAt rowQ_len qs.length j zQ (by simp [zipQ_len hQ.len]) hj
        have hrw : (zipQ qs vs ++ row :: rest).getD qs.length zQ = row := by simp [List.getD, zipQ_len hQ.len]
        rw [hrw] at hth
        have k0 := hth 0 (by omega); have k1 := hth 1 (by omega); have k2 := hth 2 (by omega); have k3 := hth 3 (by omega); have k4 := hth 4 (by omega); have k5 := hth 5 (by omega); have k6 := hth 6 (by omega)
        simp only [rowQ, Nat.add_zero, List.getElem?_cons_zero, List.getElem?_cons_succ] at k0 k1 k2 k3 k4 k5 k6
        have HQ := hid hq
        have HT := hid (touch7o gr (o + qs.length * 7) w' (.int .i64 r.id) (.int .i64 r.kind) (.int .i64 r.addr) (.int .i64 r.many) (.bool r.wrap) (.slice y1 r.data.length y2) (.slice z1 r.lanes.length z2))
        clear hq hth hrw od ol ap
        refine wpOp_stepx ho rfl (fun K hK => ?_)
        unfold qb9A
        refine wp_store7o _ _ _ k0 k1 k2 k3 k4 k5 k6 (fun j => (hQ.below n9).rows.frozenAt j) rfl rfl ?_
        exact hK _ _ ⟨_, _, _, _, _, _, _, _, _, rfl, fun hj => (by first | exact (F0 (by rwa [sgx (by decide)] at hj)) | rfl), fun hj => (by first | exact (F1 (by rwa [sgx (by decide)] at hj)) | rfl), fun hj => (by first | exact (F2 (by rwa [sgx (by decide)] at hj)) | rfl), fun hj => (by first | exact (F3 (by rwa [sgx (by decide)] at hj)) | rfl), fun hj => (by first | exact (F4 (by rwa [sgx (by decide)] at hj)) | rfl), fun hj => (by first | exact (F5 (by rwa [sgx (by decide)] at hj)) | rfl), fun hj => (by first | exact (F6 (by rwa [sgx (by decide)] at hj)) | rfl), fun _ hu => absurd hu (by rw [sgix hl]; simp), fun hj => (by first | exact (F8 (by rwa [sgx (by decide)] at hj)) | rfl), fun _ => ⟨_, _, HQ.out⟩, fun hj => absurd hj (by rw [sgix hl]; simp), hx.trans HT.out⟩
  · intro listed a w' hI hd
    obtain ⟨u40, u41, u42, u43, u44, u45, u46, u47, u48, rfl, F0, F1, F2, F3, F4, F5, F6, F7, F8, F9, N9, hx⟩ := hI
    obtain ⟨d, l, hq⟩ := F9 (hd 9 (by show 9 < 10; omega))
    exact hK _ _ _ _ _ _ _ _ _ w' ⟨d, l, hq, hx⟩

end Go.Proofs.Yteamebdehembgaa
