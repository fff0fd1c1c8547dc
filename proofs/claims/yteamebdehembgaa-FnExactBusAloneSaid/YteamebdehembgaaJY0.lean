/-
  slices.Repeat of one number, six times (printed by wip/gen_y1.py).
-/
import Derived.Test.YteamebdehembgaaJDr4
import Derived.Test.YteamebdehembgaaJXt
import Derived.Test.YteamebdehembgaaJSa0
import Derived.Laws.CopyOwn
import Derived.Deep.OwnRows
import Derived.Deep.Cut
import Derived.Deep.CutRange
set_option linter.unusedVariables false
set_option linter.unusedSimpArgs false
namespace Go.Proofs.Yteamebdehembgaa
open Go.RowKit

set_option maxHeartbeats 2000000 in
theorem mul16 (w : World) : Calls Try.prog 169 #[.int .u64 1, .int .u64 6] w fun e w' => e = .returned (.tuple #[.int .u64 0, .int .u64 6]) ∧ w = w' := by
  go_enter Try.func169, Try.ntmps169
  go_wp2
  refine bodyPost_ret (v := .tuple #[.int .u64 0, .int .u64 6]) (by simp [results, Try.results169]; first | rfl | decide | exact ⟨by rfl, by rfl⟩) rfl ⟨rfl, rfl⟩

/-- n times x, and noughts up to six. -/
def repC (x : Int) (n : Nat) : List Value := List.replicate n (.int .i64 x) ++ List.replicate (6 - n) (.int .i64 0)
theorem repC_len (x : Int) {n : Nat} (h : n ≤ 6) : (repC x n).length = 6 := by simp [repC]; omega
theorem splice01 (x : Int) : splice (repC x 0) 0 [.int .i64 x] = repC x 1 := rfl
theorem splice12 (x : Int) : splice (repC x 1) 1 [.int .i64 x] = repC x 2 := rfl
theorem splice24 (x : Int) : splice (repC x 2) 2 [.int .i64 x, .int .i64 x] = repC x 4 := rfl
theorem splice46 (x : Int) : splice (repC x 4) 4 [.int .i64 x, .int .i64 x] = repC x 6 := rfl
theorem one_of {cs : List Value} (h : ∀ v ∈ cs, ∃ k : Int, v = .int .i64 k) : ∀ v ∈ cs, v.oneCell' = true := fun v hv => by obtain ⟨k, rfl⟩ := h v hv; rfl
def RepP (x : Int) (w : World) (e : Ending) (w' : World) : Prop := e = .returned (.slice (some ⟨w.heap.size, 0, none⟩) 6 6) ∧ Owns w' w.heap.size 3 1 rowI (.slice (some ⟨w.heap.size, 0, none⟩) 6 6) (List.replicate 6 x) ∧ Below w.heap.size w w'
theorem infoIs : (Try.prog.info? 3).map (·.size) = some 1 := by kernel_rfl
theorem rep_src {w : World} {g n : Nat} {x : Int} (hh : w.heap[g]? = some (.cells (repC x n).toArray 3 (0, 0))) (cs : List Value) (hcs : ∀ (j : Nat) (v : Value), cs[j]? = some v → (repC x n)[j]? = some v) : ∀ (j : Nat) (v : Value), cs[j]? = some v → w.cell? ((⟨g, 0, none⟩ : Addr).add j) = some v := fun j v hv => by
  rw [Addr.add_lit, Nat.zero_add]
  simp only [World.cell?, hh]
  simpa using hcs j v hv

def repM (n : Nat) : Nat := if n = 1 then 1 else 2
theorem setCells_touchX (g : Nat) : ∀ (cs : List Value) (w : World) (o : Nat), Touch g w (w.setCells g o cs)
  | [], w, _ => Touch.refl g w
  | c :: cs, w, o => (Touch.setCell g o w c).trans (setCells_touchX g cs _ (o + 1))
/-- What is there is copied behind itself. -/
theorem rep_copy {w : World} {g n : Nat} {x : Int} (hn : n = 1 ∨ n = 2 ∨ n = 4) (hh : w.heap[g]? = some (.cells (repC x n).toArray 3 (0, 0))) :
    ∃ w2, (∀ ty, (Builtin.copy_ #[24, 24] ty #[.slice (some ⟨g, n, none⟩) (6 - n) (6 - n), .slice (some ⟨g, 0, none⟩) n 6]).run Try.prog w = .ok (goInt (repM n)) w2) ∧ w2.heap[g]? = some (.cells (repC x (n + repM n)).toArray 3 (0, 0)) ∧ Touch g w w2 := by
  have hc : ∀ j, j < 6 → (w.cell? ⟨g, j, none⟩).isSome = true := fun j hj => by
    simp only [World.cell?, hh]
    have : j < (repC x n).length := by rw [repC_len x (by omega)]; exact hj
    simp [this]
  have hf : ∀ j, w.frozen? ⟨g, j, none⟩ = false := fun j => by simp only [World.frozen?, hh]; simp
  have key : ∀ (m : Nat), m ≤ n → n + m ≤ 6 → m = Nat.min n (6 - n) → repM n = m → ∃ w2, (∀ ty, (Builtin.copy_ #[24, 24] ty #[.slice (some ⟨g, n, none⟩) (6 - n) (6 - n), .slice (some ⟨g, 0, none⟩) n 6]).run Try.prog w = .ok (goInt (repM n)) w2) ∧ w2 = w.setCells g n (List.replicate m (.int .i64 x)) := fun m h1 h2 h3 h4 => by
    refine ⟨_, fun ty => ?_, rfl⟩
    have := run_copy_cells (P := Try.prog) w 24 24 ty 3 g n (6 - n) (6 - n) ⟨g, 0, none⟩ n 6 (List.replicate m (.int .i64 x)) Try.underlying24 infoIs (by simpa using h3) (rep_src hh _ (fun j v hv => by
      have hj := (List.getElem?_eq_some_iff.1 hv).1
      simp only [List.length_replicate] at hj
      rw [← hv]
      simp only [repC]
      rw [List.getElem?_append_left (by simp; omega)]
      simp [List.getElem?_replicate, hj, show j < n by omega])) (fun j hj => by simp only [List.length_replicate] at hj; exact hc _ (by omega)) (fun j _ => hf _) (one_of (by intro v hv; exact ⟨x, (List.mem_replicate.1 hv).2⟩))
    rw [h4]
    simpa using this
  rcases hn with rfl | rfl | rfl
  · obtain ⟨w2, h1, h2⟩ := key 1 (by omega) (by omega) (by decide) rfl
    refine ⟨w2, h1, ?_, by rw [h2]; exact setCells_touchX _ _ _ _⟩
    rw [h2]
    show (w.setCell ⟨g, 1, none⟩ _).heap[g]? = _
    simp only [World.setCell, Array.getElem?_modify, hh]
    rfl
  · obtain ⟨w2, h1, h2⟩ := key 2 (by omega) (by omega) (by decide) rfl
    refine ⟨w2, h1, ?_, by rw [h2]; exact setCells_touchX _ _ _ _⟩
    rw [h2]
    show ((w.setCell ⟨g, 2, none⟩ _).setCell ⟨g, 3, none⟩ _).heap[g]? = _
    simp only [World.setCell, Array.getElem?_modify, hh]
    rfl
  · obtain ⟨w2, h1, h2⟩ := key 2 (by omega) (by omega) (by decide) rfl
    refine ⟨w2, h1, ?_, by rw [h2]; exact setCells_touchX _ _ _ _⟩
    rw [h2]
    show ((w.setCell ⟨g, 4, none⟩ _).setCell ⟨g, 5, none⟩ _).heap[g]? = _
    simp only [World.setCell, Array.getElem?_modify, hh]
    rfl

end Go.Proofs.Yteamebdehembgaa

namespace Go.Proofs.Yteamebdehembgaa
open Go.RowKit
attribute [local go_sem ↓] Go.wp_at_zero Go.wp_at_succ

/-- A region of a function's body. -/
def regIn2 (n : Nat) : Code → Option Code
  | .region id ops d => if id = n then some (.region id ops d) else none
  | .seq a b => match regIn2 n a with
    | some c => some c
    | none => regIn2 n b
  | .loop c => regIn2 n c
  | .block _ c => regIn2 n c
  | .scope c => regIn2 n c
  | .cond _ a b => match regIn2 n a with
    | some c => some c
    | none => regIn2 n b
  | _ => none
def rpA (i0 i1 i2 i3 i4 i5 i6 i9 i10 i11 i12 i13 i14 i15 i16 i17 i18 i19 i20 i21 i22 i23 i24 i25 i26 i27 i28 i29 i30 i31 i32 i33 i34 i35 i36 i37 i47 : Value) (g n : Nat) (u8 u38 u39 u40 u41 u42 u43 u44 u45 u46 : Value) : Act := { tmps := #[i0, i1, i2, i3, i4, i5, i6, .slice (some ⟨g, 0, none⟩) 6 6, u8, i9, i10, i11, i12, i13, i14, i15, i16, i17, i18, i19, i20, i21, i22, i23, i24, i25, i26, i27, i28, i29, i30, i31, i32, i33, i34, i35, i36, i37, u38, u39, u40, u41, u42, u43, u44, u45, u46, i47], defers := [] }
def rpI (i0 i1 i2 i3 i4 i5 i6 i9 i10 i11 i12 i13 i14 i15 i16 i17 i18 i19 i20 i21 i22 i23 i24 i25 i26 i27 i28 i29 i30 i31 i32 i33 i34 i35 i36 i37 i47 : Value) (g n : Nat) (x : Int) (w0 wq : World) (listed : Array Bool) (a : Act) (w' : World) : Prop :=
  ∃ u8 u38 u39 u40 u41 u42 u43 u44 u45 u46 : Value, a = rpA i0 i1 i2 i3 i4 i5 i6 i9 i10 i11 i12 i13 i14 i15 i16 i17 i18 i19 i20 i21 i22 i23 i24 i25 i26 i27 i28 i29 i30 i31 i32 i33 i34 i35 i36 i37 i47 g n u8 u38 u39 u40 u41 u42 u43 u44 u45 u46 ∧
      (listed.getD 0 false = true → u38 = .int .i64 (n : Nat)) ∧
      (listed.getD 1 false = true → u39 = .slice (some ⟨g, 0, none⟩) 6 6) ∧
      (listed.getD 2 false = true → u40 = .int .i64 (n : Nat)) ∧
      (listed.getD 3 false = true → u41 = .slice (some ⟨g, n, none⟩) (6 - n) (6 - n)) ∧
      (listed.getD 4 false = true → u42 = .slice (some ⟨g, 0, none⟩) 6 6) ∧
      (listed.getD 5 false = true → u43 = .int .i64 (n : Nat)) ∧
      (listed.getD 6 false = true → u44 = .slice (some ⟨g, 0, none⟩) n 6) ∧
      (listed.getD 7 false = true → u45 = .int .i64 ((repM n : Nat) : Int) ∧ w'.heap[g]? = some (.cells (repC x (n + repM n)).toArray 3 (0, 0))) ∧
      (listed.getD 8 false = true → u46 = .int .i64 ((n + repM n : Nat) : Int)) ∧
      (listed.getD 9 false = true → u8 = .int .i64 ((n + repM n : Nat) : Int)) ∧
      (listed.getD 9 false = false → u8 = .int .i64 (n : Nat)) ∧
      (listed.getD 7 false = false → w'.heap[g]? = some (.cells (repC x n).toArray 3 (0, 0))) ∧
      Below w0.heap.size w0 w'
noncomputable def rpCode : Code := (Try.f133.body.bind (regIn2 9)).getD .skip
set_option maxRecDepth 100000 in
set_option maxHeartbeats 16000000 in
theorem rp_region (i0 i1 i2 i3 i4 i5 i6 i9 i10 i11 i12 i13 i14 i15 i16 i17 i18 i19 i20 i21 i22 i23 i24 i25 i26 i27 i28 i29 i30 i31 i32 i33 i34 i35 i36 i37 i47 j38 j39 j40 j41 j42 j43 j44 j45 j46 : Value) (g n : Nat) (x : Int) (w0 wq : World) (hn : n = 1 ∨ n = 2 ∨ n = 4) (hG : wq.heap[g]? = some (.cells (repC x n).toArray 3 (0, 0))) (hB : Below w0.heap.size w0 wq) (hHg : w0.heap.size ≤ g)
    {Q : Exit → Act → World → Prop}
    (hK : ∀ (u8 u38 u39 u40 u41 u42 u43 u44 u45 u46 : Value) w', u8 = .int .i64 ((n + repM n : Nat) : Int) ∧ w'.heap[g]? = some (.cells (repC x (n + repM n)).toArray 3 (0, 0)) ∧ Below w0.heap.size w0 w' → Q .normal (rpA i0 i1 i2 i3 i4 i5 i6 i9 i10 i11 i12 i13 i14 i15 i16 i17 i18 i19 i20 i21 i22 i23 i24 i25 i26 i27 i28 i29 i30 i31 i32 i33 i34 i35 i36 i37 i47 g n u8 u38 u39 u40 u41 u42 u43 u44 u45 u46) w') : rpCode.wp Try.prog Q (rpA i0 i1 i2 i3 i4 i5 i6 i9 i10 i11 i12 i13 i14 i15 i16 i17 i18 i19 i20 i21 i22 i23 i24 i25 i26 i27 i28 i29 i30 i31 i32 i33 i34 i35 i36 i37 i47 g n (.int .i64 (n : Nat)) j38 j39 j40 j41 j42 j43 j44 j45 j46) wq := by
  conv => arg 2; whnf
  refine wp_region_inv2 (rpI i0 i1 i2 i3 i4 i5 i6 i9 i10 i11 i12 i13 i14 i15 i16 i17 i18 i19 i20 i21 i22 i23 i24 i25 i26 i27 i28 i29 i30 i31 i32 i33 i34 i35 i36 i37 i47 g n x w0 wq) (by kernel_rfl) (by kernel_rfl) ?_ ?_ ?_
  · exact ⟨_, _, _, _, _, _, _, _, _, _, rfl, (fun h => absurd h (by rw [getD_replicate_false]; simp)), (fun h => absurd h (by rw [getD_replicate_false]; simp)), (fun h => absurd h (by rw [getD_replicate_false]; simp)), (fun h => absurd h (by rw [getD_replicate_false]; simp)), (fun h => absurd h (by rw [getD_replicate_false]; simp)), (fun h => absurd h (by rw [getD_replicate_false]; simp)), (fun h => absurd h (by rw [getD_replicate_false]; simp)), (fun h => absurd h (by rw [getD_replicate_false]; simp)), (fun h => absurd h (by rw [getD_replicate_false]; simp)), (fun h => absurd h (by rw [getD_replicate_false]; simp)), (fun _ => rfl), (fun _ => hG), hB.drew⟩
  · intro listed a w' i o hI hsz ho hl he hcl
    have hi : i < 10 := (Array.getElem?_eq_some_iff.1 ho).1
    have e : i = 0 ∨ i = 1 ∨ i = 2 ∨ i = 3 ∨ i = 4 ∨ i = 5 ∨ i = 6 ∨ i = 7 ∨ i = 8 ∨ i = 9 := by omega
    clear hi
    rcases e with rfl | rfl | rfl | rfl | rfl | rfl | rfl | rfl | rfl | rfl
    all_goals (have ho2 := ho; obtain rfl := Option.some.inj ho2.symm; clear ho2)
    · as_aux_lemma =>
        obtain ⟨u8, u38, u39, u40, u41, u42, u43, u44, u45, u46, rfl, F0, F1, F2, F3, F4, F5, F6, F7, F8, F9, N9, N7, hx⟩ := hI
        have e9 : u8 = .int .i64 n := N9 (by
          rcases hq : listed.getD 9 false with _ | _
          · rfl
          · exact absurd (hcl 9 _ rfl hq ⟨0, .phase⟩ (by simp) rfl) (by rw [getD_both hl]; simp))
        subst e9
        refine wpOp_stepx ho rfl (fun K hK => ?_)
        unfold rpA
        go_simp
        exact hK _ _ ⟨_, _, _, _, _, _, _, _, _, _, rfl, fun _ => rfl, fun hj => (by first | exact (F1 (by rwa [sgx (by decide)] at hj)) | rfl), fun hj => (by first | exact (F2 (by rwa [sgx (by decide)] at hj)) | rfl), fun hj => (by first | exact (F3 (by rwa [sgx (by decide)] at hj)) | rfl), fun hj => (by first | exact (F4 (by rwa [sgx (by decide)] at hj)) | rfl), fun hj => (by first | exact (F5 (by rwa [sgx (by decide)] at hj)) | rfl), fun hj => (by first | exact (F6 (by rwa [sgx (by decide)] at hj)) | rfl), fun hj => (F7 (by rwa [sgx (by decide)] at hj)), fun hj => (by first | exact (F8 (by rwa [sgx (by decide)] at hj)) | rfl), fun hj => (by first | exact (F9 (by rwa [sgx (by decide)] at hj)) | rfl), fun hj => (N9 (by rwa [sgx (by decide)] at hj)), fun hj => (N7 (by rwa [sgx (by decide)] at hj)), hx⟩
    · as_aux_lemma =>
        obtain ⟨u8, u38, u39, u40, u41, u42, u43, u44, u45, u46, rfl, F0, F1, F2, F3, F4, F5, F6, F7, F8, F9, N9, N7, hx⟩ := hI
        refine wpOp_stepx ho rfl (fun K hK => ?_)
        unfold rpA
        go_simp
        exact hK _ _ ⟨_, _, _, _, _, _, _, _, _, _, rfl, fun hj => (by first | exact (F0 (by rwa [sgx (by decide)] at hj)) | rfl), fun _ => rfl, fun hj => (by first | exact (F2 (by rwa [sgx (by decide)] at hj)) | rfl), fun hj => (by first | exact (F3 (by rwa [sgx (by decide)] at hj)) | rfl), fun hj => (by first | exact (F4 (by rwa [sgx (by decide)] at hj)) | rfl), fun hj => (by first | exact (F5 (by rwa [sgx (by decide)] at hj)) | rfl), fun hj => (by first | exact (F6 (by rwa [sgx (by decide)] at hj)) | rfl), fun hj => (F7 (by rwa [sgx (by decide)] at hj)), fun hj => (by first | exact (F8 (by rwa [sgx (by decide)] at hj)) | rfl), fun hj => (by first | exact (F9 (by rwa [sgx (by decide)] at hj)) | rfl), fun hj => (N9 (by rwa [sgx (by decide)] at hj)), fun hj => (N7 (by rwa [sgx (by decide)] at hj)), hx⟩
    · as_aux_lemma =>
        obtain ⟨u8, u38, u39, u40, u41, u42, u43, u44, u45, u46, rfl, F0, F1, F2, F3, F4, F5, F6, F7, F8, F9, N9, N7, hx⟩ := hI
        have e9 : u8 = .int .i64 n := N9 (by
          rcases hq : listed.getD 9 false with _ | _
          · rfl
          · exact absurd (hcl 9 _ rfl hq ⟨2, .phase⟩ (by simp) rfl) (by rw [getD_both hl]; simp))
        subst e9
        refine wpOp_stepx ho rfl (fun K hK => ?_)
        unfold rpA
        go_simp
        exact hK _ _ ⟨_, _, _, _, _, _, _, _, _, _, rfl, fun hj => (by first | exact (F0 (by rwa [sgx (by decide)] at hj)) | rfl), fun hj => (by first | exact (F1 (by rwa [sgx (by decide)] at hj)) | rfl), fun _ => rfl, fun hj => (by first | exact (F3 (by rwa [sgx (by decide)] at hj)) | rfl), fun hj => (by first | exact (F4 (by rwa [sgx (by decide)] at hj)) | rfl), fun hj => (by first | exact (F5 (by rwa [sgx (by decide)] at hj)) | rfl), fun hj => (by first | exact (F6 (by rwa [sgx (by decide)] at hj)) | rfl), fun hj => (F7 (by rwa [sgx (by decide)] at hj)), fun hj => (by first | exact (F8 (by rwa [sgx (by decide)] at hj)) | rfl), fun hj => (by first | exact (F9 (by rwa [sgx (by decide)] at hj)) | rfl), fun hj => (N9 (by rwa [sgx (by decide)] at hj)), fun hj => (N7 (by rwa [sgx (by decide)] at hj)), hx⟩
    · as_aux_lemma =>
        obtain ⟨u8, u38, u39, u40, u41, u42, u43, u44, u45, u46, rfl, F0, F1, F2, F3, F4, F5, F6, F7, F8, F9, N9, N7, hx⟩ := hI
        have l1 := he ⟨1, .data⟩ (by simp) rfl
        have l2 := he ⟨2, .data⟩ (by simp) rfl
        have e := F1 l1; subst e
        have e := F2 l2; subst e
        have h1 : n ≤ 6 := by omega
        have h2 : ¬ 6 = n := by omega
        refine wpOp_stepx ho rfl (fun K hK => ?_)
        unfold rpA
        rcases hn with rfl | rfl | rfl
        all_goals
          go_simp
          exact hK _ _ ⟨_, _, _, _, _, _, _, _, _, _, rfl, fun hj => (by first | exact (F0 (by rwa [sgx (by decide)] at hj)) | rfl), fun hj => (by first | exact (F1 (by rwa [sgx (by decide)] at hj)) | rfl), fun hj => (by first | exact (F2 (by rwa [sgx (by decide)] at hj)) | rfl), fun _ => rfl, fun hj => (by first | exact (F4 (by rwa [sgx (by decide)] at hj)) | rfl), fun hj => (by first | exact (F5 (by rwa [sgx (by decide)] at hj)) | rfl), fun hj => (by first | exact (F6 (by rwa [sgx (by decide)] at hj)) | rfl), fun hj => (F7 (by rwa [sgx (by decide)] at hj)), fun hj => (by first | exact (F8 (by rwa [sgx (by decide)] at hj)) | rfl), fun hj => (by first | exact (F9 (by rwa [sgx (by decide)] at hj)) | rfl), fun hj => (N9 (by rwa [sgx (by decide)] at hj)), fun hj => (N7 (by rwa [sgx (by decide)] at hj)), hx⟩
    · as_aux_lemma =>
        obtain ⟨u8, u38, u39, u40, u41, u42, u43, u44, u45, u46, rfl, F0, F1, F2, F3, F4, F5, F6, F7, F8, F9, N9, N7, hx⟩ := hI
        refine wpOp_stepx ho rfl (fun K hK => ?_)
        unfold rpA
        go_simp
        exact hK _ _ ⟨_, _, _, _, _, _, _, _, _, _, rfl, fun hj => (by first | exact (F0 (by rwa [sgx (by decide)] at hj)) | rfl), fun hj => (by first | exact (F1 (by rwa [sgx (by decide)] at hj)) | rfl), fun hj => (by first | exact (F2 (by rwa [sgx (by decide)] at hj)) | rfl), fun hj => (by first | exact (F3 (by rwa [sgx (by decide)] at hj)) | rfl), fun _ => rfl, fun hj => (by first | exact (F5 (by rwa [sgx (by decide)] at hj)) | rfl), fun hj => (by first | exact (F6 (by rwa [sgx (by decide)] at hj)) | rfl), fun hj => (F7 (by rwa [sgx (by decide)] at hj)), fun hj => (by first | exact (F8 (by rwa [sgx (by decide)] at hj)) | rfl), fun hj => (by first | exact (F9 (by rwa [sgx (by decide)] at hj)) | rfl), fun hj => (N9 (by rwa [sgx (by decide)] at hj)), fun hj => (N7 (by rwa [sgx (by decide)] at hj)), hx⟩
    · as_aux_lemma =>
        obtain ⟨u8, u38, u39, u40, u41, u42, u43, u44, u45, u46, rfl, F0, F1, F2, F3, F4, F5, F6, F7, F8, F9, N9, N7, hx⟩ := hI
        have e9 : u8 = .int .i64 n := N9 (by
          rcases hq : listed.getD 9 false with _ | _
          · rfl
          · exact absurd (hcl 9 _ rfl hq ⟨5, .phase⟩ (by simp) rfl) (by rw [getD_both hl]; simp))
        subst e9
        refine wpOp_stepx ho rfl (fun K hK => ?_)
        unfold rpA
        go_simp
        exact hK _ _ ⟨_, _, _, _, _, _, _, _, _, _, rfl, fun hj => (by first | exact (F0 (by rwa [sgx (by decide)] at hj)) | rfl), fun hj => (by first | exact (F1 (by rwa [sgx (by decide)] at hj)) | rfl), fun hj => (by first | exact (F2 (by rwa [sgx (by decide)] at hj)) | rfl), fun hj => (by first | exact (F3 (by rwa [sgx (by decide)] at hj)) | rfl), fun hj => (by first | exact (F4 (by rwa [sgx (by decide)] at hj)) | rfl), fun _ => rfl, fun hj => (by first | exact (F6 (by rwa [sgx (by decide)] at hj)) | rfl), fun hj => (F7 (by rwa [sgx (by decide)] at hj)), fun hj => (by first | exact (F8 (by rwa [sgx (by decide)] at hj)) | rfl), fun hj => (by first | exact (F9 (by rwa [sgx (by decide)] at hj)) | rfl), fun hj => (N9 (by rwa [sgx (by decide)] at hj)), fun hj => (N7 (by rwa [sgx (by decide)] at hj)), hx⟩
    · as_aux_lemma =>
        obtain ⟨u8, u38, u39, u40, u41, u42, u43, u44, u45, u46, rfl, F0, F1, F2, F3, F4, F5, F6, F7, F8, F9, N9, N7, hx⟩ := hI
        have l4 := he ⟨4, .data⟩ (by simp) rfl
        have l5 := he ⟨5, .data⟩ (by simp) rfl
        have e := F4 l4; subst e
        have e := F5 l5; subst e
        have h1 : n ≤ 6 := by omega
        refine wpOp_stepx ho rfl (fun K hK => ?_)
        unfold rpA
        rcases hn with rfl | rfl | rfl
        all_goals
          go_simp
          exact hK _ _ ⟨_, _, _, _, _, _, _, _, _, _, rfl, fun hj => (by first | exact (F0 (by rwa [sgx (by decide)] at hj)) | rfl), fun hj => (by first | exact (F1 (by rwa [sgx (by decide)] at hj)) | rfl), fun hj => (by first | exact (F2 (by rwa [sgx (by decide)] at hj)) | rfl), fun hj => (by first | exact (F3 (by rwa [sgx (by decide)] at hj)) | rfl), fun hj => (by first | exact (F4 (by rwa [sgx (by decide)] at hj)) | rfl), fun hj => (by first | exact (F5 (by rwa [sgx (by decide)] at hj)) | rfl), fun _ => rfl, fun hj => (F7 (by rwa [sgx (by decide)] at hj)), fun hj => (by first | exact (F8 (by rwa [sgx (by decide)] at hj)) | rfl), fun hj => (by first | exact (F9 (by rwa [sgx (by decide)] at hj)) | rfl), fun hj => (N9 (by rwa [sgx (by decide)] at hj)), fun hj => (N7 (by rwa [sgx (by decide)] at hj)), hx⟩
    · as_aux_lemma =>
        obtain ⟨u8, u38, u39, u40, u41, u42, u43, u44, u45, u46, rfl, F0, F1, F2, F3, F4, F5, F6, F7, F8, F9, N9, N7, hx⟩ := hI
        have l3 := he ⟨3, .data⟩ (by simp) rfl
        have l6 := he ⟨6, .data⟩ (by simp) rfl
        have e := F3 l3; subst e
        have e := F6 l6; subst e
        obtain ⟨w2, hcp, hg2, ht2⟩ := rep_copy hn (N7 (getD_both hl))
        have HG2 := hid hg2; have HT2 := hid ht2
        clear hg2 ht2
        refine wpOp_stepx ho rfl (fun K hK => ?_)
        unfold rpA
        go_simp
        exact hK _ _ ⟨_, _, _, _, _, _, _, _, _, _, rfl, fun hj => (by first | exact (F0 (by rwa [sgx (by decide)] at hj)) | rfl), fun hj => (by first | exact (F1 (by rwa [sgx (by decide)] at hj)) | rfl), fun hj => (by first | exact (F2 (by rwa [sgx (by decide)] at hj)) | rfl), fun hj => (by first | exact (F3 (by rwa [sgx (by decide)] at hj)) | rfl), fun hj => (by first | exact (F4 (by rwa [sgx (by decide)] at hj)) | rfl), fun hj => (by first | exact (F5 (by rwa [sgx (by decide)] at hj)) | rfl), fun hj => (by first | exact (F6 (by rwa [sgx (by decide)] at hj)) | rfl), fun _ => ⟨rfl, HG2.out⟩, fun hj => (by first | exact (F8 (by rwa [sgx (by decide)] at hj)) | rfl), fun hj => (by first | exact (F9 (by rwa [sgx (by decide)] at hj)) | rfl), fun hj => (N9 (by rwa [sgx (by decide)] at hj)), fun hj => absurd hj (by rw [sgix hl]; simp), hx.trans (HT2.out.below hHg hx.size)⟩
    · as_aux_lemma =>
        obtain ⟨u8, u38, u39, u40, u41, u42, u43, u44, u45, u46, rfl, F0, F1, F2, F3, F4, F5, F6, F7, F8, F9, N9, N7, hx⟩ := hI
        have l0 := he ⟨0, .data⟩ (by simp) rfl
        have l7 := he ⟨7, .data⟩ (by simp) rfl
        have e := F0 l0; subst e
        obtain ⟨e, hg7⟩ := F7 l7; subst e
        have HG7 := hid hg7; clear hg7
        have hm : repM n ≤ 2 := by unfold repM; split <;> omega
        have h1 : n ≤ 6 := by omega
        refine wpOp_stepx ho rfl (fun K hK => ?_)
        unfold rpA
        go_simp
        exact hK _ _ ⟨_, _, _, _, _, _, _, _, _, _, rfl, fun hj => (by first | exact (F0 (by rwa [sgx (by decide)] at hj)) | rfl), fun hj => (by first | exact (F1 (by rwa [sgx (by decide)] at hj)) | rfl), fun hj => (by first | exact (F2 (by rwa [sgx (by decide)] at hj)) | rfl), fun hj => (by first | exact (F3 (by rwa [sgx (by decide)] at hj)) | rfl), fun hj => (by first | exact (F4 (by rwa [sgx (by decide)] at hj)) | rfl), fun hj => (by first | exact (F5 (by rwa [sgx (by decide)] at hj)) | rfl), fun hj => (by first | exact (F6 (by rwa [sgx (by decide)] at hj)) | rfl), fun hj => ⟨rfl, HG7.out⟩, fun _ => (by rcases hn with rfl | rfl | rfl <;> rfl), fun hj => (by first | exact (F9 (by rwa [sgx (by decide)] at hj)) | rfl), fun hj => (N9 (by rwa [sgx (by decide)] at hj)), fun hj => (N7 (by rwa [sgx (by decide)] at hj)), hx⟩
    · as_aux_lemma =>
        obtain ⟨u8, u38, u39, u40, u41, u42, u43, u44, u45, u46, rfl, F0, F1, F2, F3, F4, F5, F6, F7, F8, F9, N9, N7, hx⟩ := hI
        have l8 := he ⟨8, .data⟩ (by simp) rfl
        have e := F8 l8; subst e
        refine wpOp_stepx ho rfl (fun K hK => ?_)
        unfold rpA
        go_simp
        exact hK _ _ ⟨_, _, _, _, _, _, _, _, _, _, rfl, fun hj => (by first | exact (F0 (by rwa [sgx (by decide)] at hj)) | rfl), fun hj => (by first | exact (F1 (by rwa [sgx (by decide)] at hj)) | rfl), fun hj => (by first | exact (F2 (by rwa [sgx (by decide)] at hj)) | rfl), fun hj => (by first | exact (F3 (by rwa [sgx (by decide)] at hj)) | rfl), fun hj => (by first | exact (F4 (by rwa [sgx (by decide)] at hj)) | rfl), fun hj => (by first | exact (F5 (by rwa [sgx (by decide)] at hj)) | rfl), fun hj => (by first | exact (F6 (by rwa [sgx (by decide)] at hj)) | rfl), fun hj => (F7 (by rwa [sgx (by decide)] at hj)), fun hj => (by first | exact (F8 (by rwa [sgx (by decide)] at hj)) | rfl), fun _ => rfl, fun hj => absurd hj (by rw [sgix hl]; simp), fun hj => (N7 (by rwa [sgx (by decide)] at hj)), hx⟩
  · intro listed a w' hI hd
    obtain ⟨u8, u38, u39, u40, u41, u42, u43, u44, u45, u46, rfl, F0, F1, F2, F3, F4, F5, F6, F7, F8, F9, N9, N7, hx⟩ := hI
    obtain ⟨e7, hg7⟩ := F7 (hd 7 (by show 7 < 10; omega))
    have e9 := F9 (hd 9 (by show 9 < 10; omega))
    exact hK _ _ _ _ _ _ _ _ _ _ w' ⟨e9, hg7, hx⟩

set_option maxRecDepth 4000 in
set_option maxHeartbeats 4000000 in
theorem repeat6_any (x : Int) (b o : Nat) (w : World) (hc : w.cell? ⟨b, o, none⟩ = some (.int .i64 x)) :
    Calls Try.prog 133 #[.slice (some ⟨b, o, none⟩) 1 1, .int .i64 6] w (RepP x w) := by
  have hbl : b < w.heap.size := World.block_lt_of_cell? w _ hc
  have HC := hid (show ∀ j v, ([.int .i64 x] : List Value)[j]? = some v → (w.alloc (.cells (madeCells #[.int .i64 0] 6) 3)).cell? ((⟨b, o, none⟩ : Addr).add j) = some v from fun j v hv => by
    have hj : j = 0 := by have := (List.getElem?_eq_some_iff.1 hv).1; simpa using this
    subst hj
    simp only [List.getElem?_cons_zero, Option.some.injEq] at hv
    subst hv
    rw [Addr.add_lit, Nat.add_zero, (bx1 w _).cell (p := ⟨b, o, none⟩) hbl]; exact hc)
  have hh := hid (show (w.alloc (.cells (madeCells #[.int .i64 0] 6) 3)).heap[w.heap.size]? = some (.cells (repC x 0).toArray 3 (0, 0)) by
    show (w.heap.push _)[w.heap.size]? = _
    rw [Array.getElem?_push_size, show madeCells #[Value.int .i64 0] 6 = (repC x 0).toArray by rw [← Array.toList_inj, toList_madeCells_one]; rfl])
  have hbx := hid (bx1 w (.cells (madeCells #[.int .i64 0] 6) 3))
  clear hc
  obtain ⟨W2, hW2⟩ : ∃ W2, W2 = (w.alloc (.cells (madeCells #[.int .i64 0] 6) 3)).setCells w.heap.size 0 [.int .i64 x] := ⟨_, rfl⟩
  have hcp : ∀ ty, (Builtin.copy_ #[24, 24] ty #[.slice (some ⟨w.heap.size, 0, none⟩) 6 6, .slice (some ⟨b, o, none⟩) 1 1]).run Try.prog (w.alloc (.cells (madeCells #[.int .i64 0] 6) 3)) = .ok (goInt 1) W2 := fun ty => by
    rw [hW2]
    exact run_copy_cells (P := Try.prog) _ 24 24 ty 3 w.heap.size 0 6 6 ⟨b, o, none⟩ 1 1 [.int .i64 x] Try.underlying24 infoIs rfl HC.out (fun j hj => by
      obtain rfl : j = 0 := by simpa using hj
      simp only [World.cell?, hh.out]; simp [repC]) (fun j hj => by simp only [World.frozen?, hh.out]; simp) (one_of (by simp))
  have HG2 := hid (show W2.heap[w.heap.size]? = some (.cells (repC x 1).toArray 3 (0, 0)) by
    rw [hW2]
    show ((w.alloc _).setCell ⟨w.heap.size, 0, none⟩ _).heap[w.heap.size]? = _
    simp only [World.setCell, Array.getElem?_modify, hh.out]
    rfl)
  have HB2 := hid (show Below w.heap.size w W2 by rw [hW2]; exact hbx.out.setCell (p := ⟨w.heap.size, 0, none⟩) (Nat.le_refl _) _)
  clear hW2
  obtain ⟨i1, hj, jz0, jz1, jz2⟩ := info_parts infoI
  go_enter Try.func133, Try.ntmps133
  go_wp2_with (first
    | (go_at_call 169; refine (mul16 _).mono ?_; rintro e w' ⟨rfl, rfl⟩)
    | (at_make; go_must (refine wpList_make_row _ rfl _ _ 24 rfl 3 i1 (.int .i64 0) Try.underlying24 hj jz0 jz1 rfl _ _ 6 rfl rfl (by rw [jz2]; omega) (by omega) ?_))
    | fail)
  clear hh hbx HC hcp
  go_loopw [8] (fun n' wr => ∃ n : Nat, (n = 1 ∨ n = 2 ∨ n = 4 ∨ n = 6) ∧ n' = .int .i64 n ∧ wr.heap[w.heap.size]? = some (.cells (repC x n).toArray 3 (0, 0)) ∧ Below w.heap.size w wr) (fun n' _ => 6 - (intOf n').toNat)
  case atStart => exact ⟨1, .inl rfl, rfl, HG2.out, HB2.out⟩
  case round =>
    obtain ⟨n, hn, rfl, hg, hb⟩ := hrel
    have HG := hid hg; have HB := hid hb
    clear hg hb HG2 HB2
    by_cases h6 : n = 6
    · subst h6
      go_wp2_with fail
      go_ret
      refine ⟨rfl, ?_, HB.out⟩
      have e : (repC x 6) = (List.replicate 6 x).flatMap rowI := by simp [repC, rowI, List.replicate]
      have hg := HG.out
      rw [e] at hg
      exact ⟨by simp [rowI], .inr ⟨w.heap.size, 0, 6, _, rfl, Nat.le_refl _, hg, by simp, by unfold maxLen; omega, by simp [rowI], fun j hj => by simp⟩⟩
    · have hn3 : n = 1 ∨ n = 2 ∨ n = 4 := by omega
      have HN := hid hn3
      have hlt : (n : Int) < 6 := by omega
      clear hn h6 hn3
      go_upto_region 9 with fail
      refine rp_region _ _ _ _ _ _ _ _ _ _ _ _ _ _ _ _ _ _ _ _ _ _ _ _ _ _ _ _ _ _ _ _ _ _ _ _ _ _ _ _ _ _ _ _ _ _ w.heap.size n x w wr HN.out HG.out HB.out (Nat.le_refl _) ?_
      intro u8 u38 u39 u40 u41 u42 u43 u44 u45 u46 w5 h5
      obtain ⟨rfl, hg, hb⟩ := h5
      have HG5 := hid hg; have HB5 := hid hb
      clear hg hb
      unfold rpA
      go_wp2_with fail
      go_roundw
      case rel => exact ⟨n + repM n, by have := HN.out; unfold repM; rcases this with rfl | rfl | rfl <;> simp, rfl, HG5.out, HB5.out⟩
      case measure =>
        have := HN.out
        simp only [intOf]
        unfold repM
        rcases this with rfl | rfl | rfl <;> simp

end Go.Proofs.Yteamebdehembgaa
