/-
  Counts made new: marked and held.
-/
import Derived.Test.YtjcpnlnajimjaaaEx3
namespace Go.Proofs.Ytjcpnlnajimjaaa
open Go.ChangeShapes Go.WideShapes Go.ChangeAt Go.RowKit

/-- The six blocks alone were turned. -/
structure Turned6 (g1 g2 g3 g4 g5 g6 : Nat) (w w' : World) : Prop where
  os : w'.os = w.os
  tape : w'.tape = w.tape
  output : w'.output = w.output
  size : w.heap.size ≤ w'.heap.size
  block : ∀ k, k < w.heap.size → k ≠ g1 → k ≠ g2 → k ≠ g3 → k ≠ g4 → k ≠ g5 → k ≠ g6 → w'.heap[k]? = w.heap[k]?

theorem Owns.touch1 {α : Type} {w w' : World} {r base e sz g off n c : Nat} {f : α → List Value} {xs : List α} (h : Owns w base e sz f (.slice (some ⟨g, off, none⟩) n c) xs) (ht : Touch r w w') (hr : g ≠ r) : Owns w' base e sz f (.slice (some ⟨g, off, none⟩) n c) xs :=
  OwnR.kept h fun k hk => ht.block k (OwnR.lt h k hk).2 (by simp [Value.ownBlock] at hk; omega)

set_option maxHeartbeats 8000000 in
theorem markCnt_any (base g1 g2 g3 g4 g5 g6 : Nat) (x1 x2 x3 x4 x5 x6 : List Int) (w : World) (h : Six w base g1 g2 g3 g4 g5 g6 x1 x2 x3 x4 x5 x6) :
    Calls Try.prog 17 #[.agg #[.int .i64 0, .slice (some ⟨g1, 0, none⟩) 3 3, .slice (some ⟨g2, 0, none⟩) 3 3, .slice (some ⟨g3, 0, none⟩) 3 3, .slice (some ⟨g4, 0, none⟩) 4 4, .slice (some ⟨g5, 0, none⟩) 4 4, .slice (some ⟨g6, 0, none⟩) 4 4], .int .i64 1] w fun e w' => e = .returned (.int .i64 22) ∧ Six w' base g1 g2 g3 g4 g5 g6 (marks 1 3) (marks 4 3) (marks 7 3) (marks 10 4) (marks 14 4) (marks 18 4) ∧ Turned6 g1 g2 g3 g4 g5 g6 w w' := by
  obtain ⟨o1, o2, o3, o4, o5, o6, r1, r2, r3, r4, r5, r6, r7, l1, l2, l3, l4, l5, l6⟩ := h
  have O1 := hid o1; have L1 := hid l1
  have O2 := hid o2; have L2 := hid l2
  have O3 := hid o3; have L3 := hid l3
  have O4 := hid o4; have L4 := hid l4
  have O5 := hid o5; have L5 := hid l5
  have O6 := hid o6; have L6 := hid l6
  clear o1 o2 o3 o4 o5 o6 l1 l2 l3 l4 l5 l6
  obtain ⟨W0, hW0⟩ : ∃ W0, W0 = w.alloc (.cells #[.int .i64 0, .slice (some ⟨g1, 0, none⟩) 3 3, .slice (some ⟨g2, 0, none⟩) 3 3, .slice (some ⟨g3, 0, none⟩) 3 3, .slice (some ⟨g4, 0, none⟩) 4 4, .slice (some ⟨g5, 0, none⟩) 4 4, .slice (some ⟨g6, 0, none⟩) 4 4] 35) := ⟨_, rfl⟩
  have HB0 := hid (show Below w.heap.size w W0 by rw [hW0]; exact (Below.refl _ _).alloc (Nat.le_refl _) _)
  have e0 : W0.cell? ⟨w.heap.size, 0, none⟩ = some (.int .i64 0) := by rw [hW0]; simp [go_sem]
  have e1 : W0.cell? ⟨w.heap.size, 1, none⟩ = some (.slice (some ⟨g1, 0, none⟩) 3 3) := by rw [hW0]; simp [go_sem]
  have e2 : W0.cell? ⟨w.heap.size, 2, none⟩ = some (.slice (some ⟨g2, 0, none⟩) 3 3) := by rw [hW0]; simp [go_sem]
  have e3 : W0.cell? ⟨w.heap.size, 3, none⟩ = some (.slice (some ⟨g3, 0, none⟩) 3 3) := by rw [hW0]; simp [go_sem]
  have e4 : W0.cell? ⟨w.heap.size, 4, none⟩ = some (.slice (some ⟨g4, 0, none⟩) 4 4) := by rw [hW0]; simp [go_sem]
  have e5 : W0.cell? ⟨w.heap.size, 5, none⟩ = some (.slice (some ⟨g5, 0, none⟩) 4 4) := by rw [hW0]; simp [go_sem]
  have e6 : W0.cell? ⟨w.heap.size, 6, none⟩ = some (.slice (some ⟨g6, 0, none⟩) 4 4) := by rw [hW0]; simp [go_sem]
  have hz0 : w.heap.size < W0.heap.size := by rw [hW0]; simp
  go_enter Try.func17, Try.ntmps17
  go_wp2_with fail
  rw [← hW0]
  clear hW0
  refine (markIntS_any (.slice (some ⟨g1, 0, none⟩) 3 3) x1 1 base _ (O1.out.below HB0.out) (by rw [L1.out]; omega)).mono ?_
  rintro e w1 ⟨he, p1, q1, s1, s2, s3, s4⟩
  rw [L1.out] at p1 he
  obtain rfl : e = .returned (.int .i64 4) := he
  have P1 := hid p1
  have Q1 := hid (show Touch g1 W0 w1 from ⟨s1, s2, s3, by omega, fun j h1 h2 => q1 j h1 (by simp [Value.ownBlock]; omega)⟩)
  have T2 := hid ((O2.out.below HB0.out : Owns W0 base 3 1 rowI (.slice (some ⟨g2, 0, none⟩) 3 3) x2).touch1 Q1.out (by omega))
  have T3 := hid ((O3.out.below HB0.out : Owns W0 base 3 1 rowI (.slice (some ⟨g3, 0, none⟩) 3 3) x3).touch1 Q1.out (by omega))
  have T4 := hid ((O4.out.below HB0.out : Owns W0 base 3 1 rowI (.slice (some ⟨g4, 0, none⟩) 4 4) x4).touch1 Q1.out (by omega))
  have T5 := hid ((O5.out.below HB0.out : Owns W0 base 3 1 rowI (.slice (some ⟨g5, 0, none⟩) 4 4) x5).touch1 Q1.out (by omega))
  have T6 := hid ((O6.out.below HB0.out : Owns W0 base 3 1 rowI (.slice (some ⟨g6, 0, none⟩) 4 4) x6).touch1 Q1.out (by omega))
  have e0 := (Q1.out.cell (p := ⟨w.heap.size, 0, none⟩) (by show w.heap.size ≠ g1; omega) (by show w.heap.size < _; omega)).trans e0
  have e1 := (Q1.out.cell (p := ⟨w.heap.size, 1, none⟩) (by show w.heap.size ≠ g1; omega) (by show w.heap.size < _; omega)).trans e1
  have e2 := (Q1.out.cell (p := ⟨w.heap.size, 2, none⟩) (by show w.heap.size ≠ g1; omega) (by show w.heap.size < _; omega)).trans e2
  have e3 := (Q1.out.cell (p := ⟨w.heap.size, 3, none⟩) (by show w.heap.size ≠ g1; omega) (by show w.heap.size < _; omega)).trans e3
  have e4 := (Q1.out.cell (p := ⟨w.heap.size, 4, none⟩) (by show w.heap.size ≠ g1; omega) (by show w.heap.size < _; omega)).trans e4
  have e5 := (Q1.out.cell (p := ⟨w.heap.size, 5, none⟩) (by show w.heap.size ≠ g1; omega) (by show w.heap.size < _; omega)).trans e5
  have e6 := (Q1.out.cell (p := ⟨w.heap.size, 6, none⟩) (by show w.heap.size ≠ g1; omega) (by show w.heap.size < _; omega)).trans e6
  have hz0 : w.heap.size < w1.heap.size := by omega
  clear p1 q1 s1 s2 s3 s4
  go_wp2_with fail
  refine (markIntS_any (.slice (some ⟨g2, 0, none⟩) 3 3) x2 4 base _ (T2.out) (by rw [L2.out]; omega)).mono ?_
  rintro e w2 ⟨he, p2, q2, s1, s2, s3, s4⟩
  rw [L2.out] at p2 he
  obtain rfl : e = .returned (.int .i64 7) := he
  have P2 := hid p2
  have Q2 := hid (show Touch g2 w1 w2 from ⟨s1, s2, s3, by omega, fun j h1 h2 => q2 j h1 (by simp [Value.ownBlock]; omega)⟩)
  have T3 := hid (T3.out.touch1 Q2.out (by omega))
  have T4 := hid (T4.out.touch1 Q2.out (by omega))
  have T5 := hid (T5.out.touch1 Q2.out (by omega))
  have T6 := hid (T6.out.touch1 Q2.out (by omega))
  have P1 := hid (P1.out.touch1 Q2.out (by omega))
  have e0 := (Q2.out.cell (p := ⟨w.heap.size, 0, none⟩) (by show w.heap.size ≠ g2; omega) (by show w.heap.size < _; omega)).trans e0
  have e1 := (Q2.out.cell (p := ⟨w.heap.size, 1, none⟩) (by show w.heap.size ≠ g2; omega) (by show w.heap.size < _; omega)).trans e1
  have e2 := (Q2.out.cell (p := ⟨w.heap.size, 2, none⟩) (by show w.heap.size ≠ g2; omega) (by show w.heap.size < _; omega)).trans e2
  have e3 := (Q2.out.cell (p := ⟨w.heap.size, 3, none⟩) (by show w.heap.size ≠ g2; omega) (by show w.heap.size < _; omega)).trans e3
  have e4 := (Q2.out.cell (p := ⟨w.heap.size, 4, none⟩) (by show w.heap.size ≠ g2; omega) (by show w.heap.size < _; omega)).trans e4
  have e5 := (Q2.out.cell (p := ⟨w.heap.size, 5, none⟩) (by show w.heap.size ≠ g2; omega) (by show w.heap.size < _; omega)).trans e5
  have e6 := (Q2.out.cell (p := ⟨w.heap.size, 6, none⟩) (by show w.heap.size ≠ g2; omega) (by show w.heap.size < _; omega)).trans e6
  have hz0 : w.heap.size < w2.heap.size := by omega
  clear p2 q2 s1 s2 s3 s4
  go_wp2_with fail
  refine (markIntS_any (.slice (some ⟨g3, 0, none⟩) 3 3) x3 7 base _ (T3.out) (by rw [L3.out]; omega)).mono ?_
  rintro e w3 ⟨he, p3, q3, s1, s2, s3, s4⟩
  rw [L3.out] at p3 he
  obtain rfl : e = .returned (.int .i64 10) := he
  have P3 := hid p3
  have Q3 := hid (show Touch g3 w2 w3 from ⟨s1, s2, s3, by omega, fun j h1 h2 => q3 j h1 (by simp [Value.ownBlock]; omega)⟩)
  have T4 := hid (T4.out.touch1 Q3.out (by omega))
  have T5 := hid (T5.out.touch1 Q3.out (by omega))
  have T6 := hid (T6.out.touch1 Q3.out (by omega))
  have P1 := hid (P1.out.touch1 Q3.out (by omega))
  have P2 := hid (P2.out.touch1 Q3.out (by omega))
  have e0 := (Q3.out.cell (p := ⟨w.heap.size, 0, none⟩) (by show w.heap.size ≠ g3; omega) (by show w.heap.size < _; omega)).trans e0
  have e1 := (Q3.out.cell (p := ⟨w.heap.size, 1, none⟩) (by show w.heap.size ≠ g3; omega) (by show w.heap.size < _; omega)).trans e1
  have e2 := (Q3.out.cell (p := ⟨w.heap.size, 2, none⟩) (by show w.heap.size ≠ g3; omega) (by show w.heap.size < _; omega)).trans e2
  have e3 := (Q3.out.cell (p := ⟨w.heap.size, 3, none⟩) (by show w.heap.size ≠ g3; omega) (by show w.heap.size < _; omega)).trans e3
  have e4 := (Q3.out.cell (p := ⟨w.heap.size, 4, none⟩) (by show w.heap.size ≠ g3; omega) (by show w.heap.size < _; omega)).trans e4
  have e5 := (Q3.out.cell (p := ⟨w.heap.size, 5, none⟩) (by show w.heap.size ≠ g3; omega) (by show w.heap.size < _; omega)).trans e5
  have e6 := (Q3.out.cell (p := ⟨w.heap.size, 6, none⟩) (by show w.heap.size ≠ g3; omega) (by show w.heap.size < _; omega)).trans e6
  have hz0 : w.heap.size < w3.heap.size := by omega
  clear p3 q3 s1 s2 s3 s4
  go_wp2_with fail
  refine (markIntS_any (.slice (some ⟨g4, 0, none⟩) 4 4) x4 10 base _ (T4.out) (by rw [L4.out]; omega)).mono ?_
  rintro e w4 ⟨he, p4, q4, s1, s2, s3, s4⟩
  rw [L4.out] at p4 he
  obtain rfl : e = .returned (.int .i64 14) := he
  have P4 := hid p4
  have Q4 := hid (show Touch g4 w3 w4 from ⟨s1, s2, s3, by omega, fun j h1 h2 => q4 j h1 (by simp [Value.ownBlock]; omega)⟩)
  have T5 := hid (T5.out.touch1 Q4.out (by omega))
  have T6 := hid (T6.out.touch1 Q4.out (by omega))
  have P1 := hid (P1.out.touch1 Q4.out (by omega))
  have P2 := hid (P2.out.touch1 Q4.out (by omega))
  have P3 := hid (P3.out.touch1 Q4.out (by omega))
  have e0 := (Q4.out.cell (p := ⟨w.heap.size, 0, none⟩) (by show w.heap.size ≠ g4; omega) (by show w.heap.size < _; omega)).trans e0
  have e1 := (Q4.out.cell (p := ⟨w.heap.size, 1, none⟩) (by show w.heap.size ≠ g4; omega) (by show w.heap.size < _; omega)).trans e1
  have e2 := (Q4.out.cell (p := ⟨w.heap.size, 2, none⟩) (by show w.heap.size ≠ g4; omega) (by show w.heap.size < _; omega)).trans e2
  have e3 := (Q4.out.cell (p := ⟨w.heap.size, 3, none⟩) (by show w.heap.size ≠ g4; omega) (by show w.heap.size < _; omega)).trans e3
  have e4 := (Q4.out.cell (p := ⟨w.heap.size, 4, none⟩) (by show w.heap.size ≠ g4; omega) (by show w.heap.size < _; omega)).trans e4
  have e5 := (Q4.out.cell (p := ⟨w.heap.size, 5, none⟩) (by show w.heap.size ≠ g4; omega) (by show w.heap.size < _; omega)).trans e5
  have e6 := (Q4.out.cell (p := ⟨w.heap.size, 6, none⟩) (by show w.heap.size ≠ g4; omega) (by show w.heap.size < _; omega)).trans e6
  have hz0 : w.heap.size < w4.heap.size := by omega
  clear p4 q4 s1 s2 s3 s4
  go_wp2_with fail
  refine (markIntS_any (.slice (some ⟨g5, 0, none⟩) 4 4) x5 14 base _ (T5.out) (by rw [L5.out]; omega)).mono ?_
  rintro e w5 ⟨he, p5, q5, s1, s2, s3, s4⟩
  rw [L5.out] at p5 he
  obtain rfl : e = .returned (.int .i64 18) := he
  have P5 := hid p5
  have Q5 := hid (show Touch g5 w4 w5 from ⟨s1, s2, s3, by omega, fun j h1 h2 => q5 j h1 (by simp [Value.ownBlock]; omega)⟩)
  have T6 := hid (T6.out.touch1 Q5.out (by omega))
  have P1 := hid (P1.out.touch1 Q5.out (by omega))
  have P2 := hid (P2.out.touch1 Q5.out (by omega))
  have P3 := hid (P3.out.touch1 Q5.out (by omega))
  have P4 := hid (P4.out.touch1 Q5.out (by omega))
  have e0 := (Q5.out.cell (p := ⟨w.heap.size, 0, none⟩) (by show w.heap.size ≠ g5; omega) (by show w.heap.size < _; omega)).trans e0
  have e1 := (Q5.out.cell (p := ⟨w.heap.size, 1, none⟩) (by show w.heap.size ≠ g5; omega) (by show w.heap.size < _; omega)).trans e1
  have e2 := (Q5.out.cell (p := ⟨w.heap.size, 2, none⟩) (by show w.heap.size ≠ g5; omega) (by show w.heap.size < _; omega)).trans e2
  have e3 := (Q5.out.cell (p := ⟨w.heap.size, 3, none⟩) (by show w.heap.size ≠ g5; omega) (by show w.heap.size < _; omega)).trans e3
  have e4 := (Q5.out.cell (p := ⟨w.heap.size, 4, none⟩) (by show w.heap.size ≠ g5; omega) (by show w.heap.size < _; omega)).trans e4
  have e5 := (Q5.out.cell (p := ⟨w.heap.size, 5, none⟩) (by show w.heap.size ≠ g5; omega) (by show w.heap.size < _; omega)).trans e5
  have e6 := (Q5.out.cell (p := ⟨w.heap.size, 6, none⟩) (by show w.heap.size ≠ g5; omega) (by show w.heap.size < _; omega)).trans e6
  have hz0 : w.heap.size < w5.heap.size := by omega
  clear p5 q5 s1 s2 s3 s4
  go_wp2_with fail
  refine (markIntS_any (.slice (some ⟨g6, 0, none⟩) 4 4) x6 18 base _ (T6.out) (by rw [L6.out]; omega)).mono ?_
  rintro e w6 ⟨he, p6, q6, s1, s2, s3, s4⟩
  rw [L6.out] at p6 he
  obtain rfl : e = .returned (.int .i64 22) := he
  have P6 := hid p6
  have Q6 := hid (show Touch g6 w5 w6 from ⟨s1, s2, s3, by omega, fun j h1 h2 => q6 j h1 (by simp [Value.ownBlock]; omega)⟩)
  have P1 := hid (P1.out.touch1 Q6.out (by omega))
  have P2 := hid (P2.out.touch1 Q6.out (by omega))
  have P3 := hid (P3.out.touch1 Q6.out (by omega))
  have P4 := hid (P4.out.touch1 Q6.out (by omega))
  have P5 := hid (P5.out.touch1 Q6.out (by omega))
  have e0 := (Q6.out.cell (p := ⟨w.heap.size, 0, none⟩) (by show w.heap.size ≠ g6; omega) (by show w.heap.size < _; omega)).trans e0
  have e1 := (Q6.out.cell (p := ⟨w.heap.size, 1, none⟩) (by show w.heap.size ≠ g6; omega) (by show w.heap.size < _; omega)).trans e1
  have e2 := (Q6.out.cell (p := ⟨w.heap.size, 2, none⟩) (by show w.heap.size ≠ g6; omega) (by show w.heap.size < _; omega)).trans e2
  have e3 := (Q6.out.cell (p := ⟨w.heap.size, 3, none⟩) (by show w.heap.size ≠ g6; omega) (by show w.heap.size < _; omega)).trans e3
  have e4 := (Q6.out.cell (p := ⟨w.heap.size, 4, none⟩) (by show w.heap.size ≠ g6; omega) (by show w.heap.size < _; omega)).trans e4
  have e5 := (Q6.out.cell (p := ⟨w.heap.size, 5, none⟩) (by show w.heap.size ≠ g6; omega) (by show w.heap.size < _; omega)).trans e5
  have e6 := (Q6.out.cell (p := ⟨w.heap.size, 6, none⟩) (by show w.heap.size ≠ g6; omega) (by show w.heap.size < _; omega)).trans e6
  have hz0 : w.heap.size < w6.heap.size := by omega
  clear p6 q6 s1 s2 s3 s4
  go_wp2_with fail
  go_ret
  refine ⟨rfl, ⟨P1.out, P2.out, P3.out, P4.out, P5.out, P6.out, r1, r2, r3, r4, r5, r6, by omega, by simp [marks], by simp [marks], by simp [marks], by simp [marks], by simp [marks], by simp [marks]⟩, ?_⟩
  exact ⟨(Q6.out.os).trans ((Q5.out.os).trans ((Q4.out.os).trans ((Q3.out.os).trans ((Q2.out.os).trans ((Q1.out.os).trans (HB0.out.os)))))), (Q6.out.tape).trans ((Q5.out.tape).trans ((Q4.out.tape).trans ((Q3.out.tape).trans ((Q2.out.tape).trans ((Q1.out.tape).trans (HB0.out.tape)))))), (Q6.out.output).trans ((Q5.out.output).trans ((Q4.out.output).trans ((Q3.out.output).trans ((Q2.out.output).trans ((Q1.out.output).trans (HB0.out.output)))))), by have := HB0.out.size; have := Q1.out.size; have := Q2.out.size; have := Q3.out.size; have := Q4.out.size; have := Q5.out.size; have := Q6.out.size; omega, fun k hk h1 h2 h3 h4 h5 h6 => (Q6.out.block k (by omega) h6).trans ((Q5.out.block k (by omega) h5).trans ((Q4.out.block k (by omega) h4).trans ((Q3.out.block k (by omega) h3).trans ((Q2.out.block k (by omega) h2).trans ((Q1.out.block k (by omega) h1).trans (HB0.out.block k hk))))))⟩

theorem oneBox (w : World) (o : Obj) : Below w.heap.size w (w.alloc o) := (Below.refl _ _).alloc (Nat.le_refl _) _
set_option maxHeartbeats 4000000 in
theorem heldCnt_any (v1 v2 v3 v4 v5 v6 : Value) (B : Nat) (w : World) (h : SixI w B v1 v2 v3 v4 v5 v6 (marks 1 3) (marks 4 3) (marks 7 3) (marks 10 4) (marks 14 4) (marks 18 4)) (hB : B ≤ w.heap.size) :
    Calls Try.prog 18 #[.agg #[.int .i64 0, v1, v2, v3, v4, v5, v6], .int .i64 1] w fun e w' => e = .returned (.int .i64 22) ∧ Below w.heap.size w w' := by
  have HS := hid h
  obtain ⟨⟨a1, c1, rfl⟩, ⟨a2, c2, rfl⟩, ⟨a3, c3, rfl⟩, ⟨a4, c4, rfl⟩, ⟨a5, c5, rfl⟩, ⟨a6, c6, rfl⟩⟩ := h.shape
  clear h
  simp only [marks_len] at HS ⊢
  have HB := hid (fun o => oneBox w o)
  go_enter Try.func18, Try.ntmps18
  go_wp2_with fail
  refine (heldIntS_any (.slice a1 3 c1) 3 1 B _ (HS.out.1.below ((HB.out _).mono hB)) (by omega)).mono ?_
  rintro e w1 ⟨he, hw1⟩
  subst hw1
  obtain rfl : e = .returned (.int .i64 4) := he
  go_wp2_with fail
  refine (heldIntS_any (.slice a2 3 c2) 3 4 B _ (HS.out.2.1.below ((HB.out _).mono hB)) (by omega)).mono ?_
  rintro e w2 ⟨he, hw2⟩
  subst hw2
  obtain rfl : e = .returned (.int .i64 7) := he
  go_wp2_with fail
  refine (heldIntS_any (.slice a3 3 c3) 3 7 B _ (HS.out.2.2.1.below ((HB.out _).mono hB)) (by omega)).mono ?_
  rintro e w3 ⟨he, hw3⟩
  subst hw3
  obtain rfl : e = .returned (.int .i64 10) := he
  go_wp2_with fail
  refine (heldIntS_any (.slice a4 4 c4) 4 10 B _ (HS.out.2.2.2.1.below ((HB.out _).mono hB)) (by omega)).mono ?_
  rintro e w4 ⟨he, hw4⟩
  subst hw4
  obtain rfl : e = .returned (.int .i64 14) := he
  go_wp2_with fail
  refine (heldIntS_any (.slice a5 4 c5) 4 14 B _ (HS.out.2.2.2.2.1.below ((HB.out _).mono hB)) (by omega)).mono ?_
  rintro e w5 ⟨he, hw5⟩
  subst hw5
  obtain rfl : e = .returned (.int .i64 18) := he
  go_wp2_with fail
  refine (heldIntS_any (.slice a6 4 c6) 4 18 B _ (HS.out.2.2.2.2.2.below ((HB.out _).mono hB)) (by omega)).mono ?_
  rintro e w6 ⟨he, hw6⟩
  subst hw6
  obtain rfl : e = .returned (.int .i64 22) := he
  go_wp2_with fail
  go_ret
  exact ⟨rfl, HB.out _⟩

end Go.Proofs.Ytjcpnlnajimjaaa
