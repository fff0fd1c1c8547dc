/-
  CntOk of the program and of the reference (printed by wip/gen_ck.py).
-/
import Derived.Test.YtjcpnlnajimjaaaCk3
namespace Go.Proofs.Ytjcpnlnajimjaaa
open Go.RowKit

def cntOk (c : Int) (x1 x2 x3 x4 x5 x6 : List Int) : Bool := inB c 0 9999 && cnt x1 3 9999 && cnt x2 3 9999 && cnt x3 3 c && cnt x4 4 9999 && cnt x5 4 9999 && cnt x6 4 c
set_option maxRecDepth 4000 in
set_option maxHeartbeats 8000000 in
theorem implCntOk_any (c : Int) (v1 v2 v3 v4 v5 v6 : Value) (x1 x2 x3 x4 x5 x6 : List Int) (B : Nat) (w : World) (h : SixI w B v1 v2 v3 v4 v5 v6 x1 x2 x3 x4 x5 x6) (hB : B ≤ w.heap.size) :
    Calls Try.prog 22 #[.agg #[.int .i64 c, v1, v2, v3, v4, v5, v6]] w fun e w' => e = .returned (.bool (cntOk c x1 x2 x3 x4 x5 x6)) ∧ Below w.heap.size w w' := by
  have HS := hid h
  obtain ⟨⟨a1, c1, rfl⟩, ⟨a2, c2, rfl⟩, ⟨a3, c3, rfl⟩, ⟨a4, c4, rfl⟩, ⟨a5, c5, rfl⟩, ⟨a6, c6, rfl⟩⟩ := h.shape
  have S1 := hid h.1
  have S2 := hid h.2.1
  have S3 := hid h.2.2.1
  have S4 := hid h.2.2.2.1
  have S5 := hid h.2.2.2.2.1
  have S6 := hid h.2.2.2.2.2
  clear h
  obtain ⟨b0, hb0⟩ : ∃ b, b = inB c 0 9999 := ⟨_, rfl⟩
  obtain ⟨b1, hb1⟩ : ∃ b, b = cnt x1 3 9999 := ⟨_, rfl⟩
  obtain ⟨b2, hb2⟩ : ∃ b, b = cnt x2 3 9999 := ⟨_, rfl⟩
  obtain ⟨b3, hb3⟩ : ∃ b, b = cnt x3 3 c := ⟨_, rfl⟩
  obtain ⟨b4, hb4⟩ : ∃ b, b = cnt x4 4 9999 := ⟨_, rfl⟩
  obtain ⟨b5, hb5⟩ : ∃ b, b = cnt x5 4 9999 := ⟨_, rfl⟩
  obtain ⟨b6, hb6⟩ : ∃ b, b = cnt x6 4 c := ⟨_, rfl⟩
  have hE : cntOk c x1 x2 x3 x4 x5 x6 = (b0 && b1 && b2 && b3 && b4 && b5 && b6) := by rw [hb0, hb1, hb2, hb3, hb4, hb5, hb6]; rfl
  obtain ⟨q, hq⟩ : ∃ q, q = cntOk c x1 x2 x3 x4 x5 x6 := ⟨_, rfl⟩
  rw [← hq] at hE ⊢
  have HE := hid hE
  have HB0 := hid hb0
  have HB1 := hid hb1
  have HB2 := hid hb2
  have HB3 := hid hb3
  have HB4 := hid hb4
  have HB5 := hid hb5
  have HB6 := hid hb6
  clear hE hq hb0 hb1 hb2 hb3 hb4 hb5 hb6
  have HW := hid (oneBox w (.cells #[.int .i64 c, .slice a1 x1.length c1, .slice a2 x2.length c2, .slice a3 x3.length c3, .slice a4 x4.length c4, .slice a5 x5.length c5, .slice a6 x6.length c6] 35))
  have CA := hid (cells_box w (.int .i64 c) (.slice a1 x1.length c1) (.slice a2 x2.length c2) (.slice a3 x3.length c3) (.slice a4 x4.length c4) (.slice a5 x5.length c5) (.slice a6 x6.length c6) 35)
  go_enter Try.func22, Try.ntmps22
  go_wp2_with (first
    | (go_at_call 24; refine (in_any _ _ _ _).mono ?_; rw [← HB0.out]; rintro e w' ⟨rfl, rfl⟩)
    | (go_at_call 36; (with_reducible refine (counted_any (.slice a1 x1.length c1) x1 3 9999 B _ (S1.out.below ((HW.out).mono hB)) (Nat.le_trans hB (HW.out).size)).mono ?_); rw [← HB1.out]; rintro e w1 ⟨rfl, hb⟩; have HW1 := hid ((HW.out).trans (hb.mono (HW.out).size)); have CA1 := hid (CA.out.below hb (by have := (HW.out).size; simp)); clear hb; have p0 := CA1.out 0 (by omega); have p1 := CA1.out 1 (by omega); have p2 := CA1.out 2 (by omega); have p3 := CA1.out 3 (by omega); have p4 := CA1.out 4 (by omega); have p5 := CA1.out 5 (by omega); have p6 := CA1.out 6 (by omega); simp only [List.getElem?_cons_zero, List.getElem?_cons_succ] at p0 p1 p2 p3 p4 p5 p6; have LT1 := hid (show w.heap.size < w1.heap.size from World.block_lt_of_cell? w1 _ p0))
    | (go_at_call 36; (with_reducible refine (counted_any (.slice a2 x2.length c2) x2 3 9999 B _ (S2.out.below ((HW1.out).mono hB)) (Nat.le_trans hB (HW1.out).size)).mono ?_); rw [← HB2.out]; rintro e w2 ⟨rfl, hb⟩; have HW2 := hid ((HW1.out).trans (hb.mono (HW1.out).size)); have CA2 := hid (CA1.out.below hb (by have := (HW1.out).size; have := LT1.out; omega)); clear hb; have p0 := CA2.out 0 (by omega); have p1 := CA2.out 1 (by omega); have p2 := CA2.out 2 (by omega); have p3 := CA2.out 3 (by omega); have p4 := CA2.out 4 (by omega); have p5 := CA2.out 5 (by omega); have p6 := CA2.out 6 (by omega); simp only [List.getElem?_cons_zero, List.getElem?_cons_succ] at p0 p1 p2 p3 p4 p5 p6; have LT2 := hid (show w.heap.size < w2.heap.size from World.block_lt_of_cell? w2 _ p0))
    | (go_at_call 36; (with_reducible refine (counted_any (.slice a3 x3.length c3) x3 3 c B _ (S3.out.below ((HW2.out).mono hB)) (Nat.le_trans hB (HW2.out).size)).mono ?_); rw [← HB3.out]; rintro e w3 ⟨rfl, hb⟩; have HW3 := hid ((HW2.out).trans (hb.mono (HW2.out).size)); have CA3 := hid (CA2.out.below hb (by have := (HW2.out).size; have := LT2.out; omega)); clear hb; have p0 := CA3.out 0 (by omega); have p1 := CA3.out 1 (by omega); have p2 := CA3.out 2 (by omega); have p3 := CA3.out 3 (by omega); have p4 := CA3.out 4 (by omega); have p5 := CA3.out 5 (by omega); have p6 := CA3.out 6 (by omega); simp only [List.getElem?_cons_zero, List.getElem?_cons_succ] at p0 p1 p2 p3 p4 p5 p6; have LT3 := hid (show w.heap.size < w3.heap.size from World.block_lt_of_cell? w3 _ p0))
    | (go_at_call 36; (with_reducible refine (counted_any (.slice a4 x4.length c4) x4 4 9999 B _ (S4.out.below ((HW3.out).mono hB)) (Nat.le_trans hB (HW3.out).size)).mono ?_); rw [← HB4.out]; rintro e w4 ⟨rfl, hb⟩; have HW4 := hid ((HW3.out).trans (hb.mono (HW3.out).size)); have CA4 := hid (CA3.out.below hb (by have := (HW3.out).size; have := LT3.out; omega)); clear hb; have p0 := CA4.out 0 (by omega); have p1 := CA4.out 1 (by omega); have p2 := CA4.out 2 (by omega); have p3 := CA4.out 3 (by omega); have p4 := CA4.out 4 (by omega); have p5 := CA4.out 5 (by omega); have p6 := CA4.out 6 (by omega); simp only [List.getElem?_cons_zero, List.getElem?_cons_succ] at p0 p1 p2 p3 p4 p5 p6; have LT4 := hid (show w.heap.size < w4.heap.size from World.block_lt_of_cell? w4 _ p0))
    | (go_at_call 36; (with_reducible refine (counted_any (.slice a5 x5.length c5) x5 4 9999 B _ (S5.out.below ((HW4.out).mono hB)) (Nat.le_trans hB (HW4.out).size)).mono ?_); rw [← HB5.out]; rintro e w5 ⟨rfl, hb⟩; have HW5 := hid ((HW4.out).trans (hb.mono (HW4.out).size)); have CA5 := hid (CA4.out.below hb (by have := (HW4.out).size; have := LT4.out; omega)); clear hb; have p0 := CA5.out 0 (by omega); have p1 := CA5.out 1 (by omega); have p2 := CA5.out 2 (by omega); have p3 := CA5.out 3 (by omega); have p4 := CA5.out 4 (by omega); have p5 := CA5.out 5 (by omega); have p6 := CA5.out 6 (by omega); simp only [List.getElem?_cons_zero, List.getElem?_cons_succ] at p0 p1 p2 p3 p4 p5 p6; have LT5 := hid (show w.heap.size < w5.heap.size from World.block_lt_of_cell? w5 _ p0))
    | (go_at_call 36; (with_reducible refine (counted_any (.slice a6 x6.length c6) x6 4 c B _ (S6.out.below ((HW5.out).mono hB)) (Nat.le_trans hB (HW5.out).size)).mono ?_); rw [← HB6.out]; rintro e w6 ⟨rfl, hb⟩; have HW6 := hid ((HW5.out).trans (hb.mono (HW5.out).size)); have CA6 := hid (CA5.out.below hb (by have := (HW5.out).size; have := LT5.out; omega)); clear hb; have p0 := CA6.out 0 (by omega); have p1 := CA6.out 1 (by omega); have p2 := CA6.out 2 (by omega); have p3 := CA6.out 3 (by omega); have p4 := CA6.out 4 (by omega); have p5 := CA6.out 5 (by omega); have p6 := CA6.out 6 (by omega); simp only [List.getElem?_cons_zero, List.getElem?_cons_succ] at p0 p1 p2 p3 p4 p5 p6; have LT6 := hid (show w.heap.size < w6.heap.size from World.block_lt_of_cell? w6 _ p0))
    | fail)
  all_goals
    go_ret
    refine ⟨by rw [HE.out]; simp [*], ?_⟩
    first | exact HW6.out | exact HW5.out | exact HW4.out | exact HW3.out | exact HW2.out | exact HW1.out | exact HW.out

end Go.Proofs.Ytjcpnlnajimjaaa
