/-
  CntOk of the reference (printed by wip/gen_ck.py).
-/
import Derived.Test.YtjcpnlnajimjaaaCk4
namespace Go.Proofs.Ytjcpnlnajimjaaa
open Go.RowKit

set_option maxRecDepth 4000 in
set_option maxHeartbeats 8000000 in
theorem specCntOk_any (c : Int) (v1 v2 v3 v4 v5 v6 : Value) (x1 x2 x3 x4 x5 x6 : List Int) (B : Nat) (w : World) (h : SixI w B v1 v2 v3 v4 v5 v6 x1 x2 x3 x4 x5 x6) (hB : B ≤ w.heap.size) :
    Calls Try.prog 20 #[.agg #[.int .i64 c, v1, v2, v3, v4, v5, v6]] w fun e w' => e = .returned (.bool (cntOk c x1 x2 x3 x4 x5 x6)) ∧ Below w.heap.size w w' := by
  obtain ⟨⟨a1, c1, rfl⟩, ⟨a2, c2, rfl⟩, ⟨a3, c3, rfl⟩, ⟨a4, c4, rfl⟩, ⟨a5, c5, rfl⟩, ⟨a6, c6, rfl⟩⟩ := h.shape
  have S1 := hid h.1
  have S2 := hid h.2.1
  have S3 := hid h.2.2.1
  have S4 := hid h.2.2.2.1
  have S5 := hid h.2.2.2.2.1
  have S6 := hid h.2.2.2.2.2
  have m1 : x1.length ≤ 140737488351232 := by obtain ⟨_, _, _, _, _, m, _⟩ := h.1.1; simpa using m
  have m2 : x2.length ≤ 140737488351232 := by obtain ⟨_, _, _, _, _, m, _⟩ := h.2.1.1; simpa using m
  have m3 : x3.length ≤ 140737488351232 := by obtain ⟨_, _, _, _, _, m, _⟩ := h.2.2.1.1; simpa using m
  have m4 : x4.length ≤ 140737488351232 := by obtain ⟨_, _, _, _, _, m, _⟩ := h.2.2.2.1.1; simpa using m
  have m5 : x5.length ≤ 140737488351232 := by obtain ⟨_, _, _, _, _, m, _⟩ := h.2.2.2.2.1.1; simpa using m
  have m6 : x6.length ≤ 140737488351232 := by obtain ⟨_, _, _, _, _, m, _⟩ := h.2.2.2.2.2.1; simpa using m
  clear h
  obtain ⟨b1, hb1⟩ : ∃ b, b = (x1.all fun n => inB n 0 9999) := ⟨_, rfl⟩
  obtain ⟨b2, hb2⟩ : ∃ b, b = (x2.all fun n => inB n 0 9999) := ⟨_, rfl⟩
  obtain ⟨b3, hb3⟩ : ∃ b, b = (x3.all fun n => inB n 0 c) := ⟨_, rfl⟩
  obtain ⟨b4, hb4⟩ : ∃ b, b = (x4.all fun n => inB n 0 9999) := ⟨_, rfl⟩
  obtain ⟨b5, hb5⟩ : ∃ b, b = (x5.all fun n => inB n 0 9999) := ⟨_, rfl⟩
  obtain ⟨b6, hb6⟩ : ∃ b, b = (x6.all fun n => inB n 0 c) := ⟨_, rfl⟩
  have hE : cntOk c x1 x2 x3 x4 x5 x6 = ((decide (0 ≤ c) && decide (c ≤ 9999)) && (((x1.length : Int) == 3) && b1) && (((x2.length : Int) == 3) && b2) && (((x3.length : Int) == 3) && b3) && (((x4.length : Int) == 4) && b4) && (((x5.length : Int) == 4) && b5) && (((x6.length : Int) == 4) && b6)) := by rw [hb1, hb2, hb3, hb4, hb5, hb6]; rfl
  obtain ⟨q, hq⟩ : ∃ q, q = cntOk c x1 x2 x3 x4 x5 x6 := ⟨_, rfl⟩
  rw [← hq] at hE ⊢
  have HE := hid hE
  have HB1 := hid hb1
  have HB2 := hid hb2
  have HB3 := hid hb3
  have HB4 := hid hb4
  have HB5 := hid hb5
  have HB6 := hid hb6
  clear hE hq hb1 hb2 hb3 hb4 hb5 hb6
  have HW := hid (oneBox w (.cells #[.int .i64 c, .slice a1 x1.length c1, .slice a2 x2.length c2, .slice a3 x3.length c3, .slice a4 x4.length c4, .slice a5 x5.length c5, .slice a6 x6.length c6] 35))
  go_enter Try.func20, Try.ntmps20
  go_wp2_with (first
    | (go_at_call 34; (with_reducible refine (all3_any (.slice a1 x1.length c1) x1 0 9999 B _ (S1.out.below (HW.out.mono hB))).mono ?_); rw [← HB1.out]; rintro e w1 ⟨rfl, rfl⟩)
    | (go_at_call 34; (with_reducible refine (all3_any (.slice a2 x2.length c2) x2 0 9999 B _ (S2.out.below (HW.out.mono hB))).mono ?_); rw [← HB2.out]; rintro e w2 ⟨rfl, rfl⟩)
    | (go_at_call 34; (with_reducible refine (all3_any (.slice a3 x3.length c3) x3 0 c B _ (S3.out.below (HW.out.mono hB))).mono ?_); rw [← HB3.out]; rintro e w3 ⟨rfl, rfl⟩)
    | (go_at_call 34; (with_reducible refine (all3_any (.slice a4 x4.length c4) x4 0 9999 B _ (S4.out.below (HW.out.mono hB))).mono ?_); rw [← HB4.out]; rintro e w4 ⟨rfl, rfl⟩)
    | (go_at_call 34; (with_reducible refine (all3_any (.slice a5 x5.length c5) x5 0 9999 B _ (S5.out.below (HW.out.mono hB))).mono ?_); rw [← HB5.out]; rintro e w5 ⟨rfl, rfl⟩)
    | (go_at_call 34; (with_reducible refine (all3_any (.slice a6 x6.length c6) x6 0 c B _ (S6.out.below (HW.out.mono hB))).mono ?_); rw [← HB6.out]; rintro e w6 ⟨rfl, rfl⟩)
    | fail)
  all_goals
    go_ret
    refine ⟨by rw [HE.out]; first | (simp [*]; done) | (simp [-List.length_eq_zero_iff, *]; done) | (simp [-List.length_eq_zero_iff, *]; omega) | (simp [-List.length_eq_zero_iff, *]; grind), HW.out⟩

end Go.Proofs.Ytjcpnlnajimjaaa
