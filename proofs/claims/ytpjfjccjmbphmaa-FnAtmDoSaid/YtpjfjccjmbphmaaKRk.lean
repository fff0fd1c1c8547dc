/-
  RspOk of the program, of what is ok.
-/
import Derived.Test.YtpjfjccjmbphmaaJSa3
set_option linter.unusedVariables false
set_option linter.unusedSimpArgs false
namespace Go.Proofs.Ytpjfjccjmbphmaa
open Go.RowKit

set_option maxHeartbeats 2000000 in
theorem implRspOk_yes (dv : Value) (x : Rs) (B : Nat) (w : World) (h : Ints w B dv x.data) (hB : B ≤ w.heap.size) (hok : rspOk x = true) :
    Calls Try.prog 31 #[.agg #[.int .i64 x.id, .int .i64 x.code, dv]] w fun e w' => e = .returned (.bool true) ∧ Below w.heap.size w w' := by
  simp only [rspOk, Bool.and_eq_true, decide_eq_true_eq] at hok
  obtain ⟨⟨⟨h1, h2⟩, h3⟩, h4⟩ := hok
  obtain ⟨ao, cap, hdv, _⟩ := h.opened
  subst hdv
  have H1 := hid h1; have H2 := hid h2; have H4 := hid h4; have HI := hid h
  have h3' : (x.data.length : Int) ≤ 4 := by omega
  clear h1 h2 h4 h
  go_enter Try.func31, Try.ntmps31
  go_wp2_with (first
    | (go_at_call 46; refine (in_any _ _ _ _).mono ?_; (first | rw [H1.out] | rw [H2.out]); rintro e w' ⟨rfl, rfl⟩)
    | (go_at_call 62; refine (areWords_any _ x.data B _ (HI.out.below ((Below.refl _ _).alloc hB _))).mono ?_; rw [H4.out]; rintro e w' ⟨rfl, rfl⟩))
  go_ret
  exact ⟨rfl, (Below.refl _ _).alloc (Nat.le_refl _) _⟩

end Go.Proofs.Ytpjfjccjmbphmaa
