/-
  For every last and asks the law FnExactArbNext returns true, and its arguments read behind the call as they read before.
-/
import Derived.Test.YtjcpnlnajimjaaaW2
import Derived.Test.YtjcpnlnajimjaaaRow
namespace Go.Proofs.Ytjcpnlnajimjaaa
open Go.ChangeShapes Go.WideShapes Go.ChangeAt Go.RowKit

theorem own_bools {w : World} {base : Nat} {u : Value} {xs : List Bool} (h : w.ownsRow base 4 1 u xs.length (xs.map Value.bool)) (hn : xs.length ≤ 140737488351232) : Bools w w.heap.size u xs :=
  ownsRow_arr h (by simp) hn (fun t ht j hj => by
    obtain rfl : j = 0 := by omega
    simp [rowB, ht])

set_option maxHeartbeats 400000 in
theorem exactArb_any (last : Int) (v : Value) (xs : List Bool) (B : Nat) (w : World) (hv : Bools w B v xs) (hB : B ≤ w.heap.size) :
    Calls Try.prog 3 #[.int .i64 last, v] w fun e w' => e = .returned (.bool true) ∧ Below w.heap.size w w' := by
  obtain ⟨ao, cap, rfl, hlc, hcap, hln, hr⟩ := hv.opened
  by_cases hbig : (1048576 : Int) < (xs.length : Int)
  · go_enter Try.func3, Try.ntmps3
    go_wp2_with fail
    go_ret
    exact ⟨rfl, Below.refl _ _⟩
  · go_enter Try.func3, Try.ntmps3
    go_wp2_with fail
    refine (toBoolS_any _ xs B _ hv hB).mono ?_
    rintro e w1 ⟨u1, rfl, ho1, hb1⟩
    have hz1 := hb1.size
    have hv1 := own_bools ho1 hln
    go_wp2_with fail
    refine (specArb_any last u1 xs _ _ hv1).mono ?_
    rintro e w1' ⟨rfl, rfl⟩
    go_wp2_with fail
    refine (toBoolS_any _ xs B _ (hv.below (hb1.mono hB)) (by omega)).mono ?_
    rintro e w2 ⟨u2, rfl, ho2, hb2⟩
    have hz2 := hb2.size
    have hv2 := own_bools ho2 hln
    go_wp2_with fail
    refine (implArb_any last u2 xs _ _ hv2).mono ?_
    rintro e w2' ⟨rfl, rfl⟩
    go_wp2_with fail
    refine (toBoolS_any _ xs B _ ((hv.below (hb1.mono hB)).below (hb2.mono (by omega))) (by omega)).mono ?_
    rintro e w3 ⟨u3, rfl, ho3, hb3⟩
    have hz3 := hb3.size
    have hv3 := own_bools ho3 hln
    go_wp2_with fail
    refine (eqBoolS_any u2 u3 xs xs w3.heap.size w3 ((hv2.below hb3).mono (by omega)) hv3).mono ?_
    rintro e w4 ⟨rfl, hd⟩
    have hxx := hid (show (xs == xs) = true from by simp)
    go_wp2_with fail
    go_ret
    exact ⟨rfl, (((hb1.trans (hb2.mono (by omega))).trans (hb3.mono (by omega))).trans (hd.below _))⟩

theorem exactArb_lifted (os : Os) (started : os.Started) (H : Type) (enc : TypeId × Value → H) :
    ReturnsInHanded {} Try.checked os 3 .any (Rows.fnExactArbNextSpec.pre6 enc Try.prog Try.f3 Rows.fnExactArbNextRow.domain false) (Rows.fnExactArbNextSpec.post enc Try.prog Try.f3 false true false false) := by
  refine law_lifted started enc 3 Try.f3 Rows.fnExactArbNextSpec rfl (by kernel_rfl) Try.func3
    (ChangeSpec.witness6 (enc := enc) (C := Try.checked) false ⟨#[], #[.int .i64 0, .slice none 0 0], []⟩ 8 (by kernel_rfl) (by kernel_rfl) (by kernel_rfl) (by kernel_rfl)) rfl ?_ ?_ ?_
  · intro t ht
    simp [Try.params3] at ht
    rcases ht with rfl | rfl <;> exact ⟨by kernel_rfl, of_decide_eq_true (by kernel_rfl)⟩
  · intro ds hl
    simp [Try.params3] at hl
    match ds, hl with
    | [d1, d2], _ => exact ⟨rfl, rfl, rfl⟩
  · intro W base args ds p hval hA hlt hw
    rw [Try.params3] at hA hval hw
    obtain ⟨v0, v1, d0, d1, p0, p1, rfl, rfl, rfl, h0, h1⟩ := trodAll_two hA
    obtain ⟨a, rfl, rfl, rfl, wa⟩ := open_int Try.underlying3 (hval 0 3 v0 rfl rfl) h0
    obtain ⟨ao, l, c, rfl⟩ := okWide_slice Try.underlying22 (hval 1 22 v1 rfl rfl)
    have hr := read_of h1 (fun x hx => hlt x (by simp [hx])) (fun x hx => by
      have := List.all_eq_true.1 hw x (by simp [DataW.weightsEach, hx])
      simpa using this)
    obtain ⟨xs, hb⟩ := hr.bools
    exact exactArb_any a _ xs _ W hb (Nat.le_refl _)

theorem exactArb_holds : Rows.FnExactArbNextSaid :=
  OpenClaim.holds_of_wide 3 Try.f3 rfl rfl rfl rfl rfl rfl rfl ⟨rfl, rfl, rfl, rfl, rfl⟩ rfl rfl rfl rfl rfl (by kernel_rfl) Try.func3 (by kernel_rfl)
    (of_decide_eq_true (by kernel_rfl)) (by unfold Func.isWrapper; first | (rw [if_pos (by decide +kernel)]; kernel_rfl) | (rw [if_neg (by decide +kernel)]; exact ⟨rfl, rfl⟩))
    (fun os started H enc _ => exactArb_lifted os started H enc)
#print axioms exactArb_holds

end Go.Proofs.Ytjcpnlnajimjaaa
