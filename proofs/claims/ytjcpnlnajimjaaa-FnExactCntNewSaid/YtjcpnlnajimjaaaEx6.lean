/-
  The law FnExactCntNew returns true, in whatever memory: new counts of the program and of the reference are the same, and new memory.
-/
import Derived.Test.YtjcpnlnajimjaaaEx5
namespace Go.Proofs.Ytjcpnlnajimjaaa
open Go.ChangeShapes Go.WideShapes Go.ChangeAt Go.RowKit

set_option maxRecDepth 100000 in
theorem exactCntNew_lifted (os : Os) (started : os.Started) (H : Type) (enc : TypeId × Value → H) :
    ReturnsInHanded {} Try.checked os 5 .any (Rows.fnExactCntNewSpec.pre6 enc Try.prog Try.f5 Rows.fnExactCntNewRow.domain false) (Rows.fnExactCntNewSpec.post enc Try.prog Try.f5 false true false false) := by
  refine law_lifted started enc 5 Try.f5 Rows.fnExactCntNewSpec rfl (by kernel_rfl) Try.func5
    (ChangeSpec.witness6 (enc := enc) (C := Try.checked) false ⟨#[], #[], []⟩ 8 (by kernel_rfl) (by kernel_rfl) (by kernel_rfl) (by kernel_rfl)) rfl ?_ ?_ ?_
  · intro t ht
    simp [Try.params5] at ht
  · intro ds hl
    simp [Try.params5] at hl
    subst hl
    exact ⟨rfl, rfl, rfl⟩
  · intro W base args ds p hval hA hlt hw
    rw [Try.params5] at hA
    obtain ⟨h1, h2, h3⟩ := trodAll_nil hA
    obtain rfl : args = #[] := by cases args; simp_all
    exact exactCntNew_any W

set_option maxRecDepth 100000 in
theorem exactCntNew_holds : Rows.FnExactCntNewSaid :=
  OpenClaim.holds_of_wide 5 Try.f5 rfl rfl rfl rfl rfl rfl rfl ⟨rfl, rfl, rfl, rfl, rfl⟩ rfl rfl rfl rfl rfl (by kernel_rfl) Try.func5 (by kernel_rfl)
    (of_decide_eq_true (by kernel_rfl)) (by unfold Func.isWrapper; first | (rw [if_pos (by decide +kernel)]; kernel_rfl) | (rw [if_neg (by decide +kernel)]; exact ⟨rfl, rfl⟩))
    (fun os started H enc _ => exactCntNew_lifted os started H enc)
#print axioms exactCntNew_holds

end Go.Proofs.Ytjcpnlnajimjaaa
