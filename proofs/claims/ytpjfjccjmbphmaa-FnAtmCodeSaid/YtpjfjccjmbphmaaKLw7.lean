/-
  The opening of the laws, with a law of ranges that may but be read.
-/
import Derived.Test.YtpjfjccjmbphmaaJSa3
set_option linter.unusedVariables false
set_option linter.unusedSimpArgs false
namespace Go.Proofs.Ytpjfjccjmbphmaa
open Go.RowKit

theorem onlyK_succ {ms : List MR} {a : Int} {k : Nat} (h : k < ms.length) : onlyK ms a (k + 1) = (onlyK ms a k || ((ms.getD k default).only && (decide ((ms.getD k default).fr ≤ a) && decide (a ≤ (ms.getD k default).to)))) := by
  unfold onlyK
  rw [List.take_succ_eq_append_getElem h, List.any_append]
  simp [List.getD, h]

end Go.Proofs.Ytpjfjccjmbphmaa
