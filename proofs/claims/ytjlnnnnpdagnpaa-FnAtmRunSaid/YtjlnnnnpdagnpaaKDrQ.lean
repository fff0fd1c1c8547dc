/-
  What DrawAtmRun draws, as a statement.
-/
import Derived.Test.YtjlnnnnpdagnpaaJRu3
set_option linter.unusedVariables false
set_option linter.unusedSimpArgs false
namespace Go.Proofs.Ytjlnnnnpdagnpaa
open Go.RowKit

/-- What DrawAtmRun draws. -/
def DrawRunP (w : World) (e : Ending) (w' : World) : Prop := ∃ mv ms wv hv ws hs who ub uf uc rs, e = .returned (.tuple #[mv, .agg #[wv, hv], .int .i64 who, .slice (some ⟨ub, uf, none⟩) rs.length uc]) ∧ Maps w' w'.heap.size mv ms ∧ Ints w' w'.heap.size wv ws ∧ Ints w' w'.heap.size hv hs ∧ -1 ≤ who ∧ who ≤ 3 ∧ Reqs w' w'.heap.size (.slice (some ⟨ub, uf, none⟩) rs.length uc) rs ∧ rs.length ≤ 30 ∧ Below w.heap.size w w'
/-- DrawAtmRun draws so. -/
def DrawRun : Prop := ∀ (v : Value) (bs : List Nat) (B : Nat) (w : World), Bytes w B v bs → B ≤ w.heap.size → Calls Try.prog 12 #[v] w (DrawRunP w)

end Go.Proofs.Ytjlnnnnpdagnpaa
