/-
  The opening of the laws, with the plain laws of holding and trying.
-/
import Derived.Test.YtjlnnnnpdagnpaaJSa3
import Derived.Test.YtjlnnnnpdagnpaaKPl5
set_option linter.unusedVariables false
set_option linter.unusedSimpArgs false
namespace Go.Proofs.Ytjlnnnnpdagnpaa
end Go.Proofs.Ytjlnnnnpdagnpaa
