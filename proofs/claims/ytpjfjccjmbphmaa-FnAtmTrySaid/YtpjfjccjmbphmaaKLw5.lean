/-
  The opening of the laws, with the plain laws of holding and trying.
-/
import Derived.Test.YtpjfjccjmbphmaaJSa3
import Derived.Test.YtpjfjccjmbphmaaKPl5
set_option linter.unusedVariables false
set_option linter.unusedSimpArgs false
namespace Go.Proofs.Ytpjfjccjmbphmaa
end Go.Proofs.Ytpjfjccjmbphmaa
