/-
  What the reference's Good answers: at form 2.
-/
import Derived.Test.YtlihcdhcljljoaaRiscRef
namespace Go.Proofs.Ytlihcdhcljljoaa
set_option linter.unusedVariables false
set_option linter.unusedSimpArgs false
open Go.RowKit Bw

end Go.Proofs.Ytlihcdhcljljoaa
