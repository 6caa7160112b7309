/-
  What the functions of the reference of the package risc compute, each function once: the small ones.
-/
import Derived.Test.YtlihcdhcljljoaaBitsRef
import Derived.Test.YtlihcdhcljljoaaRiscLaw
namespace Go.Proofs.Ytlihcdhcljljoaa
set_option linter.unusedVariables false
set_option linter.unusedSimpArgs false
open Go.RowKit Bw

end Go.Proofs.Ytlihcdhcljljoaa
