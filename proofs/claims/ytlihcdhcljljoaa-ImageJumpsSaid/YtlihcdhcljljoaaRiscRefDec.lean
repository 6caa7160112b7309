/-
  What the reference's Decode computes, for every word.
-/
import Derived.Test.YtlihcdhcljljoaaRiscRefEnc
namespace Go.Proofs.Ytlihcdhcljljoaa
set_option linter.unusedVariables false
set_option linter.unusedSimpArgs false
open Go.RowKit Bw

end Go.Proofs.Ytlihcdhcljljoaa
