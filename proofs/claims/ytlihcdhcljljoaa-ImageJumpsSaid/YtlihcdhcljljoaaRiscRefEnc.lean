/-
  What the reference's Good and Encode compute, for every instruction.
-/
import Derived.Test.YtlihcdhcljljoaaRiscRefGood0
import Derived.Test.YtlihcdhcljljoaaRiscRefGood1
import Derived.Test.YtlihcdhcljljoaaRiscRefGood2
import Derived.Test.YtlihcdhcljljoaaRiscRefGood3
namespace Go.Proofs.Ytlihcdhcljljoaa
set_option linter.unusedVariables false
set_option linter.unusedSimpArgs false
open Go.RowKit Bw

/-- Two results, a word and an error's number. -/
theorem ret_two' {k1 k2 : IntKind} {a b c d : Int} (h : a = b) (h' : c = d) : Ending.returned (.tuple #[.int k1 a, .int k2 c]) = .returned (.tuple #[.int k1 b, .int k2 d]) := by rw [h, h']
theorem below_drewN' {B : Nat} {a w : World} (h : Below B a w) (n : Nat) : Below B a (w.drewN n) := ⟨h.os, h.tape, h.output, h.size, h.block⟩
theorem below_call' {w w1 w2 : World} (h : Below w.heap.size w w1) (hb : Below w1.heap.size w1 w2) : Below w.heap.size w w2 := h.trans (hb.mono h.size)

end Go.Proofs.Ytlihcdhcljljoaa
