/-
  What risc.Decode computes, for every word.
-/
import Derived.Test.YtbnlfopghmeacaaRiscEnc
namespace Go.Proofs.Ytbnlfopghmeacaa
set_option linter.unusedVariables false
set_option linter.unusedSimpArgs false
open Go.RowKit Bw

theorem risc_encode_any (x : Ins) (w : World) (hx : x.fits) :
    Calls Try.prog 56 #[x.val] w fun e w' => e = .returned (.tuple #[.int .u32 x.E, .int .i64 x.eerr]) ∧ Below w.heap.size w w' := by
  cases hg : x.good
  · rw [Ins.E, Ins.eerr, hg]; exact risc_encode_none x w hx hg
  · rw [Ins.E, Ins.eerr, hg]; exact risc_encode x w hx hg

end Go.Proofs.Ytbnlfopghmeacaa
