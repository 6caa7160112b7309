/-
  What the reference's Decode computes, for every word.
-/
import Derived.Test.YtbnlfopghmeacaaRiscRefEnc
namespace Go.Proofs.Ytbnlfopghmeacaa
set_option linter.unusedVariables false
set_option linter.unusedSimpArgs false
open Go.RowKit Bw

theorem ref02_encode_any (x : Ins) (w : World) (hx : x.fits) :
    Calls Try.prog 55 #[x.val] w fun e w' => e = .returned (.tuple #[.int .u32 x.E, .int .i64 x.eerr]) ∧ Below w.heap.size w w' := by
  cases hg : x.good
  · rw [Ins.E, Ins.eerr, hg]; exact ref02_encode_none x w hx hg
  · rw [Ins.E, Ins.eerr, hg]; exact ref02_encode x w hx hg

end Go.Proofs.Ytbnlfopghmeacaa
