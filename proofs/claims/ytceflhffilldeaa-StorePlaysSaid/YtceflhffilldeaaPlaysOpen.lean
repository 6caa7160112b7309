/-
  The steps that came in, opened.
-/
import Derived.Test.YtceflhffilldeaaRowsOpen
import Derived.Test.YtceflhffilldeaaProg
namespace Go.Proofs.Ytceflhffilldeaa
set_option linter.unusedVariables false
set_option linter.unusedSimpArgs false
open Go.RowKit Go.ChangeShapes Go.WideShapes

set_option maxRecDepth 100000 in
theorem open_steps {H : Type} {enc : TypeId × Value → H} {w : World} {base : Nat} {spare : Nat → Bool} {held : Bool} {r : Reach} {b0 : Nat} {v : Value} {d : DataW H} {p : List MemPlace}
    (hv : Value.okWide Try.prog w r b0 22 v) (h : DataW.Trod enc Try.prog w base spare held 22 v d p) :
    ∃ l, SteRow w v l ∧ ∀ x ∈ l, x.name.size ≤ 9223372036854775807 ∧ x.text.size ≤ 9223372036854775807 ∧ (-9223372036854775808 ≤ x.n ∧ x.n ≤ 9223372036854775807) :=
  ste_of_trod (ti := 3) (ts := 9) Try.underlying22 Try.underlying30 (by kernel_rfl) Try.underlying3 Try.underlying9 ⟨rfl, rfl⟩ ⟨rfl, rfl⟩ ⟨rfl, rfl⟩ ⟨rfl, rfl⟩ (by kernel_rfl) (by kernel_rfl) hv h

end Go.Proofs.Ytceflhffilldeaa
