/-
  What the functions of the reference of the package risc compute, each function once: the small ones.
-/
import Derived.Test.YtbnlfopghmeacaaBitsRef
import Derived.Test.YtbnlfopghmeacaaRiscLaw
namespace Go.Proofs.Ytbnlfopghmeacaa
set_option linter.unusedVariables false
set_option linter.unusedSimpArgs false
open Go.RowKit Bw

theorem ref02_in (n a b : Int) (w : World) :
    Calls Try.prog 61 #[.int .i64 n, .int .i64 a, .int .i64 b] w fun e w' => e = .returned (.bool (Ins.inb n a b)) ∧ w = w' := by
  go_enter Try.func61, Try.ntmps61
  go_wp2
  all_goals go_ret
  all_goals refine ⟨ret_bool ?_, rfl⟩
  all_goals (rw [Bool.eq_iff_iff]; simp only [Ins.inb, decide_eq_true_eq]; simp; omega)

theorem ref02_bit (b : Bool) (w : World) :
    Calls Try.prog 58 #[.bool b] w fun e w' => e = .returned (.int .u32 (Ins.bit b)) ∧ w = w' := by
  cases b
  all_goals go_enter Try.func58, Try.ntmps58
  all_goals go_wp2
  all_goals go_ret
  all_goals exact ⟨rfl, rfl⟩

end Go.Proofs.Ytbnlfopghmeacaa
