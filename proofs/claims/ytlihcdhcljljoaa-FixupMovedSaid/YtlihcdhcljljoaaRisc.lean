/-
  What the functions of the package risc compute, each function once.
-/
import Derived.Test.YtlihcdhcljljoaaBits
import Derived.Test.YtlihcdhcljljoaaRiscLaw
namespace Go.Proofs.Ytlihcdhcljljoaa
set_option linter.unusedVariables false
set_option linter.unusedSimpArgs false
open Go.RowKit Bw

theorem risc_half (v n : Int) (w : World) (hv : -9223372036854775808 ≤ v) (hv' : v ≤ 9223372036854775807) (hn : 1 ≤ n) (hn' : n ≤ 62) :
    Calls Try.prog 62 #[.int .i64 v, .int .i64 n] w fun e w' => e = .returned (.bool (Ins.half v n)) ∧ w = w' := by
  have h1 := wrap64_pow n.toNat (by omega)
  go_enter Try.func62, Try.ntmps62
  go_wp2
  all_goals go_ret
  all_goals refine ⟨ret_bool ?_, rfl⟩
  all_goals (rw [Bool.eq_iff_iff]; simp only [Ins.half, decide_eq_true_eq]; simp; omega)

end Go.Proofs.Ytlihcdhcljljoaa
