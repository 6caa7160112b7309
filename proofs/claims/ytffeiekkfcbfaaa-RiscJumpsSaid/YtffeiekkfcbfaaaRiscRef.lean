/-
  What the functions of the reference of the package risc compute, each function once: the small ones.
-/
import Derived.Test.YtffeiekkfcbfaaaBitsRef
import Derived.Test.YtffeiekkfcbfaaaRiscLaw
namespace Go.Proofs.Ytffeiekkfcbfaaa
set_option linter.unusedVariables false
set_option linter.unusedSimpArgs false
open Go.RowKit Bw

theorem ref02_in (n a b : Int) (w : World) :
    Calls Try.prog 35 #[.int .i64 n, .int .i64 a, .int .i64 b] w fun e w' => e = .returned (.bool (Ins.inb n a b)) ∧ w = w' := by
  go_enter Try.func35, Try.ntmps35
  go_wp2
  all_goals go_ret
  all_goals refine ⟨ret_bool ?_, rfl⟩
  all_goals (rw [Bool.eq_iff_iff]; simp only [Ins.inb, decide_eq_true_eq]; simp; omega)

theorem ref02_bit (b : Bool) (w : World) :
    Calls Try.prog 31 #[.bool b] w fun e w' => e = .returned (.int .u32 (Ins.bit b)) ∧ w = w' := by
  cases b
  all_goals go_enter Try.func31, Try.ntmps31
  all_goals go_wp2
  all_goals go_ret
  all_goals exact ⟨rfl, rfl⟩

theorem ref02_part (x lo n : Int) (w : World) (hx : 0 ≤ x) (hx' : x < 4294967296) (hl : -9223372036854775808 ≤ lo) (hl' : lo ≤ 9223372036854775807) (hn : -9223372036854775808 ≤ n) (hn' : n ≤ 9223372036854775807) :
    Calls Try.prog 39 #[.int .u32 x, .int .i64 lo, .int .i64 n] w fun e w' => e = .returned (.int .i64 (Get x lo n)) ∧ ∃ k, w' = w.drewN k := by
  have hb := get_bd x lo n hx hx'
  go_enter Try.func39, Try.ntmps39
  go_wp2_with fail
  refine (ref01_get x lo n _ hx hx' hl hl' hn hn').mono ?_
  rintro e w' ⟨rfl, k, rfl⟩
  go_wp2_with fail
  go_ret
  exact ⟨rfl, k, rfl⟩

end Go.Proofs.Ytffeiekkfcbfaaa
