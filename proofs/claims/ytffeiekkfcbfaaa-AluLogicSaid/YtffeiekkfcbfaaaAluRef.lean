/-
  What the functions of the reference of the package alu compute, each function once: the small ones.
-/
import Derived.Test.YtffeiekkfcbfaaaBitsRef
import Derived.Test.YtffeiekkfcbfaaaAluLaw
namespace Go.Proofs.Ytffeiekkfcbfaaa
set_option linter.unusedVariables false
set_option linter.unusedSimpArgs false
open Go.RowKit Bw

theorem ref03_carry (u : Bool) (f : Fl) (w : World) :
    Calls Try.prog 52 #[.bool u, f.val] w fun e w' => e = .returned (.int .i64 (Alu.carry u f)) ∧ w.alloc (.cells #[.bool f.n, .bool f.z, .bool f.c, .bool f.v] 43) = w' := by
  obtain ⟨fn, fz, fc, fv⟩ := f
  simp only [Fl.val, Fl.cells]
  cases u <;> cases fc
  all_goals go_enter Try.func52, Try.ntmps52
  all_goals go_wp2
  all_goals go_ret
  all_goals exact ⟨rfl, rfl⟩

theorem ref03_floor (a b : Int) (w : World) (hb : 0 < b) (hb' : b ≤ 4294967296) (ha : -4611686018427387904 ≤ a) (ha' : a ≤ 4611686018427387904) :
    Calls Try.prog 53 #[.int .i64 a, .int .i64 b] w fun e w' => e = .returned (.int .i64 (a / b)) ∧ w = w' := by
  have h1 : (b == 0) = false := by simp; omega
  have q := floor_bd a b hb hb' ha ha'
  go_enter Try.func53, Try.ntmps53
  go_wp2
  all_goals go_ret
  all_goals have h2 := Int.mul_tdiv_add_tmod a b
  all_goals rw [Int.mul_comm] at h2
  · exact ⟨ret_int (quo_neg a b hb (by have : a < a.tdiv b * b := by assumption
                                       omega)).1, rfl⟩
  · exact ⟨ret_int (quo_pos a b hb (by have : a.tdiv b * b ≤ a := by assumption
                                       omega)).1, rfl⟩

end Go.Proofs.Ytffeiekkfcbfaaa
