/-
  What the functions of the package bits and of its reference compute, each function once.
-/
import Derived.Test.YtlihcdhcljljoaaProg
import Derived.Test.YtlihcdhcljljoaaBitsLaw
import Derived.WalkKit
import Derived.BigQuiet
import Derived.Deep.QuietTactic
import Derived.Lib.Hide
namespace Go.Proofs.Ytlihcdhcljljoaa
set_option linter.unusedVariables false
set_option linter.unusedSimpArgs false
open Go.RowKit Bw

theorem ret_int {k : IntKind} {a b : Int} (h : a = b) : Ending.returned (.int k a) = .returned (.int k b) := by rw [h]
theorem ret_bool {a b : Bool} (h : a = b) : Ending.returned (.bool a) = .returned (.bool b) := by rw [h]

theorem wrap64_wrap32 (x : Int) : wrap64 (wrap32 x) = wrap32 x := by unfold wrap64 wrap32; omega

theorem quiet_eq {P : Program} {f : FuncId} {args : Array Value} {w : World} {n : Nat} {v : Value}
    (h : Calls P f args (w.drewN n) fun e w' => e = .returned v ∧ w.drewN n = w') : Calls P f args (w.drewN n) fun e w'' => e = .returned v ∧ ∃ m, w'' = w.drewN m :=
  h.mono fun _ _ ⟨he, hm⟩ => ⟨he, n, hm.symm⟩


theorem quiet_add {P : Program} {f : FuncId} {args : Array Value} {w : World} {a n : Nat} {v : Value}
    (h : Calls P f args (w.drewN (a + n)) fun e w' => e = .returned v ∧ ∃ m, w' = (w.drewN (a + n)).drewN m) :
    Calls P f args (w.drewN (a + n)) fun e w'' => e = .returned v ∧ ∃ m, w'' = w.drewN (a + m) :=
  h.mono fun _ _ ⟨he, m, hm⟩ => ⟨he, n + m, by rw [hm, World.drewN_drewN, Nat.add_assoc]⟩
theorem quiet_add_eq {P : Program} {f : FuncId} {args : Array Value} {w : World} {a n : Nat} {v : Value}
    (h : Calls P f args (w.drewN (a + n)) fun e w' => e = .returned v ∧ w.drewN (a + n) = w') :
    Calls P f args (w.drewN (a + n)) fun e w'' => e = .returned v ∧ ∃ m, w'' = w.drewN (a + m) :=
  h.mono fun _ _ ⟨he, hm⟩ => ⟨he, n, hm.symm⟩

theorem bcell {W w1 : World} (hb : Below W.heap.size W w1) : (∀ b o, b < W.heap.size → w1.cell? ⟨b, o, none⟩ = W.cell? ⟨b, o, none⟩) ∧ (∀ b o, b < W.heap.size → w1.frozen? ⟨b, o, none⟩ = W.frozen? ⟨b, o, none⟩) :=
  ⟨fun b o h => hb.cell (p := ⟨b, o, none⟩) h, fun b o h => hb.frozen (p := ⟨b, o, none⟩) h⟩

theorem bits_inside (lo n : Int) (w : World) (hx : -9223372036854775808 ≤ lo) (hx' : lo ≤ 9223372036854775807) (hn : -9223372036854775808 ≤ n) (hn' : n ≤ 9223372036854775807) :
    Calls Try.prog 53 #[.int .i64 lo, .int .i64 n] w fun e w' => e = .returned (.bool (may lo n)) ∧ w = w' := by
  go_enter Try.func53, Try.ntmps53
  go_wp2
  all_goals go_ret
  all_goals refine ⟨ret_bool ?_, rfl⟩
  all_goals (rw [Bool.eq_iff_iff, may_iff]; simp; omega)

theorem bits_mask (n : Int) (w : World) (h0 : 1 ≤ n) (h1 : n ≤ 32) :
    Calls Try.prog 54 #[.int .i64 n] w fun e w' => e = .returned (.int .u32 (2 ^ n.toNat - 1)) ∧ w = w' := by
  have HR := Lib.hid (mask_val n h0 h1)
  go_enter Try.func54, Try.ntmps54
  go_wp2
  go_ret
  exact ⟨ret_int HR.out, rfl⟩

theorem bits_get (x lo n : Int) (w : World) (hx : 0 ≤ x) (hx' : x < 4294967296) (hl : -9223372036854775808 ≤ lo) (hl' : lo ≤ 9223372036854775807) (hn : -9223372036854775808 ≤ n) (hn' : n ≤ 9223372036854775807) :
    Calls Try.prog 43 #[.int .u32 x, .int .i64 lo, .int .i64 n] w fun e w' => e = .returned (.int .u32 (Get x lo n)) ∧ ∃ k, w' = w.drewN k := by
  cases hm : may lo n
  · go_enter Try.func43, Try.ntmps43
    go_wp2_with (go_at_call 53; refine (bits_inside lo n _ hl hl' hn hn').mono ?_; rintro e w' ⟨rfl, rfl⟩)
    go_ret
    exact ⟨ret_int (by simp [Get, hm]), 0, rfl⟩
  · have hi := (may_iff lo n).1 hm
    have HG := Lib.hid (get_val x lo n hx hx' hm)
    go_enter Try.func43, Try.ntmps43
    go_wp2_with (go_at_call 53; refine (bits_inside lo n _ hl hl' hn hn').mono ?_; rintro e w' ⟨rfl, rfl⟩)
    go_quiet ((go_at_call 54; exact quiet_eq (bits_mask _ _ (by omega) (by omega))))
    go_wp2
    go_ret
    exact ⟨ret_int HG.out, nq, rfl⟩

theorem bits_extend (v n : Int) (w : World) (hv : 0 ≤ v) (hv' : v < 4294967296) :
    Calls Try.prog 44 #[.int .u32 v, .int .i64 n] w fun e w' => e = .returned (.int .i64 (Extend v n)) ∧ w = w' := by
  cases hm : few n
  · have hi := (few_no n).1 hm
    go_enter Try.func44, Try.ntmps44
    go_wp2
    all_goals go_ret
    all_goals exact ⟨ret_int (by simp [Extend, hm]), rfl⟩
  · have hi := (few_iff n).1 hm
    go_enter Try.func44, Try.ntmps44
    go_wp2
    go_ret
    exact ⟨ret_int (extend_val v n hi.1 hi.2), rfl⟩

theorem bits_fits (v n : Int) (w : World) (hv : -9223372036854775808 ≤ v) (hv' : v ≤ 9223372036854775807) :
    Calls Try.prog 63 #[.int .i64 v, .int .i64 n] w fun e w' => e = .returned (.bool (Fits v n)) ∧ w = w' := by
  go_enter Try.func63, Try.ntmps63
  go_wp2
  all_goals go_ret
  all_goals refine ⟨ret_bool ?_, rfl⟩
  all_goals (rw [Bool.eq_iff_iff]; simp only [Fits, Bool.and_eq_true, decide_eq_true_eq, few_iff])
  · rw [wrap64_neg_pow _ (by omega)] at *; rw [wrap64_pow _ (by omega)] at *; omega
  · rw [wrap64_neg_pow _ (by omega)] at *; simp; omega
  · simp; omega
  · simp; omega
end Go.Proofs.Ytlihcdhcljljoaa
