/-
  What the functions of the package bits and of its reference compute, each function once.
-/
import Derived.Test.YtbnlfopghmeacaaProg
import Derived.Test.YtbnlfopghmeacaaBitsLaw
import Derived.WalkKit
import Derived.BigQuiet
import Derived.Deep.QuietTactic
import Derived.Lib.Hide
namespace Go.Proofs.Ytbnlfopghmeacaa
set_option linter.unusedVariables false
set_option linter.unusedSimpArgs false
open Go.RowKit Bw

theorem ret_int {k : IntKind} {a b : Int} (h : a = b) : Ending.returned (.int k a) = .returned (.int k b) := by rw [h]
theorem ret_bool {a b : Bool} (h : a = b) : Ending.returned (.bool a) = .returned (.bool b) := by rw [h]

theorem wrap64_wrap32 (x : Int) : wrap64 (wrap32 x) = wrap32 x := by unfold wrap64 wrap32; omega

theorem quiet_eq {P : Program} {f : FuncId} {args : Array Value} {w : World} {n : Nat} {v : Value}
    (h : Calls P f args (w.drewN n) fun e w' => e = .returned v ∧ w.drewN n = w') : Calls P f args (w.drewN n) fun e w'' => e = .returned v ∧ ∃ m, w'' = w.drewN m :=
  h.mono fun _ _ ⟨he, hm⟩ => ⟨he, n, hm.symm⟩


theorem quiet_add {P : Program} {f : FuncId} {args : Array Value} {w : World} {a n : Nat} {v : Value}
    (h : Calls P f args (w.drewN (a + n)) fun e w' => e = .returned v ∧ ∃ m, w' = (w.drewN (a + n)).drewN m) :
    Calls P f args (w.drewN (a + n)) fun e w'' => e = .returned v ∧ ∃ m, w'' = w.drewN (a + m) :=
  h.mono fun _ _ ⟨he, m, hm⟩ => ⟨he, n + m, by rw [hm, World.drewN_drewN, Nat.add_assoc]⟩
theorem quiet_add_eq {P : Program} {f : FuncId} {args : Array Value} {w : World} {a n : Nat} {v : Value}
    (h : Calls P f args (w.drewN (a + n)) fun e w' => e = .returned v ∧ w.drewN (a + n) = w') :
    Calls P f args (w.drewN (a + n)) fun e w'' => e = .returned v ∧ ∃ m, w'' = w.drewN (a + m) :=
  h.mono fun _ _ ⟨he, hm⟩ => ⟨he, n, hm.symm⟩

theorem bcell {W w1 : World} (hb : Below W.heap.size W w1) : (∀ b o, b < W.heap.size → w1.cell? ⟨b, o, none⟩ = W.cell? ⟨b, o, none⟩) ∧ (∀ b o, b < W.heap.size → w1.frozen? ⟨b, o, none⟩ = W.frozen? ⟨b, o, none⟩) :=
  ⟨fun b o h => hb.cell (p := ⟨b, o, none⟩) h, fun b o h => hb.frozen (p := ⟨b, o, none⟩) h⟩

theorem bits_lsl (x n : Int) (w : World) (hx : 0 ≤ x) (hx' : x < 4294967296) (hn : 0 ≤ n) (hn' : n < 4294967296) :
    Calls Try.prog 18 #[.int .u32 x, .int .u32 n] w fun e w' => e = .returned (.int .u32 (Lsl x n)) ∧ w = w' := by
  have h1 : 0 ≤ n % 32 := by omega
  have h2 : n % 32 < 32 := by omega
  go_enter Try.func18, Try.ntmps18
  go_wp2
  go_ret
  exact ⟨rfl, rfl⟩

theorem bits_asr (x n : Int) (w : World) (hx : 0 ≤ x) (hx' : x < 4294967296) (hn : 0 ≤ n) (hn' : n < 4294967296) :
    Calls Try.prog 20 #[.int .u32 x, .int .u32 n] w fun e w' => e = .returned (.int .u32 (Asr x n)) ∧ w = w' := by
  have h1 : 0 ≤ n % 32 := by omega
  have h2 : n % 32 < 32 := by omega
  go_enter Try.func20, Try.ntmps20
  go_wp2
  go_ret
  exact ⟨rfl, rfl⟩

theorem bits_signed (x : Int) (w : World) (hx : 0 ≤ x) (hx' : x < 4294967296) :
    Calls Try.prog 25 #[.int .u32 x] w fun e w' => e = .returned (.int .i64 (wrap32 x)) ∧ w = w' := by
  go_enter Try.func25, Try.ntmps25
  go_wp2
  go_ret
  exact ⟨ret_int (wrap64_wrap32 x), rfl⟩

theorem bits_word (n : Int) (w : World) :
    Calls Try.prog 27 #[.int .i64 n] w fun e w' => e = .returned (.int .u32 (n % 4294967296)) ∧ w = w' := by
  go_enter Try.func27, Try.ntmps27
  go_wp2
  go_ret
  exact ⟨rfl, rfl⟩

theorem bits_rotl (x n : Int) (w : World) (hx : 0 ≤ x) (hx' : x < 4294967296) (hn : -31 ≤ n) (hn' : n ≤ 0) :
    Calls Try.prog 47 #[.int .u32 x, .int .i64 n] w fun e w' => e = .returned (.int .u32 (Ror x (-n))) ∧ w = w' := by
  have h := u64_and31 n
  have hr := rotl x n hx hx' hn hn'
  have HR := Lib.hid hr
  clear hr
  have h0 : 0 ≤ n % 32 := by omega
  have h1 : n % 32 < 32 := by omega
  go_enter Try.func47, Try.ntmps47
  go_wp2
  go_ret
  exact ⟨ret_int HR.out, rfl⟩

theorem bits_ror (x n : Int) (w : World) (hx : 0 ≤ x) (hx' : x < 4294967296) (hn : 0 ≤ n) (hn' : n < 4294967296) :
    Calls Try.prog 22 #[.int .u32 x, .int .u32 n] w fun e w' => e = .returned (.int .u32 (Ror x n)) ∧ w = w' := by
  have h1 : 0 ≤ n % 32 := by omega
  have h2 : n % 32 < 32 := by omega
  have HR := Lib.hid (show Ror x (n % 32) = Ror x n by unfold Ror; rw [show n % 32 % 32 = n % 32 by omega])
  go_enter Try.func22, Try.ntmps22
  go_wp2_with fail
  refine (bits_rotl x _ _ hx hx' (by omega) (by omega)).mono ?_
  rintro e w' ⟨rfl, rfl⟩
  go_wp2_with fail
  go_ret
  exact ⟨ret_int HR.out, rfl⟩

theorem bits_inside (lo n : Int) (w : World) (hx : -9223372036854775808 ≤ lo) (hx' : lo ≤ 9223372036854775807) (hn : -9223372036854775808 ≤ n) (hn' : n ≤ 9223372036854775807) :
    Calls Try.prog 48 #[.int .i64 lo, .int .i64 n] w fun e w' => e = .returned (.bool (may lo n)) ∧ w = w' := by
  go_enter Try.func48, Try.ntmps48
  go_wp2
  all_goals go_ret
  all_goals refine ⟨ret_bool ?_, rfl⟩
  all_goals (rw [Bool.eq_iff_iff, may_iff]; simp; omega)

theorem bits_mask (n : Int) (w : World) (h0 : 1 ≤ n) (h1 : n ≤ 32) :
    Calls Try.prog 49 #[.int .i64 n] w fun e w' => e = .returned (.int .u32 (2 ^ n.toNat - 1)) ∧ w = w' := by
  have HR := Lib.hid (mask_val n h0 h1)
  go_enter Try.func49, Try.ntmps49
  go_wp2
  go_ret
  exact ⟨ret_int HR.out, rfl⟩

theorem bits_get (x lo n : Int) (w : World) (hx : 0 ≤ x) (hx' : x < 4294967296) (hl : -9223372036854775808 ≤ lo) (hl' : lo ≤ 9223372036854775807) (hn : -9223372036854775808 ≤ n) (hn' : n ≤ 9223372036854775807) :
    Calls Try.prog 24 #[.int .u32 x, .int .i64 lo, .int .i64 n] w fun e w' => e = .returned (.int .u32 (Get x lo n)) ∧ ∃ k, w' = w.drewN k := by
  cases hm : may lo n
  · go_enter Try.func24, Try.ntmps24
    go_wp2_with (go_at_call 48; refine (bits_inside lo n _ hl hl' hn hn').mono ?_; rintro e w' ⟨rfl, rfl⟩)
    go_ret
    exact ⟨ret_int (by simp [Get, hm]), 0, rfl⟩
  · have hi := (may_iff lo n).1 hm
    have HG := Lib.hid (get_val x lo n hx hx' hm)
    go_enter Try.func24, Try.ntmps24
    go_wp2_with (go_at_call 48; refine (bits_inside lo n _ hl hl' hn hn').mono ?_; rintro e w' ⟨rfl, rfl⟩)
    go_quiet ((go_at_call 49; exact quiet_eq (bits_mask _ _ (by omega) (by omega))))
    go_wp2
    go_ret
    exact ⟨ret_int HG.out, nq, rfl⟩

theorem bits_put (x lo n v : Int) (w : World) (hx : 0 ≤ x) (hx' : x < 4294967296) (hv : 0 ≤ v) (hv' : v < 4294967296) (hl : -9223372036854775808 ≤ lo) (hl' : lo ≤ 9223372036854775807) (hn : -9223372036854775808 ≤ n) (hn' : n ≤ 9223372036854775807) :
    Calls Try.prog 30 #[.int .u32 x, .int .i64 lo, .int .i64 n, .int .u32 v] w fun e w' => e = .returned (.int .u32 (Put x lo n v)) ∧ w = w' := by
  cases hm : may lo n
  · go_enter Try.func30, Try.ntmps30
    go_wp2_with (go_at_call 48; refine (bits_inside lo n _ hl hl' hn hn').mono ?_; rintro e w' ⟨rfl, rfl⟩)
    go_ret
    exact ⟨ret_int (by simp [Put, hm]), rfl⟩
  · have hi := (may_iff lo n).1 hm
    go_enter Try.func30, Try.ntmps30
    go_wp2_with (first | (go_at_call 48; refine (bits_inside lo n _ hl hl' hn hn').mono ?_; rintro e w' ⟨rfl, rfl⟩) | (go_at_call 49; refine (bits_mask _ _ (by omega) (by omega)).mono ?_; rintro e w' ⟨rfl, rfl⟩))
    go_ret
    exact ⟨ret_int (put_val x lo n v hx hx' hv hv' hm), rfl⟩

theorem bits_extend (v n : Int) (w : World) (hv : 0 ≤ v) (hv' : v < 4294967296) :
    Calls Try.prog 13 #[.int .u32 v, .int .i64 n] w fun e w' => e = .returned (.int .i64 (Extend v n)) ∧ w = w' := by
  cases hm : few n
  · have hi := (few_no n).1 hm
    go_enter Try.func13, Try.ntmps13
    go_wp2
    all_goals go_ret
    all_goals exact ⟨ret_int (by simp [Extend, hm]), rfl⟩
  · have hi := (few_iff n).1 hm
    go_enter Try.func13, Try.ntmps13
    go_wp2
    go_ret
    exact ⟨ret_int (extend_val v n hi.1 hi.2), rfl⟩

theorem bits_fits (v n : Int) (w : World) (hv : -9223372036854775808 ≤ v) (hv' : v ≤ 9223372036854775807) :
    Calls Try.prog 15 #[.int .i64 v, .int .i64 n] w fun e w' => e = .returned (.bool (Fits v n)) ∧ w = w' := by
  go_enter Try.func15, Try.ntmps15
  go_wp2
  all_goals go_ret
  all_goals refine ⟨ret_bool ?_, rfl⟩
  all_goals (rw [Bool.eq_iff_iff]; simp only [Fits, Bool.and_eq_true, decide_eq_true_eq, few_iff])
  · rw [wrap64_neg_pow _ (by omega)] at *; rw [wrap64_pow _ (by omega)] at *; omega
  · rw [wrap64_neg_pow _ (by omega)] at *; simp; omega
  · simp; omega
  · simp; omega
end Go.Proofs.Ytbnlfopghmeacaa
