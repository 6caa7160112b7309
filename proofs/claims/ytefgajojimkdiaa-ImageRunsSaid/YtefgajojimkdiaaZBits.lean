/-
  What the functions of the package bits and of its reference compute, each function once.
-/
import Derived.Test.YtefgajojimkdiaaProg
import Derived.Test.YtefgajojimkdiaaZLaw
import Derived.WalkKit
import Derived.BigQuiet
import Derived.Deep.QuietTactic
import Derived.Lib.Hide
namespace Go.Proofs.Ytefgajojimkdiaa
set_option linter.unusedVariables false
set_option linter.unusedSimpArgs false
open Go.RowKit Bw

theorem ret_int {k : IntKind} {a b : Int} (h : a = b) : Ending.returned (.int k a) = .returned (.int k b) := by rw [h]
theorem ret_bool {a b : Bool} (h : a = b) : Ending.returned (.bool a) = .returned (.bool b) := by rw [h]

theorem wrap64_wrap32 (x : Int) : wrap64 (wrap32 x) = wrap32 x := by unfold wrap64 wrap32; omega

theorem quiet_eq {P : Program} {f : FuncId} {args : Array Value} {w : World} {n : Nat} {v : Value}
    (h : Calls P f args (w.drewN n) fun e w' => e = .returned v ∧ w.drewN n = w') : Calls P f args (w.drewN n) fun e w'' => e = .returned v ∧ ∃ m, w'' = w.drewN m :=
  h.mono fun _ _ ⟨he, hm⟩ => ⟨he, n, hm.symm⟩


theorem quiet_add {P : Program} {f : FuncId} {args : Array Value} {w : World} {a n : Nat} {v : Value}
    (h : Calls P f args (w.drewN (a + n)) fun e w' => e = .returned v ∧ ∃ m, w' = (w.drewN (a + n)).drewN m) :
    Calls P f args (w.drewN (a + n)) fun e w'' => e = .returned v ∧ ∃ m, w'' = w.drewN (a + m) :=
  h.mono fun _ _ ⟨he, m, hm⟩ => ⟨he, n + m, by rw [hm, World.drewN_drewN, Nat.add_assoc]⟩
theorem quiet_add_eq {P : Program} {f : FuncId} {args : Array Value} {w : World} {a n : Nat} {v : Value}
    (h : Calls P f args (w.drewN (a + n)) fun e w' => e = .returned v ∧ w.drewN (a + n) = w') :
    Calls P f args (w.drewN (a + n)) fun e w'' => e = .returned v ∧ ∃ m, w'' = w.drewN (a + m) :=
  h.mono fun _ _ ⟨he, hm⟩ => ⟨he, n, hm.symm⟩

theorem bcell {W w1 : World} (hb : Below W.heap.size W w1) : (∀ b o, b < W.heap.size → w1.cell? ⟨b, o, none⟩ = W.cell? ⟨b, o, none⟩) ∧ (∀ b o, b < W.heap.size → w1.frozen? ⟨b, o, none⟩ = W.frozen? ⟨b, o, none⟩) :=
  ⟨fun b o h => hb.cell (p := ⟨b, o, none⟩) h, fun b o h => hb.frozen (p := ⟨b, o, none⟩) h⟩

theorem bits_lsl (x n : Int) (w : World) (hx : 0 ≤ x) (hx' : x < 4294967296) (hn : 0 ≤ n) (hn' : n < 4294967296) :
    Calls Try.prog 95 #[.int .u32 x, .int .u32 n] w fun e w' => e = .returned (.int .u32 (Lsl x n)) ∧ w = w' := by
  have h1 : 0 ≤ n % 32 := by omega
  have h2 : n % 32 < 32 := by omega
  go_enter Try.func95, Try.ntmps95
  go_wp2
  go_ret
  exact ⟨rfl, rfl⟩

theorem bits_asr (x n : Int) (w : World) (hx : 0 ≤ x) (hx' : x < 4294967296) (hn : 0 ≤ n) (hn' : n < 4294967296) :
    Calls Try.prog 96 #[.int .u32 x, .int .u32 n] w fun e w' => e = .returned (.int .u32 (Asr x n)) ∧ w = w' := by
  have h1 : 0 ≤ n % 32 := by omega
  have h2 : n % 32 < 32 := by omega
  go_enter Try.func96, Try.ntmps96
  go_wp2
  go_ret
  exact ⟨rfl, rfl⟩

theorem bits_signed (x : Int) (w : World) (hx : 0 ≤ x) (hx' : x < 4294967296) :
    Calls Try.prog 91 #[.int .u32 x] w fun e w' => e = .returned (.int .i64 (wrap32 x)) ∧ w = w' := by
  go_enter Try.func91, Try.ntmps91
  go_wp2
  go_ret
  exact ⟨ret_int (wrap64_wrap32 x), rfl⟩

theorem bits_rotl (x n : Int) (w : World) (hx : 0 ≤ x) (hx' : x < 4294967296) (hn : -31 ≤ n) (hn' : n ≤ 0) :
    Calls Try.prog 111 #[.int .u32 x, .int .i64 n] w fun e w' => e = .returned (.int .u32 (Ror x (-n))) ∧ w = w' := by
  have h := u64_and31 n
  have hr := rotl x n hx hx' hn hn'
  have HR := Lib.hid hr
  clear hr
  have h0 : 0 ≤ n % 32 := by omega
  have h1 : n % 32 < 32 := by omega
  go_enter Try.func111, Try.ntmps111
  go_wp2
  go_ret
  exact ⟨ret_int HR.out, rfl⟩

theorem bits_ror (x n : Int) (w : World) (hx : 0 ≤ x) (hx' : x < 4294967296) (hn : 0 ≤ n) (hn' : n < 4294967296) :
    Calls Try.prog 97 #[.int .u32 x, .int .u32 n] w fun e w' => e = .returned (.int .u32 (Ror x n)) ∧ w = w' := by
  have h1 : 0 ≤ n % 32 := by omega
  have h2 : n % 32 < 32 := by omega
  have HR := Lib.hid (show Ror x (n % 32) = Ror x n by unfold Ror; rw [show n % 32 % 32 = n % 32 by omega])
  go_enter Try.func97, Try.ntmps97
  go_wp2_with fail
  refine (bits_rotl x _ _ hx hx' (by omega) (by omega)).mono ?_
  rintro e w' ⟨rfl, rfl⟩
  go_wp2_with fail
  go_ret
  exact ⟨ret_int HR.out, rfl⟩

theorem bits_inside (lo n : Int) (w : World) (hx : -9223372036854775808 ≤ lo) (hx' : lo ≤ 9223372036854775807) (hn : -9223372036854775808 ≤ n) (hn' : n ≤ 9223372036854775807) :
    Calls Try.prog 89 #[.int .i64 lo, .int .i64 n] w fun e w' => e = .returned (.bool (may lo n)) ∧ w = w' := by
  go_enter Try.func89, Try.ntmps89
  go_wp2
  all_goals go_ret
  all_goals refine ⟨ret_bool ?_, rfl⟩
  all_goals (rw [Bool.eq_iff_iff, may_iff]; simp; omega)

theorem bits_mask (n : Int) (w : World) (h0 : 1 ≤ n) (h1 : n ≤ 32) :
    Calls Try.prog 90 #[.int .i64 n] w fun e w' => e = .returned (.int .u32 (2 ^ n.toNat - 1)) ∧ w = w' := by
  have HR := Lib.hid (mask_val n h0 h1)
  go_enter Try.func90, Try.ntmps90
  go_wp2
  go_ret
  exact ⟨ret_int HR.out, rfl⟩

theorem bits_get (x lo n : Int) (w : World) (hx : 0 ≤ x) (hx' : x < 4294967296) (hl : -9223372036854775808 ≤ lo) (hl' : lo ≤ 9223372036854775807) (hn : -9223372036854775808 ≤ n) (hn' : n ≤ 9223372036854775807) :
    Calls Try.prog 74 #[.int .u32 x, .int .i64 lo, .int .i64 n] w fun e w' => e = .returned (.int .u32 (Get x lo n)) ∧ ∃ k, w' = w.drewN k := by
  cases hm : may lo n
  · go_enter Try.func74, Try.ntmps74
    go_wp2_with (go_at_call 89; refine (bits_inside lo n _ hl hl' hn hn').mono ?_; rintro e w' ⟨rfl, rfl⟩)
    go_ret
    exact ⟨ret_int (by simp [Get, hm]), 0, rfl⟩
  · have hi := (may_iff lo n).1 hm
    have HG := Lib.hid (get_val x lo n hx hx' hm)
    go_enter Try.func74, Try.ntmps74
    go_wp2_with (go_at_call 89; refine (bits_inside lo n _ hl hl' hn hn').mono ?_; rintro e w' ⟨rfl, rfl⟩)
    go_quiet ((go_at_call 90; exact quiet_eq (bits_mask _ _ (by omega) (by omega))))
    go_wp2
    go_ret
    exact ⟨ret_int HG.out, nq, rfl⟩

theorem bits_put (x lo n v : Int) (w : World) (hx : 0 ≤ x) (hx' : x < 4294967296) (hv : 0 ≤ v) (hv' : v < 4294967296) (hl : -9223372036854775808 ≤ lo) (hl' : lo ≤ 9223372036854775807) (hn : -9223372036854775808 ≤ n) (hn' : n ≤ 9223372036854775807) :
    Calls Try.prog 94 #[.int .u32 x, .int .i64 lo, .int .i64 n, .int .u32 v] w fun e w' => e = .returned (.int .u32 (Put x lo n v)) ∧ w = w' := by
  cases hm : may lo n
  · go_enter Try.func94, Try.ntmps94
    go_wp2_with (go_at_call 89; refine (bits_inside lo n _ hl hl' hn hn').mono ?_; rintro e w' ⟨rfl, rfl⟩)
    go_ret
    exact ⟨ret_int (by simp [Put, hm]), rfl⟩
  · have hi := (may_iff lo n).1 hm
    go_enter Try.func94, Try.ntmps94
    go_wp2_with (first | (go_at_call 89; refine (bits_inside lo n _ hl hl' hn hn').mono ?_; rintro e w' ⟨rfl, rfl⟩) | (go_at_call 90; refine (bits_mask _ _ (by omega) (by omega)).mono ?_; rintro e w' ⟨rfl, rfl⟩))
    go_ret
    exact ⟨ret_int (put_val x lo n v hx hx' hv hv' hm), rfl⟩

theorem bits_extend (v n : Int) (w : World) (hv : 0 ≤ v) (hv' : v < 4294967296) :
    Calls Try.prog 75 #[.int .u32 v, .int .i64 n] w fun e w' => e = .returned (.int .i64 (Extend v n)) ∧ w = w' := by
  cases hm : few n
  · have hi := (few_no n).1 hm
    go_enter Try.func75, Try.ntmps75
    go_wp2
    all_goals go_ret
    all_goals exact ⟨ret_int (by simp [Extend, hm]), rfl⟩
  · have hi := (few_iff n).1 hm
    go_enter Try.func75, Try.ntmps75
    go_wp2
    go_ret
    exact ⟨ret_int (extend_val v n hi.1 hi.2), rfl⟩

theorem bits_fits (v n : Int) (w : World) (hv : -9223372036854775808 ≤ v) (hv' : v ≤ 9223372036854775807) :
    Calls Try.prog 72 #[.int .i64 v, .int .i64 n] w fun e w' => e = .returned (.bool (Fits v n)) ∧ w = w' := by
  go_enter Try.func72, Try.ntmps72
  go_wp2
  all_goals go_ret
  all_goals refine ⟨ret_bool ?_, rfl⟩
  all_goals (rw [Bool.eq_iff_iff]; simp only [Fits, Bool.and_eq_true, decide_eq_true_eq, few_iff])
  · rw [wrap64_neg_pow _ (by omega)] at *; rw [wrap64_pow _ (by omega)] at *; omega
  · rw [wrap64_neg_pow _ (by omega)] at *; simp; omega
  · simp; omega
  · simp; omega
end Go.Proofs.Ytefgajojimkdiaa

/-
  What the functions of the package alu compute, each function once: the small ones.
-/
namespace Go.Proofs.Ytefgajojimkdiaa
set_option linter.unusedVariables false
set_option linter.unusedSimpArgs false
open Go.RowKit Bw

theorem two_ints {k1 k2 : IntKind} {a b c d : Int} (h : a = b) (h' : c = d) : Ending.returned (.tuple #[.int k1 a, .int k2 c]) = .returned (.tuple #[.int k1 b, .int k2 d]) := by rw [h, h']

theorem alu_over (x : Int) (w : World) (hx : -9223372036854775808 ≤ x) (hx' : x ≤ 9223372036854775807) :
    Calls Try.prog 98 #[.int .i64 x] w fun e w' => e = .returned (.bool (Alu.out x)) ∧ w = w' := by
  go_enter Try.func98, Try.ntmps98
  go_wp2
  go_ret
  exact ⟨ret_bool (out_eq x hx hx'), rfl⟩

theorem alu_product (u : Bool) (b n : Int) (w : World) (hb : 0 ≤ b) (hb' : b < 4294967296) (hn : 0 ≤ n) (hn' : n < 4294967296) :
    Calls Try.prog 99 #[.bool u, .int .u32 b, .int .u32 n] w fun e w' => e = .returned (.tuple #[.int .u32 (Alu.prod u b n % 4294967296), .int .u32 (Alu.prod u b n / 4294967296 % 4294967296)]) ∧ w = w' := by
  have hbb := wrap32_bd b
  have hbn := wrap32_bd n
  have hm := mul_bd _ _ hbb hbn
  cases u
  · go_enter Try.func99, Try.ntmps99
    go_wp2
    go_ret2
    exact ⟨two_ints (low_word _) (high_word _), rfl⟩
  · go_enter Try.func99, Try.ntmps99
    go_wp2
    go_ret2
    exact ⟨two_ints (low_word _) (high_word _), rfl⟩

theorem alu_quotient (b n : Int) (w : World) (hb : 0 ≤ b) (hb' : b < 4294967296) (hn : 0 ≤ n) (hn' : n < 4294967296) :
    Calls Try.prog 100 #[.int .u32 b, .int .u32 n] w fun e w' => e = .returned (.tuple #[.int .u32 (Alu.R 11 false b n 0 Fl.zero), .int .u32 (Alu.H 11 false b n 0)]) ∧ ∃ k, w' = w.drewN k := by
  have hbb := wrap32_bd b
  have hbn := wrap32_bd n
  by_cases h0 : 0 < wrap32 n
  · have h1 : (wrap32 n == 0) = false := by simp; omega
    have t1 := tdiv_bd _ _ hbb h0
    have t2 := tmod_bd (wrap32 b) _ h0
    go_enter Try.func100, Try.ntmps100
    go_wp2
    go_quiet (fail)
    go_wp2
    · go_ret2
      have q := quo_neg (wrap32 b) (wrap32 n) h0 (by assumption)
      exact ⟨two_ints (by simp [Alu.R, h0, ← q.1]) (by simp only [Alu.H, h0, if_true]; rw [← q.2]; simp), nq, rfl⟩
    · go_ret2
      have q := quo_pos (wrap32 b) (wrap32 n) h0 (by assumption)
      exact ⟨two_ints (by simp [Alu.R, h0, ← q.1]) (by simp only [Alu.H, h0, if_true]; rw [← q.2]; simp), nq, rfl⟩
  · go_enter Try.func100, Try.ntmps100
    go_wp2
    go_ret2
    exact ⟨two_ints (by simp [Alu.R]; intro; omega) (by simp [Alu.H]; intro; omega), 0, rfl⟩

theorem below_drewN0 {B : Nat} {a w : World} (h : Below B a w) (n : Nat) : Below B a (w.drewN n) := ⟨h.os, h.tape, h.output, h.size, h.block⟩

/-- What Do returns, out of its parts. -/
theorem alu_ret {r h R H : Int} {c v : Bool} {F : Fl} (h1 : r = R) (hb : 0 ≤ R ∧ R < 4294967296) (h2 : h = H) (hn : F.n = decide (2147483648 ≤ R)) (hz : F.z = decide (R = 0)) (hc : c = F.c) (hv : v = F.v) :
    Ending.returned (.tuple #[.int .u32 r, .int .u32 h, .agg #[.bool (r / 2147483648 == 1), .bool (r == 0), .bool c, .bool v], .bool true]) = .returned (.tuple #[.int .u32 R, .int .u32 H, .agg #[.bool F.n, .bool F.z, .bool F.c, .bool F.v], .bool true]) := by
  subst h1 h2 hc hv
  have e1 : (r / 2147483648 == 1) = F.n := by
    rw [hn, Bool.eq_iff_iff]; simp; omega
  have e2 : (r == 0) = F.z := by rw [hz]; rfl
  rw [e1, e2]

end Go.Proofs.Ytefgajojimkdiaa

/-
  What the functions of the reference of the package bits compute, each function once: the same as the package itself.
-/
namespace Go.Proofs.Ytefgajojimkdiaa
set_option linter.unusedVariables false
set_option linter.unusedSimpArgs false
open Go.RowKit Bw

theorem ref01_pow (n : Int) (w : World) (hn : 0 ≤ n) (hn' : n ≤ 63) :
    Calls Try.prog 70 #[.int .u32 n] w fun e w' => e = .returned (.int .u64 (2 ^ n.toNat)) ∧ w = w' := by
  go_enter Try.func70, Try.ntmps70
  go_wp2
  go_loop [3, 4] (fun p i => ∃ k : Nat, (k : Int) ≤ n ∧ i = .int .u32 k ∧ p = .int .u64 (2 ^ k)) (fun _ i => n.toNat - (intOf i).toNat)
  case atStart => exact ⟨0, hn, rfl, rfl⟩
  case round =>
    obtain ⟨k, hk, rfl, rfl⟩ := hrel
    by_cases hlt : (k : Int) < n
    · go_wp2
      go_round
      case rel => exact ⟨k + 1, by omega, by go_num, by rw [powStep k (by omega)]⟩
      case measure => simp [intOf]; omega
    · go_wp2
      go_ret
      exact ⟨ret_int (by rw [show n.toNat = k by omega]), rfl⟩

theorem ref01_lsl (x n : Int) (w : World) (hx : 0 ≤ x) (hx' : x < 4294967296) (hn : 0 ≤ n) (hn' : n < 4294967296) :
    Calls Try.prog 102 #[.int .u32 x, .int .u32 n] w fun e w' => e = .returned (.int .u32 (Lsl x n)) ∧ w = w' := by
  go_enter Try.func102, Try.ntmps102
  go_wp2_with (go_at_call 70; refine (ref01_pow _ _ (by omega) (by omega)).mono ?_; rintro e w' ⟨rfl, rfl⟩)
  go_ret
  exact ⟨ret_int (refLsl_val x n hx hx'), rfl⟩

theorem ref01_asr (x n : Int) (w : World) (hx : 0 ≤ x) (hx' : x < 4294967296) (hn : 0 ≤ n) (hn' : n < 4294967296) :
    Calls Try.prog 103 #[.int .u32 x, .int .u32 n] w fun e w' => e = .returned (.int .u32 (Asr x n)) ∧ w = w' := by
  obtain ⟨m, hm, hm'⟩ : ∃ m : Nat, n % 32 = m ∧ m < 32 := ⟨(n % 32).toNat, by omega, by omega⟩
  have h1 : 0 ≤ n % 32 := by omega
  have h2 : n % 32 < 32 := by omega
  have HM := Lib.hid hm
  clear hm
  go_enter Try.func103, Try.ntmps103
  go_wp2
  go_loop [0, 5] (fun y i => ∃ k : Nat, k ≤ m ∧ i = .int .u32 k ∧ y = .int .u32 (wrap32 x / 2 ^ k % 4294967296)) (fun _ i => m - (intOf i).toNat)
  case atStart => exact ⟨0, by omega, rfl, by rw [← asr_start x hx hx']⟩
  case round =>
    obtain ⟨k, hk, rfl, rfl⟩ := hrel
    by_cases hlt : (k : Int) < n % 32
    · go_wp2
      go_round
      case rel => exact ⟨k + 1, by have := HM.out; omega, by go_num, by rw [div_succ]; have := wrap32_div_bd x k; congr 1; generalize wrap32 x / 2 ^ k = y at *; omega⟩
      case measure => have := HM.out; simp [intOf]; omega
    · go_wp2
      go_ret
      exact ⟨ret_int (by have := HM.out; rw [Asr, show (n % 32).toNat = k by omega]), rfl⟩

theorem ref01_ror (x n : Int) (w : World) (hx : 0 ≤ x) (hx' : x < 4294967296) (hn : 0 ≤ n) (hn' : n < 4294967296) :
    Calls Try.prog 104 #[.int .u32 x, .int .u32 n] w fun e w' => e = .returned (.int .u32 (Ror x n)) ∧ w = w' := by
  obtain ⟨m, hm, hm'⟩ : ∃ m : Nat, n % 32 = m ∧ m < 32 := ⟨(n % 32).toNat, by omega, by omega⟩
  have h1 : 0 ≤ n % 32 := by omega
  have h2 : n % 32 < 32 := by omega
  have HM := Lib.hid hm
  clear hm
  go_enter Try.func104, Try.ntmps104
  go_wp2
  go_loop [0, 5] (fun y i => ∃ k : Nat, k ≤ m ∧ i = .int .u32 k ∧ y = .int .u32 (x / 2 ^ k + x % 2 ^ k * 2 ^ (32 - k))) (fun _ i => m - (intOf i).toNat)
  case atStart => exact ⟨0, by omega, rfl, by rw [Int.pow_zero]; simp [Int.emod_one]⟩
  case round =>
    obtain ⟨k, hk, rfl, rfl⟩ := hrel
    have hb := ror_bd x k hx hx' (by omega)
    by_cases hlt : (k : Int) < n % 32
    · go_wp2
      go_round
      case rel => exact ⟨k + 1, by have := HM.out; omega, by go_num, by rw [ror_step x k (by omega)]⟩
      case measure => have := HM.out; simp [intOf]; omega
    · go_wp2
      go_ret
      exact ⟨ret_int (by have := HM.out; rw [Ror, show (n % 32).toNat = k by omega]), rfl⟩

theorem ref01_signed (x : Int) (w : World) (hx : 0 ≤ x) (hx' : x < 4294967296) :
    Calls Try.prog 101 #[.int .u32 x] w fun e w' => e = .returned (.int .i64 (wrap32 x)) ∧ w = w' := by
  go_enter Try.func101, Try.ntmps101
  go_wp2
  all_goals go_ret
  all_goals exact ⟨ret_int (by unfold wrap32; omega), rfl⟩

theorem ref01_word (n : Int) (w : World) (hn : -9223372036854775808 ≤ n) (hn' : n ≤ 9223372036854775807) :
    Calls Try.prog 52 #[.int .i64 n] w fun e w' => e = .returned (.int .u32 (n % 4294967296)) ∧ w = w' := by
  go_enter Try.func52, Try.ntmps52
  go_wp2
  all_goals go_ret
  · exact ⟨ret_int (word_val n), rfl⟩
  · exact ⟨ret_int (tmod_32 n).1, rfl⟩

theorem ref01_may (lo n : Int) (w : World) (hx : -9223372036854775808 ≤ lo) (hx' : lo ≤ 9223372036854775807) (hn : -9223372036854775808 ≤ n) (hn' : n ≤ 9223372036854775807) :
    Calls Try.prog 68 #[.int .i64 lo, .int .i64 n] w fun e w' => e = .returned (.bool (may lo n)) ∧ w = w' := by
  go_enter Try.func68, Try.ntmps68
  go_wp2
  all_goals go_ret
  all_goals refine ⟨ret_bool ?_, rfl⟩
  all_goals (rw [Bool.eq_iff_iff, may_iff]; simp; omega)

theorem ref01_get (x lo n : Int) (w : World) (hx : 0 ≤ x) (hx' : x < 4294967296) (hl : -9223372036854775808 ≤ lo) (hl' : lo ≤ 9223372036854775807) (hn : -9223372036854775808 ≤ n) (hn' : n ≤ 9223372036854775807) :
    Calls Try.prog 69 #[.int .u32 x, .int .i64 lo, .int .i64 n] w fun e w' => e = .returned (.int .u32 (Get x lo n)) ∧ ∃ k, w' = w.drewN k := by
  cases hm : may lo n
  · go_enter Try.func69, Try.ntmps69
    go_wp2_with (go_at_call 68; refine (ref01_may lo n _ hl hl' hn hn').mono ?_; rintro e w' ⟨rfl, rfl⟩)
    go_ret
    exact ⟨ret_int (by simp [Get, hm]), 0, rfl⟩
  · have hi := (may_iff lo n).1 hm
    have e1 : lo % 4294967296 = lo := by omega
    have e2 : n % 4294967296 = n := by omega
    have p1 := pow_pos lo.toNat
    have p2 := pow_pos n.toNat
    have HG := Lib.hid (refGet_val' x lo n hx hx' hm)
    go_enter Try.func69, Try.ntmps69
    go_wp2_with (go_at_call 68; refine (ref01_may lo n _ hl hl' hn hn').mono ?_; rintro e w' ⟨rfl, rfl⟩)
    go_quiet ((go_at_call 70; exact quiet_eq (ref01_pow _ _ (by omega) (by omega))))
    go_wp2
    go_ret
    exact ⟨ret_int HG.out, nq, rfl⟩

theorem ref01_put (x lo n v : Int) (w : World) (hx : 0 ≤ x) (hx' : x < 4294967296) (hv : 0 ≤ v) (hv' : v < 4294967296) (hl : -9223372036854775808 ≤ lo) (hl' : lo ≤ 9223372036854775807) (hn : -9223372036854775808 ≤ n) (hn' : n ≤ 9223372036854775807) :
    Calls Try.prog 50 #[.int .u32 x, .int .i64 lo, .int .i64 n, .int .u32 v] w fun e w' => e = .returned (.int .u32 (Put x lo n v)) ∧ ∃ k, w' = w.drewN k := by
  cases hm : may lo n
  · go_enter Try.func50, Try.ntmps50
    go_wp2_with (go_at_call 68; refine (ref01_may lo n _ hl hl' hn hn').mono ?_; rintro e w' ⟨rfl, rfl⟩)
    go_ret
    exact ⟨ret_int (by simp [Put, hm]), 0, rfl⟩
  · have hi := (may_iff lo n).1 hm
    have e1 : lo % 4294967296 = lo := by omega
    have e2 : n % 4294967296 = n := by omega
    have p1 := pow_pos lo.toNat
    have p2 := pow_pos n.toNat
    have hg := get_bd x lo n hx hx'
    go_enter Try.func50, Try.ntmps50
    go_wp2_with fail
    refine (ref01_may lo n _ hl hl' hn hn').mono ?_
    rintro e w' ⟨rfl, rfl⟩
    go_wp2_with fail
    refine (ref01_get x lo n _ hx hx' hl hl' hn hn').mono ?_
    rintro e w' ⟨rfl, k, rfl⟩
    go_wp2_with fail
    refine (ref01_pow _ _ (by omega) (by omega)).mono ?_
    rintro e w' ⟨rfl, rfl⟩
    go_wp2_with fail
    go_quiet ((go_at_call 70; exact quiet_add_eq (ref01_pow _ _ (by omega) (by omega))))
    go_wp2
    go_ret
    exact ⟨ret_int (refPut_val x lo n v hx hx' hv hm), k + nq, by rw [World.drewN_drewN]⟩

theorem ref01_extend (v n : Int) (w : World) (hv : 0 ≤ v) (hv' : v < 4294967296) :
    Calls Try.prog 83 #[.int .u32 v, .int .i64 n] w fun e w' => e = .returned (.int .i64 (Extend v n)) ∧ w = w' := by
  cases hm : few n
  · have hi := (few_no n).1 hm
    go_enter Try.func83, Try.ntmps83
    go_wp2
    all_goals go_ret
    all_goals exact ⟨ret_int (by simp [Extend, hm]), rfl⟩
  · obtain ⟨hi1, hi2⟩ := (few_iff n).1 hm
    have e2 : n % 4294967296 = n := by omega
    have p2 := pow_pos n.toNat
    have p3 : (2 : Int) ^ n.toNat ≤ 2 ^ 32 := pow_mono (by omega)
    go_enter Try.func83, Try.ntmps83
    go_wp2_with (go_at_call 70; refine (ref01_pow _ _ (by omega) (by omega)).mono ?_; rintro e w' ⟨rfl, rfl⟩)
    all_goals go_ret
    · exact ⟨ret_int ((extend_eq v n _ hm rfl).1 (by assumption)), rfl⟩
    · exact ⟨ret_int ((extend_eq v n _ hm rfl).2 (by assumption)), rfl⟩

theorem ref01_fits (v n : Int) (w : World) (hv : -9223372036854775808 ≤ v) (hv' : v ≤ 9223372036854775807) :
    Calls Try.prog 67 #[.int .i64 v, .int .i64 n] w fun e w' => e = .returned (.bool (Fits v n)) ∧ w = w' := by
  cases hm : few n
  · have hi := (few_no n).1 hm
    go_enter Try.func67, Try.ntmps67
    go_wp2
    all_goals go_ret
    all_goals exact ⟨ret_bool (by simp [Fits, hm]), rfl⟩
  · obtain ⟨hi1, hi2⟩ := (few_iff n).1 hm
    have e2 : n % 4294967296 = n := by omega
    have p2 := pow_pos n.toNat
    have p3 : (2 : Int) ^ n.toNat ≤ 2 ^ 32 := pow_mono (by omega)
    go_enter Try.func67, Try.ntmps67
    go_wp2_with (go_at_call 70; refine (ref01_pow _ _ (by omega) (by omega)).mono ?_; rintro e w' ⟨rfl, rfl⟩)
    all_goals go_ret
    all_goals refine ⟨ret_bool ?_, rfl⟩
    all_goals (rw [fits_eq v n hm])
    · have h : -(2 ^ n.toNat / 2) ≤ v := by assumption
      simp [h]
    · have h : v < -(2 ^ n.toNat / 2) := by assumption
      simp; omega
end Go.Proofs.Ytefgajojimkdiaa

/-
  What the functions of the reference of the package alu compute, each function once: the small ones.
-/
namespace Go.Proofs.Ytefgajojimkdiaa
set_option linter.unusedVariables false
set_option linter.unusedSimpArgs false
open Go.RowKit Bw

theorem ref03_carry (u : Bool) (f : Fl) (w : World) :
    Calls Try.prog 105 #[.bool u, f.val] w fun e w' => e = .returned (.int .i64 (Alu.carry u f)) ∧ w.alloc (.cells #[.bool f.n, .bool f.z, .bool f.c, .bool f.v] 87) = w' := by
  obtain ⟨fn, fz, fc, fv⟩ := f
  simp only [Fl.val, Fl.cells]
  cases u <;> cases fc
  all_goals go_enter Try.func105, Try.ntmps105
  all_goals go_wp2
  all_goals go_ret
  all_goals exact ⟨rfl, rfl⟩

theorem ref03_floor (a b : Int) (w : World) (hb : 0 < b) (hb' : b ≤ 4294967296) (ha : -4611686018427387904 ≤ a) (ha' : a ≤ 4611686018427387904) :
    Calls Try.prog 106 #[.int .i64 a, .int .i64 b] w fun e w' => e = .returned (.int .i64 (a / b)) ∧ w = w' := by
  have h1 : (b == 0) = false := by simp; omega
  have q := floor_bd a b hb hb' ha ha'
  go_enter Try.func106, Try.ntmps106
  go_wp2
  all_goals go_ret
  all_goals have h2 := Int.mul_tdiv_add_tmod a b
  all_goals rw [Int.mul_comm] at h2
  · exact ⟨ret_int (quo_neg a b hb (by have : a < a.tdiv b * b := by assumption
                                       omega)).1, rfl⟩
  · exact ⟨ret_int (quo_pos a b hb (by have : a.tdiv b * b ≤ a := by assumption
                                       omega)).1, rfl⟩

end Go.Proofs.Ytefgajojimkdiaa

/-
  What the functions of the package risc compute, each function once.
-/
namespace Go.Proofs.Ytefgajojimkdiaa
set_option linter.unusedVariables false
set_option linter.unusedSimpArgs false
open Go.RowKit Bw

theorem risc_half (v n : Int) (w : World) (hv : -9223372036854775808 ≤ v) (hv' : v ≤ 9223372036854775807) (hn : 1 ≤ n) (hn' : n ≤ 62) :
    Calls Try.prog 71 #[.int .i64 v, .int .i64 n] w fun e w' => e = .returned (.bool (Ins.half v n)) ∧ w = w' := by
  have h1 := wrap64_pow n.toNat (by omega)
  go_enter Try.func71, Try.ntmps71
  go_wp2
  all_goals go_ret
  all_goals refine ⟨ret_bool ?_, rfl⟩
  all_goals (rw [Bool.eq_iff_iff]; simp only [Ins.half, decide_eq_true_eq]; simp; omega)

end Go.Proofs.Ytefgajojimkdiaa

/-
  What the functions of the reference of the package risc compute, each function once: the small ones.
-/
namespace Go.Proofs.Ytefgajojimkdiaa
set_option linter.unusedVariables false
set_option linter.unusedSimpArgs false
open Go.RowKit Bw

theorem ref02_in (n a b : Int) (w : World) :
    Calls Try.prog 66 #[.int .i64 n, .int .i64 a, .int .i64 b] w fun e w' => e = .returned (.bool (Ins.inb n a b)) ∧ w = w' := by
  go_enter Try.func66, Try.ntmps66
  go_wp2
  all_goals go_ret
  all_goals refine ⟨ret_bool ?_, rfl⟩
  all_goals (rw [Bool.eq_iff_iff]; simp only [Ins.inb, decide_eq_true_eq]; simp; omega)

theorem ref02_bit (b : Bool) (w : World) :
    Calls Try.prog 51 #[.bool b] w fun e w' => e = .returned (.int .u32 (Ins.bit b)) ∧ w = w' := by
  cases b
  all_goals go_enter Try.func51, Try.ntmps51
  all_goals go_wp2
  all_goals go_ret
  all_goals exact ⟨rfl, rfl⟩

theorem ref02_part (x lo n : Int) (w : World) (hx : 0 ≤ x) (hx' : x < 4294967296) (hl : -9223372036854775808 ≤ lo) (hl' : lo ≤ 9223372036854775807) (hn : -9223372036854775808 ≤ n) (hn' : n ≤ 9223372036854775807) :
    Calls Try.prog 82 #[.int .u32 x, .int .i64 lo, .int .i64 n] w fun e w' => e = .returned (.int .i64 (Get x lo n)) ∧ ∃ k, w' = w.drewN k := by
  have hb := get_bd x lo n hx hx'
  go_enter Try.func82, Try.ntmps82
  go_wp2_with fail
  refine (ref01_get x lo n _ hx hx' hl hl' hn hn').mono ?_
  rintro e w' ⟨rfl, k, rfl⟩
  go_wp2_with fail
  go_ret
  exact ⟨rfl, k, rfl⟩

end Go.Proofs.Ytefgajojimkdiaa
