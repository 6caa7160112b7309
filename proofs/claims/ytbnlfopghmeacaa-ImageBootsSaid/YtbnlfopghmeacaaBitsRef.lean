/-
  What the functions of the reference of the package bits compute, each function once: the same as the package itself.
-/
import Derived.Test.YtbnlfopghmeacaaBits
namespace Go.Proofs.Ytbnlfopghmeacaa
set_option linter.unusedVariables false
set_option linter.unusedSimpArgs false
open Go.RowKit Bw

theorem ref01_pow (n : Int) (w : World) (hn : 0 ≤ n) (hn' : n ≤ 63) :
    Calls Try.prog 46 #[.int .u32 n] w fun e w' => e = .returned (.int .u64 (2 ^ n.toNat)) ∧ w = w' := by
  go_enter Try.func46, Try.ntmps46
  go_wp2
  go_loop [3, 4] (fun p i => ∃ k : Nat, (k : Int) ≤ n ∧ i = .int .u32 k ∧ p = .int .u64 (2 ^ k)) (fun _ i => n.toNat - (intOf i).toNat)
  case atStart => exact ⟨0, hn, rfl, rfl⟩
  case round =>
    obtain ⟨k, hk, rfl, rfl⟩ := hrel
    by_cases hlt : (k : Int) < n
    · go_wp2
      go_round
      case rel => exact ⟨k + 1, by omega, by go_num, by rw [powStep k (by omega)]⟩
      case measure => simp [intOf]; omega
    · go_wp2
      go_ret
      exact ⟨ret_int (by rw [show n.toNat = k by omega]), rfl⟩

theorem ref01_lsl (x n : Int) (w : World) (hx : 0 ≤ x) (hx' : x < 4294967296) (hn : 0 ≤ n) (hn' : n < 4294967296) :
    Calls Try.prog 19 #[.int .u32 x, .int .u32 n] w fun e w' => e = .returned (.int .u32 (Lsl x n)) ∧ w = w' := by
  go_enter Try.func19, Try.ntmps19
  go_wp2_with (go_at_call 46; refine (ref01_pow _ _ (by omega) (by omega)).mono ?_; rintro e w' ⟨rfl, rfl⟩)
  go_ret
  exact ⟨ret_int (refLsl_val x n hx hx'), rfl⟩

theorem ref01_asr (x n : Int) (w : World) (hx : 0 ≤ x) (hx' : x < 4294967296) (hn : 0 ≤ n) (hn' : n < 4294967296) :
    Calls Try.prog 21 #[.int .u32 x, .int .u32 n] w fun e w' => e = .returned (.int .u32 (Asr x n)) ∧ w = w' := by
  obtain ⟨m, hm, hm'⟩ : ∃ m : Nat, n % 32 = m ∧ m < 32 := ⟨(n % 32).toNat, by omega, by omega⟩
  have h1 : 0 ≤ n % 32 := by omega
  have h2 : n % 32 < 32 := by omega
  have HM := Lib.hid hm
  clear hm
  go_enter Try.func21, Try.ntmps21
  go_wp2
  go_loop [0, 5] (fun y i => ∃ k : Nat, k ≤ m ∧ i = .int .u32 k ∧ y = .int .u32 (wrap32 x / 2 ^ k % 4294967296)) (fun _ i => m - (intOf i).toNat)
  case atStart => exact ⟨0, by omega, rfl, by rw [← asr_start x hx hx']⟩
  case round =>
    obtain ⟨k, hk, rfl, rfl⟩ := hrel
    by_cases hlt : (k : Int) < n % 32
    · go_wp2
      go_round
      case rel => exact ⟨k + 1, by have := HM.out; omega, by go_num, by rw [div_succ]; have := wrap32_div_bd x k; congr 1; generalize wrap32 x / 2 ^ k = y at *; omega⟩
      case measure => have := HM.out; simp [intOf]; omega
    · go_wp2
      go_ret
      exact ⟨ret_int (by have := HM.out; rw [Asr, show (n % 32).toNat = k by omega]), rfl⟩

theorem ref01_ror (x n : Int) (w : World) (hx : 0 ≤ x) (hx' : x < 4294967296) (hn : 0 ≤ n) (hn' : n < 4294967296) :
    Calls Try.prog 23 #[.int .u32 x, .int .u32 n] w fun e w' => e = .returned (.int .u32 (Ror x n)) ∧ w = w' := by
  obtain ⟨m, hm, hm'⟩ : ∃ m : Nat, n % 32 = m ∧ m < 32 := ⟨(n % 32).toNat, by omega, by omega⟩
  have h1 : 0 ≤ n % 32 := by omega
  have h2 : n % 32 < 32 := by omega
  have HM := Lib.hid hm
  clear hm
  go_enter Try.func23, Try.ntmps23
  go_wp2
  go_loop [0, 5] (fun y i => ∃ k : Nat, k ≤ m ∧ i = .int .u32 k ∧ y = .int .u32 (x / 2 ^ k + x % 2 ^ k * 2 ^ (32 - k))) (fun _ i => m - (intOf i).toNat)
  case atStart => exact ⟨0, by omega, rfl, by rw [Int.pow_zero]; simp [Int.emod_one]⟩
  case round =>
    obtain ⟨k, hk, rfl, rfl⟩ := hrel
    have hb := ror_bd x k hx hx' (by omega)
    by_cases hlt : (k : Int) < n % 32
    · go_wp2
      go_round
      case rel => exact ⟨k + 1, by have := HM.out; omega, by go_num, by rw [ror_step x k (by omega)]⟩
      case measure => have := HM.out; simp [intOf]; omega
    · go_wp2
      go_ret
      exact ⟨ret_int (by have := HM.out; rw [Ror, show (n % 32).toNat = k by omega]), rfl⟩

theorem ref01_signed (x : Int) (w : World) (hx : 0 ≤ x) (hx' : x < 4294967296) :
    Calls Try.prog 26 #[.int .u32 x] w fun e w' => e = .returned (.int .i64 (wrap32 x)) ∧ w = w' := by
  go_enter Try.func26, Try.ntmps26
  go_wp2
  all_goals go_ret
  all_goals exact ⟨ret_int (by unfold wrap32; omega), rfl⟩

theorem ref01_word (n : Int) (w : World) (hn : -9223372036854775808 ≤ n) (hn' : n ≤ 9223372036854775807) :
    Calls Try.prog 28 #[.int .i64 n] w fun e w' => e = .returned (.int .u32 (n % 4294967296)) ∧ w = w' := by
  go_enter Try.func28, Try.ntmps28
  go_wp2
  all_goals go_ret
  · exact ⟨ret_int (word_val n), rfl⟩
  · exact ⟨ret_int (tmod_32 n).1, rfl⟩

theorem ref01_may (lo n : Int) (w : World) (hx : -9223372036854775808 ≤ lo) (hx' : lo ≤ 9223372036854775807) (hn : -9223372036854775808 ≤ n) (hn' : n ≤ 9223372036854775807) :
    Calls Try.prog 50 #[.int .i64 lo, .int .i64 n] w fun e w' => e = .returned (.bool (may lo n)) ∧ w = w' := by
  go_enter Try.func50, Try.ntmps50
  go_wp2
  all_goals go_ret
  all_goals refine ⟨ret_bool ?_, rfl⟩
  all_goals (rw [Bool.eq_iff_iff, may_iff]; simp; omega)

theorem ref01_get (x lo n : Int) (w : World) (hx : 0 ≤ x) (hx' : x < 4294967296) (hl : -9223372036854775808 ≤ lo) (hl' : lo ≤ 9223372036854775807) (hn : -9223372036854775808 ≤ n) (hn' : n ≤ 9223372036854775807) :
    Calls Try.prog 29 #[.int .u32 x, .int .i64 lo, .int .i64 n] w fun e w' => e = .returned (.int .u32 (Get x lo n)) ∧ ∃ k, w' = w.drewN k := by
  cases hm : may lo n
  · go_enter Try.func29, Try.ntmps29
    go_wp2_with (go_at_call 50; refine (ref01_may lo n _ hl hl' hn hn').mono ?_; rintro e w' ⟨rfl, rfl⟩)
    go_ret
    exact ⟨ret_int (by simp [Get, hm]), 0, rfl⟩
  · have hi := (may_iff lo n).1 hm
    have e1 : lo % 4294967296 = lo := by omega
    have e2 : n % 4294967296 = n := by omega
    have p1 := pow_pos lo.toNat
    have p2 := pow_pos n.toNat
    have HG := Lib.hid (refGet_val' x lo n hx hx' hm)
    go_enter Try.func29, Try.ntmps29
    go_wp2_with (go_at_call 50; refine (ref01_may lo n _ hl hl' hn hn').mono ?_; rintro e w' ⟨rfl, rfl⟩)
    go_quiet ((go_at_call 46; exact quiet_eq (ref01_pow _ _ (by omega) (by omega))))
    go_wp2
    go_ret
    exact ⟨ret_int HG.out, nq, rfl⟩

theorem ref01_put (x lo n v : Int) (w : World) (hx : 0 ≤ x) (hx' : x < 4294967296) (hv : 0 ≤ v) (hv' : v < 4294967296) (hl : -9223372036854775808 ≤ lo) (hl' : lo ≤ 9223372036854775807) (hn : -9223372036854775808 ≤ n) (hn' : n ≤ 9223372036854775807) :
    Calls Try.prog 31 #[.int .u32 x, .int .i64 lo, .int .i64 n, .int .u32 v] w fun e w' => e = .returned (.int .u32 (Put x lo n v)) ∧ ∃ k, w' = w.drewN k := by
  cases hm : may lo n
  · go_enter Try.func31, Try.ntmps31
    go_wp2_with (go_at_call 50; refine (ref01_may lo n _ hl hl' hn hn').mono ?_; rintro e w' ⟨rfl, rfl⟩)
    go_ret
    exact ⟨ret_int (by simp [Put, hm]), 0, rfl⟩
  · have hi := (may_iff lo n).1 hm
    have e1 : lo % 4294967296 = lo := by omega
    have e2 : n % 4294967296 = n := by omega
    have p1 := pow_pos lo.toNat
    have p2 := pow_pos n.toNat
    have hg := get_bd x lo n hx hx'
    go_enter Try.func31, Try.ntmps31
    go_wp2_with fail
    refine (ref01_may lo n _ hl hl' hn hn').mono ?_
    rintro e w' ⟨rfl, rfl⟩
    go_wp2_with fail
    refine (ref01_get x lo n _ hx hx' hl hl' hn hn').mono ?_
    rintro e w' ⟨rfl, k, rfl⟩
    go_wp2_with fail
    refine (ref01_pow _ _ (by omega) (by omega)).mono ?_
    rintro e w' ⟨rfl, rfl⟩
    go_wp2_with fail
    go_quiet ((go_at_call 46; exact quiet_add_eq (ref01_pow _ _ (by omega) (by omega))))
    go_wp2
    go_ret
    exact ⟨ret_int (refPut_val x lo n v hx hx' hv hm), k + nq, by rw [World.drewN_drewN]⟩

theorem ref01_extend (v n : Int) (w : World) (hv : 0 ≤ v) (hv' : v < 4294967296) :
    Calls Try.prog 14 #[.int .u32 v, .int .i64 n] w fun e w' => e = .returned (.int .i64 (Extend v n)) ∧ w = w' := by
  cases hm : few n
  · have hi := (few_no n).1 hm
    go_enter Try.func14, Try.ntmps14
    go_wp2
    all_goals go_ret
    all_goals exact ⟨ret_int (by simp [Extend, hm]), rfl⟩
  · obtain ⟨hi1, hi2⟩ := (few_iff n).1 hm
    have e2 : n % 4294967296 = n := by omega
    have p2 := pow_pos n.toNat
    have p3 : (2 : Int) ^ n.toNat ≤ 2 ^ 32 := pow_mono (by omega)
    go_enter Try.func14, Try.ntmps14
    go_wp2_with (go_at_call 46; refine (ref01_pow _ _ (by omega) (by omega)).mono ?_; rintro e w' ⟨rfl, rfl⟩)
    all_goals go_ret
    · exact ⟨ret_int ((extend_eq v n _ hm rfl).1 (by assumption)), rfl⟩
    · exact ⟨ret_int ((extend_eq v n _ hm rfl).2 (by assumption)), rfl⟩

theorem ref01_fits (v n : Int) (w : World) (hv : -9223372036854775808 ≤ v) (hv' : v ≤ 9223372036854775807) :
    Calls Try.prog 16 #[.int .i64 v, .int .i64 n] w fun e w' => e = .returned (.bool (Fits v n)) ∧ w = w' := by
  cases hm : few n
  · have hi := (few_no n).1 hm
    go_enter Try.func16, Try.ntmps16
    go_wp2
    all_goals go_ret
    all_goals exact ⟨ret_bool (by simp [Fits, hm]), rfl⟩
  · obtain ⟨hi1, hi2⟩ := (few_iff n).1 hm
    have e2 : n % 4294967296 = n := by omega
    have p2 := pow_pos n.toNat
    have p3 : (2 : Int) ^ n.toNat ≤ 2 ^ 32 := pow_mono (by omega)
    go_enter Try.func16, Try.ntmps16
    go_wp2_with (go_at_call 46; refine (ref01_pow _ _ (by omega) (by omega)).mono ?_; rintro e w' ⟨rfl, rfl⟩)
    all_goals go_ret
    all_goals refine ⟨ret_bool ?_, rfl⟩
    all_goals (rw [fits_eq v n hm])
    · have h : -(2 ^ n.toNat / 2) ≤ v := by assumption
      simp [h]
    · have h : v < -(2 ^ n.toNat / 2) := by assumption
      simp; omega
end Go.Proofs.Ytbnlfopghmeacaa
