/-
  The statements of the package bits: each law's own walk, out of the contracts.
-/
import Derived.Test.YtbnlfopghmeacaaBitsRef
import Derived.Below
namespace Go.Proofs.Ytbnlfopghmeacaa
set_option linter.unusedVariables false
open Go.RowKit Bw

theorem below_drewN {B : Nat} {a w : World} (h : Below B a w) (n : Nat) : Below B a (w.drewN n) := ⟨h.os, h.tape, h.output, h.size, h.block⟩
theorem ror_bd' (x n : Int) (hx : 0 ≤ x) (hx' : x < 4294967296) : 0 ≤ Ror x n ∧ Ror x n < 4294967296 := ror_bd x (n % 32).toNat hx hx' (by omega)

theorem law01_wakes (w : World) : Calls Try.prog 17 #[] w fun e w' => e = .returned (.bool true) ∧ ∃ k, w' = w.drewN k := by
  have a1 : Asr 2147483648 33 = 3221225472 := by decide +kernel
  have a2 : Ror 1 1 = 2147483648 := by decide
  have a3 : Extend 4095 12 = -1 := by decide
  have a4 : Get 305419896 8 8 = 86 := by decide
  have a5 : Fits (-128) 8 = true := by decide
  go_enter Try.func17, Try.ntmps17
  go_wp2_with fail
  refine (bits_asr _ _ _ (by omega) (by omega) (by omega) (by omega)).mono ?_
  rintro e w' ⟨rfl, rfl⟩
  go_wp2_with fail
  refine (bits_ror _ _ _ (by omega) (by omega) (by omega) (by omega)).mono ?_
  rintro e w' ⟨rfl, rfl⟩
  go_wp2_with fail
  refine (bits_extend _ _ _ (by omega) (by omega)).mono ?_
  rintro e w' ⟨rfl, rfl⟩
  go_wp2_with fail
  refine (bits_get _ _ _ _ (by omega) (by omega) (by omega) (by omega) (by omega) (by omega)).mono ?_
  rintro e w' ⟨rfl, k, rfl⟩
  go_wp2_with fail
  refine (bits_fits _ _ _ (by omega) (by omega)).mono ?_
  rintro e w' ⟨rfl, rfl⟩
  go_wp2_with fail
  go_ret
  exact ⟨rfl, k, rfl⟩

theorem law01_extends (v n k : Int) (w : World) (hv : 0 ≤ v) (hv' : v < 4294967296) (hk : -9223372036854775808 ≤ k) (hk' : k ≤ 9223372036854775807) :
    Calls Try.prog 3 #[.int .u32 v, .int .i64 n, .int .i64 k] w fun e w' => e = .returned (.bool true) ∧ Below w.heap.size w w' := by
  go_enter Try.func3, Try.ntmps3
  go_wp2_with fail
  refine (bits_extend v n _ hv hv').mono ?_
  rintro e w' ⟨rfl, rfl⟩
  go_wp2_with fail
  refine (ref01_extend v n _ hv hv').mono ?_
  rintro e w' ⟨rfl, rfl⟩
  go_wp2_with fail
  refine (bits_fits k n _ hk hk').mono ?_
  rintro e w' ⟨rfl, rfl⟩
  go_wp2_with fail
  refine (ref01_fits k n _ hk hk').mono ?_
  rintro e w' ⟨rfl, rfl⟩
  go_wp2_with fail
  refine (law01_wakes _).mono ?_
  rintro e w' ⟨rfl, d, rfl⟩
  go_wp2_with fail
  go_ret
  exact ⟨rfl, below_drewN (Below.refl _ _) _⟩

theorem law01_moves (x n : Int) (w : World) (hx : 0 ≤ x) (hx' : x < 4294967296) (hn : 0 ≤ n) (hn' : n < 4294967296) :
    Calls Try.prog 4 #[.int .u32 x, .int .u32 n] w fun e w' => e = .returned (.bool true) ∧ Below w.heap.size w w' := by
  go_enter Try.func4, Try.ntmps4
  go_wp2_with fail
  refine (bits_lsl x n _ hx hx' hn hn').mono ?_
  rintro e w' ⟨rfl, rfl⟩
  go_wp2_with fail
  refine (ref01_lsl x n _ hx hx' hn hn').mono ?_
  rintro e w' ⟨rfl, rfl⟩
  go_wp2_with fail
  refine (bits_asr x n _ hx hx' hn hn').mono ?_
  rintro e w' ⟨rfl, rfl⟩
  go_wp2_with fail
  refine (ref01_asr x n _ hx hx' hn hn').mono ?_
  rintro e w' ⟨rfl, rfl⟩
  go_wp2_with fail
  refine (bits_ror x n _ hx hx' hn hn').mono ?_
  rintro e w' ⟨rfl, rfl⟩
  go_wp2_with fail
  refine (ref01_ror x n _ hx hx' hn hn').mono ?_
  rintro e w' ⟨rfl, rfl⟩
  go_wp2_with fail
  refine (law01_wakes _).mono ?_
  rintro e w' ⟨rfl, d, rfl⟩
  go_wp2_with fail
  go_ret
  exact ⟨rfl, below_drewN (Below.refl _ _) _⟩

theorem law01_signs (x n : Int) (w : World) (hx : 0 ≤ x) (hx' : x < 4294967296) (hn : -9223372036854775808 ≤ n) (hn' : n ≤ 9223372036854775807) :
    Calls Try.prog 6 #[.int .u32 x, .int .i64 n] w fun e w' => e = .returned (.bool true) ∧ Below w.heap.size w w' := by
  have hw : wrap32 x % 4294967296 = x := by unfold wrap32; omega
  go_enter Try.func6, Try.ntmps6
  go_wp2_with fail
  refine (bits_signed x _ hx hx').mono ?_
  rintro e w' ⟨rfl, rfl⟩
  go_wp2_with fail
  refine (ref01_signed x _ hx hx').mono ?_
  rintro e w' ⟨rfl, rfl⟩
  go_wp2_with fail
  refine (bits_word n _).mono ?_
  rintro e w' ⟨rfl, rfl⟩
  go_wp2_with fail
  refine (ref01_word n _ hn hn').mono ?_
  rintro e w' ⟨rfl, rfl⟩
  go_wp2_with fail
  refine (bits_signed x _ hx hx').mono ?_
  rintro e w' ⟨rfl, rfl⟩
  go_wp2_with fail
  refine (bits_word _ _).mono ?_
  rintro e w' ⟨rfl, rfl⟩
  go_wp2_with fail
  refine (law01_wakes _).mono ?_
  rintro e w' ⟨rfl, d, rfl⟩
  go_wp2_with fail
  go_ret
  exact ⟨rfl, below_drewN (Below.refl _ _) _⟩

theorem law01_cuts (x v lo n : Int) (w : World) (hx : 0 ≤ x) (hx' : x < 4294967296) (hv : 0 ≤ v) (hv' : v < 4294967296) (hl : -9223372036854775808 ≤ lo) (hl' : lo ≤ 9223372036854775807) (hn : -9223372036854775808 ≤ n) (hn' : n ≤ 9223372036854775807) :
    Calls Try.prog 8 #[.agg #[.int .u32 x, .int .u32 v, .int .i64 lo, .int .i64 n]] w fun e w' => e = .returned (.bool true) ∧ Below w.heap.size w w' := by
  go_enter Try.func8, Try.ntmps8
  go_wp2_with fail
  go_quiet (first | (go_at_call 24; exact Calls.quiet_of (bits_get x lo n _ hx hx' hl hl' hn hn')) | (go_at_call 29; exact Calls.quiet_of (ref01_get x lo n _ hx hx' hl hl' hn hn')) | (go_at_call 30; exact quiet_eq (bits_put x lo n v _ hx hx' hv hv' hl hl' hn hn')) | (go_at_call 31; exact Calls.quiet_of (ref01_put x lo n v _ hx hx' hv hv' hl hl' hn hn')) | (go_at_call 17; exact Calls.quiet_of (law01_wakes _)))
  go_wp2
  go_ret
  exact ⟨rfl, below_drewN ((Below.refl _ _).alloc (Nat.le_refl _) _) _⟩

theorem law01_turns (x n : Int) (w : World) (hx : 0 ≤ x) (hx' : x < 4294967296) (hn : 0 ≤ n) (hn' : n < 4294967296) :
    Calls Try.prog 5 #[.int .u32 x, .int .u32 n] w fun e w' => e = .returned (.bool true) ∧ Below w.heap.size w w' := by
  have hk : 0 ≤ n % 32 := by omega
  have hk' : n % 32 < 32 := by omega
  have hb := ror_bd' x (n % 32) hx hx'
  by_cases h0 : n % 32 = 0
  · have e0 := Lib.hid h0
    clear h0
    have b0 : (n % 32 == 0) = true := by rw [e0.out]; rfl
    have a1 := ror_zero x n e0.out
    have a2 := lsl_zero x n hx hx' e0.out
    have a3 := asr_zero x n hx hx' e0.out
    go_enter Try.func5, Try.ntmps5
    go_wp2_with fail
    refine (bits_ror x _ _ hx hx' hk (by omega)).mono ?_
    rintro e w' ⟨rfl, rfl⟩
    go_wp2_with fail
    refine (bits_ror _ _ _ hb.1 hb.2 (by omega) (by omega)).mono ?_
    rintro e w' ⟨rfl, rfl⟩
    go_wp2_with fail
    refine (bits_lsl x _ _ hx hx' (by omega) (by omega)).mono ?_
    rintro e w' ⟨rfl, rfl⟩
    go_wp2_with fail
    refine (bits_ror x n _ hx hx' hn hn').mono ?_
    rintro e w' ⟨rfl, rfl⟩
    go_wp2_with fail
    refine (bits_lsl x n _ hx hx' hn hn').mono ?_
    rintro e w' ⟨rfl, rfl⟩
    go_wp2_with fail
    refine (bits_asr x n _ hx hx' hn hn').mono ?_
    rintro e w' ⟨rfl, rfl⟩
    go_wp2_with fail
    refine (law01_wakes _).mono ?_
    rintro e w' ⟨rfl, d, rfl⟩
    go_wp2_with fail
    go_ret
    exact ⟨rfl, below_drewN (Below.refl _ _) _⟩
  · have b0 : (n % 32 == 0) = false := by simp [h0]
    have hp : 0 < n % 32 := by omega
    have e0 := Lib.hid (ror_ror x (n % 32) hx hx' hp hk')
    have e1 := Lib.hid (ror_join x n (n % 32) hx hx' rfl hp hk')
    clear h0
    go_enter Try.func5, Try.ntmps5
    go_wp2_with fail
    refine (bits_ror x _ _ hx hx' hk (by omega)).mono ?_
    rintro e w' ⟨rfl, rfl⟩
    go_wp2_with fail
    refine (bits_ror _ _ _ hb.1 hb.2 (by omega) (by omega)).mono ?_
    rintro e w' ⟨rfl, rfl⟩
    rw [e0.out]
    go_wp2_with fail
    refine (bits_lsl x _ _ hx hx' (by omega) (by omega)).mono ?_
    rintro e w' ⟨rfl, rfl⟩
    go_wp2_with fail
    refine (bits_get x _ _ _ hx hx' (by omega) (by omega) (by omega) (by omega)).mono ?_
    rintro e w' ⟨rfl, d0, rfl⟩
    go_wp2_with fail
    refine (bits_ror x n _ hx hx' hn hn').mono ?_
    rintro e w' ⟨rfl, rfl⟩
    rw [← e1.out]
    go_wp2_with fail
    refine (law01_wakes _).mono ?_
    rintro e w' ⟨rfl, d, rfl⟩
    go_wp2_with fail
    go_ret
    exact ⟨rfl, by first | exact below_drewN (Below.refl _ _) _ | exact below_drewN (below_drewN (Below.refl _ _) _) _⟩

theorem law01_fits (v n : Int) (w : World) (hv : -9223372036854775808 ≤ v) (hv' : v ≤ 9223372036854775807) :
    Calls Try.prog 7 #[.int .i64 v, .int .i64 n] w fun e w' => e = .returned (.bool true) ∧ Below w.heap.size w w' := by
  cases hm : few n
  · have hi := (few_no n).1 hm
    have a1 := fits_none v n hm
    have a2 := extend_none (v % 4294967296) n hm
    have Hm := Lib.hid hm
    clear hm
    go_enter Try.func7, Try.ntmps7
    go_wp2_with fail
    all_goals (refine (bits_fits v n _ hv hv').mono ?_; rintro e w' ⟨rfl, rfl⟩; go_wp2_with fail)
    all_goals (refine (bits_word v _).mono ?_; rintro e w' ⟨rfl, rfl⟩; go_wp2_with fail)
    all_goals (refine (bits_extend _ n _ (by omega) (by omega)).mono ?_; rintro e w' ⟨rfl, rfl⟩; go_wp2_with fail)
    all_goals (refine (law01_wakes _).mono ?_; rintro e w' ⟨rfl, d, rfl⟩; go_wp2_with fail)
    all_goals go_ret
    all_goals exact ⟨rfl, below_drewN (Below.refl _ _) _⟩
  · obtain ⟨hi1, hi2⟩ := (few_iff n).1 hm
    have a1 := fits_extend v n hm
    have a2 := fits_32 v
    have Hm := Lib.hid hm
    clear hm
    go_enter Try.func7, Try.ntmps7
    go_wp2_with fail
    refine (bits_fits v n _ hv hv').mono ?_
    rintro e w' ⟨rfl, rfl⟩
    go_wp2_with fail
    refine (bits_word v _).mono ?_
    rintro e w' ⟨rfl, rfl⟩
    go_wp2_with fail
    refine (bits_extend _ n _ (by omega) (by omega)).mono ?_
    rintro e w' ⟨rfl, rfl⟩
    go_wp2_with fail
    refine (bits_fits v 32 _ hv hv').mono ?_
    rintro e w' ⟨rfl, rfl⟩
    go_wp2_with fail
    refine (bits_word v _).mono ?_
    rintro e w' ⟨rfl, rfl⟩
    go_wp2_with fail
    refine (bits_signed _ _ (by omega) (by omega)).mono ?_
    rintro e w' ⟨rfl, rfl⟩
    go_wp2_with fail
    refine (law01_wakes _).mono ?_
    rintro e w' ⟨rfl, d, rfl⟩
    go_wp2_with fail
    go_ret
    exact ⟨rfl, below_drewN (Below.refl _ _) _⟩

theorem keeps_lo (a : Int) : ∃ l : Int, wrap64 ((IntKind.u64.wrap a).tmod 32) = l ∧ 0 ≤ l ∧ l < 32 := by
  refine ⟨_, rfl, ?_⟩
  rw [wrapU64_emod, Int.tmod_eq_emod_of_nonneg (by omega)]
  unfold wrap64; omega
theorem keeps_n (b m : Int) (h0 : 1 ≤ m) (h1 : m ≤ 32) : ∃ k : Int, wrap64 ((IntKind.u64.wrap b).tmod m) = k - 1 ∧ 1 ≤ k ∧ k ≤ m := by
  refine ⟨(IntKind.u64.wrap b).tmod m + 1, ?_⟩
  rw [wrapU64_emod, Int.tmod_eq_emod_of_nonneg (by omega)]
  have h2 := Int.emod_nonneg (b % 18446744073709551616) (show m ≠ 0 by omega)
  have h3 := Int.emod_lt_of_pos (b % 18446744073709551616) (show 0 < m by omega)
  generalize b % 18446744073709551616 % m = r at *
  unfold wrap64; omega

theorem law01_keeps (x v a b : Int) (w : World) (hx : 0 ≤ x) (hx' : x < 4294967296) (hv : 0 ≤ v) (hv' : v < 4294967296) (ha : -9223372036854775808 ≤ a) (ha' : a ≤ 9223372036854775807) (hb : -9223372036854775808 ≤ b) (hb' : b ≤ 9223372036854775807) :
    Calls Try.prog 9 #[.agg #[.int .u32 x, .int .u32 v, .int .i64 a, .int .i64 b]] w fun e w' => e = .returned (.bool true) ∧ Below w.heap.size w w' := by
  obtain ⟨l, hl, hl0, hl1⟩ := keeps_lo a
  obtain ⟨k, hk, hk0, hk1⟩ := keeps_n b (32 - l) (by omega) (by omega)
  have h2 : IntKind.u64.wrap (32 - l) = 32 - l := wrapU64_of (by omega) (by omega)
  have h3 : 1 + (k - 1) = k := by omega
  have h5 : IntKind.u64.wrap k = k := wrapU64_of (by omega) (by omega)
  have h6 : IntKind.u64.wrap (32 - k) = 32 - k := wrapU64_of (by omega) (by omega)
  have h7 : IntKind.u64.wrap l = l := wrapU64_of (by omega) (by omega)
  have hm : may l k = true := (may_iff _ _).2 ⟨by omega, by omega, by omega⟩
  have Hm := Lib.hid hm
  clear hm
  have pb := put_bd x l k v hx hx'
  have gb := get_bd x l k hx hx'
  have e1 := get_put x l k v hx hv Hm.out
  have e2 : Put (Put x l k v) l k (Get x l k) = x := by rw [put_put x l k v _ hx hv Hm.out, put_get x l k Hm.out]
  have e3 := shl_shr v k (by omega) (by omega)
  have e4 := mask_shift l k Hm.out
  have e5 := andNot_put x l k hx hx' Hm.out
  have e6 := (andNot_put (Put x l k v) l k pb.1 pb.2 Hm.out).trans (put_put x l k v 0 hx hv Hm.out)
  go_enter Try.func9, Try.ntmps9
  go_wp2_with fail
  refine (bits_put x l k v _ hx hx' hv hv' (by omega) (by omega) (by omega) (by omega)).mono ?_
  rintro e w' ⟨rfl, rfl⟩
  go_wp2_with fail
  refine (bits_get x l k _ hx hx' (by omega) (by omega) (by omega) (by omega)).mono ?_
  rintro e w' ⟨rfl, d0, rfl⟩
  go_wp2_with fail
  go_quiet (first | (go_at_call 24; exact quiet_add (bits_get _ l k _ pb.1 pb.2 (by omega) (by omega) (by omega) (by omega))) | (go_at_call 30; exact quiet_add_eq (bits_put _ l k _ _ pb.1 pb.2 gb.1 gb.2 (by omega) (by omega) (by omega) (by omega))))
  go_wp2_with fail
  refine (law01_wakes _).mono ?_
  rintro e w' ⟨rfl, d, rfl⟩
  go_wp2_with fail
  go_ret
  exact ⟨rfl, by first | exact below_drewN ((Below.refl _ _).alloc (Nat.le_refl _) _) _ | exact below_drewN (below_drewN ((Below.refl _ _).alloc (Nat.le_refl _) _) _) _⟩
end Go.Proofs.Ytbnlfopghmeacaa
