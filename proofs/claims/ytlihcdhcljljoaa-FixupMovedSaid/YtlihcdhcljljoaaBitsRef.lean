/-
  What the functions of the reference of the package bits compute, each function once: the same as the package itself.
-/
import Derived.Test.YtlihcdhcljljoaaBits
namespace Go.Proofs.Ytlihcdhcljljoaa
set_option linter.unusedVariables false
set_option linter.unusedSimpArgs false
open Go.RowKit Bw

theorem ref01_pow (n : Int) (w : World) (hn : 0 ≤ n) (hn' : n ≤ 63) :
    Calls Try.prog 58 #[.int .u32 n] w fun e w' => e = .returned (.int .u64 (2 ^ n.toNat)) ∧ w = w' := by
  go_enter Try.func58, Try.ntmps58
  go_wp2
  go_loop [3, 4] (fun p i => ∃ k : Nat, (k : Int) ≤ n ∧ i = .int .u32 k ∧ p = .int .u64 (2 ^ k)) (fun _ i => n.toNat - (intOf i).toNat)
  case atStart => exact ⟨0, hn, rfl, rfl⟩
  case round =>
    obtain ⟨k, hk, rfl, rfl⟩ := hrel
    by_cases hlt : (k : Int) < n
    · go_wp2
      go_round
      case rel => exact ⟨k + 1, by omega, by go_num, by rw [powStep k (by omega)]⟩
      case measure => simp [intOf]; omega
    · go_wp2
      go_ret
      exact ⟨ret_int (by rw [show n.toNat = k by omega]), rfl⟩

theorem ref01_may (lo n : Int) (w : World) (hx : -9223372036854775808 ≤ lo) (hx' : lo ≤ 9223372036854775807) (hn : -9223372036854775808 ≤ n) (hn' : n ≤ 9223372036854775807) :
    Calls Try.prog 57 #[.int .i64 lo, .int .i64 n] w fun e w' => e = .returned (.bool (may lo n)) ∧ w = w' := by
  go_enter Try.func57, Try.ntmps57
  go_wp2
  all_goals go_ret
  all_goals refine ⟨ret_bool ?_, rfl⟩
  all_goals (rw [Bool.eq_iff_iff, may_iff]; simp; omega)

theorem ref01_get (x lo n : Int) (w : World) (hx : 0 ≤ x) (hx' : x < 4294967296) (hl : -9223372036854775808 ≤ lo) (hl' : lo ≤ 9223372036854775807) (hn : -9223372036854775808 ≤ n) (hn' : n ≤ 9223372036854775807) :
    Calls Try.prog 47 #[.int .u32 x, .int .i64 lo, .int .i64 n] w fun e w' => e = .returned (.int .u32 (Get x lo n)) ∧ ∃ k, w' = w.drewN k := by
  cases hm : may lo n
  · go_enter Try.func47, Try.ntmps47
    go_wp2_with (go_at_call 57; refine (ref01_may lo n _ hl hl' hn hn').mono ?_; rintro e w' ⟨rfl, rfl⟩)
    go_ret
    exact ⟨ret_int (by simp [Get, hm]), 0, rfl⟩
  · have hi := (may_iff lo n).1 hm
    have e1 : lo % 4294967296 = lo := by omega
    have e2 : n % 4294967296 = n := by omega
    have p1 := pow_pos lo.toNat
    have p2 := pow_pos n.toNat
    have HG := Lib.hid (refGet_val' x lo n hx hx' hm)
    go_enter Try.func47, Try.ntmps47
    go_wp2_with (go_at_call 57; refine (ref01_may lo n _ hl hl' hn hn').mono ?_; rintro e w' ⟨rfl, rfl⟩)
    go_quiet ((go_at_call 58; exact quiet_eq (ref01_pow _ _ (by omega) (by omega))))
    go_wp2
    go_ret
    exact ⟨ret_int HG.out, nq, rfl⟩

theorem ref01_put (x lo n v : Int) (w : World) (hx : 0 ≤ x) (hx' : x < 4294967296) (hv : 0 ≤ v) (hv' : v < 4294967296) (hl : -9223372036854775808 ≤ lo) (hl' : lo ≤ 9223372036854775807) (hn : -9223372036854775808 ≤ n) (hn' : n ≤ 9223372036854775807) :
    Calls Try.prog 46 #[.int .u32 x, .int .i64 lo, .int .i64 n, .int .u32 v] w fun e w' => e = .returned (.int .u32 (Put x lo n v)) ∧ ∃ k, w' = w.drewN k := by
  cases hm : may lo n
  · go_enter Try.func46, Try.ntmps46
    go_wp2_with (go_at_call 57; refine (ref01_may lo n _ hl hl' hn hn').mono ?_; rintro e w' ⟨rfl, rfl⟩)
    go_ret
    exact ⟨ret_int (by simp [Put, hm]), 0, rfl⟩
  · have hi := (may_iff lo n).1 hm
    have e1 : lo % 4294967296 = lo := by omega
    have e2 : n % 4294967296 = n := by omega
    have p1 := pow_pos lo.toNat
    have p2 := pow_pos n.toNat
    have hg := get_bd x lo n hx hx'
    go_enter Try.func46, Try.ntmps46
    go_wp2_with fail
    refine (ref01_may lo n _ hl hl' hn hn').mono ?_
    rintro e w' ⟨rfl, rfl⟩
    go_wp2_with fail
    refine (ref01_get x lo n _ hx hx' hl hl' hn hn').mono ?_
    rintro e w' ⟨rfl, k, rfl⟩
    go_wp2_with fail
    refine (ref01_pow _ _ (by omega) (by omega)).mono ?_
    rintro e w' ⟨rfl, rfl⟩
    go_wp2_with fail
    go_quiet ((go_at_call 58; exact quiet_add_eq (ref01_pow _ _ (by omega) (by omega))))
    go_wp2
    go_ret
    exact ⟨ret_int (refPut_val x lo n v hx hx' hv hm), k + nq, by rw [World.drewN_drewN]⟩

end Go.Proofs.Ytlihcdhcljljoaa
