/-
  What the functions of the package alu compute, each function once: the small ones.
-/
import Derived.Test.YtffeiekkfcbfaaaBits
import Derived.Test.YtffeiekkfcbfaaaAluLaw
namespace Go.Proofs.Ytffeiekkfcbfaaa
set_option linter.unusedVariables false
set_option linter.unusedSimpArgs false
open Go.RowKit Bw

theorem two_ints {k1 k2 : IntKind} {a b c d : Int} (h : a = b) (h' : c = d) : Ending.returned (.tuple #[.int k1 a, .int k2 c]) = .returned (.tuple #[.int k1 b, .int k2 d]) := by rw [h, h']

theorem alu_over (x : Int) (w : World) (hx : -9223372036854775808 ≤ x) (hx' : x ≤ 9223372036854775807) :
    Calls Try.prog 45 #[.int .i64 x] w fun e w' => e = .returned (.bool (Alu.out x)) ∧ w = w' := by
  go_enter Try.func45, Try.ntmps45
  go_wp2
  go_ret
  exact ⟨ret_bool (out_eq x hx hx'), rfl⟩

theorem alu_product (u : Bool) (b n : Int) (w : World) (hb : 0 ≤ b) (hb' : b < 4294967296) (hn : 0 ≤ n) (hn' : n < 4294967296) :
    Calls Try.prog 46 #[.bool u, .int .u32 b, .int .u32 n] w fun e w' => e = .returned (.tuple #[.int .u32 (Alu.prod u b n % 4294967296), .int .u32 (Alu.prod u b n / 4294967296 % 4294967296)]) ∧ w = w' := by
  have hbb := wrap32_bd b
  have hbn := wrap32_bd n
  have hm := mul_bd _ _ hbb hbn
  cases u
  · go_enter Try.func46, Try.ntmps46
    go_wp2
    go_ret2
    exact ⟨two_ints (low_word _) (high_word _), rfl⟩
  · go_enter Try.func46, Try.ntmps46
    go_wp2
    go_ret2
    exact ⟨two_ints (low_word _) (high_word _), rfl⟩

theorem alu_quotient (b n : Int) (w : World) (hb : 0 ≤ b) (hb' : b < 4294967296) (hn : 0 ≤ n) (hn' : n < 4294967296) :
    Calls Try.prog 47 #[.int .u32 b, .int .u32 n] w fun e w' => e = .returned (.tuple #[.int .u32 (Alu.R 11 false b n 0 Fl.zero), .int .u32 (Alu.H 11 false b n 0)]) ∧ ∃ k, w' = w.drewN k := by
  have hbb := wrap32_bd b
  have hbn := wrap32_bd n
  by_cases h0 : 0 < wrap32 n
  · have h1 : (wrap32 n == 0) = false := by simp; omega
    have t1 := tdiv_bd _ _ hbb h0
    have t2 := tmod_bd (wrap32 b) _ h0
    go_enter Try.func47, Try.ntmps47
    go_wp2
    go_quiet (fail)
    go_wp2
    · go_ret2
      have q := quo_neg (wrap32 b) (wrap32 n) h0 (by assumption)
      exact ⟨two_ints (by simp [Alu.R, h0, ← q.1]) (by simp only [Alu.H, h0, if_true]; rw [← q.2]; simp), nq, rfl⟩
    · go_ret2
      have q := quo_pos (wrap32 b) (wrap32 n) h0 (by assumption)
      exact ⟨two_ints (by simp [Alu.R, h0, ← q.1]) (by simp only [Alu.H, h0, if_true]; rw [← q.2]; simp), nq, rfl⟩
  · go_enter Try.func47, Try.ntmps47
    go_wp2
    go_ret2
    exact ⟨two_ints (by simp [Alu.R]; intro; omega) (by simp [Alu.H]; intro; omega), 0, rfl⟩

theorem below_drewN0 {B : Nat} {a w : World} (h : Below B a w) (n : Nat) : Below B a (w.drewN n) := ⟨h.os, h.tape, h.output, h.size, h.block⟩

/-- What Do returns, out of its parts. -/
theorem alu_ret {r h R H : Int} {c v : Bool} {F : Fl} (h1 : r = R) (hb : 0 ≤ R ∧ R < 4294967296) (h2 : h = H) (hn : F.n = decide (2147483648 ≤ R)) (hz : F.z = decide (R = 0)) (hc : c = F.c) (hv : v = F.v) :
    Ending.returned (.tuple #[.int .u32 r, .int .u32 h, .agg #[.bool (r / 2147483648 == 1), .bool (r == 0), .bool c, .bool v], .bool true]) = .returned (.tuple #[.int .u32 R, .int .u32 H, .agg #[.bool F.n, .bool F.z, .bool F.c, .bool F.v], .bool true]) := by
  subst h1 h2 hc hv
  have e1 : (r / 2147483648 == 1) = F.n := by
    rw [hn, Bool.eq_iff_iff]; simp; omega
  have e2 : (r == 0) = F.z := by rw [hz]; rfl
  rw [e1, e2]

end Go.Proofs.Ytffeiekkfcbfaaa
