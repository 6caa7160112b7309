/-
  Plain facts for the statement AluLogic. No program in sight.
-/
import Derived.Test.YtffeiekkfcbfaaaAluLaw
namespace Go.Proofs.Ytffeiekkfcbfaaa
set_option linter.unusedVariables false
set_option linter.unusedSimpArgs false
open Go.RowKit Bw

theorem nat_logic (a b : Nat) (ha : a < 2 ^ 32) (hb : b < 2 ^ 32) :
    ((a &&& b) ||| (a ^^^ b) = a ||| b) ∧ ((a &&& b) ^^^ (a &&& (4294967295 - b)) = a) ∧ (a &&& (4294967295 - b)) &&& b = 0 := by
  have e : 4294967295 - b = 2 ^ 32 - (b + 1) := by omega
  rw [e]
  refine ⟨?_, ?_, ?_⟩ <;> apply Nat.eq_of_testBit_eq <;> intro i
  · simp only [Nat.testBit_and, Nat.testBit_or, Nat.testBit_xor]
    cases a.testBit i <;> cases b.testBit i <;> rfl
  · simp only [Nat.testBit_and, Nat.testBit_or, Nat.testBit_xor, Nat.testBit_two_pow_sub_succ hb]
    by_cases h : i < 32
    · simp only [h, decide_true, Bool.true_and]
      cases a.testBit i <;> cases b.testBit i <;> rfl
    · have : a.testBit i = false := Nat.testBit_lt_two_pow (Nat.lt_of_lt_of_le ha (Nat.pow_le_pow_right (by decide) (by omega)))
      simp [this]
  · simp only [Nat.testBit_and, Nat.testBit_or, Nat.testBit_xor, Nat.testBit_two_pow_sub_succ hb, Nat.zero_testBit]
    cases a.testBit i <;> cases b.testBit i <;> simp
theorem Alu.logic (b n h : Int) (f : Fl) (hb : 0 ≤ b) (hb' : b < 4294967296) (hn : 0 ≤ n) (hn' : n < 4294967296) :
    bits .or .u32 (Alu.R 4 false b n h f) (Alu.R 7 false b n h f) = Alu.R 6 false b n h f ∧
    bits .xor .u32 (Alu.R 4 false b n h f) (Alu.R 5 false b n h f) = b ∧
    bits .and .u32 (Alu.R 5 false b n h f) n = 0 := by
  obtain ⟨A, rfl⟩ := Int.eq_ofNat_of_zero_le hb
  obtain ⟨B, rfl⟩ := Int.eq_ofNat_of_zero_le hn
  have hA : A < 4294967296 := by omega
  have hB : B < 4294967296 := by omega
  obtain ⟨k1, k2, k3⟩ := nat_logic A B hA hB
  have m1 : A &&& B < 4294967296 := Nat.lt_of_le_of_lt Nat.and_le_left hA
  have m2 : A &&& (4294967295 - B) < 4294967296 := Nat.lt_of_le_of_lt Nat.and_le_left hA
  have m3 : A ^^^ B < 4294967296 := Nat.xor_lt_two_pow (n := 32) hA hB
  simp only [Alu.R]
  simp
  rw [u32_and_nat A B hA hB, u32_or_nat A B hA hB, u32_xor_nat A B hA hB, u32_andNot_nat A B hA hB, u32_or_nat _ _ m1 m3, u32_xor_nat _ _ m1 m2, u32_and_nat _ _ m2 hB, k1, k2, k3]
  exact ⟨rfl, rfl, rfl⟩
theorem Alu.shifts (b n h : Int) (f : Fl) (hb : 0 ≤ b) (hb' : b < 4294967296) (hn : 0 ≤ n) (hn' : n < 4294967296) :
    Alu.R 1 false b (n % 32) h f = Alu.R 1 false b n h f ∧ Alu.R 2 false b n h f = wrap32 b / 2 ^ (n % 32).toNat % 4294967296 ∧
    bits .or .u32 (b / 2 ^ (n % 32).toNat) (b * 2 ^ (32 - n % 32).toNat % 4294967296) = Alu.R 3 false b n h f := by
  refine ⟨?_, ?_, ?_⟩
  · simp only [Alu.R]; simp [Lsl]
  · simp only [Alu.R]; simp [Asr]
  · simp only [Alu.R]; simp
    by_cases h0 : n % 32 = 0
    · rw [ror_zero b n h0, h0]
      simp
      obtain ⟨A, rfl⟩ := Int.eq_ofNat_of_zero_le hb
      have := u32_or_nat A 0 (by omega) (by omega)
      simpa using this
    · have h1 := ror_join b n (n % 32) hb hb' rfl (by omega) (by omega)
      have h2 : may (n % 32) (32 - n % 32) = true := (may_iff _ _).2 (by omega)
      have e1 : Get b (n % 32) (32 - n % 32) = b / 2 ^ (n % 32).toNat := by
        rw [Get, if_pos h2, Int.emod_eq_of_lt (Int.ediv_nonneg hb (Int.le_of_lt (pow_pos _)))]
        have := div_lt_pow b (n % 32).toNat hb hb' (by omega)
        rw [show (32 - n % 32).toNat = 32 - (n % 32).toNat by omega]; exact this
      have e2 : Lsl b (32 - n % 32) = b * 2 ^ (32 - n % 32).toNat % 4294967296 := by
        rw [Lsl, show (32 - n % 32) % 32 = 32 - n % 32 by omega]
      rw [e1, e2] at h1
      exact h1
end Go.Proofs.Ytffeiekkfcbfaaa
