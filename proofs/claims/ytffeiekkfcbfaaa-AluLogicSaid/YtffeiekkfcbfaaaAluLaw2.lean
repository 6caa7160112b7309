/-
  Plain facts for the statements AluWide and AluLogic. No program in sight.
-/
import Derived.Test.YtffeiekkfcbfaaaAluLaw
namespace Go.Proofs.Ytffeiekkfcbfaaa
set_option linter.unusedVariables false
set_option linter.unusedSimpArgs false
open Go.RowKit Bw

/-- Two words, joined to one of 64 bits. -/
theorem join64 (hi lo : Int) (h0 : 0 ≤ hi) (h1 : hi < 4294967296) (l0 : 0 ≤ lo) (l1 : lo < 4294967296) : bits .or .u64 (hi * 4294967296) lo = hi * 4294967296 + lo := by
  rw [u64_or _ _ (by omega) (by omega) l0 (by omega)]
  obtain ⟨A, rfl⟩ := Int.eq_ofNat_of_zero_le h0
  obtain ⟨B, rfl⟩ := Int.eq_ofNat_of_zero_le l0
  rw [show ((A : Int) * 4294967296).toNat = A * 4294967296 by omega, Int.toNat_natCast, nat_join 32 (A * 4294967296) B (by omega) (by omega)]
  omega
theorem Alu.wide_mulU (b n h : Int) (f : Fl) (hb : 0 ≤ b ∧ b < 4294967296) (hn : 0 ≤ n ∧ n < 4294967296) :
    Alu.H 10 true b n h * 4294967296 + Alu.R 10 true b n h f = b * n := by
  have h1 := mulU_bd b n hb hn
  simp only [Alu.H, Alu.R, Alu.prod]
  simp
  generalize b * n = p at *
  omega
theorem Alu.wide_mulS (b n h : Int) (f : Fl) : wrap64 (Alu.H 10 false b n h * 4294967296 + Alu.R 10 false b n h f) = wrap32 b * wrap32 n := by
  have h1 := mul_bd _ _ (wrap32_bd b) (wrap32_bd n)
  simp only [Alu.H, Alu.R, Alu.prod]
  simp
  generalize wrap32 b * wrap32 n = p at *
  unfold wrap64; omega
theorem Alu.wide_add (b n h : Int) (f : Fl) (hb : 0 ≤ b ∧ b < 4294967296) (hn : 0 ≤ n ∧ n < 4294967296) (hh : 0 ≤ h ∧ h < 4294967296) :
    Alu.R 8 true h b h (Alu.F 8 false b n h f) * 4294967296 + Alu.R 8 false b n h f = (h * 4294967296 + b + (b * 4294967296 + n)) % 18446744073709551616 ∧
    Alu.R 9 false (Alu.R 8 false b n h f) n h (Alu.F 8 false b n h f) = b ∧
    Alu.R 9 true (Alu.R 8 true h b h (Alu.F 8 false b n h f)) b h (Alu.F 9 false (Alu.R 8 false b n h f) n h (Alu.F 8 false b n h f)) = h := by
  have hc : Alu.carry true (Alu.F 8 false b n h f) = if 4294967296 ≤ b + n then 1 else 0 := by
    simp [Alu.carry, Alu.F, Alu.C]
  have ha : Alu.R 8 false b n h f = (b + n) % 4294967296 := by simp [Alu.R, Alu.carry]
  have hd : Alu.R 8 true h b h (Alu.F 8 false b n h f) = (h + b + (if 4294967296 ≤ b + n then 1 else 0)) % 4294967296 := by simp [Alu.R, hc]
  have hk : Alu.carry true (Alu.F 9 false (Alu.R 8 false b n h f) n h (Alu.F 8 false b n h f)) = if (b + n) % 4294967296 - n < 0 then 1 else 0 := by
    simp [Alu.carry, Alu.F, Alu.C, ha]
  refine ⟨?_, ?_, ?_⟩
  · rw [hd, ha]; split <;> omega
  · simp [Alu.R, Alu.carry]; omega
  · have : Alu.R 9 true (Alu.R 8 true h b h (Alu.F 8 false b n h f)) b h (Alu.F 9 false (Alu.R 8 false b n h f) n h (Alu.F 8 false b n h f)) = ((h + b + (if 4294967296 ≤ b + n then 1 else 0)) % 4294967296 - b - (if (b + n) % 4294967296 - n < 0 then 1 else 0)) % 4294967296 := by
      rw [← hd, ← hk]; simp [Alu.R]
    rw [this]; split <;> split <;> omega

end Go.Proofs.Ytffeiekkfcbfaaa
