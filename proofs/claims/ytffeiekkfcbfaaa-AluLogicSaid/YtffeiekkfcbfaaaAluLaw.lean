/-
  Plain facts about what the register instructions reckon. No program in sight.
-/
import Derived.Test.YtffeiekkfcbfaaaBitsLaw
import GoSem.Core.Value
namespace Go.Proofs.Ytffeiekkfcbfaaa
set_option linter.unusedVariables false
set_option linter.unusedSimpArgs false
open Go.RowKit Bw

/-- The flags. -/
structure Fl where
  n : Bool
  z : Bool
  c : Bool
  v : Bool
  deriving DecidableEq

namespace Fl
def cells (f : Fl) : Array Value := #[.bool f.n, .bool f.z, .bool f.c, .bool f.v]
def val (f : Fl) : Value := .agg f.cells
def zero : Fl := ⟨false, false, false, false⟩
end Fl

namespace Alu
def okOp (op : Int) (u : Bool) : Bool := decide (0 ≤ op ∧ op ≤ 11) && (!u || decide (op = 0 ∨ 8 ≤ op ∧ op ≤ 10))
def carry (u : Bool) (f : Fl) : Int := if (u && f.c) = true then 1 else 0
def prod (u : Bool) (b n : Int) : Int := if u = true then b * n else wrap32 b * wrap32 n
def out (x : Int) : Bool := decide (x < -2147483648 ∨ 2147483648 ≤ x)
def R (op : Int) (u : Bool) (b n h : Int) (f : Fl) : Int :=
  if op = 0 then (if u = true then h else n)
  else if op = 1 then Lsl b n
  else if op = 2 then Asr b n
  else if op = 3 then Ror b n
  else if op = 4 then bits .and .u32 b n
  else if op = 5 then bits .andNot .u32 b n
  else if op = 6 then bits .or .u32 b n
  else if op = 7 then bits .xor .u32 b n
  else if op = 8 then (b + n + carry u f) % 4294967296
  else if op = 9 then (b - n - carry u f) % 4294967296
  else if op = 10 then prod u b n % 4294967296
  else (if 0 < wrap32 n then wrap32 b / wrap32 n % 4294967296 else 0)
def H (op : Int) (u : Bool) (b n h : Int) : Int :=
  if op = 10 then prod u b n / 4294967296 % 4294967296
  else if op = 11 then (if 0 < wrap32 n then wrap32 b % wrap32 n else b)
  else h
def C (op : Int) (u : Bool) (b n : Int) (f : Fl) : Bool :=
  if op = 8 then decide (4294967296 ≤ b + n + carry u f) else if op = 9 then decide (b - n - carry u f < 0) else f.c
def V (op : Int) (u : Bool) (b n : Int) (f : Fl) : Bool :=
  if op = 8 then out (wrap32 b + wrap32 n + carry u f) else if op = 9 then out (wrap32 b - wrap32 n - carry u f) else f.v
def F (op : Int) (u : Bool) (b n h : Int) (f : Fl) : Fl :=
  ⟨decide (2147483648 ≤ R op u b n h f), decide (R op u b n h f = 0), C op u b n f, V op u b n f⟩
end Alu

theorem wrap32_bd (b : Int) : -2147483648 ≤ wrap32 b ∧ wrap32 b < 2147483648 := by unfold wrap32; omega
theorem out_eq (x : Int) (hx : -9223372036854775808 ≤ x) (hx' : x ≤ 9223372036854775807) : (x != wrap64 (wrap32 x)) = Alu.out x := by
  rw [Bool.eq_iff_iff, bne_iff_ne, Alu.out, decide_eq_true_eq]
  unfold wrap64 wrap32; omega
theorem mul_bd (x y : Int) (hx : -2147483648 ≤ x ∧ x < 2147483648) (hy : -2147483648 ≤ y ∧ y < 2147483648) : -4611686018427387904 ≤ x * y ∧ x * y ≤ 4611686018427387904 := by
  have h1 : x * y ≤ (x * y).natAbs := Int.le_natAbs
  have h2 : -(x * y) ≤ (x * y).natAbs := by omega
  have h3 : (x * y).natAbs ≤ 2147483648 * 2147483648 := by rw [Int.natAbs_mul]; exact Nat.mul_le_mul (by omega) (by omega)
  omega
theorem mulU_bd (x y : Int) (hx : 0 ≤ x ∧ x < 4294967296) (hy : 0 ≤ y ∧ y < 4294967296) : 0 ≤ x * y ∧ x * y ≤ 18446744065119617025 := by
  refine ⟨Int.mul_nonneg hx.1 hy.1, ?_⟩
  have h1 := Int.mul_le_mul (show x ≤ 4294967295 by omega) (show y ≤ 4294967295 by omega) hy.1 (by omega)
  omega
theorem low_word (p : Int) : IntKind.u64.wrap p % 4294967296 = p % 4294967296 := by rw [wrapU64_emod]; omega
theorem high_word (p : Int) : IntKind.u64.wrap p / 4294967296 % 4294967296 = p / 4294967296 % 4294967296 := by rw [wrapU64_emod]; omega
theorem quo_pos (x y : Int) (hy : 0 < y) (h : 0 ≤ x.tmod y) : x.tdiv y = x / y ∧ x.tmod y = x % y := by
  have h1 := Int.mul_tdiv_add_tmod x y
  have h2 := Int.tmod_lt_of_pos x hy
  have h3 := (Int.ediv_emod_unique (a := x) (b := y) (r := x.tmod y) (q := x.tdiv y) hy).2 ⟨by omega, h, h2⟩
  exact ⟨h3.1.symm, h3.2.symm⟩
theorem quo_neg (x y : Int) (hy : 0 < y) (h : x.tmod y < 0) : x.tdiv y - 1 = x / y ∧ x.tmod y + y = x % y := by
  have h1 := Int.mul_tdiv_add_tmod x y
  have h2 : -y < x.tmod y := Int.lt_tmod_of_pos x hy
  have h3 := (Int.ediv_emod_unique (a := x) (b := y) (r := x.tmod y + y) (q := x.tdiv y - 1) hy).2 ⟨by rw [Int.mul_sub]; omega, by omega, by omega⟩
  exact ⟨h3.1.symm, h3.2.symm⟩
theorem ediv_bd (x y : Int) (hx : -2147483648 ≤ x ∧ x < 2147483648) (hy : 0 < y) : -2147483648 ≤ x / y ∧ x / y < 2147483648 := by
  constructor
  · rw [Int.le_ediv_iff_mul_le hy]
    have := Int.mul_le_mul_of_nonneg_left (show (1 : Int) ≤ y by omega) (show (0 : Int) ≤ 2147483648 by decide)
    omega
  · refine Int.ediv_lt_of_lt_mul hy ?_
    have := Int.mul_le_mul_of_nonneg_left (show (1 : Int) ≤ y by omega) (show (0 : Int) ≤ 2147483648 by decide)
    omega
theorem tdiv_bd (x y : Int) (hx : -2147483648 ≤ x ∧ x < 2147483648) (hy : 0 < y) : -2147483648 ≤ x.tdiv y ∧ x.tdiv y ≤ 2147483648 := by
  by_cases h : 0 ≤ x.tmod y
  · have := (quo_pos x y hy h).1
    have := ediv_bd x y hx hy
    omega
  · have := (quo_neg x y hy (by omega)).1
    have := ediv_bd x y hx hy
    omega
theorem tmod_bd (x y : Int) (hy : 0 < y) : -y < x.tmod y ∧ x.tmod y < y := by
  exact ⟨Int.lt_tmod_of_pos x hy, Int.tmod_lt_of_pos x hy⟩

theorem bits_bd (op : BinOp) (x y : Int) : 0 ≤ bits op .u32 x y ∧ bits op .u32 x y < 4294967296 := by
  have h : bits op .u32 x y = bits op .u32 x y % 4294967296 := by
    unfold bits; simp [IntKind.wrap, IntKind.bits, IntKind.signed]
  omega
theorem lsl_bd (x n : Int) : 0 ≤ Lsl x n ∧ Lsl x n < 4294967296 := by unfold Lsl; omega
theorem asr_bd (x n : Int) : 0 ≤ Asr x n ∧ Asr x n < 4294967296 := by unfold Asr; omega
theorem ite_bd {c : Prop} [Decidable c] {a b : Int} (ha : 0 ≤ a ∧ a < 4294967296) (hb : 0 ≤ b ∧ b < 4294967296) : 0 ≤ (if c then a else b) ∧ (if c then a else b) < 4294967296 := by
  by_cases h : c
  · rw [if_pos h]; exact ha
  · rw [if_neg h]; exact hb
theorem Alu.R_bd (op : Int) (u : Bool) (b n h : Int) (f : Fl) (hb : 0 ≤ b) (hb' : b < 4294967296) (hn : 0 ≤ n) (hn' : n < 4294967296) (hh : 0 ≤ h) (hh' : h < 4294967296) :
    0 ≤ Alu.R op u b n h f ∧ Alu.R op u b n h f < 4294967296 := by
  unfold Alu.R
  refine ite_bd (ite_bd ⟨hh, hh'⟩ ⟨hn, hn'⟩) (ite_bd (lsl_bd b n) (ite_bd (asr_bd b n) (ite_bd (ror_bd b (n % 32).toNat hb hb' (by omega)) (ite_bd (bits_bd _ _ _) (ite_bd (bits_bd _ _ _) (ite_bd (bits_bd _ _ _) (ite_bd (bits_bd _ _ _) (ite_bd (by omega) (ite_bd (by omega) (ite_bd (by omega) (ite_bd (by omega) (by omega))))))))))))
theorem Alu.H_bd (op : Int) (u : Bool) (b n h : Int) (hb : 0 ≤ b) (hb' : b < 4294967296) (hh : 0 ≤ h) (hh' : h < 4294967296) : 0 ≤ Alu.H op u b n h ∧ Alu.H op u b n h < 4294967296 := by
  unfold Alu.H
  split
  · omega
  split
  · split
    · rename_i hn
      have h1 := Int.emod_nonneg (wrap32 b) (show wrap32 n ≠ 0 by omega)
      have h2 := Int.emod_lt_of_pos (wrap32 b) hn
      have h3 := wrap32_bd n
      omega
    · omega
  · omega

theorem natAbs_tdiv_le (a b : Int) : (a.tdiv b).natAbs ≤ a.natAbs := by
  rw [Int.natAbs_tdiv]; exact Nat.div_le_self _ _
theorem floor_bd (a b : Int) (hb : 0 < b) (hb' : b ≤ 4294967296) (ha : -4611686018427387904 ≤ a) (ha' : a ≤ 4611686018427387904) :
    (-4611686018427387904 ≤ a.tdiv b ∧ a.tdiv b ≤ 4611686018427387904) ∧ (-9223372036854775808 ≤ a.tdiv b * b ∧ a.tdiv b * b ≤ 9223372036854775807) := by
  have h1 := natAbs_tdiv_le a b
  have h2 := Int.mul_tdiv_add_tmod a b
  have h3 := tmod_bd a b hb
  rw [Int.mul_comm] at h2
  omega

/-- What the reference's Do tells, as one value. -/
def Alu.told (r h : Int) (f : Fl) (ok : Bool) : Value := .agg #[.int .u32 r, .int .u32 h, .bool f.n, .bool f.z, .bool f.c, .bool f.v, .bool ok]

theorem told_ret {r h R H : Int} {c v : Bool} {F : Fl} (h1 : r = R) (h2 : h = H) (hn : F.n = decide (2147483648 ≤ R)) (hz : F.z = decide (R = 0)) (hc : c = F.c) (hv : v = F.v) :
    Value.agg #[.int .u32 r, .int .u32 h, .bool (decide (2147483648 ≤ r)), .bool (r == 0), .bool c, .bool v, .bool true] = Alu.told R H F true := by
  subst h1 h2 hc hv
  rw [Alu.told, hn, hz]; rfl
theorem fits_out (x : Int) : (!Fits x 32) = Alu.out x := by
  rw [Fits, show few 32 = true from rfl, Bool.true_and, Alu.out, show ((2 : Int) ^ ((32 : Int).toNat - 1)) = 2147483648 from rfl, Bool.eq_iff_iff]
  first | (simp; done) | (simp; omega)
theorem Alu.R11_pos (u : Bool) (b n h : Int) (f : Fl) (h0 : 0 < wrap32 n) : wrap32 b / wrap32 n % 4294967296 = Alu.R 11 u b n h f := by simp [Alu.R, h0]
theorem Alu.H11_pos (u : Bool) (b n h : Int) (h0 : 0 < wrap32 n) : (wrap32 b - wrap32 b / wrap32 n * wrap32 n) % 4294967296 = Alu.H 11 u b n h := by
  simp only [Alu.H, h0, if_true]
  have h1 := Int.mul_ediv_add_emod (wrap32 b) (wrap32 n)
  have h2 := Int.emod_nonneg (wrap32 b) (show wrap32 n ≠ 0 by omega)
  have h3 := Int.emod_lt_of_pos (wrap32 b) h0
  have h4 := wrap32_bd n
  rw [Int.mul_comm] at h1
  simp only [show ¬ ((11 : Int) = 10) by decide, if_false]
  omega
theorem Alu.R11_neg (u : Bool) (b n h : Int) (f : Fl) (h0 : ¬ 0 < wrap32 n) : 0 = Alu.R 11 u b n h f := by simp [Alu.R]; intro; omega
theorem Alu.H11_neg (u : Bool) (b n h : Int) (h0 : ¬ 0 < wrap32 n) : b = Alu.H 11 u b n h := by simp [Alu.H]; intro; omega
theorem div_bds (x y : Int) (hx : -2147483648 ≤ x ∧ x < 2147483648) (hy : 0 < y) (hy' : y < 2147483648) : -4611686018427387904 ≤ x / y * y ∧ x / y * y ≤ 4611686018427387904 := by
  have h1 := Int.mul_ediv_add_emod x y
  have h2 := Int.emod_nonneg x (show y ≠ 0 by omega)
  have h3 := Int.emod_lt_of_pos x hy
  rw [Int.mul_comm] at h1
  omega

/-- The conditions. -/
def Alu.base (k : Int) (f : Fl) : Bool :=
  if k = 0 then f.n else if k = 1 then f.z else if k = 2 then f.c else if k = 3 then f.v else if k = 4 then f.c || f.z else if k = 5 then f.n != f.v else if k = 6 then (f.n != f.v) || f.z else true
def Alu.holds (c : Int) (f : Fl) : Bool := decide (0 ≤ c ∧ c ≤ 15) && (Alu.base (c % 8) f == decide (c < 8))
theorem Alu.holds_out (c : Int) (f : Fl) (h : c < 0 ∨ 15 < c) : Alu.holds c f = false := by
  rw [Alu.holds, show decide (0 ≤ c ∧ c ≤ 15) = false by simp; omega, Bool.false_and]

theorem Alu.holds_opposite (c : Int) (f : Fl) (h : 0 ≤ c) (h' : c ≤ 7) : Alu.holds (c + 8) f = !Alu.holds c f := by
  rw [Alu.holds, Alu.holds, show (c + 8) % 8 = c % 8 by omega, show decide (0 ≤ c + 8 ∧ c + 8 ≤ 15) = true by simp; omega, show decide (0 ≤ c ∧ c ≤ 15) = true by simp; omega,
    show decide (c + 8 < 8) = false by simp; omega, show decide (c < 8) = true by simp; omega]
  cases Alu.base (c % 8) f <;> rfl

/-- An operation with all that it takes, as one value. -/
def Alu.ask (op : Int) (u : Bool) (b n h : Int) (f : Fl) : Value := .agg #[.int .i64 op, .bool u, .int .u32 b, .int .u32 n, .int .u32 h, .bool f.n, .bool f.z, .bool f.c, .bool f.v]

theorem Alu.sub_flags (b n h : Int) (f : Fl) (hb : 0 ≤ b) (hb' : b < 4294967296) (hn : 0 ≤ n) (hn' : n < 4294967296) :
    Alu.F 9 false b n h f = ⟨decide (2147483648 ≤ (b - n) % 4294967296), decide (b = n), decide (b < n), decide (wrap32 b - wrap32 n < -2147483648 ∨ 2147483648 ≤ wrap32 b - wrap32 n)⟩ := by
  simp only [Alu.F, Alu.R, Alu.C, Alu.V, Alu.carry, Alu.out]
  simp
  constructor <;> omega
theorem Alu.conds (g : Fl) : Alu.holds 5 g = (g.n != g.v) ∧ Alu.holds 2 g = g.c ∧ Alu.holds 1 g = g.z ∧ Alu.holds 6 g = ((g.n != g.v) || g.z) ∧ Alu.holds 4 g = (g.c || g.z) ∧ Alu.holds 14 g = !((g.n != g.v) || g.z) := by
  obtain ⟨n, z, c, v⟩ := g
  cases n <;> cases z <;> cases c <;> cases v <;> decide
theorem Alu.cmp (b n h : Int) (f : Fl) (hb : 0 ≤ b) (hb' : b < 4294967296) (hn : 0 ≤ n) (hn' : n < 4294967296) :
    Alu.holds 5 (Alu.F 9 false b n h f) = decide (wrap32 b < wrap32 n) ∧ Alu.holds 2 (Alu.F 9 false b n h f) = decide (b < n) ∧ Alu.holds 1 (Alu.F 9 false b n h f) = (b == n) ∧
    Alu.holds 6 (Alu.F 9 false b n h f) = decide (wrap32 b ≤ wrap32 n) ∧ Alu.holds 4 (Alu.F 9 false b n h f) = decide (b ≤ n) ∧ Alu.holds 14 (Alu.F 9 false b n h f) = decide (wrap32 n < wrap32 b) := by
  rw [Alu.sub_flags b n h f hb hb' hn hn']
  have h5 : (decide (2147483648 ≤ (b - n) % 4294967296) != decide (wrap32 b - wrap32 n < -2147483648 ∨ 2147483648 ≤ wrap32 b - wrap32 n)) = decide (wrap32 b < wrap32 n) := by
    unfold wrap32
    rw [Bool.eq_iff_iff, bne_iff_ne, ne_eq, decide_eq_decide, decide_eq_true_eq]; omega
  obtain ⟨c1, c2, c3, c4, c5, c6⟩ := Alu.conds ⟨decide (2147483648 ≤ (b - n) % 4294967296), decide (b = n), decide (b < n), decide (wrap32 b - wrap32 n < -2147483648 ∨ 2147483648 ≤ wrap32 b - wrap32 n)⟩
  rw [c1, c2, c3, c4, c5, c6]
  simp only [h5]
  refine ⟨trivial, trivial, rfl, ?_, ?_, ?_⟩
  · rw [Bool.eq_iff_iff]; simp only [Bool.or_eq_true, decide_eq_true_eq]; unfold wrap32; omega
  · rw [Bool.eq_iff_iff]; simp only [Bool.or_eq_true, decide_eq_true_eq]; omega
  · rw [Bool.eq_iff_iff]; simp only [Bool.not_eq_true', Bool.or_eq_false_iff, decide_eq_true_eq, decide_eq_false_iff_not]; unfold wrap32; omega

theorem Alu.div_facts (b n : Int) (f : Fl) (hb : 0 ≤ b) (hb' : b < 4294967296) (hn : 0 ≤ n) (hn' : n < 4294967296) (h0 : 0 < wrap32 n) :
    (Alu.R 10 false (Alu.R 11 false b n 7 f) n 0 f + Alu.H 11 false b n 7) % 4294967296 = b ∧ 0 ≤ wrap32 (Alu.H 11 false b n 7) ∧ Alu.H 11 false b n 7 < n := by
  have hr : Alu.R 11 false b n 7 f = wrap32 b / wrap32 n % 4294967296 := (Alu.R11_pos _ _ _ _ _ h0).symm
  have hh : Alu.H 11 false b n 7 = wrap32 b % wrap32 n := by simp [Alu.H, h0]
  have hn1 : wrap32 n = n := by unfold wrap32 at *; omega
  have hd := ediv_bd _ _ (wrap32_bd b) h0
  have hq : wrap32 (wrap32 b / wrap32 n % 4294967296) = wrap32 b / wrap32 n := by
    generalize wrap32 b / wrap32 n = q at *
    unfold wrap32; omega
  have hp : Alu.R 10 false (Alu.R 11 false b n 7 f) n 0 f = wrap32 b / wrap32 n * wrap32 n % 4294967296 := by
    rw [hr]; simp [Alu.R, Alu.prod, hq]
  rw [hp, hh]
  have h1 := Int.mul_ediv_add_emod (wrap32 b) (wrap32 n)
  have h2 := Int.emod_nonneg (wrap32 b) (show wrap32 n ≠ 0 by omega)
  have h3 := Int.emod_lt_of_pos (wrap32 b) h0
  have h4 := wrap32_bd n
  rw [Int.mul_comm] at h1
  generalize wrap32 b / wrap32 n * wrap32 n = p at *
  generalize wrap32 b % wrap32 n = r at *
  have hX : wrap32 b % 4294967296 = b := by unfold wrap32; omega
  refine ⟨?_, ?_, ?_⟩
  · rw [← h1] at hX; omega
  · unfold wrap32; omega
  · omega

end Go.Proofs.Ytffeiekkfcbfaaa
