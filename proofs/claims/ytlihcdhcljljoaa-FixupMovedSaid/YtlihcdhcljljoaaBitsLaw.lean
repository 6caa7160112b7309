/-
  Plain facts about words of 32 bits as integers: what moving, turning, cutting come to. No program in sight.
-/
import Derived.RowKit
import Derived.Laws.BitsAllLaws
namespace Go.Proofs.Ytlihcdhcljljoaa
set_option linter.unusedVariables false
set_option linter.unusedSimpArgs false
open Go.RowKit

namespace Bw

def Lsl (x n : Int) : Int := x * 2 ^ (n % 32).toNat % 4294967296
def Asr (x n : Int) : Int := wrap32 x / 2 ^ (n % 32).toNat % 4294967296
def Ror (x n : Int) : Int := x / 2 ^ (n % 32).toNat + x % 2 ^ (n % 32).toNat * 2 ^ (32 - (n % 32).toNat)
def may (lo n : Int) : Bool := decide (0 ≤ lo ∧ 1 ≤ n ∧ lo + n ≤ 32)
def Get (x lo n : Int) : Int := if may lo n = true then x / 2 ^ lo.toNat % 2 ^ n.toNat else 0
def Put (x lo n v : Int) : Int := if may lo n = true then x - x / 2 ^ lo.toNat % 2 ^ n.toNat * 2 ^ lo.toNat + v % 2 ^ n.toNat * 2 ^ lo.toNat else x
def few (n : Int) : Bool := decide (1 ≤ n ∧ n ≤ 32)
def Extend (v n : Int) : Int := if few n = true then (v + 2 ^ (n.toNat - 1)) % 2 ^ n.toNat - 2 ^ (n.toNat - 1) else 0
def Fits (v n : Int) : Bool := few n && decide (-(2 ^ (n.toNat - 1)) ≤ v ∧ v < 2 ^ (n.toNat - 1))

theorem pow_pos (n : Nat) : (0 : Int) < 2 ^ n := Int.pow_pos (by decide)
theorem pow_mono {a b : Nat} (h : a ≤ b) : (2 : Int) ^ a ≤ 2 ^ b := by
  have := Nat.pow_le_pow_right (n := 2) (by decide) h
  exact_mod_cast this
theorem pow_cast (n : Nat) : ((2 ^ n : Nat) : Int) = (2 : Int) ^ n := by simp

/-- A word that is joined of an upper and a lower part, bit by bit, is their sum. -/
theorem or_add (a b : Int) (k : Nat) (ha0 : 0 ≤ a) (hb0 : 0 ≤ b) (h : a % 2 ^ k = 0) (hb : b < 2 ^ k) (ha' : a < 4294967296) (hb' : b < 4294967296) :
    bits .or .u32 a b = a + b := by
  rw [u32_or a b ha0 ha' hb0 hb']
  obtain ⟨A, rfl⟩ := Int.eq_ofNat_of_zero_le ha0
  obtain ⟨B, rfl⟩ := Int.eq_ofNat_of_zero_le hb0
  rw [Int.toNat_natCast, Int.toNat_natCast]
  rw [← pow_cast] at h hb
  have h' : A % 2 ^ k = 0 := by exact_mod_cast h
  have hb'' : B < 2 ^ k := by exact_mod_cast hb
  rw [nat_join k A B h' hb'']
  simp

/-- The lower k bits: what the mask 2^k - 1 leaves. -/
theorem and_mask (a : Int) (k : Nat) (ha0 : 0 ≤ a) (ha' : a < 4294967296) (hk : k ≤ 32) :
    bits .and .u32 a (2 ^ k - 1) = a % 2 ^ k := by
  have hp := pow_pos k
  have hm : (2 : Int) ^ k ≤ 2 ^ 32 := pow_mono hk
  rw [u32_and a _ ha0 ha' (by omega) (by omega)]
  obtain ⟨A, rfl⟩ := Int.eq_ofNat_of_zero_le ha0
  have e : ((2 : Int) ^ k - 1).toNat = 2 ^ k - 1 := by
    rw [← pow_cast]; omega
  rw [Int.toNat_natCast, e, Nat.and_two_pow_sub_one_eq_mod, ← pow_cast]
  simp

theorem pow_split (a b : Nat) (h : a ≤ b) : (2 : Int) ^ b = 2 ^ a * 2 ^ (b - a) := by
  rw [← Int.pow_add]; congr 1; omega

theorem mul_mod_pow (x : Int) (a b : Nat) (h : a ≤ b) : x * 2 ^ a % 2 ^ b = x % 2 ^ (b - a) * 2 ^ a := by
  rw [pow_split a b h, Int.mul_comm x, Int.mul_emod_mul_of_pos _ _ (pow_pos a), Int.mul_comm]

theorem div_lt_pow (x : Int) (m : Nat) (hx0 : 0 ≤ x) (hx : x < 4294967296) (hm : m ≤ 32) : x / 2 ^ m < 2 ^ (32 - m) := by
  have hp := pow_pos m
  refine Int.ediv_lt_of_lt_mul hp ?_
  rw [← Int.pow_add, show 32 - m + m = 32 by omega]; exact hx

theorem upper_mod (y : Int) (a k : Nat) (h : a ≤ k) : y % 2 ^ (k - a) * 2 ^ a = y * 2 ^ a % 2 ^ k := (mul_mod_pow y a k h).symm

/-- A word turned left by s, as the library makes it, is the word turned right by the rest. -/
theorem rotl (x n : Int) (hx : 0 ≤ x) (hx' : x < 4294967296) (hn : -31 ≤ n) (hn' : n ≤ 0) :
    bits .or .u32 (x * 2 ^ (n % 32).toNat % 4294967296) (x / 2 ^ (32 - n % 32).toNat) = Ror x (-n) := by
  by_cases h0 : n = 0
  · subst h0
    simp only [Ror, show (0 : Int) % 32 = 0 from rfl, show (-(0 : Int)) % 32 = 0 from rfl, show (32 - 0 : Int).toNat = 32 from rfl, Int.toNat_zero, Int.pow_zero, Int.mul_one, Int.ediv_one, Int.emod_one, Int.zero_mul, Int.add_zero]
    rw [Int.emod_eq_of_lt hx hx', show x / (2 : Int) ^ 32 = 0 from Int.ediv_eq_zero_of_lt hx hx', or_add x 0 0 hx (by decide) (by simp [Int.emod_one]) (by decide) hx' (by decide), Int.add_zero]
  · obtain ⟨m, rfl⟩ : ∃ m : Nat, n = -(m : Int) := ⟨(-n).toNat, by omega⟩
    have e1 : (-(m : Int) % 32).toNat = 32 - m := by omega
    have e2 : (32 - -(m : Int) % 32).toNat = m := by omega
    have e3 : (- -(m : Int) % 32).toNat = m := by omega
    simp only [Ror, e1, e2, e3]
    have hm : m ≤ 32 := by omega
    have hu : x * 2 ^ (32 - m) % 4294967296 = x % 2 ^ m * 2 ^ (32 - m) := by
      have := mul_mod_pow x (32 - m) 32 (by omega)
      rw [show 32 - (32 - m) = m by omega] at this
      exact this
    have hd := div_lt_pow x m hx hx' hm
    have hd0 : 0 ≤ x / 2 ^ m := Int.ediv_nonneg hx (Int.le_of_lt (pow_pos m))
    have hl : x / 2 ^ m ≤ x := Int.ediv_le_self _ hx
    have hb : 0 ≤ x * 2 ^ (32 - m) % 4294967296 ∧ x * 2 ^ (32 - m) % 4294967296 < 4294967296 := by omega
    rw [or_add _ _ (32 - m) hb.1 hd0 (by rw [hu]; exact Int.mul_emod_left _ _) hd hb.2 (by omega), hu, Int.add_comm]

theorem u64_and31 (n : Int) : bits .and .u64 (IntKind.u64.wrap n) 31 = n % 32 := by
  have hw : IntKind.u64.wrap n = n % 18446744073709551616 := by simp [IntKind.wrap, IntKind.bits, IntKind.signed]
  rw [hw, u64_and _ _ (by omega) (by omega) (by decide) (by decide)]
  obtain ⟨A, hA⟩ := Int.eq_ofNat_of_zero_le (show 0 ≤ n % 18446744073709551616 by omega)
  rw [hA, Int.toNat_natCast, show (31 : Int).toNat = 31 from rfl, nat_mask5]
  omega

theorem may_iff (lo n : Int) : may lo n = true ↔ 0 ≤ lo ∧ 1 ≤ n ∧ lo + n ≤ 32 := by simp [may]
theorem may_no (lo n : Int) : may lo n = false ↔ ¬ (0 ≤ lo ∧ 1 ≤ n ∧ lo + n ≤ 32) := by simp only [may, decide_eq_false_iff_not]
theorem few_iff (n : Int) : few n = true ↔ 1 ≤ n ∧ n ≤ 32 := by simp [few]
theorem few_no (n : Int) : few n = false ↔ ¬ (1 ≤ n ∧ n ≤ 32) := by simp only [few, decide_eq_false_iff_not]

theorem mask_val (n : Int) (h0 : 1 ≤ n) (h1 : n ≤ 32) : ((2 : Int) ^ n.toNat % 4294967296 - 1) % 4294967296 = 2 ^ n.toNat - 1 := by
  have hp := pow_pos n.toNat
  have hm : (2 : Int) ^ n.toNat ≤ 2 ^ 32 := pow_mono (by omega)
  by_cases h : n.toNat = 32
  · rw [h]; decide
  · have hm' : (2 : Int) ^ n.toNat ≤ 2 ^ 31 := pow_mono (by omega)
    rw [Int.emod_eq_of_lt (a := 2 ^ n.toNat) (by omega) (by omega), Int.emod_eq_of_lt (by omega) (by omega)]

theorem get_val (x lo n : Int) (hx : 0 ≤ x) (hx' : x < 4294967296) (hm : may lo n = true) :
    bits .and .u32 (x / 2 ^ lo.toNat) (2 ^ n.toNat - 1) = Get x lo n := by
  have hi := (may_iff lo n).1 hm
  have h0 : 0 ≤ x / 2 ^ lo.toNat := Int.ediv_nonneg hx (Int.le_of_lt (pow_pos _))
  have h1 : x / 2 ^ lo.toNat ≤ x := Int.ediv_le_self _ hx
  rw [and_mask _ _ h0 (by omega) (by omega), Get, if_pos hm]

theorem extend_val (v n : Int) (h0 : 1 ≤ n) (h1 : n ≤ 32) :
    wrap64 (wrap32 (v * 2 ^ (32 - n).toNat % 4294967296) / 2 ^ (32 - n).toNat) = Extend v n := by
  obtain ⟨m, hm, rfl⟩ : ∃ m : Nat, m ≤ 31 ∧ n = ((32 - m : Nat) : Int) := ⟨(32 - n).toNat, by omega, by omega⟩
  have e1 : (32 - ((32 - m : Nat) : Int)).toNat = m := by omega
  rw [e1, Extend, if_pos ((few_iff _).2 ⟨by omega, by omega⟩), Int.toNat_natCast]
  have hp := pow_pos m
  have hq := pow_pos (32 - m)
  have hr : (2 : Int) ^ (32 - m) = 2 ^ (32 - m - 1) * 2 := by rw [← Int.pow_succ]; congr 1; omega
  have hh : (2147483648 : Int) = 2 ^ (32 - m - 1) * 2 ^ m := by rw [← Int.pow_add, show 32 - m - 1 + m = 31 by omega]; rfl
  have hw : wrap32 (v * 2 ^ m % 4294967296) = ((v + 2 ^ (32 - m - 1)) % 2 ^ (32 - m) - 2 ^ (32 - m - 1)) * 2 ^ m := by
    have ha : wrap32 (v * 2 ^ m % 4294967296) = (v * 2 ^ m + 2147483648) % 4294967296 - 2147483648 := by unfold wrap32; omega
    rw [ha, hh, ← Int.add_mul, Int.sub_mul]
    have := mul_mod_pow (v + 2 ^ (32 - m - 1)) m 32 (by omega)
    rw [show (4294967296 : Int) = 2 ^ 32 from rfl, this]
  rw [hw, Int.mul_ediv_cancel _ (by omega)]
  have hb := Int.emod_lt_of_pos (v + 2 ^ (32 - m - 1)) hq
  have hc := Int.emod_nonneg (v + 2 ^ (32 - m - 1)) (show (2 : Int) ^ (32 - m) ≠ 0 by omega)
  have hd : (2 : Int) ^ (32 - m) ≤ 2 ^ 32 := pow_mono (by omega)
  have he := pow_pos (32 - m - 1)
  generalize (v + 2 ^ (32 - m - 1)) % 2 ^ (32 - m) = a at *
  generalize (2 : Int) ^ (32 - m - 1) = b at *
  unfold wrap64; omega

/-- Put, in natural numbers, bit by bit. -/
theorem put_nat (x v l k : Nat) (h : l + k ≤ 32) (hx : x < 2 ^ 32) :
    x &&& (2 ^ 32 - 1 - (2 ^ k - 1) * 2 ^ l) ||| v * 2 ^ l % 2 ^ 32 &&& (2 ^ k - 1) * 2 ^ l = 2 ^ (l + k) * (x / 2 ^ (l + k)) + (2 ^ l * (v % 2 ^ k) + x % 2 ^ l) := by
  have hm : (2 ^ k - 1) * 2 ^ l < 2 ^ 32 := by
    have h1 : 2 ^ k * 2 ^ l ≤ 2 ^ 32 := by rw [← Nat.pow_add]; exact Nat.pow_le_pow_right (by decide) (by omega)
    have h2 := Nat.two_pow_pos k
    have h3 := Nat.two_pow_pos l
    rw [Nat.sub_mul]; omega
  have hlow : x % 2 ^ l < 2 ^ l := Nat.mod_lt _ (Nat.two_pow_pos l)
  have hmid : 2 ^ l * (v % 2 ^ k) + x % 2 ^ l < 2 ^ (l + k) := by
    have h1 : v % 2 ^ k + 1 ≤ 2 ^ k := Nat.mod_lt _ (Nat.two_pow_pos k)
    have h2 := Nat.mul_le_mul_left (2 ^ l) h1
    rw [Nat.pow_add]; rw [Nat.mul_add] at h2; omega
  apply Nat.eq_of_testBit_eq
  intro i
  rw [Nat.testBit_or, Nat.testBit_and, Nat.testBit_and, show 2 ^ 32 - 1 - (2 ^ k - 1) * 2 ^ l = 2 ^ 32 - ((2 ^ k - 1) * 2 ^ l + 1) by omega, Nat.testBit_two_pow_sub_succ hm, Nat.testBit_mod_two_pow,
    Nat.testBit_mul_two_pow, Nat.testBit_mul_two_pow, Nat.testBit_two_pow_sub_one, Nat.testBit_two_pow_mul_add _ hmid, Nat.testBit_two_pow_mul_add _ hlow, Nat.testBit_mod_two_pow, Nat.testBit_mod_two_pow, Nat.testBit_div_two_pow]
  by_cases h32 : i < 32
  · by_cases h1 : i < l
    · have : i < l + k := by omega
      have h4 : ¬ l ≤ i := by omega
      simp [h1, this, h4, h32]
    · by_cases h2 : i < l + k
      · have h3 : l ≤ i := by omega
        have h4 : i - l < k := by omega
        simp [h1, h2, h3, h4, h32]
      · have h3 : l ≤ i := by omega
        have h4 : ¬ (i - l < k) := by omega
        simp [h2, h3, h4, h32, show i - (l + k) + (l + k) = i by omega]
  · have h2 : ¬ (i < l + k) := by omega
    have h5 : x.testBit i = false := Nat.testBit_lt_two_pow (Nat.lt_of_lt_of_le hx (Nat.pow_le_pow_right (by decide) (by omega)))
    simp [h2, h32, h5, show i - (l + k) + (l + k) = i by omega]

theorem split3 (x l k : Nat) : x = 2 ^ (l + k) * (x / 2 ^ (l + k)) + (2 ^ l * (x / 2 ^ l % 2 ^ k) + x % 2 ^ l) := by
  have h1 := Nat.div_add_mod x (2 ^ l)
  have h2 := Nat.div_add_mod (x / 2 ^ l) (2 ^ k)
  rw [Nat.div_div_eq_div_mul, ← Nat.pow_add] at h2
  rw [← h2, Nat.mul_add, ← Nat.mul_assoc, ← Nat.pow_add] at h1
  omega

theorem put_val (x lo n v : Int) (hx : 0 ≤ x) (hx' : x < 4294967296) (hv : 0 ≤ v) (hv' : v < 4294967296) (hm : may lo n = true) :
    bits .or .u32 (bits .andNot .u32 x ((2 ^ n.toNat - 1) * 2 ^ lo.toNat % 4294967296)) (bits .and .u32 (v * 2 ^ lo.toNat % 4294967296) ((2 ^ n.toNat - 1) * 2 ^ lo.toNat % 4294967296)) = Put x lo n v := by
  have hi := (may_iff lo n).1 hm
  rw [Put, if_pos hm]
  obtain ⟨X, rfl⟩ := Int.eq_ofNat_of_zero_le hx
  obtain ⟨V, rfl⟩ := Int.eq_ofNat_of_zero_le hv
  generalize hl : lo.toNat = l at *
  generalize hk : n.toNat = k at *
  have hlk : l + k ≤ 32 := by omega
  have h1 : 2 ^ k * 2 ^ l ≤ 2 ^ 32 := by rw [← Nat.pow_add]; exact Nat.pow_le_pow_right (by decide) (by omega)
  have h2 := Nat.two_pow_pos k
  have h3 := Nat.two_pow_pos l
  have hM : (2 ^ k - 1) * 2 ^ l < 4294967296 := by rw [Nat.sub_mul]; omega
  have eM : ((2 : Int) ^ k - 1) * 2 ^ l % 4294967296 = (((2 ^ k - 1) * 2 ^ l : Nat) : Int) := by
    have : ((2 : Int) ^ k - 1) * 2 ^ l = (((2 ^ k - 1) * 2 ^ l : Nat) : Int) := by
      rw [Int.natCast_mul, Int.natCast_sub (by omega)]; simp
    rw [this]; omega
  have eV : (V : Int) * 2 ^ l % 4294967296 = ((V * 2 ^ l % 4294967296 : Nat) : Int) := by
    rw [← pow_cast l]; simp
  have hX : X < 4294967296 := by omega
  have hVl : V * 2 ^ l % 4294967296 < 4294967296 := Nat.mod_lt _ (by decide)
  rw [eM, eV, u32_andNot_nat _ _ hX hM, u32_and_nat _ _ hVl hM]
  rw [u32_or_nat _ _ (Nat.lt_of_le_of_lt Nat.and_le_left hX) (Nat.lt_of_le_of_lt Nat.and_le_right hM)]
  have hp := put_nat X V l k hlk (by omega)
  rw [show (2 : Nat) ^ 32 - 1 = 4294967295 from rfl, show (2 : Nat) ^ 32 = 4294967296 from rfl] at hp
  rw [hp]
  have hs := split3 X l k
  have a1 : (X : Int) / 2 ^ l % 2 ^ k * 2 ^ l = ((2 ^ l * (X / 2 ^ l % 2 ^ k) : Nat) : Int) := by
    rw [← pow_cast l, ← pow_cast k, Nat.mul_comm]; simp
  have a2 : (V : Int) % 2 ^ k * 2 ^ l = ((2 ^ l * (V % 2 ^ k) : Nat) : Int) := by
    rw [← pow_cast l, ← pow_cast k, Nat.mul_comm]; simp
  rw [a1, a2]
  omega

theorem wrap64_pow (m : Nat) (h : m ≤ 62) : wrap64 (2 ^ m) = 2 ^ m := by
  have h1 := pow_pos m
  have h2 : (2 : Int) ^ m ≤ 2 ^ 62 := pow_mono h
  unfold wrap64; omega
theorem wrap64_neg_pow (m : Nat) (h : m ≤ 62) : wrap64 (-2 ^ m) = -2 ^ m := by
  have h1 := pow_pos m
  have h2 : (2 : Int) ^ m ≤ 2 ^ 62 := pow_mono h
  unfold wrap64; omega

theorem wrapU64_of {n : Int} (h0 : 0 ≤ n) (h1 : n < 18446744073709551616) : IntKind.u64.wrap n = n := by
  have hw : IntKind.u64.wrap n = n % 18446744073709551616 := by simp [IntKind.wrap, IntKind.bits, IntKind.signed]
  rw [hw]; omega
theorem wrapU64_emod (n : Int) : IntKind.u64.wrap n = n % 18446744073709551616 := by simp [IntKind.wrap, IntKind.bits, IntKind.signed]
theorem mul_pow_bd (x : Int) (a b : Nat) (h0 : 0 ≤ x) (h : x < 2 ^ a) : 0 ≤ x * 2 ^ b ∧ x * 2 ^ b < 2 ^ (a + b) := by
  refine ⟨Int.mul_nonneg h0 (Int.le_of_lt (pow_pos b)), ?_⟩
  rw [Int.pow_add]; exact Int.mul_lt_mul_of_pos_right h (pow_pos b)

theorem powStep (k : Nat) (h : k < 63) : IntKind.u64.wrap (2 ^ k * 2) = 2 ^ (k + 1) := by
  have h1 := pow_pos k
  have h2 : (2 : Int) ^ k ≤ 2 ^ 62 := pow_mono (by omega)
  rw [wrapU64_of (by omega) (by omega), Int.pow_succ]

theorem refLsl_val (x n : Int) (hx : 0 ≤ x) (hx' : x < 4294967296) :
    (IntKind.u64.wrap (x * 2 ^ (n % 32).toNat)).tmod 4294967296 % 4294967296 = Lsl x n := by
  have hb := mul_pow_bd x 32 (n % 32).toNat hx hx'
  have h2 : (2 : Int) ^ (32 + (n % 32).toNat) ≤ 2 ^ 63 := pow_mono (by omega)
  rw [wrapU64_of hb.1 (by omega), Int.tmod_eq_emod_of_nonneg hb.1, Lsl]; omega

theorem asr_start (x : Int) (hx : 0 ≤ x) (hx' : x < 4294967296) : x = wrap32 x / 2 ^ 0 % 4294967296 := by
  unfold wrap32; rw [Int.pow_zero]; omega
theorem div_succ (y : Int) (k : Nat) : y / 2 ^ (k + 1) = y / 2 ^ k / 2 := by
  rw [Int.pow_succ, Int.ediv_ediv_of_nonneg (Int.le_of_lt (pow_pos k))]
theorem wrap32_div_bd (x : Int) (k : Nat) : -2147483648 ≤ wrap32 x / 2 ^ k ∧ wrap32 x / 2 ^ k < 2147483648 := by
  have hp := pow_pos k
  have h1 : -2147483648 ≤ wrap32 x ∧ wrap32 x < 2147483648 := by unfold wrap32; omega
  constructor
  · rw [Int.le_ediv_iff_mul_le hp]
    have := Int.mul_le_mul_of_nonneg_left (show (1 : Int) ≤ 2 ^ k by omega) (show (0 : Int) ≤ 2147483648 by decide)
    omega
  · refine Int.ediv_lt_of_lt_mul hp ?_
    have := Int.mul_le_mul_of_nonneg_left (show (1 : Int) ≤ 2 ^ k by omega) (show (0 : Int) ≤ 2147483648 by decide)
    omega

theorem ror_bd (x : Int) (k : Nat) (hx : 0 ≤ x) (hx' : x < 4294967296) (hk : k ≤ 32) : 0 ≤ x / 2 ^ k + x % 2 ^ k * 2 ^ (32 - k) ∧ x / 2 ^ k + x % 2 ^ k * 2 ^ (32 - k) < 4294967296 := by
  have hp := pow_pos k
  have hd0 : 0 ≤ x / 2 ^ k := Int.ediv_nonneg hx (by omega)
  have hd := div_lt_pow x k hx hx' hk
  have h1 := Int.emod_nonneg x (show (2 : Int) ^ k ≠ 0 by omega)
  have h2 := Int.emod_lt_of_pos x hp
  have hb := mul_pow_bd (x % 2 ^ k) k (32 - k) h1 h2
  have h3 : x % 2 ^ k + 1 ≤ 2 ^ k := by omega
  have h4 := Int.mul_le_mul_of_nonneg_right h3 (Int.le_of_lt (pow_pos (32 - k)))
  rw [← Int.pow_add, show k + (32 - k) = 32 by omega, Int.add_mul, Int.one_mul] at h4
  constructor
  · omega
  · have : (2 : Int) ^ 32 = 4294967296 := rfl
    omega

theorem mod_succ (x : Int) (k : Nat) : x % 2 ^ (k + 1) = x % 2 ^ k + x / 2 ^ k % 2 * 2 ^ k := by
  have h1 := Int.mul_ediv_add_emod x (2 ^ k)
  have h2 := Int.mul_ediv_add_emod x (2 ^ (k + 1))
  have h3 := Int.mul_ediv_add_emod (x / 2 ^ k) 2
  rw [div_succ] at h2
  rw [Int.pow_succ] at *
  generalize x / 2 ^ k = a at *
  generalize (2 : Int) ^ k = p at *
  rw [← h3, Int.mul_add, ← Int.mul_assoc] at h1
  rw [Int.mul_comm (a % 2) p]
  omega

theorem ror_step (x : Int) (k : Nat) (hk : k < 32) :
    (x / 2 ^ k + x % 2 ^ k * 2 ^ (32 - k)) / 2 + (x / 2 ^ k + x % 2 ^ k * 2 ^ (32 - k)) % 2 * 2147483648 = x / 2 ^ (k + 1) + x % 2 ^ (k + 1) * 2 ^ (32 - (k + 1)) := by
  have hq : (2 : Int) ^ (32 - k) = 2 ^ (32 - (k + 1)) * 2 := by rw [← Int.pow_succ]; congr 1; omega
  have hr : (2147483648 : Int) = 2 ^ k * 2 ^ (32 - (k + 1)) := by rw [← Int.pow_add, show k + (32 - (k + 1)) = 31 by omega]; rfl
  rw [mod_succ, div_succ, hq]
  have e1 : (x / 2 ^ k + x % 2 ^ k * (2 ^ (32 - (k + 1)) * 2)) / 2 = x / 2 ^ k / 2 + x % 2 ^ k * 2 ^ (32 - (k + 1)) := by
    rw [← Int.mul_assoc]; omega
  have e2 : (x / 2 ^ k + x % 2 ^ k * (2 ^ (32 - (k + 1)) * 2)) % 2 = x / 2 ^ k % 2 := by
    rw [← Int.mul_assoc]; omega
  rw [e1, e2, Int.add_mul, Int.mul_assoc, ← hr]; omega

theorem emod_le {a b : Int} (h0 : 0 ≤ a) (hb : 0 < b) : a % b ≤ a := by
  have h1 := Int.mul_ediv_add_emod a b
  have h2 : 0 ≤ b * (a / b) := Int.mul_nonneg (Int.le_of_lt hb) (Int.ediv_nonneg h0 (Int.le_of_lt hb))
  omega

theorem refGet_val (x lo n : Int) (hx : 0 ≤ x) (hx' : x < 4294967296) (hm : may lo n = true) :
    x / 2 ^ lo.toNat % 2 ^ n.toNat % 4294967296 = Get x lo n := by
  rw [Get, if_pos hm]
  have h0 : 0 ≤ x / 2 ^ lo.toNat := Int.ediv_nonneg hx (Int.le_of_lt (pow_pos _))
  have h1 : x / 2 ^ lo.toNat ≤ x := Int.ediv_le_self _ hx
  have h2 := Int.emod_nonneg (x / 2 ^ lo.toNat) (show (2 : Int) ^ n.toNat ≠ 0 by have := pow_pos n.toNat; omega)
  have h3 : x / 2 ^ lo.toNat % 2 ^ n.toNat ≤ x / 2 ^ lo.toNat := emod_le h0 (pow_pos _)
  omega

theorem refGet_val' (x lo n : Int) (hx : 0 ≤ x) (hx' : x < 4294967296) (hm : may lo n = true) :
    (x / 2 ^ lo.toNat).tmod (2 ^ n.toNat) % 4294967296 = Get x lo n := by
  rw [Int.tmod_eq_emod_of_nonneg (Int.ediv_nonneg hx (Int.le_of_lt (pow_pos _)))]; exact refGet_val x lo n hx hx' hm
theorem tmod_32 (n : Int) : n.tmod 4294967296 % 4294967296 = n % 4294967296 ∧ -4294967296 < n.tmod 4294967296 ∧ n.tmod 4294967296 < 4294967296 := by
  have h := Int.tmod_eq_emod (a := n) (b := 4294967296)
  rw [h]
  split <;> omega
theorem word_val (n : Int) : wrap64 (n.tmod 4294967296 + 4294967296) % 4294967296 = n % 4294967296 := by
  obtain ⟨h1, h2, h3⟩ := tmod_32 n
  unfold wrap64; omega

theorem get_bd (x lo n : Int) (hx : 0 ≤ x) (hx' : x < 4294967296) : 0 ≤ Get x lo n ∧ Get x lo n < 4294967296 := by
  cases hm : may lo n
  · simp [Get, hm]
  · have := refGet_val x lo n hx hx' hm
    omega
theorem get_lt (x lo n : Int) (hm : may lo n = true) : 0 ≤ Get x lo n ∧ Get x lo n < 2 ^ n.toNat := by
  rw [Get, if_pos hm]
  exact ⟨Int.emod_nonneg _ (by have := pow_pos n.toNat; omega), Int.emod_lt_of_pos _ (pow_pos _)⟩
/-- A part of a word stays below its upper end. -/
theorem part_bd (y : Int) (l k : Nat) (h : l + k ≤ 32) (h0 : 0 ≤ y) (h1 : y < 2 ^ k) : 0 ≤ y * 2 ^ l ∧ y * 2 ^ l < 4294967296 := by
  have hb := mul_pow_bd y k l h0 h1
  have : (2 : Int) ^ (k + l) ≤ 2 ^ 32 := pow_mono (by omega)
  exact ⟨hb.1, by omega⟩
theorem get_part (x lo n : Int) (hx : 0 ≤ x) (hm : may lo n = true) : Get x lo n * 2 ^ lo.toNat ≤ x := by
  rw [Get, if_pos hm]
  have hd0 : 0 ≤ x / 2 ^ lo.toNat := Int.ediv_nonneg hx (Int.le_of_lt (pow_pos _))
  have h1 := emod_le hd0 (pow_pos n.toNat)
  have h2 := Int.mul_le_mul_of_nonneg_right h1 (Int.le_of_lt (pow_pos lo.toNat))
  have h3 := Int.ediv_mul_le x (show (2 : Int) ^ lo.toNat ≠ 0 by have := pow_pos lo.toNat; omega)
  omega
theorem put_bd (x lo n v : Int) (hx : 0 ≤ x) (hx' : x < 4294967296) : 0 ≤ Put x lo n v ∧ Put x lo n v < 4294967296 := by
  cases hm : may lo n
  · simp [Put, hm]; omega
  · have hi := (may_iff lo n).1 hm
    obtain ⟨X, rfl⟩ := Int.eq_ofNat_of_zero_le hx
    rw [Put, if_pos hm]
    generalize hl : lo.toNat = l at *
    generalize hk : n.toNat = k at *
    have hs := split3 X l k
    have h2 := Int.emod_lt_of_pos v (pow_pos k)
    have h3 := Int.emod_nonneg v (show (2 : Int) ^ k ≠ 0 by have := pow_pos k; omega)
    have a1 : (X : Int) / 2 ^ l % 2 ^ k * 2 ^ l = ((2 ^ l * (X / 2 ^ l % 2 ^ k) : Nat) : Int) := by
      rw [← pow_cast l, ← pow_cast k, Nat.mul_comm]; simp
    have hu : 2 ^ (l + k) * (X / 2 ^ (l + k)) + 2 ^ (l + k) ≤ 4294967296 := by
      have e : (4294967296 : Nat) = 2 ^ (l + k) * 2 ^ (32 - (l + k)) := by rw [← Nat.pow_add, show l + k + (32 - (l + k)) = 32 by omega]
      have hq : X / 2 ^ (l + k) < 2 ^ (32 - (l + k)) := by
        rw [Nat.div_lt_iff_lt_mul (Nat.two_pow_pos _), ← Nat.pow_add, show 32 - (l + k) + (l + k) = 32 by omega]; omega
      have := Nat.mul_le_mul_left (2 ^ (l + k)) (show X / 2 ^ (l + k) + 1 ≤ 2 ^ (32 - (l + k)) from hq)
      rw [Nat.mul_add] at this
      omega
    have hlow : X % 2 ^ l < 2 ^ l := Nat.mod_lt _ (Nat.two_pow_pos l)
    have hv1 : (v % 2 ^ k + 1) * 2 ^ l ≤ 2 ^ (l + k) := by
      rw [Nat.add_comm l k, Int.pow_add]; exact Int.mul_le_mul_of_nonneg_right (by omega) (Int.le_of_lt (pow_pos l))
    rw [Int.add_mul, Int.one_mul, ← pow_cast (l + k), ← pow_cast l] at hv1
    have hv0 := (mul_pow_bd (v % 2 ^ k) k l h3 h2).1
    rw [← pow_cast l] at hv0
    rw [a1, ← pow_cast l]
    generalize v % 2 ^ k * ((2 ^ l : Nat) : Int) = V at *
    generalize 2 ^ (l + k) * (X / 2 ^ (l + k)) = U at *
    generalize 2 ^ l * (X / 2 ^ l % 2 ^ k) = M at *
    generalize 2 ^ (l + k) = P at *
    generalize 2 ^ l = Q at *
    generalize X % Q = R at *
    omega

theorem extend_eq (v n p : Int) (hm : few n = true) (hp : p = 2 ^ n.toNat) : (p / 2 ≤ v % p → v % p - p = Extend v n) ∧ (v % p < p / 2 → v % p = Extend v n) := by
  have hi := (few_iff n).1 hm
  subst hp
  rw [Extend, if_pos hm]
  have hr : (2 : Int) ^ n.toNat = 2 ^ (n.toNat - 1) * 2 := by rw [← Int.pow_succ]; congr 1; omega
  have h1 := Int.emod_nonneg v (show (2 : Int) ^ n.toNat ≠ 0 by have := pow_pos n.toNat; omega)
  have h2 := Int.emod_lt_of_pos v (pow_pos n.toNat)
  rw [← Int.emod_add_emod]
  generalize v % 2 ^ n.toNat = k at *
  rw [hr] at *
  generalize (2 : Int) ^ (n.toNat - 1) = q at *
  constructor
  · intro h
    have : (k + q) % (q * 2) = k + q - q * 2 := by
      rw [← Int.sub_emod_right]; exact Int.emod_eq_of_lt (by omega) (by omega)
    omega
  · intro h
    have : (k + q) % (q * 2) = k + q := Int.emod_eq_of_lt (by omega) (by omega)
    omega
theorem fits_eq (v n : Int) (hm : few n = true) : Fits v n = decide (-(2 ^ n.toNat / 2) ≤ v ∧ v < 2 ^ n.toNat / 2) := by
  have hi := (few_iff n).1 hm
  have hr : (2 : Int) ^ n.toNat = 2 ^ (n.toNat - 1) * 2 := by rw [← Int.pow_succ]; congr 1; omega
  rw [Fits, hm, hr, Int.mul_ediv_cancel _ (by decide), Bool.true_and]

theorem refPut_val (x lo n v : Int) (hx : 0 ≤ x) (hx' : x < 4294967296) (hv : 0 ≤ v) (hm : may lo n = true) :
    IntKind.u64.wrap (IntKind.u64.wrap (x - IntKind.u64.wrap (Get x lo n * 2 ^ lo.toNat)) + IntKind.u64.wrap (v % 2 ^ n.toNat * 2 ^ lo.toNat)) % 4294967296 = Put x lo n v := by
  have hi := (may_iff lo n).1 hm
  have hg := get_lt x lo n hm
  have h1 := part_bd (Get x lo n) lo.toNat n.toNat (by omega) hg.1 hg.2
  have h2 := get_part x lo n hx hm
  have h3 := part_bd (v % 2 ^ n.toNat) lo.toNat n.toNat (by omega) (Int.emod_nonneg _ (by have := pow_pos n.toNat; omega)) (Int.emod_lt_of_pos _ (pow_pos _))
  have hb := put_bd x lo n v hx hx'
  rw [wrapU64_of h1.1 (by omega), wrapU64_of h3.1 (by omega), wrapU64_of (n := x - _) (by omega) (by omega), wrapU64_of (by omega) (by omega)]
  rw [Put, if_pos hm] at *
  rw [Get, if_pos hm] at *
  omega
theorem refPut_val' (x lo n v : Int) (hx : 0 ≤ x) (hx' : x < 4294967296) (hv : 0 ≤ v) (hm : may lo n = true) :
    IntKind.u64.wrap (IntKind.u64.wrap (x - IntKind.u64.wrap (Get x lo n * 2 ^ lo.toNat)) + IntKind.u64.wrap (v.tmod (2 ^ n.toNat) * 2 ^ lo.toNat)) % 4294967296 = Put x lo n v := by
  rw [Int.tmod_eq_emod_of_nonneg hv]; exact refPut_val x lo n v hx hx' hv hm

/-- What Put makes, in its three parts. -/
theorem put_parts (X V l k : Nat) (lo n : Int) (hl : lo = l) (hk : n = k) (hm : may lo n = true) :
    Put (X : Int) lo n (V : Int) = ((2 ^ (l + k) * (X / 2 ^ (l + k)) + (2 ^ l * (V % 2 ^ k) + X % 2 ^ l) : Nat) : Int) := by
  rw [Put, if_pos hm]
  subst hl hk
  rw [Int.toNat_natCast, Int.toNat_natCast]
  have hs := split3 X l k
  have a1 : (X : Int) / 2 ^ l % 2 ^ k * 2 ^ l = ((2 ^ l * (X / 2 ^ l % 2 ^ k) : Nat) : Int) := by
    rw [← pow_cast l, ← pow_cast k, Nat.mul_comm]; simp
  have a2 : (V : Int) % 2 ^ k * 2 ^ l = ((2 ^ l * (V % 2 ^ k) : Nat) : Int) := by
    rw [← pow_cast l, ← pow_cast k, Nat.mul_comm]; simp
  rw [a1, a2]
  omega

theorem get_put (x lo n v : Int) (hx : 0 ≤ x) (hv : 0 ≤ v) (hm : may lo n = true) : Get (Put x lo n v) lo n = v % 2 ^ n.toNat := by
  have hi := (may_iff lo n).1 hm
  obtain ⟨X, rfl⟩ := Int.eq_ofNat_of_zero_le hx
  obtain ⟨V, rfl⟩ := Int.eq_ofNat_of_zero_le hv
  obtain ⟨l, rfl⟩ := Int.eq_ofNat_of_zero_le hi.1
  obtain ⟨k, rfl⟩ := Int.eq_ofNat_of_zero_le (show 0 ≤ n by omega)
  rw [put_parts X V l k _ _ rfl rfl hm, Get, if_pos hm, Int.toNat_natCast, Int.toNat_natCast, ← pow_cast, ← pow_cast]
  have hlow : X % 2 ^ l < 2 ^ l := Nat.mod_lt _ (Nat.two_pow_pos l)
  have e : (2 ^ (l + k) * (X / 2 ^ (l + k)) + (2 ^ l * (V % 2 ^ k) + X % 2 ^ l)) / 2 ^ l % 2 ^ k = V % 2 ^ k := by
    rw [Nat.pow_add, Nat.mul_assoc, ← Nat.add_assoc, ← Nat.mul_add, Nat.mul_add_div (Nat.two_pow_pos l), Nat.div_eq_of_lt hlow, Nat.add_zero, Nat.mul_add_mod, Nat.mod_mod]
  exact_mod_cast e

theorem put_put (x lo n v u : Int) (hx : 0 ≤ x) (hv : 0 ≤ v) (hm : may lo n = true) : Put (Put x lo n v) lo n u = Put x lo n u := by
  have h := get_put x lo n v hx hv hm
  rw [Get, if_pos hm] at h
  rw [Put, if_pos hm, h, Put, if_pos hm, Put, if_pos hm]; omega
theorem put_get (x lo n : Int) (hm : may lo n = true) : Put x lo n (Get x lo n) = x := by
  rw [Put, if_pos hm, Get, if_pos hm, Int.emod_emod]; omega

theorem shl_shr (v n : Int) (h0 : 1 ≤ n) (h1 : n ≤ 32) : v * 2 ^ (32 - n).toNat % 4294967296 / 2 ^ (32 - n).toNat = v % 2 ^ n.toNat := by
  have := mul_mod_pow v (32 - n).toNat 32 (by omega)
  rw [show (4294967296 : Int) = 2 ^ 32 from rfl, this, show 32 - (32 - n).toNat = n.toNat by omega, Int.mul_ediv_cancel _ (by have := pow_pos (32 - n).toNat; omega)]

theorem mask_shift (lo n : Int) (hm : may lo n = true) :
    (4294967295 : Int) / 2 ^ (32 - n).toNat * 2 ^ lo.toNat % 4294967296 = (2 ^ n.toNat - 1) * 2 ^ lo.toNat % 4294967296 := by
  have hi := (may_iff lo n).1 hm
  have e : (4294967295 : Int) / 2 ^ (32 - n).toNat = 2 ^ n.toNat - 1 := by
    have hp := pow_pos (32 - n).toNat
    have h2 : (4294967295 : Int) = (2 ^ (32 - n).toNat - 1) + 2 ^ (32 - n).toNat * (2 ^ n.toNat - 1) := by
      rw [Int.mul_sub, ← Int.pow_add, show (32 - n).toNat + n.toNat = 32 by omega]; omega
    rw [h2, Int.add_mul_ediv_left _ _ (by omega), Int.ediv_eq_zero_of_lt (by omega) (by omega)]; omega
  rw [e]

theorem andNot_put (x lo n : Int) (hx : 0 ≤ x) (hx' : x < 4294967296) (hm : may lo n = true) :
    bits .andNot .u32 x ((2 ^ n.toNat - 1) * 2 ^ lo.toNat % 4294967296) = Put x lo n 0 := by
  have h := put_val x lo n 0 hx hx' (by decide) (by decide) hm
  have hM : 0 ≤ ((2 : Int) ^ n.toNat - 1) * 2 ^ lo.toNat % 4294967296 ∧ ((2 : Int) ^ n.toNat - 1) * 2 ^ lo.toNat % 4294967296 < 4294967296 := by omega
  generalize ((2 : Int) ^ n.toNat - 1) * 2 ^ lo.toNat % 4294967296 = M at *
  rw [← h]
  have hz : bits .and .u32 (0 * 2 ^ lo.toNat % 4294967296) M = 0 := by
    rw [Int.zero_mul]
    rw [show (0 : Int) % 4294967296 = 0 from rfl, u32_and 0 M (by decide) (by decide) hM.1 hM.2]; simp
  rw [hz]
  have hb : 0 ≤ bits .andNot .u32 x M ∧ bits .andNot .u32 x M < 4294967296 := by
    have : bits .andNot .u32 x M = (bits .andNot .u32 x M) % 4294967296 := by
      simp [bits, IntKind.wrap, IntKind.bits, IntKind.signed]
    omega
  rw [or_add _ 0 0 hb.1 (by decide) (by simp [Int.emod_one]) (by decide) hb.2 (by decide), Int.add_zero]

theorem ror_zero (x n : Int) (h : n % 32 = 0) : Ror x n = x := by
  rw [Ror, h]; simp [Int.emod_one]
theorem lsl_zero (x n : Int) (hx : 0 ≤ x) (hx' : x < 4294967296) (h : n % 32 = 0) : Lsl x n = x := by
  rw [Lsl, h]; simp; omega
theorem asr_zero (x n : Int) (hx : 0 ≤ x) (hx' : x < 4294967296) (h : n % 32 = 0) : Asr x n = x := by
  rw [Asr, h]; simp [wrap32]; omega
theorem ror_ror (x k : Int) (hx : 0 ≤ x) (hx' : x < 4294967296) (hk : 0 < k) (hk' : k < 32) : Ror (Ror x k) (32 - k) = x := by
  obtain ⟨m, rfl⟩ := Int.eq_ofNat_of_zero_le (Int.le_of_lt hk)
  have e1 : ((m : Int) % 32).toNat = m := by omega
  have e2 : ((32 - (m : Int)) % 32).toNat = 32 - m := by omega
  simp only [Ror, e1, e2]
  rw [show 32 - (32 - m) = m by omega]
  have hp := pow_pos (32 - m)
  have hd := div_lt_pow x m hx hx' (by omega)
  have hd0 : 0 ≤ x / 2 ^ m := Int.ediv_nonneg hx (Int.le_of_lt (pow_pos m))
  have a1 : (x / 2 ^ m + x % 2 ^ m * 2 ^ (32 - m)) / 2 ^ (32 - m) = x % 2 ^ m := by
    rw [Int.add_mul_ediv_right _ _ (by omega), Int.ediv_eq_zero_of_lt hd0 hd, Int.zero_add]
  have a2 : (x / 2 ^ m + x % 2 ^ m * 2 ^ (32 - m)) % 2 ^ (32 - m) = x / 2 ^ m := by
    rw [Int.add_mul_emod_self_right, Int.emod_eq_of_lt hd0 hd]
  rw [a1, a2]
  have := Int.mul_ediv_add_emod x (2 ^ m)
  rw [Int.mul_comm] at this; omega
theorem ror_join (x n k : Int) (hx : 0 ≤ x) (hx' : x < 4294967296) (hn : n % 32 = k) (hk : 0 < k) (hk' : k < 32) : bits .or .u32 (Get x k (32 - k)) (Lsl x (32 - k)) = Ror x n := by
  obtain ⟨m, rfl⟩ := Int.eq_ofNat_of_zero_le (Int.le_of_lt hk)
  have e2 : ((32 - (m : Int)) % 32).toNat = 32 - m := by omega
  have hd := div_lt_pow x m hx hx' (by omega)
  have hd0 : 0 ≤ x / 2 ^ m := Int.ediv_nonneg hx (Int.le_of_lt (pow_pos m))
  have hl : x / 2 ^ m ≤ x := Int.ediv_le_self _ hx
  have hmay : may (m : Int) (32 - m) = true := (may_iff _ _).2 ⟨by omega, by omega, by omega⟩
  rw [Ror, hn, Lsl, e2, Get, if_pos hmay, Int.toNat_natCast, show (32 - (m : Int)).toNat = 32 - m by omega, Int.emod_eq_of_lt hd0 hd]
  have hu : x * 2 ^ (32 - m) % 4294967296 = x % 2 ^ m * 2 ^ (32 - m) := by
    have := mul_mod_pow x (32 - m) 32 (by omega)
    rw [show 32 - (32 - m) = m by omega] at this
    exact this
  have hb : 0 ≤ x * 2 ^ (32 - m) % 4294967296 ∧ x * 2 ^ (32 - m) % 4294967296 < 4294967296 := by omega
  have hc : bits .or .u32 (x / 2 ^ m) (x * 2 ^ (32 - m) % 4294967296) = bits .or .u32 (x * 2 ^ (32 - m) % 4294967296) (x / 2 ^ m) := by
    simp [bits, BitVec.or_comm]
  rw [hc, or_add _ _ (32 - m) hb.1 hd0 (by rw [hu]; exact Int.mul_emod_left _ _) hd hb.2 (by omega), hu, Int.add_comm]

theorem extend_word (v n : Int) (hm : few n = true) : Extend (v % 4294967296) n = (v + 2 ^ (n.toNat - 1)) % 2 ^ n.toNat - 2 ^ (n.toNat - 1) := by
  have hi := (few_iff n).1 hm
  rw [Extend, if_pos hm]
  have hd : (4294967296 : Int) = 2 ^ n.toNat * 2 ^ (32 - n.toNat) := by rw [← Int.pow_add, show n.toNat + (32 - n.toNat) = 32 by omega]; rfl
  rw [← Int.emod_add_emod, hd, Int.emod_emod_of_dvd _ (Int.dvd_mul_right _ _), Int.emod_add_emod]
theorem fits_extend (v n : Int) (hm : few n = true) : (Extend (v % 4294967296) n == v) = Fits v n := by
  have hi := (few_iff n).1 hm
  rw [extend_word v n hm, Fits, hm, Bool.true_and, Bool.eq_iff_iff, beq_iff_eq, decide_eq_true_eq]
  have hr : (2 : Int) ^ n.toNat = 2 ^ (n.toNat - 1) * 2 := by rw [← Int.pow_succ]; congr 1; omega
  have hq := pow_pos (n.toNat - 1)
  have h1 := Int.emod_nonneg (v + 2 ^ (n.toNat - 1)) (show (2 : Int) ^ n.toNat ≠ 0 by have := pow_pos n.toNat; omega)
  have h2 := Int.emod_lt_of_pos (v + 2 ^ (n.toNat - 1)) (pow_pos n.toNat)
  constructor
  · intro h
    omega
  · intro h
    rw [Int.emod_eq_of_lt (by omega) (by omega)]; omega
theorem fits_none (v n : Int) (h : few n = false) : Fits v n = false := by simp [Fits, h]
theorem extend_none (v n : Int) (h : few n = false) : Extend v n = 0 := by simp [Extend, h]
theorem fits_32 (v : Int) : (wrap32 (v % 4294967296) == v) = Fits v 32 := by
  rw [Fits, show few 32 = true from rfl, Bool.true_and, Bool.eq_iff_iff, beq_iff_eq, decide_eq_true_eq, show ((2 : Int) ^ ((32 : Int).toNat - 1)) = 2147483648 from rfl]
  unfold wrap32; omega

end Bw
end Go.Proofs.Ytlihcdhcljljoaa
