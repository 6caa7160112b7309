/-
  Plain facts about instructions and their words. No program in sight.
-/
import Derived.Test.YtlihcdhcljljoaaBitsLaw
import GoSem.Core.Value
namespace Go.Proofs.Ytlihcdhcljljoaa
set_option linter.unusedVariables false
set_option linter.unusedSimpArgs false
open Go.RowKit Bw

/-- An instruction. -/
structure Ins where
  form : Int
  u : Bool
  v : Bool
  a : Int
  b : Int
  c : Int
  op : Int
  im : Int
  deriving DecidableEq

namespace Ins
def cells (x : Ins) : Array Value := #[.int .i64 x.form, .bool x.u, .bool x.v, .int .i64 x.a, .int .i64 x.b, .int .i64 x.c, .int .i64 x.op, .int .i64 x.im]
def val (x : Ins) : Value := .agg x.cells
def zero : Ins := ⟨0, false, false, 0, 0, 0, 0, 0⟩
def half (v n : Int) : Bool := decide (0 ≤ v ∧ v < 2 ^ n.toNat)
def uop (op : Int) : Bool := decide (op = 0 ∨ 8 ≤ op ∧ op ≤ 10)
def inb (n a b : Int) : Bool := decide (a ≤ n ∧ n ≤ b)
def good (x : Ins) : Bool :=
  half x.a 4 && half x.b 4 && half x.c 4 && inb x.op 0 11 &&
  (if x.form = 0 then (!x.v || (x.u && decide (x.op = 0))) && decide (x.im = 0) && (!x.u || uop x.op)
   else if x.form = 1 then half x.im 16 && decide (x.c = 0) && (!x.u || uop x.op)
   else if x.form = 2 then Fits x.im 20 && decide (x.c = 0) && decide (x.op = 0)
   else if x.form = 3 then decide (x.b = 0) && decide (x.op = 0) && (if x.u = true then decide (x.c = 0) && Fits x.im 24 else decide (x.im = 0))
   else false)
/-- Its numbers are numbers of 64 bits. -/
def fits (x : Ins) : Prop := -9223372036854775808 ≤ x.form ∧ x.form ≤ 9223372036854775807 ∧ -9223372036854775808 ≤ x.a ∧ x.a ≤ 9223372036854775807 ∧ -9223372036854775808 ≤ x.b ∧ x.b ≤ 9223372036854775807 ∧
  -9223372036854775808 ≤ x.c ∧ x.c ≤ 9223372036854775807 ∧ -9223372036854775808 ≤ x.op ∧ x.op ≤ 9223372036854775807 ∧ -9223372036854775808 ≤ x.im ∧ x.im ≤ 9223372036854775807
end Ins

theorem fits20 (x : Int) : Fits x 20 = decide (-524288 ≤ x ∧ x < 524288) := by
  rw [Fits, show few 20 = true from rfl, Bool.true_and]; rfl
theorem fits24 (x : Int) : Fits x 24 = decide (-8388608 ≤ x ∧ x < 8388608) := by
  rw [Fits, show few 24 = true from rfl, Bool.true_and]; rfl
theorem half4 (x : Int) : Ins.half x 4 = decide (0 ≤ x ∧ x < 16) := rfl
theorem half16 (x : Int) : Ins.half x 16 = decide (0 ≤ x ∧ x < 65536) := rfl

namespace Ins
def one (b : Bool) (k : Nat) : Int := if b = true then 2 ^ k else 0
/-- The word of an instruction. -/
def enc (x : Ins) : Int :=
  x.form * 1073741824 + one x.u 29 + one x.v 28 + x.a * 16777216 +
  (if x.form = 3 then x.c + x.im % 16777216 else x.b * 1048576 + (if x.form = 2 then x.im % 1048576 else x.op * 65536 + x.c + x.im))
theorem good_range (x : Ins) (h : x.good = true) : 0 ≤ x.form ∧ x.form ≤ 3 ∧ 0 ≤ x.a ∧ x.a < 16 ∧ 0 ≤ x.b ∧ x.b < 16 ∧ 0 ≤ x.c ∧ x.c < 16 ∧ 0 ≤ x.op ∧ x.op ≤ 11 := by
  simp only [good, half4, inb, Bool.and_eq_true, decide_eq_true_eq] at h
  obtain ⟨⟨⟨⟨h1, h2⟩, h3⟩, h4⟩, h5⟩ := h
  have h6 : 0 ≤ x.form ∧ x.form ≤ 3 := by
    by_cases e0 : x.form = 0
    · omega
    by_cases e1 : x.form = 1
    · omega
    by_cases e2 : x.form = 2
    · omega
    by_cases e3 : x.form = 3
    · omega
    rw [if_neg e0, if_neg e1, if_neg e2, if_neg e3] at h5
    cases h5
  omega
end Ins

theorem one29 (b : Bool) : Ins.one b 29 = 0 ∨ Ins.one b 29 = 536870912 := by cases b <;> simp [Ins.one]
theorem one28 (b : Bool) : Ins.one b 28 = 0 ∨ Ins.one b 28 = 268435456 := by cases b <;> simp [Ins.one]

/-- A word's four upper fields, joined. -/
theorem join4 (f a : Int) (u v : Bool) (hf : 0 ≤ f) (hf' : f ≤ 3) (ha : 0 ≤ a) (ha' : a < 16) :
    bits .or .u32 (bits .or .u32 (bits .or .u32 (f * 1073741824) (Ins.one u 29)) (Ins.one v 28)) (a * 16777216) = f * 1073741824 + Ins.one u 29 + Ins.one v 28 + a * 16777216 := by
  have h1 := one29 u
  have h2 := one28 v
  generalize Ins.one u 29 = U at *
  generalize Ins.one v 28 = V at *
  rw [or_add (f * 1073741824) (U) 30 (by omega) (by omega) (by omega) (by omega) (by omega) (by omega)]
  rw [or_add (f * 1073741824 + U) (V) 29 (by omega) (by omega) (by omega) (by omega) (by omega) (by omega)]
  rw [or_add (f * 1073741824 + U + V) (a * 16777216) 28 (by omega) (by omega) (by omega) (by omega) (by omega) (by omega)]
theorem join4_bd (f a : Int) (u v : Bool) (hf : 0 ≤ f) (hf' : f ≤ 3) (ha : 0 ≤ a) (ha' : a < 16) :
    ∃ q : Int, f * 1073741824 + Ins.one u 29 + Ins.one v 28 + a * 16777216 = q * 16777216 ∧ 0 ≤ q ∧ q < 256 := by
  have h1 := one29 u
  have h2 := one28 v
  generalize Ins.one u 29 = U at *
  generalize Ins.one v 28 = V at *
  exact ⟨(f * 1073741824 + U + V + a * 16777216) / 16777216, by omega, by omega, by omega⟩
theorem and24 (x : Int) (h : 0 ≤ x) (h' : x < 4294967296) : bits .and .u32 x 16777215 = x % 16777216 := by
  have := and_mask x 24 h h' (by omega)
  simpa using this
theorem and20 (x : Int) (h : 0 ≤ x) (h' : x < 4294967296) : bits .and .u32 x 1048575 = x % 1048576 := by
  have := and_mask x 20 h h' (by omega)
  simpa using this

/-- The words as the program joins them. -/
theorem enc_reg (f a b op c im : Int) (u v : Bool) (hf : 0 ≤ f) (hf' : f ≤ 3) (ha : 0 ≤ a) (ha' : a < 16) (hb : 0 ≤ b) (hb' : b < 16) (ho : 0 ≤ op) (ho' : op < 16) (hc : 0 ≤ c) (hc' : c < 16) (hi : 0 ≤ im) (hi' : im < 65536) (h0 : c = 0 ∨ im = 0) :
    bits .or .u32 (bits .or .u32 (bits .or .u32 (bits .or .u32 (bits .or .u32 (bits .or .u32 (bits .or .u32 (f * 1073741824) (Ins.one u 29)) (Ins.one v 28)) (a * 16777216)) (b * 1048576)) (op * 65536)) c) im =
      f * 1073741824 + Ins.one u 29 + Ins.one v 28 + a * 16777216 + (b * 1048576 + (op * 65536 + c + im)) := by
  rw [join4 f a u v hf hf' ha ha']
  obtain ⟨q, hq, q0, q1⟩ := join4_bd f a u v hf hf' ha ha'
  rw [hq]
  rw [or_add (q * 16777216) (b * 1048576) 24 (by omega) (by omega) (by omega) (by omega) (by omega) (by omega)]
  rw [or_add (q * 16777216 + b * 1048576) (op * 65536) 20 (by omega) (by omega) (by omega) (by omega) (by omega) (by omega)]
  rw [or_add (q * 16777216 + b * 1048576 + op * 65536) (c) 16 (by omega) (by omega) (by omega) (by omega) (by omega) (by omega)]
  rcases h0 with h0 | h0
  · rw [or_add (q * 16777216 + b * 1048576 + op * 65536 + c) (im) 16 (by omega) (by omega) (by omega) (by omega) (by omega) (by omega)]; omega
  · rw [or_add (q * 16777216 + b * 1048576 + op * 65536 + c) (im) 0 (by omega) (by omega) (by omega) (by omega) (by omega) (by omega)]; omega
theorem enc_mem (f a b im : Int) (u v : Bool) (hf : 0 ≤ f) (hf' : f ≤ 3) (ha : 0 ≤ a) (ha' : a < 16) (hb : 0 ≤ b) (hb' : b < 16) :
    bits .or .u32 (bits .or .u32 (bits .or .u32 (bits .or .u32 (bits .or .u32 (f * 1073741824) (Ins.one u 29)) (Ins.one v 28)) (a * 16777216)) (b * 1048576)) (bits .and .u32 (im % 4294967296) 1048575) =
      f * 1073741824 + Ins.one u 29 + Ins.one v 28 + a * 16777216 + (b * 1048576 + im % 1048576) := by
  rw [join4 f a u v hf hf' ha ha', and20 _ (by omega) (by omega)]
  obtain ⟨q, hq, q0, q1⟩ := join4_bd f a u v hf hf' ha ha'
  rw [hq]
  rw [or_add (q * 16777216) (b * 1048576) 24 (by omega) (by omega) (by omega) (by omega) (by omega) (by omega)]
  rw [or_add (q * 16777216 + b * 1048576) (im % 4294967296 % 1048576) 20 (by omega) (by omega) (by omega) (by omega) (by omega) (by omega)]
  omega
theorem enc_jump (f a c im : Int) (u v : Bool) (hf : 0 ≤ f) (hf' : f ≤ 3) (ha : 0 ≤ a) (ha' : a < 16) (hc : 0 ≤ c) (hc' : c < 16) (h0 : c = 0 ∨ im = 0) :
    bits .or .u32 (bits .or .u32 (bits .or .u32 (bits .or .u32 (bits .or .u32 (f * 1073741824) (Ins.one u 29)) (Ins.one v 28)) (a * 16777216)) c) (bits .and .u32 (im % 4294967296) 16777215) =
      f * 1073741824 + Ins.one u 29 + Ins.one v 28 + a * 16777216 + (c + im % 16777216) := by
  rw [join4 f a u v hf hf' ha ha', and24 _ (by omega) (by omega)]
  obtain ⟨q, hq, q0, q1⟩ := join4_bd f a u v hf hf' ha ha'
  rw [hq]
  rw [or_add (q * 16777216) (c) 24 (by omega) (by omega) (by omega) (by omega) (by omega) (by omega)]
  rcases h0 with h0 | h0
  · rw [or_add (q * 16777216 + c) (im % 4294967296 % 16777216) 24 (by omega) (by omega) (by omega) (by omega) (by omega) (by omega)]; omega
  · rw [or_add (q * 16777216 + c) (im % 4294967296 % 16777216) 0 (by omega) (by omega) (by omega) (by omega) (by omega) (by omega)]; omega

theorem Ins.good_im0 (u v : Bool) (a b c op im : Int) (h : Ins.good ⟨0, u, v, a, b, c, op, im⟩ = true) : 0 ≤ im ∧ im ≤ 0 := by
  simp [Ins.good, half4, Ins.inb] at h; omega
theorem Ins.good_im1 (u v : Bool) (a b c op im : Int) (h : Ins.good ⟨1, u, v, a, b, c, op, im⟩ = true) : 0 ≤ im ∧ im < 65536 := by
  simp [Ins.good, half4, half16, Ins.inb] at h; omega
theorem Ins.good_im2 (u v : Bool) (a b c op im : Int) (h : Ins.good ⟨2, u, v, a, b, c, op, im⟩ = true) : -524288 ≤ im ∧ im < 524288 := by
  simp [Ins.good, half4, fits20, Ins.inb] at h; omega
theorem Ins.good_im3 (u v : Bool) (a b c op im : Int) (h : Ins.good ⟨3, u, v, a, b, c, op, im⟩ = true) : -8388608 ≤ im ∧ im < 8388608 := by
  cases u <;> simp [Ins.good, half4, fits24, Ins.inb] at h <;> omega
theorem enc_val_0 (u v : Bool) (a b c op im : Int) (h : Ins.good ⟨0, u, v, a, b, c, op, im⟩ = true) :
    bits .or .u32 (bits .or .u32 (bits .or .u32 (bits .or .u32 (bits .or .u32 (bits .or .u32 (bits .or .u32 0 (Ins.one u 29)) (Ins.one v 28)) (a * 16777216)) (b * 1048576)) (op * 65536)) c) im = Ins.enc ⟨0, u, v, a, b, c, op, im⟩ := by
  have hr := Ins.good_range _ h
  have hi := Ins.good_im0 u v a b c op im h
  simp only at hr
  have := enc_reg 0 a b op c im u v (by omega) (by omega) (by omega) (by omega) (by omega) (by omega) (by omega) (by omega) (by omega) (by omega) (by omega) (by omega) (by omega)
  simpa [Ins.enc] using this
theorem enc_val_1 (u v : Bool) (a b c op im : Int) (h : Ins.good ⟨1, u, v, a, b, c, op, im⟩ = true) :
    bits .or .u32 (bits .or .u32 (bits .or .u32 (bits .or .u32 (bits .or .u32 (bits .or .u32 (bits .or .u32 1073741824 (Ins.one u 29)) (Ins.one v 28)) (a * 16777216)) (b * 1048576)) (op * 65536)) c) im = Ins.enc ⟨1, u, v, a, b, c, op, im⟩ := by
  have hr := Ins.good_range _ h
  have hi := Ins.good_im1 u v a b c op im h
  have hc : c = 0 := by simp [Ins.good] at h; omega
  simp only at hr
  have := enc_reg 1 a b op c im u v (by omega) (by omega) (by omega) (by omega) (by omega) (by omega) (by omega) (by omega) (by omega) (by omega) (by omega) (by omega) (by omega)
  simpa [Ins.enc] using this
theorem enc_val_2 (u v : Bool) (a b c op im : Int) (h : Ins.good ⟨2, u, v, a, b, c, op, im⟩ = true) :
    bits .or .u32 (bits .or .u32 (bits .or .u32 (bits .or .u32 (bits .or .u32 2147483648 (Ins.one u 29)) (Ins.one v 28)) (a * 16777216)) (b * 1048576)) (bits .and .u32 (im % 4294967296) 1048575) = Ins.enc ⟨2, u, v, a, b, c, op, im⟩ := by
  have hr := Ins.good_range _ h
  simp only at hr
  have := enc_mem 2 a b im u v (by omega) (by omega) (by omega) (by omega) (by omega) (by omega)
  simpa [Ins.enc] using this
theorem enc_val_3 (u v : Bool) (a b c op im : Int) (h : Ins.good ⟨3, u, v, a, b, c, op, im⟩ = true) :
    bits .or .u32 (bits .or .u32 (bits .or .u32 (bits .or .u32 (bits .or .u32 3221225472 (Ins.one u 29)) (Ins.one v 28)) (a * 16777216)) c) (bits .and .u32 (im % 4294967296) 16777215) = Ins.enc ⟨3, u, v, a, b, c, op, im⟩ := by
  have hr := Ins.good_range _ h
  have hc : c = 0 ∨ im = 0 := by cases u <;> simp [Ins.good] at h <;> omega
  simp only at hr
  have := enc_jump 3 a c im u v (by omega) (by omega) (by omega) (by omega) (by omega) (by omega) hc
  simpa [Ins.enc] using this

def Ins.bit (b : Bool) : Int := if b = true then 1 else 0
theorem Ins.bit_bd (b : Bool) : 0 ≤ Ins.bit b ∧ Ins.bit b < 2 := by cases b <;> simp [Ins.bit]
theorem Ins.one_bit (b : Bool) (k : Nat) : Ins.one b k = Ins.bit b * 2 ^ k := by cases b <;> simp [Ins.one, Ins.bit]
theorem put_30_2 (x v : Int) (h : x / 1073741824 % 4 = 0) : Put x 30 2 v = x + v % 4 * 1073741824 := by
  rw [Put, if_pos (show may 30 2 = true from rfl), show (2 : Int) ^ (30 : Int).toNat = 1073741824 from rfl, show (2 : Int) ^ (2 : Int).toNat = 4 from rfl]; omega
theorem put_29_1 (x v : Int) (h : x / 536870912 % 2 = 0) : Put x 29 1 v = x + v % 2 * 536870912 := by
  rw [Put, if_pos (show may 29 1 = true from rfl), show (2 : Int) ^ (29 : Int).toNat = 536870912 from rfl, show (2 : Int) ^ (1 : Int).toNat = 2 from rfl]; omega
theorem put_28_1 (x v : Int) (h : x / 268435456 % 2 = 0) : Put x 28 1 v = x + v % 2 * 268435456 := by
  rw [Put, if_pos (show may 28 1 = true from rfl), show (2 : Int) ^ (28 : Int).toNat = 268435456 from rfl, show (2 : Int) ^ (1 : Int).toNat = 2 from rfl]; omega
theorem put_24_4 (x v : Int) (h : x / 16777216 % 16 = 0) : Put x 24 4 v = x + v % 16 * 16777216 := by
  rw [Put, if_pos (show may 24 4 = true from rfl), show (2 : Int) ^ (24 : Int).toNat = 16777216 from rfl, show (2 : Int) ^ (4 : Int).toNat = 16 from rfl]; omega
theorem put_20_4 (x v : Int) (h : x / 1048576 % 16 = 0) : Put x 20 4 v = x + v % 16 * 1048576 := by
  rw [Put, if_pos (show may 20 4 = true from rfl), show (2 : Int) ^ (20 : Int).toNat = 1048576 from rfl, show (2 : Int) ^ (4 : Int).toNat = 16 from rfl]; omega
theorem put_16_4 (x v : Int) (h : x / 65536 % 16 = 0) : Put x 16 4 v = x + v % 16 * 65536 := by
  rw [Put, if_pos (show may 16 4 = true from rfl), show (2 : Int) ^ (16 : Int).toNat = 65536 from rfl, show (2 : Int) ^ (4 : Int).toNat = 16 from rfl]; omega
theorem put_0_4 (x v : Int) (h : x / 1 % 16 = 0) : Put x 0 4 v = x + v % 16 * 1 := by
  rw [Put, if_pos (show may 0 4 = true from rfl), show (2 : Int) ^ (0 : Int).toNat = 1 from rfl, show (2 : Int) ^ (4 : Int).toNat = 16 from rfl]; omega
theorem put_0_16 (x v : Int) (h : x / 1 % 65536 = 0) : Put x 0 16 v = x + v % 65536 * 1 := by
  rw [Put, if_pos (show may 0 16 = true from rfl), show (2 : Int) ^ (0 : Int).toNat = 1 from rfl, show (2 : Int) ^ (16 : Int).toNat = 65536 from rfl]; omega
theorem put_0_20 (x v : Int) (h : x / 1 % 1048576 = 0) : Put x 0 20 v = x + v % 1048576 * 1 := by
  rw [Put, if_pos (show may 0 20 = true from rfl), show (2 : Int) ^ (0 : Int).toNat = 1 from rfl, show (2 : Int) ^ (20 : Int).toNat = 1048576 from rfl]; omega
theorem put_0_24 (x v : Int) (h : x / 1 % 16777216 = 0) : Put x 0 24 v = x + v % 16777216 * 1 := by
  rw [Put, if_pos (show may 0 24 = true from rfl), show (2 : Int) ^ (0 : Int).toNat = 1 from rfl, show (2 : Int) ^ (24 : Int).toNat = 16777216 from rfl]; omega
theorem enc_ref (u v : Bool) (f a b c op im : Int) : Ins.enc ⟨f, u, v, a, b, c, op, im⟩ = f * 1073741824 + Ins.bit u * 536870912 + Ins.bit v * 268435456 + a * 16777216 +
    (if f = 3 then c + im % 16777216 else b * 1048576 + (if f = 2 then im % 1048576 else op * 65536 + c + im)) := by
  rw [Ins.enc, Ins.one_bit, Ins.one_bit]; simp only; rfl

/-- Of C and Im one is 0. -/
theorem Ins.good_ci (f : Int) (u v : Bool) (a b c op im : Int) (h : Ins.good ⟨f, u, v, a, b, c, op, im⟩ = true) : (f = 0 → im = 0) ∧ (f = 1 → c = 0) ∧ (f = 2 → c = 0 ∧ op = 0) ∧ (f = 3 → b = 0 ∧ op = 0 ∧ ((u = true → c = 0) ∧ (u = false → im = 0))) := by
  refine ⟨?_, ?_, ?_, ?_⟩
  · rintro rfl; simp [Ins.good] at h; omega
  · rintro rfl; simp [Ins.good] at h; omega
  · rintro rfl; simp [Ins.good] at h; omega
  · rintro rfl; cases u <;> simp [Ins.good] at h <;> simp <;> omega

namespace Ins
/-- A word's fields, by its form. -/
def decF (w : Int) : Ins :=
  if w / 1073741824 = 0 then ⟨0, decide (w / 536870912 % 2 = 1), decide (w / 268435456 % 2 = 1), Get w 24 4, Get w 20 4, w % 16, Get w 16 4, 0⟩
  else if w / 1073741824 = 1 then ⟨1, decide (w / 536870912 % 2 = 1), decide (w / 268435456 % 2 = 1), Get w 24 4, Get w 20 4, 0, Get w 16 4, w % 65536⟩
  else if w / 1073741824 = 2 then ⟨2, decide (w / 536870912 % 2 = 1), decide (w / 268435456 % 2 = 1), Get w 24 4, Get w 20 4, 0, 0, Extend w 20⟩
  else if w / 536870912 % 2 = 1 then ⟨3, true, decide (w / 268435456 % 2 = 1), Get w 24 4, 0, 0, 0, Extend w 24⟩
  else ⟨3, false, decide (w / 268435456 % 2 = 1), Get w 24 4, 0, w % 16, 0, 0⟩
/-- Is a word an instruction's? -/
def isIns (w : Int) : Bool := (decF w).good && ((decF w).enc == w)
def dec (w : Int) : Ins := if isIns w = true then decF w else zero
def derr (w : Int) : Int := if isIns w = true then 0 else 20
def E (x : Ins) : Int := if x.good = true then x.enc else 0
def eerr (x : Ins) : Int := if x.good = true then 0 else 20
end Ins
theorem and_1 (x : Int) (h : 0 ≤ x) (h' : x < 4294967296) : bits .and .u32 x 1 = x % 2 := by
  have := and_mask x 1 h h' (by omega)
  simpa using this
theorem and_15 (x : Int) (h : 0 ≤ x) (h' : x < 4294967296) : bits .and .u32 x 15 = x % 16 := by
  have := and_mask x 4 h h' (by omega)
  simpa using this
theorem get4_bd (w lo : Int) (h : may lo 4 = true) : 0 ≤ Get w lo 4 ∧ Get w lo 4 < 16 := get_lt w lo 4 h
theorem extend_bd (v n : Int) : -2147483648 ≤ Extend v n ∧ Extend v n < 2147483648 := by
  cases hm : few n
  · simp [Extend, hm]
  · have hi := (few_iff n).1 hm
    rw [Extend, if_pos hm]
    have h1 := Int.emod_nonneg (v + 2 ^ (n.toNat - 1)) (show (2 : Int) ^ n.toNat ≠ 0 by have := pow_pos n.toNat; omega)
    have h2 := Int.emod_lt_of_pos (v + 2 ^ (n.toNat - 1)) (pow_pos n.toNat)
    have hr : (2 : Int) ^ n.toNat = 2 ^ (n.toNat - 1) * 2 := by rw [← Int.pow_succ]; congr 1; omega
    have h3 : (2 : Int) ^ (n.toNat - 1) ≤ 2 ^ 31 := pow_mono (by omega)
    generalize (v + 2 ^ (n.toNat - 1)) % 2 ^ n.toNat = k at *
    generalize (2 : Int) ^ (n.toNat - 1) = q at *
    omega
theorem Ins.decF_fits (w : Int) (h : 0 ≤ w) (h' : w < 4294967296) : (Ins.decF w).fits := by
  have a1 := get_bd w 24 4 h h'
  have a2 := get_bd w 20 4 h h'
  have a3 := get_bd w 16 4 h h'
  have e1 := extend_bd w 20
  have e2 := extend_bd w 24
  unfold Ins.decF
  split
  · refine ⟨?_, ?_, ?_, ?_, ?_, ?_, ?_, ?_, ?_, ?_, ?_, ?_⟩ <;> simp only <;> omega
  split
  · refine ⟨?_, ?_, ?_, ?_, ?_, ?_, ?_, ?_, ?_, ?_, ?_, ?_⟩ <;> simp only <;> omega
  split
  · refine ⟨?_, ?_, ?_, ?_, ?_, ?_, ?_, ?_, ?_, ?_, ?_, ?_⟩ <;> simp only <;> omega
  split
  · refine ⟨?_, ?_, ?_, ?_, ?_, ?_, ?_, ?_, ?_, ?_, ?_, ?_⟩ <;> simp only <;> omega
  · refine ⟨?_, ?_, ?_, ?_, ?_, ?_, ?_, ?_, ?_, ?_, ?_, ?_⟩ <;> simp only <;> omega

theorem get_30 (x : Int) (h : 0 ≤ x) (h' : x < 4294967296) : Get x 30 2 = x / 1073741824 := by
  rw [Get, if_pos (show may 30 2 = true from rfl), show (2 : Int) ^ (30 : Int).toNat = 1073741824 from rfl, show (2 : Int) ^ (2 : Int).toNat = 4 from rfl]; omega
theorem get_29 (x : Int) : Get x 29 1 = x / 536870912 % 2 := by
  rw [Get, if_pos (show may 29 1 = true from rfl)]; rfl
theorem get_28 (x : Int) : Get x 28 1 = x / 268435456 % 2 := by
  rw [Get, if_pos (show may 28 1 = true from rfl)]; rfl
theorem get_0_4 (x : Int) : Get x 0 4 = x % 16 := by
  rw [Get, if_pos (show may 0 4 = true from rfl), show (2 : Int) ^ (0 : Int).toNat = 1 from rfl, Int.ediv_one]; rfl
theorem get_0_16 (x : Int) : Get x 0 16 = x % 65536 := by
  rw [Get, if_pos (show may 0 16 = true from rfl), show (2 : Int) ^ (0 : Int).toNat = 1 from rfl, Int.ediv_one]; rfl
theorem get_0_20 (x : Int) : Get x 0 20 = x % 1048576 := by
  rw [Get, if_pos (show may 0 20 = true from rfl), show (2 : Int) ^ (0 : Int).toNat = 1 from rfl, Int.ediv_one]; rfl
theorem get_0_24 (x : Int) : Get x 0 24 = x % 16777216 := by
  rw [Get, if_pos (show may 0 24 = true from rfl), show (2 : Int) ^ (0 : Int).toNat = 1 from rfl, Int.ediv_one]; rfl
theorem extend_mod20 (x : Int) : Extend (x % 1048576) 20 = Extend x 20 := by
  rw [Extend, Extend, if_pos (show few 20 = true from rfl), if_pos (show few 20 = true from rfl), show (2 : Int) ^ (20 : Int).toNat = 1048576 from rfl, show (2 : Int) ^ ((20 : Int).toNat - 1) = 524288 from rfl]; omega
theorem extend_mod24 (x : Int) : Extend (x % 16777216) 24 = Extend x 24 := by
  rw [Extend, Extend, if_pos (show few 24 = true from rfl), if_pos (show few 24 = true from rfl), show (2 : Int) ^ (24 : Int).toNat = 16777216 from rfl, show (2 : Int) ^ ((24 : Int).toNat - 1) = 8388608 from rfl]; omega

theorem get_24_4 (x : Int) : Get x 24 4 = x / 16777216 % 16 := by
  rw [Get, if_pos (show may 24 4 = true from rfl)]; rfl
theorem get_20_4 (x : Int) : Get x 20 4 = x / 1048576 % 16 := by
  rw [Get, if_pos (show may 20 4 = true from rfl)]; rfl
theorem get_16_4 (x : Int) : Get x 16 4 = x / 65536 % 16 := by
  rw [Get, if_pos (show may 16 4 = true from rfl)]; rfl
theorem ext_20 (x : Int) : Extend x 20 = (x + 524288) % 1048576 - 524288 := by
  rw [Extend, if_pos (show few 20 = true from rfl)]; rfl
theorem ext_24 (x : Int) : Extend x 24 = (x + 8388608) % 16777216 - 8388608 := by
  rw [Extend, if_pos (show few 24 = true from rfl)]; rfl
theorem Ins.bit_eq (b : Bool) (n : Int) (h : n = Ins.bit b) : decide (n = 1) = b := by subst h; cases b <;> simp [Ins.bit]

/-- What was written is read as it was. -/
theorem Ins.decF_enc (x : Ins) (h : x.good = true) : Ins.decF x.enc = x := by
  have hr := Ins.good_range _ h
  obtain ⟨form, u, v, a, b, c, op, im⟩ := x
  have hj := Ins.good_ci form u v a b c op im h
  have bu := Ins.bit_bd u
  have bv := Ins.bit_bd v
  simp only at hr
  have h4 : form = 0 ∨ form = 1 ∨ form = 2 ∨ form = 3 := by omega
  rcases h4 with rfl | rfl | rfl | rfl
  · have hi := Ins.good_im0 u v a b c op im h
    have hE : Ins.enc ⟨0, u, v, a, b, c, op, im⟩ = Ins.bit u * 536870912 + Ins.bit v * 268435456 + a * 16777216 + b * 1048576 + op * 65536 + c + im := by rw [enc_ref]; simp; omega
    rw [hE, Ins.decF, if_pos (by omega), get_24_4, get_20_4, get_16_4]
    rw [Ins.bit_eq u _ (by omega), Ins.bit_eq v _ (by omega)]
    congr 1 <;> omega
  · have hi := Ins.good_im1 u v a b c op im h
    have hE : Ins.enc ⟨1, u, v, a, b, c, op, im⟩ = 1073741824 + Ins.bit u * 536870912 + Ins.bit v * 268435456 + a * 16777216 + b * 1048576 + op * 65536 + c + im := by rw [enc_ref]; simp; omega
    simp at hj
    rw [hE, Ins.decF, if_neg (by omega), if_pos (by omega), get_24_4, get_20_4, get_16_4]
    rw [Ins.bit_eq u _ (by omega), Ins.bit_eq v _ (by omega)]
    congr 1 <;> omega
  · have hi := Ins.good_im2 u v a b c op im h
    have hE : Ins.enc ⟨2, u, v, a, b, c, op, im⟩ = 2147483648 + Ins.bit u * 536870912 + Ins.bit v * 268435456 + a * 16777216 + b * 1048576 + im % 1048576 := by rw [enc_ref]; simp; omega
    simp at hj
    rw [hE, Ins.decF, if_neg (by omega), if_neg (by omega), if_pos (by omega), get_24_4, get_20_4, ext_20]
    rw [Ins.bit_eq u _ (by omega), Ins.bit_eq v _ (by omega)]
    congr 1 <;> omega
  · have hi := Ins.good_im3 u v a b c op im h
    have hE : Ins.enc ⟨3, u, v, a, b, c, op, im⟩ = 3221225472 + Ins.bit u * 536870912 + Ins.bit v * 268435456 + a * 16777216 + c + im % 16777216 := by rw [enc_ref]; simp; omega
    cases u
    · simp at hj
      have b0 : Ins.bit false = 0 := rfl
      rw [hE, Ins.decF, if_neg (by omega), if_neg (by omega), if_neg (by omega), if_neg (by omega), get_24_4]
      rw [Ins.bit_eq v _ (by omega)]
      congr 1 <;> omega
    · simp at hj
      have b0 : Ins.bit true = 1 := rfl
      rw [hE, Ins.decF, if_neg (by omega), if_neg (by omega), if_neg (by omega), if_pos (by omega), get_24_4, ext_24]
      rw [Ins.bit_eq v _ (by omega)]
      congr 1 <;> omega
theorem Ins.isIns_enc (x : Ins) (h : x.good = true) : Ins.isIns x.enc = true := by
  rw [Ins.isIns, Ins.decF_enc x h, h]; simp
theorem Ins.dec_enc (x : Ins) (h : x.good = true) : Ins.dec x.enc = x ∧ Ins.derr x.enc = 0 := by
  rw [Ins.dec, Ins.derr, Ins.isIns_enc x h, Ins.decF_enc x h]; exact ⟨rfl, rfl⟩
theorem Ins.enc_bd (x : Ins) (h : x.good = true) : 0 ≤ x.enc ∧ x.enc < 4294967296 := by
  have hr := Ins.good_range _ h
  obtain ⟨form, u, v, a, b, c, op, im⟩ := x
  have bu := Ins.bit_bd u
  have bv := Ins.bit_bd v
  simp only at hr
  rw [enc_ref]
  have h4 : form = 0 ∨ form = 1 ∨ form = 2 ∨ form = 3 := by omega
  rcases h4 with rfl | rfl | rfl | rfl
  · have hi := Ins.good_im0 u v a b c op im h
    simp; omega
  · have hi := Ins.good_im1 u v a b c op im h
    have hj := Ins.good_ci 1 u v a b c op im h
    simp at hj
    simp; omega
  · simp; omega
  · have hj := Ins.good_ci 3 u v a b c op im h
    cases u <;> simp at hj <;> simp <;> omega
theorem Ins.E_bd (x : Ins) : 0 ≤ x.E ∧ x.E < 4294967296 := by
  cases h : x.good
  · simp [Ins.E, h]
  · rw [Ins.E, if_pos h]; exact Ins.enc_bd x h
theorem Ins.dec_fits (w : Int) (h : 0 ≤ w) (h' : w < 4294967296) : (Ins.dec w).fits := by
  rw [Ins.dec]
  split
  · exact Ins.decF_fits w h h'
  · simp [Ins.zero, Ins.fits]
/-- What was read is an instruction, and is written as it was. -/
theorem Ins.dec_good (w : Int) (h : Ins.derr w = 0) : (Ins.dec w).good = true ∧ (Ins.dec w).enc = w := by
  have hi : Ins.isIns w = true := by
    cases hi : Ins.isIns w
    · rw [Ins.derr, hi] at h; simp at h
    · rfl
  rw [Ins.dec, if_pos hi]
  simp only [Ins.isIns, Bool.and_eq_true, beq_iff_eq] at hi
  exact hi
theorem Ins.dec_none (w : Int) (h : Ins.derr w ≠ 0) : Ins.dec w = Ins.zero ∧ Ins.derr w = 20 := by
  cases hi : Ins.isIns w
  · rw [Ins.dec, Ins.derr, hi]; exact ⟨rfl, rfl⟩
  · rw [Ins.derr, hi] at h; simp at h

theorem Ins.dec_forms (x : Int) (h : Ins.derr x = 0) : x / 1073741824 = (Ins.dec x).form ∧ decide (x / 536870912 % 2 = 1) = (Ins.dec x).u ∧ decide (x / 268435456 % 2 = 1) = (Ins.dec x).v ∧ x / 16777216 % 16 = (Ins.dec x).a := by
  have hg := Ins.dec_good x h
  have hi : Ins.isIns x = true := by
    cases hi : Ins.isIns x
    · rw [Ins.derr, hi] at h; simp at h
    · rfl
  have hr := Ins.good_range _ hg.1
  have hb := Ins.enc_bd _ hg.1
  rw [hg.2] at hb
  rw [Ins.dec, if_pos hi]
  by_cases h0 : x / 1073741824 = 0
  · rw [Ins.decF, if_pos h0, get_24_4]; exact ⟨h0, rfl, rfl, rfl⟩
  by_cases h1 : x / 1073741824 = 1
  · rw [Ins.decF, if_neg h0, if_pos h1, get_24_4]; exact ⟨h1, rfl, rfl, rfl⟩
  by_cases h2 : x / 1073741824 = 2
  · rw [Ins.decF, if_neg h0, if_neg h1, if_pos h2, get_24_4]; exact ⟨h2, rfl, rfl, rfl⟩
  have h3 : x / 1073741824 = 3 := by omega
  by_cases hu : x / 536870912 % 2 = 1
  · rw [Ins.decF, if_neg h0, if_neg h1, if_neg h2, if_pos hu, get_24_4]; exact ⟨h3, by simp [hu], rfl, rfl⟩
  · rw [Ins.decF, if_neg h0, if_neg h1, if_neg h2, if_neg hu, get_24_4]; exact ⟨h3, by simp [hu], rfl, rfl⟩

/-- Two words that differ in some bits alone: both unlike, these bits struck, is 0. -/
theorem unlike_none (p q M : Int) (hp : 0 ≤ p) (hp' : p < 4294967296) (hq : 0 ≤ q) (hq' : q < 4294967296) (hM : 0 ≤ M) (hM' : M < 4294967296) (h : bits .andNot .u32 p M = bits .andNot .u32 q M) :
    bits .andNot .u32 (bits .xor .u32 p q) M = 0 := by
  obtain ⟨P, rfl⟩ := Int.eq_ofNat_of_zero_le hp
  obtain ⟨Q, rfl⟩ := Int.eq_ofNat_of_zero_le hq
  obtain ⟨m, rfl⟩ := Int.eq_ofNat_of_zero_le hM
  have hP : P < 4294967296 := by omega
  have hQ : Q < 4294967296 := by omega
  have hm : m < 4294967296 := by omega
  have hX : P ^^^ Q < 4294967296 := Nat.xor_lt_two_pow (n := 32) hP hQ
  rw [u32_andNot_nat P m hP hm, u32_andNot_nat Q m hQ hm] at h
  have h' : P &&& (4294967295 - m) = Q &&& (4294967295 - m) := by exact_mod_cast h
  rw [u32_xor_nat P Q hP hQ, u32_andNot_nat _ m hX hm, Nat.and_xor_distrib_right, h', Nat.xor_self]
  rfl
theorem xor_a (H a k L : Int) (h0 : 0 ≤ H) (h1 : H < 16) (a0 : 0 ≤ a) (a1 : a < 16) (k0 : 0 ≤ k) (k1 : k < 16) (l0 : 0 ≤ L) (l1 : L < 16777216) :
    bits .andNot .u32 (bits .xor .u32 (H * 268435456 + a * 16777216 + L) (H * 268435456 + k * 16777216 + L)) 251658240 = 0 := by
  refine unlike_none _ _ _ (by omega) (by omega) (by omega) (by omega) (by omega) (by omega) ?_
  have e1 := andNot_put (H * 268435456 + a * 16777216 + L) 24 4 (by omega) (by omega) rfl
  have e2 := andNot_put (H * 268435456 + k * 16777216 + L) 24 4 (by omega) (by omega) rfl
  rw [show ((2 : Int) ^ (4 : Int).toNat - 1) * 2 ^ (24 : Int).toNat % 4294967296 = 251658240 from rfl] at e1 e2
  rw [e1, e2, Put, Put, if_pos (show may 24 4 = true from rfl), if_pos (show may 24 4 = true from rfl), show (2 : Int) ^ (24 : Int).toNat = 16777216 from rfl, show (2 : Int) ^ (4 : Int).toNat = 16 from rfl]
  omega
theorem xor_b (H a k L : Int) (h0 : 0 ≤ H) (h1 : H < 256) (a0 : 0 ≤ a) (a1 : a < 16) (k0 : 0 ≤ k) (k1 : k < 16) (l0 : 0 ≤ L) (l1 : L < 1048576) :
    bits .andNot .u32 (bits .xor .u32 (H * 16777216 + a * 1048576 + L) (H * 16777216 + k * 1048576 + L)) 15728640 = 0 := by
  refine unlike_none _ _ _ (by omega) (by omega) (by omega) (by omega) (by omega) (by omega) ?_
  have e1 := andNot_put (H * 16777216 + a * 1048576 + L) 20 4 (by omega) (by omega) rfl
  have e2 := andNot_put (H * 16777216 + k * 1048576 + L) 20 4 (by omega) (by omega) rfl
  rw [show ((2 : Int) ^ (4 : Int).toNat - 1) * 2 ^ (20 : Int).toNat % 4294967296 = 15728640 from rfl] at e1 e2
  rw [e1, e2, Put, Put, if_pos (show may 20 4 = true from rfl), if_pos (show may 20 4 = true from rfl), show (2 : Int) ^ (20 : Int).toNat = 1048576 from rfl, show (2 : Int) ^ (4 : Int).toNat = 16 from rfl]
  omega

/-- Another register in the field A. -/
theorem Ins.other_a (f : Int) (u v : Bool) (a b c op im k : Int) (h : Ins.good ⟨f, u, v, a, b, c, op, im⟩ = true) (k0 : 0 ≤ k) (k1 : k < 16) :
    Ins.good ⟨f, u, v, k, b, c, op, im⟩ = true ∧ bits .andNot .u32 (bits .xor .u32 (Ins.enc ⟨f, u, v, a, b, c, op, im⟩) (Ins.enc ⟨f, u, v, k, b, c, op, im⟩)) 251658240 = 0 ∧ Ins.enc ⟨f, u, v, k, b, c, op, im⟩ / 16777216 % 16 = k := by
  have hg : Ins.good ⟨f, u, v, k, b, c, op, im⟩ = true := by
    simp only [Ins.good, half4, Bool.and_eq_true, decide_eq_true_eq] at h ⊢
    exact ⟨⟨⟨⟨⟨k0, k1⟩, h.1.1.1.2⟩, h.1.1.2⟩, h.1.2⟩, h.2⟩
  have hr := Ins.good_range _ h
  have bu := Ins.bit_bd u
  have bv := Ins.bit_bd v
  have b1 := Ins.enc_bd _ h
  simp only at hr
  obtain ⟨L, hL, l0, l1⟩ : ∃ L : Int, (if f = 3 then c + im % 16777216 else b * 1048576 + (if f = 2 then im % 1048576 else op * 65536 + c + im)) = L ∧ 0 ≤ L ∧ L < 16777216 := by
    refine ⟨_, rfl, ?_⟩
    have h4 : f = 0 ∨ f = 1 ∨ f = 2 ∨ f = 3 := by omega
    rcases h4 with rfl | rfl | rfl | rfl
    · have hi := Ins.good_im0 u v a b c op im h
      simp; omega
    · have hi := Ins.good_im1 u v a b c op im h
      have hj := Ins.good_ci 1 u v a b c op im h
      simp at hj
      simp; omega
    · simp; omega
    · have hj := Ins.good_ci 3 u v a b c op im h
      cases u <;> simp at hj <;> simp <;> omega
  refine ⟨hg, ?_⟩
  rw [enc_ref, enc_ref, hL]
  have e : ∀ z : Int, f * 1073741824 + Ins.bit u * 536870912 + Ins.bit v * 268435456 + z * 16777216 + L = (f * 4 + Ins.bit u * 2 + Ins.bit v) * 268435456 + z * 16777216 + L := fun z => by omega
  rw [e a, e k]
  generalize hH : f * 4 + Ins.bit u * 2 + Ins.bit v = H at *
  exact ⟨xor_a H a k L (by omega) (by omega) (by omega) (by omega) k0 k1 l0 l1, by omega⟩

/-- Another register in the field B. -/
theorem Ins.other_b (f : Int) (u v : Bool) (a b c op im k : Int) (h : Ins.good ⟨f, u, v, a, b, c, op, im⟩ = true) (hf : f ≠ 3) (k0 : 0 ≤ k) (k1 : k < 16) :
    Ins.good ⟨f, u, v, a, k, c, op, im⟩ = true ∧ bits .andNot .u32 (bits .xor .u32 (Ins.enc ⟨f, u, v, a, b, c, op, im⟩) (Ins.enc ⟨f, u, v, a, k, c, op, im⟩)) 15728640 = 0 ∧ Ins.enc ⟨f, u, v, a, k, c, op, im⟩ / 1048576 % 16 = k := by
  have hg : Ins.good ⟨f, u, v, a, k, c, op, im⟩ = true := by
    simp only [Ins.good, half4, Bool.and_eq_true, decide_eq_true_eq, hf, if_false] at h ⊢
    exact ⟨⟨⟨⟨h.1.1.1.1, ⟨k0, k1⟩⟩, h.1.1.2⟩, h.1.2⟩, h.2⟩
  have hr := Ins.good_range _ h
  have bu := Ins.bit_bd u
  have bv := Ins.bit_bd v
  simp only at hr
  obtain ⟨L, hL, l0, l1⟩ : ∃ L : Int, (if f = 2 then im % 1048576 else op * 65536 + c + im) = L ∧ 0 ≤ L ∧ L < 1048576 := by
    refine ⟨_, rfl, ?_⟩
    have h4 : f = 0 ∨ f = 1 ∨ f = 2 := by omega
    rcases h4 with rfl | rfl | rfl
    · have hi := Ins.good_im0 u v a b c op im h
      simp; omega
    · have hi := Ins.good_im1 u v a b c op im h
      have hj := Ins.good_ci 1 u v a b c op im h
      simp at hj
      simp; omega
    · simp; omega
  refine ⟨hg, ?_⟩
  rw [enc_ref, enc_ref, if_neg hf, if_neg hf, hL]
  have e : ∀ z : Int, f * 1073741824 + Ins.bit u * 536870912 + Ins.bit v * 268435456 + a * 16777216 + (z * 1048576 + L) = (f * 64 + Ins.bit u * 32 + Ins.bit v * 16 + a) * 16777216 + z * 1048576 + L := fun z => by omega
  rw [e b, e k]
  generalize hH : f * 64 + Ins.bit u * 32 + Ins.bit v * 16 + a = H at *
  exact ⟨xor_b H b k L (by omega) (by omega) (by omega) (by omega) k0 k1 l0 l1, by omega⟩
theorem Ins.jump_good (link : Bool) (k im : Int) (k0 : 0 ≤ k) (k1 : k < 16) : Ins.good ⟨3, true, link, k, 0, 0, 0, im⟩ = decide (-8388608 ≤ im ∧ im < 8388608) := by
  simp [Ins.good, half4, Ins.inb, fits24]; omega

end Go.Proofs.Ytlihcdhcljljoaa
