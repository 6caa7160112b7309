/-
  Links of chains in code, as plain functions. No program in sight.
-/
import Derived.Test.YtlihcdhcljljoaaBitsLaw
namespace Go.Proofs.Ytlihcdhcljljoaa
set_option linter.unusedVariables false
set_option linter.unusedSimpArgs false
open Go.RowKit Bw

namespace Fx
def okLink (r s m b : Int) : Bool := decide (0 ≤ r ∧ r < 16) && decide (0 ≤ s ∧ s < 4) && decide (0 ≤ m ∧ m < 64) && decide (0 ≤ b ∧ b < 16384)
def link (r s m b : Int) : Int := if okLink r s m b = true then r * 268435456 + s * 67108864 + m * 1048576 + b else 0
def linkErr (r s m b : Int) : Int := if okLink r s m b = true then 0 else 220
def isLink (w : Int) : Bool := w / 16384 % 64 == 0
def reg (w : Int) : Int := if isLink w = true then w / 268435456 else 0
def sort (w : Int) : Int := if isLink w = true then w / 67108864 % 4 else 0
def mod (w : Int) : Int := if isLink w = true then w / 1048576 % 64 else 0
def back (w : Int) : Int := if isLink w = true then w % 16384 else 0
theorem okLink_iff (r s m b : Int) : okLink r s m b = true ↔ (0 ≤ r ∧ r < 16) ∧ (0 ≤ s ∧ s < 4) ∧ (0 ≤ m ∧ m < 64) ∧ (0 ≤ b ∧ b < 16384) := by
  simp [okLink, and_assoc]
theorem link_no (r s m b : Int) (h : ¬ ((0 ≤ r ∧ r < 16) ∧ (0 ≤ s ∧ s < 4) ∧ (0 ≤ m ∧ m < 64) ∧ (0 ≤ b ∧ b < 16384))) : link r s m b = 0 := by
  rw [link, if_neg (fun e => h ((okLink_iff r s m b).1 e))]
theorem linkErr_no (r s m b : Int) (h : ¬ ((0 ≤ r ∧ r < 16) ∧ (0 ≤ s ∧ s < 4) ∧ (0 ≤ m ∧ m < 64) ∧ (0 ≤ b ∧ b < 16384))) : linkErr r s m b = 220 := by
  rw [linkErr, if_neg (fun e => h ((okLink_iff r s m b).1 e))]
theorem link_bd (r s m b : Int) : 0 ≤ link r s m b ∧ link r s m b < 4294967296 := by
  unfold link
  split
  · rename_i h
    have := (okLink_iff r s m b).1 h
    omega
  · omega
theorem link_back (r s m b : Int) (h : okLink r s m b = true) : isLink (link r s m b) = true ∧ reg (link r s m b) = r ∧ sort (link r s m b) = s ∧ mod (link r s m b) = m ∧ back (link r s m b) = b := by
  have h1 := (okLink_iff r s m b).1 h
  have e : link r s m b = r * 268435456 + s * 67108864 + m * 1048576 + b := by rw [link, if_pos h]
  have h2 : isLink (link r s m b) = true := by rw [isLink, e, beq_iff_eq]; omega
  refine ⟨h2, ?_, ?_, ?_, ?_⟩
  · rw [reg, if_pos h2, e]; omega
  · rw [sort, if_pos h2, e]; omega
  · rw [mod, if_pos h2, e]; omega
  · rw [back, if_pos h2, e]; omega
/-- The fields, joined. -/
theorem joined (r s m b : Int) (hr : 0 ≤ r ∧ r < 16) (hs : 0 ≤ s ∧ s < 4) (hm : 0 ≤ m ∧ m < 64) (hb : 0 ≤ b ∧ b < 16384) :
    bits .or .u32 (bits .or .u32 (bits .or .u32 (r * 268435456) (s * 67108864)) (m * 1048576)) b = r * 268435456 + s * 67108864 + m * 1048576 + b := by
  rw [or_add (r * 268435456) (s * 67108864) 28 (by omega) (by omega) (by omega) (by omega) (by omega) (by omega),
    or_add (r * 268435456 + s * 67108864) (m * 1048576) 26 (by omega) (by omega) (by omega) (by omega) (by omega) (by omega),
    or_add (r * 268435456 + s * 67108864 + m * 1048576) b 20 (by omega) (by omega) (by omega) (by omega) (by omega) (by omega)]
theorem get14 (w : Int) : Get w 14 6 = w / 16384 % 64 := rfl
theorem get26 (w : Int) : Get w 26 2 = w / 67108864 % 4 := rfl
theorem get20 (w : Int) : Get w 20 6 = w / 1048576 % 64 := rfl
theorem get0 (w : Int) : Get w 0 14 = w % 16384 := by
  show w / 1 % 16384 = _
  rw [Int.ediv_one]
theorem get28 (w : Int) (h : 0 ≤ w ∧ w < 4294967296) : Get w 28 4 = w / 268435456 := by
  show w / 268435456 % 16 = _
  omega
end Fx

end Go.Proofs.Ytlihcdhcljljoaa
