/-
  What risc.Decode computes, for every word: joined.
-/
import Derived.Test.YtlihcdhcljljoaaRiscDec
namespace Go.Proofs.Ytlihcdhcljljoaa
set_option linter.unusedVariables false
set_option linter.unusedSimpArgs false
open Go.RowKit Bw

theorem isIns_yes {x : Int} {X : Ins} (hX : Ins.decF x = X) (h : Ins.isIns x = true) : X.E = x ∧ X.eerr = 0 := by
  subst hX
  simp only [Ins.isIns, Bool.and_eq_true, beq_iff_eq] at h
  exact ⟨by rw [Ins.E, if_pos h.1]; exact h.2, by rw [Ins.eerr, if_pos h.1]⟩
theorem isIns_no {x : Int} {X : Ins} (hX : Ins.decF x = X) (h : Ins.isIns x = false) : X.eerr ≠ 0 ∨ X.E ≠ x := by
  subst hX
  cases hg : (Ins.decF x).good
  · left; simp [Ins.eerr, hg]
  · right
    simp only [Ins.isIns, hg, Bool.true_and, beq_eq_false_iff_ne] at h
    simpa [Ins.E, hg] using h

theorem risc_decode (x : Int) (w : World) (hx : 0 ≤ x) (hx' : x < 4294967296) :
    Calls Try.prog 14 #[.int .u32 x] w fun q w' => q = .returned (.tuple #[(Ins.dec x).val, .int .i64 (Ins.derr x)]) ∧ Below w.heap.size w w' := by
  have hf := Ins.decF_fits x hx hx'
  have hE := fun W => risc_encode_any (Ins.decF x) W hf
  have go : ∀ X : Ins, Ins.decF x = X → (∀ W, Calls Try.prog 45 #[Ins.val X] W fun q w' => q = .returned (.tuple #[.int .u32 X.E, .int .i64 X.eerr]) ∧ Below W.heap.size W w') := fun X h => by subst h; exact hE
  cases hi : Ins.isIns x
  · rw [Ins.dec, Ins.derr, hi]
    simp only [Bool.false_eq_true, if_false]
    by_cases h0 : x / 1073741824 = 0
    · have hX : Ins.decF x = ⟨0, decide (x / 536870912 % 2 = 1), decide (x / 268435456 % 2 = 1), Get x 24 4, Get x 20 4, x % 16, Get x 16 4, 0⟩ := by rw [Ins.decF, if_pos h0]
      exact risc_decode_0_no x _ _ w hx hx' h0 rfl rfl _ _ (isIns_no hX hi) (go _ hX)
    by_cases h1 : x / 1073741824 = 1
    · have hX : Ins.decF x = ⟨1, decide (x / 536870912 % 2 = 1), decide (x / 268435456 % 2 = 1), Get x 24 4, Get x 20 4, 0, Get x 16 4, x % 65536⟩ := by rw [Ins.decF, if_neg h0, if_pos h1]
      exact risc_decode_1_no x _ _ w hx hx' h1 rfl rfl _ _ (isIns_no hX hi) (go _ hX)
    by_cases h2 : x / 1073741824 = 2
    · have hX : Ins.decF x = ⟨2, decide (x / 536870912 % 2 = 1), decide (x / 268435456 % 2 = 1), Get x 24 4, Get x 20 4, 0, 0, Extend x 20⟩ := by rw [Ins.decF, if_neg h0, if_neg h1, if_pos h2]
      exact risc_decode_2_no x _ _ w hx hx' h2 rfl rfl _ _ (isIns_no hX hi) (go _ hX)
    have h3 : x / 1073741824 = 3 := by omega
    by_cases hu : x / 536870912 % 2 = 1
    · have hX : Ins.decF x = ⟨3, true, decide (x / 268435456 % 2 = 1), Get x 24 4, 0, 0, 0, Extend x 24⟩ := by rw [Ins.decF, if_neg h0, if_neg h1, if_neg h2, if_pos hu]
      exact risc_decode_3t_no x _ w hx hx' h3 (by rw [hu]; rfl) rfl _ _ (isIns_no hX hi) (go _ hX)
    · have hX : Ins.decF x = ⟨3, false, decide (x / 268435456 % 2 = 1), Get x 24 4, 0, x % 16, 0, 0⟩ := by rw [Ins.decF, if_neg h0, if_neg h1, if_neg h2, if_neg hu]
      exact risc_decode_3f_no x _ w hx hx' h3 (by simpa using hu) rfl _ _ (isIns_no hX hi) (go _ hX)
  · rw [Ins.dec, Ins.derr, hi]
    simp only [if_true]
    have yes : ∀ X : Ins, Ins.decF x = X → (∀ W, Calls Try.prog 45 #[Ins.val X] W fun q w' => q = .returned (.tuple #[.int .u32 x, .int .i64 0]) ∧ Below W.heap.size W w') := fun X h W => by
      have h1 := isIns_yes h hi
      have h2 := go X h W
      rw [h1.1, h1.2] at h2
      exact h2
    by_cases h0 : x / 1073741824 = 0
    · have hX : Ins.decF x = ⟨0, decide (x / 536870912 % 2 = 1), decide (x / 268435456 % 2 = 1), Get x 24 4, Get x 20 4, x % 16, Get x 16 4, 0⟩ := by rw [Ins.decF, if_pos h0]
      rw [hX]; exact risc_decode_0_yes x _ _ w hx hx' h0 rfl rfl (yes _ hX)
    by_cases h1 : x / 1073741824 = 1
    · have hX : Ins.decF x = ⟨1, decide (x / 536870912 % 2 = 1), decide (x / 268435456 % 2 = 1), Get x 24 4, Get x 20 4, 0, Get x 16 4, x % 65536⟩ := by rw [Ins.decF, if_neg h0, if_pos h1]
      rw [hX]; exact risc_decode_1_yes x _ _ w hx hx' h1 rfl rfl (yes _ hX)
    by_cases h2 : x / 1073741824 = 2
    · have hX : Ins.decF x = ⟨2, decide (x / 536870912 % 2 = 1), decide (x / 268435456 % 2 = 1), Get x 24 4, Get x 20 4, 0, 0, Extend x 20⟩ := by rw [Ins.decF, if_neg h0, if_neg h1, if_pos h2]
      rw [hX]; exact risc_decode_2_yes x _ _ w hx hx' h2 rfl rfl (yes _ hX)
    have h3 : x / 1073741824 = 3 := by omega
    by_cases hu : x / 536870912 % 2 = 1
    · have hX : Ins.decF x = ⟨3, true, decide (x / 268435456 % 2 = 1), Get x 24 4, 0, 0, 0, Extend x 24⟩ := by rw [Ins.decF, if_neg h0, if_neg h1, if_neg h2, if_pos hu]
      rw [hX]; exact risc_decode_3t_yes x _ w hx hx' h3 (by rw [hu]; rfl) rfl (yes _ hX)
    · have hX : Ins.decF x = ⟨3, false, decide (x / 268435456 % 2 = 1), Get x 24 4, 0, x % 16, 0, 0⟩ := by rw [Ins.decF, if_neg h0, if_neg h1, if_neg h2, if_neg hu]
      rw [hX]; exact risc_decode_3f_yes x _ w hx hx' h3 (by simpa using hu) rfl (yes _ hX)

end Go.Proofs.Ytlihcdhcljljoaa
