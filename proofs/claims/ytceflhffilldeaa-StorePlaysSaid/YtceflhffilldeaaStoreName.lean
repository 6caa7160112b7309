/-
  Names of files: the program's store.Name and the document's, walked.
-/
import Derived.Test.YtceflhffilldeaaProg
import Derived.WalkKit
import Derived.BigQuiet
import Derived.Deep.QuietTactic
import Derived.Lib.Hide
namespace Go.Proofs.Ytceflhffilldeaa
set_option linter.unusedVariables false
set_option linter.unusedSimpArgs false
open Go.RowKit

def letterB (c : Int) : Bool := decide (97 ≤ c) && decide (c ≤ 122) || decide (65 ≤ c) && decide (c ≤ 90)
/-- A byte that may stand in a file's name. -/
def inName (c : Int) : Bool := letterB c || decide (48 ≤ c) && decide (c ≤ 57) || c == 46

theorem store_letter (c : Int) (w : World) : Calls Try.prog 120 #[.int .u8 c] w fun e w' => e = .returned (.bool (letterB c)) ∧ w = w' := by
  unfold letterB
  go_enter Try.func120, Try.ntmps120
  by_cases h1 : 97 ≤ c <;> by_cases h2 : c ≤ 122 <;> by_cases h3 : 65 ≤ c <;> by_cases h4 : c ≤ 90 <;> (go_wp2_with fail; go_ret; try (simp [h1, h2, h3, h4]))

theorem ref07_letter (c : Int) (w : World) : Calls Try.prog 84 #[.int .u8 c] w fun e w' => e = .returned (.bool (letterB c)) ∧ w = w' := by
  unfold letterB
  go_enter Try.func84, Try.ntmps84
  by_cases h1 : 97 ≤ c <;> by_cases h2 : c ≤ 122 <;> by_cases h3 : 65 ≤ c <;> by_cases h4 : c ≤ 90 <;> (go_wp2_with fail; go_ret; try (simp [h1, h2, h3, h4]))

theorem ret_bool {a b : Bool} (h : a = b) : Ending.returned (Value.bool a) = Ending.returned (Value.bool b) := by rw [h]
def at_ (s : ByteArray) (i : Nat) : Int := if h : i < s.size then ((s[i]'h).toNat : Int) else 0
theorem at_lt (s : ByteArray) (i : Nat) (h : i < s.size) : at_ s i = ((s[i]'h).toNat : Int) := by rw [at_, dif_pos h]
/-- A file's name. -/
def nameOk (s : ByteArray) : Bool := decide (1 ≤ s.size) && decide (s.size ≤ 24) && letterB (at_ s 0) && decide (∀ i, i < s.size → inName (at_ s i) = true)
theorem nameOk_iff (s : ByteArray) : nameOk s = true ↔ (1 ≤ s.size ∧ s.size ≤ 24 ∧ letterB (at_ s 0) = true ∧ ∀ i, i < s.size → inName (at_ s i) = true) := by
  simp [nameOk, and_assoc]
theorem nameOk_not (s : ByteArray) (h : ¬ (1 ≤ s.size ∧ s.size ≤ 24 ∧ letterB (at_ s 0) = true ∧ ∀ i, i < s.size → inName (at_ s i) = true)) : false = nameOk s := by
  have := (not_congr (nameOk_iff s)).2 h
  cases e : nameOk s
  · rfl
  · exact absurd e this
theorem nameOk_yes (s : ByteArray) (h : (1 ≤ s.size ∧ s.size ≤ 24 ∧ letterB (at_ s 0) = true ∧ ∀ i, i < s.size → inName (at_ s i) = true)) : true = nameOk s := ((nameOk_iff s).2 h).symm

theorem store_name (s : ByteArray) (w : World) (hs : s.size ≤ 9223372036854775807) : Calls Try.prog 83 #[.string s] w fun e w' => e = .returned (.bool (nameOk s)) ∧ w = w' := by
  by_cases h0 : s.size = 0
  · go_enter Try.func83, Try.ntmps83
    go_wp2_with fail
    go_ret
    exact ⟨ret_bool (nameOk_not s (fun h => by omega)), rfl⟩
  by_cases h1 : 24 < s.size
  · go_enter Try.func83, Try.ntmps83
    go_wp2_with fail
    go_ret
    exact ⟨ret_bool (nameOk_not s (fun h => by omega)), rfl⟩
  have h2 : 0 < s.size := by omega
  have h3 : s.size ≤ 24 := by omega
  have e0 := Lib.hid (at_lt s 0 h2)
  have b1 : ((s.size : Int) == 0) = false := by rw [beq_eq_false_iff_ne]; omega
  have b2 : decide ((24 : Int) < (s.size : Int)) = false := by rw [decide_eq_false_iff_not]; omega
  by_cases hl : letterB ↑s[0].toNat = true
  · go_enter Try.func83, Try.ntmps83
    go_wp2_with (go_at_call 120; refine (store_letter _ _).mono ?_; rintro e w' ⟨rfl, rfl⟩)
    go_loop [21] (fun i => ∃ k : Nat, i = .int .i64 k ∧ k ≤ s.size ∧ ∀ j, j < k → inName (at_ s j) = true) (fun i => s.size - (intOf i).toNat)
    case atStart => exact ⟨0, rfl, by omega, fun j hj => by omega⟩
    case round =>
      obtain ⟨k, rfl, hk, hj⟩ := hrel
      have HJ := Lib.hid hj
      clear hj
      by_cases hlt : k < s.size
      · have ek := Lib.hid (at_lt s k hlt)
        by_cases hl2 : letterB ↑(s[k]'hlt).toNat = true
        · have IN : RowKit.Hid (inName ↑(s[k]'hlt).toNat = true) := Lib.hid (by simp [inName, hl2])
          go_wp2_with (go_at_call 120; refine (store_letter _ _).mono ?_; rintro e w' ⟨rfl, rfl⟩)
          go_round
          case rel => exact ⟨k + 1, by go_num, by omega, fun j hj => by
            rcases Nat.lt_or_ge j k with h | h
            · exact HJ.out j h
            · rw [show j = k by omega, ek.out]; exact IN.out⟩
          case measure => simp [intOf]; omega
        have hl3 : letterB ↑(s[k]'hlt).toNat = false := by simpa using hl2
        clear hl2
        have hc : ((↑(s[k]'hlt).toNat : Int) < 48 ∧ (↑(s[k]'hlt).toNat : Int) ≠ 46) ∨ (↑(s[k]'hlt).toNat : Int) = 46 ∨ (48 ≤ (↑(s[k]'hlt).toNat : Int) ∧ (↑(s[k]'hlt).toNat : Int) ≤ 57) ∨ 57 < (↑(s[k]'hlt).toNat : Int) := by omega
        rcases hc with ⟨c1, c2⟩ | c1 | ⟨c1, c2⟩ | c1
        · have c3 : ((↑(s[k]'hlt).toNat : Int) != 46) = true := by simpa using c2
          have IN : RowKit.Hid (inName ↑(s[k]'hlt).toNat = false) := Lib.hid (by simp only [inName, hl3, Bool.false_or, Bool.or_eq_false_iff, Bool.and_eq_false_iff, decide_eq_false_iff_not, beq_eq_false_iff_ne]; exact ⟨by omega, c2⟩)
          go_wp2_with (go_at_call 120; refine (store_letter _ _).mono ?_; rintro e w' ⟨rfl, rfl⟩)
          go_ret
          exact ⟨ret_bool (nameOk_not s (fun h => by have h1 := h.2.2.2 k hlt; rw [ek.out] at h1; have h2 := IN.out; rw [h1] at h2; cases h2)), rfl⟩
        · have IN : RowKit.Hid (inName ↑(s[k]'hlt).toNat = true) := Lib.hid (by simp [inName, c1])
          go_wp2_with (go_at_call 120; refine (store_letter _ _).mono ?_; rintro e w' ⟨rfl, rfl⟩)
          go_round
          case rel => exact ⟨k + 1, by go_num, by omega, fun j hj => by
            rcases Nat.lt_or_ge j k with h | h
            · exact HJ.out j h
            · rw [show j = k by omega, ek.out]; exact IN.out⟩
          case measure => simp [intOf]; omega
        · have IN : RowKit.Hid (inName ↑(s[k]'hlt).toNat = true) := Lib.hid (by simp only [inName, Bool.or_eq_true, Bool.and_eq_true, decide_eq_true_eq]; omega)
          go_wp2_with (go_at_call 120; refine (store_letter _ _).mono ?_; rintro e w' ⟨rfl, rfl⟩)
          go_round
          case rel => exact ⟨k + 1, by go_num, by omega, fun j hj => by
            rcases Nat.lt_or_ge j k with h | h
            · exact HJ.out j h
            · rw [show j = k by omega, ek.out]; exact IN.out⟩
          case measure => simp [intOf]; omega
        · have c3 : ((↑(s[k]'hlt).toNat : Int) != 46) = true := by simp only [bne_iff_ne]; omega
          have IN : RowKit.Hid (inName ↑(s[k]'hlt).toNat = false) := Lib.hid (by simp only [inName, hl3, Bool.false_or, Bool.or_eq_false_iff, Bool.and_eq_false_iff, decide_eq_false_iff_not, beq_eq_false_iff_ne]; omega)
          go_wp2_with (go_at_call 120; refine (store_letter _ _).mono ?_; rintro e w' ⟨rfl, rfl⟩)
          go_ret
          exact ⟨ret_bool (nameOk_not s (fun h => by have h1 := h.2.2.2 k hlt; rw [ek.out] at h1; have h2 := IN.out; rw [h1] at h2; cases h2)), rfl⟩
      · go_wp2_with fail
        go_ret
        exact ⟨ret_bool (nameOk_yes s ⟨by omega, by omega, by rw [e0.out]; exact hl, fun i hi => HJ.out i (by omega)⟩), rfl⟩
  · go_enter Try.func83, Try.ntmps83
    go_wp2_with (go_at_call 120; refine (store_letter _ _).mono ?_; rintro e w' ⟨rfl, rfl⟩)
    go_ret
    exact ⟨ret_bool (nameOk_not s (fun h => hl (by rw [← e0.out]; exact h.2.2.1))), rfl⟩
theorem ref07_name (s : ByteArray) (w : World) (hs : s.size ≤ 9223372036854775807) : Calls Try.prog 35 #[.string s] w fun e w' => e = .returned (.bool (nameOk s)) ∧ w = w' := by
  by_cases h0 : s.size = 0
  · go_enter Try.func35, Try.ntmps35
    go_wp2_with fail
    go_ret
    exact ⟨ret_bool (nameOk_not s (fun h => by omega)), rfl⟩
  by_cases h1 : 24 < s.size
  · go_enter Try.func35, Try.ntmps35
    go_wp2_with fail
    go_ret
    exact ⟨ret_bool (nameOk_not s (fun h => by omega)), rfl⟩
  have h2 : 0 < s.size := by omega
  have h3 : s.size ≤ 24 := by omega
  have e0 := Lib.hid (at_lt s 0 h2)
  have b1 : decide ((s.size : Int) < 1) = false := by rw [decide_eq_false_iff_not]; omega
  have b2 : decide ((24 : Int) < (s.size : Int)) = false := by rw [decide_eq_false_iff_not]; omega
  by_cases hl : letterB ↑s[0].toNat = true
  · go_enter Try.func35, Try.ntmps35
    go_wp2_with (go_at_call 84; refine (ref07_letter _ _).mono ?_; rintro e w' ⟨rfl, rfl⟩)
    go_loop [3] (fun i => ∃ k : Nat, i = .int .i64 k ∧ k ≤ s.size ∧ ∀ j, j < k → inName (at_ s j) = true) (fun i => s.size - (intOf i).toNat)
    case atStart => exact ⟨0, rfl, by omega, fun j hj => by omega⟩
    case round =>
      obtain ⟨k, rfl, hk, hj⟩ := hrel
      have HJ := Lib.hid hj
      clear hj
      by_cases hlt : k < s.size
      · have ek := Lib.hid (at_lt s k hlt)
        by_cases hl2 : letterB ↑(s[k]'hlt).toNat = true
        · have IN : RowKit.Hid (inName ↑(s[k]'hlt).toNat = true) := Lib.hid (by simp [inName, hl2])
          go_wp2_with (go_at_call 84; refine (ref07_letter _ _).mono ?_; rintro e w' ⟨rfl, rfl⟩)
          go_round
          case rel => exact ⟨k + 1, by go_num, by omega, fun j hj => by
            rcases Nat.lt_or_ge j k with h | h
            · exact HJ.out j h
            · rw [show j = k by omega, ek.out]; exact IN.out⟩
          case measure => simp [intOf]; omega
        have hl3 : letterB ↑(s[k]'hlt).toNat = false := by simpa using hl2
        clear hl2
        have hc : ((↑(s[k]'hlt).toNat : Int) < 48 ∧ (↑(s[k]'hlt).toNat : Int) ≠ 46) ∨ (↑(s[k]'hlt).toNat : Int) = 46 ∨ (48 ≤ (↑(s[k]'hlt).toNat : Int) ∧ (↑(s[k]'hlt).toNat : Int) ≤ 57) ∨ 57 < (↑(s[k]'hlt).toNat : Int) := by omega
        rcases hc with ⟨c1, c2⟩ | c1 | ⟨c1, c2⟩ | c1
        · have c3 : ((↑(s[k]'hlt).toNat : Int) != 46) = true := by simpa using c2
          have IN : RowKit.Hid (inName ↑(s[k]'hlt).toNat = false) := Lib.hid (by simp only [inName, hl3, Bool.false_or, Bool.or_eq_false_iff, Bool.and_eq_false_iff, decide_eq_false_iff_not, beq_eq_false_iff_ne]; exact ⟨by omega, c2⟩)
          go_wp2_with (go_at_call 84; refine (ref07_letter _ _).mono ?_; rintro e w' ⟨rfl, rfl⟩)
          go_ret
          exact ⟨ret_bool (nameOk_not s (fun h => by have h1 := h.2.2.2 k hlt; rw [ek.out] at h1; have h2 := IN.out; rw [h1] at h2; cases h2)), rfl⟩
        · have IN : RowKit.Hid (inName ↑(s[k]'hlt).toNat = true) := Lib.hid (by simp [inName, c1])
          go_wp2_with (go_at_call 84; refine (ref07_letter _ _).mono ?_; rintro e w' ⟨rfl, rfl⟩)
          go_round
          case rel => exact ⟨k + 1, by go_num, by omega, fun j hj => by
            rcases Nat.lt_or_ge j k with h | h
            · exact HJ.out j h
            · rw [show j = k by omega, ek.out]; exact IN.out⟩
          case measure => simp [intOf]; omega
        · have IN : RowKit.Hid (inName ↑(s[k]'hlt).toNat = true) := Lib.hid (by simp only [inName, Bool.or_eq_true, Bool.and_eq_true, decide_eq_true_eq]; omega)
          go_wp2_with (go_at_call 84; refine (ref07_letter _ _).mono ?_; rintro e w' ⟨rfl, rfl⟩)
          go_round
          case rel => exact ⟨k + 1, by go_num, by omega, fun j hj => by
            rcases Nat.lt_or_ge j k with h | h
            · exact HJ.out j h
            · rw [show j = k by omega, ek.out]; exact IN.out⟩
          case measure => simp [intOf]; omega
        · have c3 : ((↑(s[k]'hlt).toNat : Int) != 46) = true := by simp only [bne_iff_ne]; omega
          have IN : RowKit.Hid (inName ↑(s[k]'hlt).toNat = false) := Lib.hid (by simp only [inName, hl3, Bool.false_or, Bool.or_eq_false_iff, Bool.and_eq_false_iff, decide_eq_false_iff_not, beq_eq_false_iff_ne]; omega)
          go_wp2_with (go_at_call 84; refine (ref07_letter _ _).mono ?_; rintro e w' ⟨rfl, rfl⟩)
          go_ret
          exact ⟨ret_bool (nameOk_not s (fun h => by have h1 := h.2.2.2 k hlt; rw [ek.out] at h1; have h2 := IN.out; rw [h1] at h2; cases h2)), rfl⟩
      · go_wp2_with fail
        go_ret
        exact ⟨ret_bool (nameOk_yes s ⟨by omega, by omega, by rw [e0.out]; exact hl, fun i hi => HJ.out i (by omega)⟩), rfl⟩
  · go_enter Try.func35, Try.ntmps35
    go_wp2_with (go_at_call 84; refine (ref07_letter _ _).mono ?_; rintro e w' ⟨rfl, rfl⟩)
    go_ret
    exact ⟨ret_bool (nameOk_not s (fun h => hl (by rw [← e0.out]; exact h.2.2.1))), rfl⟩
end Go.Proofs.Ytceflhffilldeaa
