/-
  Names of files: the program's store.Name and the document's, walked.
-/
import Derived.Test.YtceflhffilldeaaProg
import Derived.WalkKit
import Derived.BigQuiet
import Derived.Deep.QuietTactic
import Derived.Lib.Hide
import Derived.Maps.Own
import Derived.Maps.Views
import Derived.WideKeyArr2
import Derived.DeepKeys4
import Derived.Test.YtceflhffilldeaaZKept
import Derived.Laws.CopyRow
import Derived.Lib.SlBuf
import Derived.Maps.OwnSet
import Derived.Laws.CopyOwn
import Derived.StillTailTactics
namespace Go.Proofs.Ytceflhffilldeaa
set_option linter.unusedVariables false
set_option linter.unusedSimpArgs false
open Go.RowKit

def letterB (c : Int) : Bool := decide (97 ≤ c) && decide (c ≤ 122) || decide (65 ≤ c) && decide (c ≤ 90)
/-- A byte that may stand in a file's name. -/
def inName (c : Int) : Bool := letterB c || decide (48 ≤ c) && decide (c ≤ 57) || c == 46

theorem store_letter (c : Int) (w : World) : Calls Try.prog 120 #[.int .u8 c] w fun e w' => e = .returned (.bool (letterB c)) ∧ w = w' := by
  unfold letterB
  go_enter Try.func120, Try.ntmps120
  by_cases h1 : 97 ≤ c <;> by_cases h2 : c ≤ 122 <;> by_cases h3 : 65 ≤ c <;> by_cases h4 : c ≤ 90 <;> (go_wp2_with fail; go_ret; try (simp [h1, h2, h3, h4]))

theorem ref07_letter (c : Int) (w : World) : Calls Try.prog 84 #[.int .u8 c] w fun e w' => e = .returned (.bool (letterB c)) ∧ w = w' := by
  unfold letterB
  go_enter Try.func84, Try.ntmps84
  by_cases h1 : 97 ≤ c <;> by_cases h2 : c ≤ 122 <;> by_cases h3 : 65 ≤ c <;> by_cases h4 : c ≤ 90 <;> (go_wp2_with fail; go_ret; try (simp [h1, h2, h3, h4]))

theorem ret_bool {a b : Bool} (h : a = b) : Ending.returned (Value.bool a) = Ending.returned (Value.bool b) := by rw [h]
def at_ (s : ByteArray) (i : Nat) : Int := if h : i < s.size then ((s[i]'h).toNat : Int) else 0
theorem at_lt (s : ByteArray) (i : Nat) (h : i < s.size) : at_ s i = ((s[i]'h).toNat : Int) := by rw [at_, dif_pos h]
/-- A file's name. -/
def nameOk (s : ByteArray) : Bool := decide (1 ≤ s.size) && decide (s.size ≤ 24) && letterB (at_ s 0) && decide (∀ i, i < s.size → inName (at_ s i) = true)
theorem nameOk_iff (s : ByteArray) : nameOk s = true ↔ (1 ≤ s.size ∧ s.size ≤ 24 ∧ letterB (at_ s 0) = true ∧ ∀ i, i < s.size → inName (at_ s i) = true) := by
  simp [nameOk, and_assoc]
theorem nameOk_not (s : ByteArray) (h : ¬ (1 ≤ s.size ∧ s.size ≤ 24 ∧ letterB (at_ s 0) = true ∧ ∀ i, i < s.size → inName (at_ s i) = true)) : false = nameOk s := by
  have := (not_congr (nameOk_iff s)).2 h
  cases e : nameOk s
  · rfl
  · exact absurd e this
theorem nameOk_yes (s : ByteArray) (h : (1 ≤ s.size ∧ s.size ≤ 24 ∧ letterB (at_ s 0) = true ∧ ∀ i, i < s.size → inName (at_ s i) = true)) : true = nameOk s := ((nameOk_iff s).2 h).symm

theorem store_name (s : ByteArray) (w : World) (hs : s.size ≤ 9223372036854775807) : Calls Try.prog 83 #[.string s] w fun e w' => e = .returned (.bool (nameOk s)) ∧ w = w' := by
  by_cases h0 : s.size = 0
  · go_enter Try.func83, Try.ntmps83
    go_wp2_with fail
    go_ret
    exact ⟨ret_bool (nameOk_not s (fun h => by omega)), rfl⟩
  by_cases h1 : 24 < s.size
  · go_enter Try.func83, Try.ntmps83
    go_wp2_with fail
    go_ret
    exact ⟨ret_bool (nameOk_not s (fun h => by omega)), rfl⟩
  have h2 : 0 < s.size := by omega
  have h3 : s.size ≤ 24 := by omega
  have e0 := Lib.hid (at_lt s 0 h2)
  have b1 : ((s.size : Int) == 0) = false := by rw [beq_eq_false_iff_ne]; omega
  have b2 : decide ((24 : Int) < (s.size : Int)) = false := by rw [decide_eq_false_iff_not]; omega
  by_cases hl : letterB ↑s[0].toNat = true
  · go_enter Try.func83, Try.ntmps83
    go_wp2_with (go_at_call 120; refine (store_letter _ _).mono ?_; rintro e w' ⟨rfl, rfl⟩)
    go_loop [21] (fun i => ∃ k : Nat, i = .int .i64 k ∧ k ≤ s.size ∧ ∀ j, j < k → inName (at_ s j) = true) (fun i => s.size - (intOf i).toNat)
    case atStart => exact ⟨0, rfl, by omega, fun j hj => by omega⟩
    case round =>
      obtain ⟨k, rfl, hk, hj⟩ := hrel
      have HJ := Lib.hid hj
      clear hj
      by_cases hlt : k < s.size
      · have ek := Lib.hid (at_lt s k hlt)
        by_cases hl2 : letterB ↑(s[k]'hlt).toNat = true
        · have IN : RowKit.Hid (inName ↑(s[k]'hlt).toNat = true) := Lib.hid (by simp [inName, hl2])
          go_wp2_with (go_at_call 120; refine (store_letter _ _).mono ?_; rintro e w' ⟨rfl, rfl⟩)
          go_round
          case rel => exact ⟨k + 1, by go_num, by omega, fun j hj => by
            rcases Nat.lt_or_ge j k with h | h
            · exact HJ.out j h
            · rw [show j = k by omega, ek.out]; exact IN.out⟩
          case measure => simp [intOf]; omega
        have hl3 : letterB ↑(s[k]'hlt).toNat = false := by simpa using hl2
        clear hl2
        have hc : ((↑(s[k]'hlt).toNat : Int) < 48 ∧ (↑(s[k]'hlt).toNat : Int) ≠ 46) ∨ (↑(s[k]'hlt).toNat : Int) = 46 ∨ (48 ≤ (↑(s[k]'hlt).toNat : Int) ∧ (↑(s[k]'hlt).toNat : Int) ≤ 57) ∨ 57 < (↑(s[k]'hlt).toNat : Int) := by omega
        rcases hc with ⟨c1, c2⟩ | c1 | ⟨c1, c2⟩ | c1
        · have c3 : ((↑(s[k]'hlt).toNat : Int) != 46) = true := by simpa using c2
          have IN : RowKit.Hid (inName ↑(s[k]'hlt).toNat = false) := Lib.hid (by simp only [inName, hl3, Bool.false_or, Bool.or_eq_false_iff, Bool.and_eq_false_iff, decide_eq_false_iff_not, beq_eq_false_iff_ne]; exact ⟨by omega, c2⟩)
          go_wp2_with (go_at_call 120; refine (store_letter _ _).mono ?_; rintro e w' ⟨rfl, rfl⟩)
          go_ret
          exact ⟨ret_bool (nameOk_not s (fun h => by have h1 := h.2.2.2 k hlt; rw [ek.out] at h1; have h2 := IN.out; rw [h1] at h2; cases h2)), rfl⟩
        · have IN : RowKit.Hid (inName ↑(s[k]'hlt).toNat = true) := Lib.hid (by simp [inName, c1])
          go_wp2_with (go_at_call 120; refine (store_letter _ _).mono ?_; rintro e w' ⟨rfl, rfl⟩)
          go_round
          case rel => exact ⟨k + 1, by go_num, by omega, fun j hj => by
            rcases Nat.lt_or_ge j k with h | h
            · exact HJ.out j h
            · rw [show j = k by omega, ek.out]; exact IN.out⟩
          case measure => simp [intOf]; omega
        · have IN : RowKit.Hid (inName ↑(s[k]'hlt).toNat = true) := Lib.hid (by simp only [inName, Bool.or_eq_true, Bool.and_eq_true, decide_eq_true_eq]; omega)
          go_wp2_with (go_at_call 120; refine (store_letter _ _).mono ?_; rintro e w' ⟨rfl, rfl⟩)
          go_round
          case rel => exact ⟨k + 1, by go_num, by omega, fun j hj => by
            rcases Nat.lt_or_ge j k with h | h
            · exact HJ.out j h
            · rw [show j = k by omega, ek.out]; exact IN.out⟩
          case measure => simp [intOf]; omega
        · have c3 : ((↑(s[k]'hlt).toNat : Int) != 46) = true := by simp only [bne_iff_ne]; omega
          have IN : RowKit.Hid (inName ↑(s[k]'hlt).toNat = false) := Lib.hid (by simp only [inName, hl3, Bool.false_or, Bool.or_eq_false_iff, Bool.and_eq_false_iff, decide_eq_false_iff_not, beq_eq_false_iff_ne]; omega)
          go_wp2_with (go_at_call 120; refine (store_letter _ _).mono ?_; rintro e w' ⟨rfl, rfl⟩)
          go_ret
          exact ⟨ret_bool (nameOk_not s (fun h => by have h1 := h.2.2.2 k hlt; rw [ek.out] at h1; have h2 := IN.out; rw [h1] at h2; cases h2)), rfl⟩
      · go_wp2_with fail
        go_ret
        exact ⟨ret_bool (nameOk_yes s ⟨by omega, by omega, by rw [e0.out]; exact hl, fun i hi => HJ.out i (by omega)⟩), rfl⟩
  · go_enter Try.func83, Try.ntmps83
    go_wp2_with (go_at_call 120; refine (store_letter _ _).mono ?_; rintro e w' ⟨rfl, rfl⟩)
    go_ret
    exact ⟨ret_bool (nameOk_not s (fun h => hl (by rw [← e0.out]; exact h.2.2.1))), rfl⟩
theorem ref07_name (s : ByteArray) (w : World) (hs : s.size ≤ 9223372036854775807) : Calls Try.prog 35 #[.string s] w fun e w' => e = .returned (.bool (nameOk s)) ∧ w = w' := by
  by_cases h0 : s.size = 0
  · go_enter Try.func35, Try.ntmps35
    go_wp2_with fail
    go_ret
    exact ⟨ret_bool (nameOk_not s (fun h => by omega)), rfl⟩
  by_cases h1 : 24 < s.size
  · go_enter Try.func35, Try.ntmps35
    go_wp2_with fail
    go_ret
    exact ⟨ret_bool (nameOk_not s (fun h => by omega)), rfl⟩
  have h2 : 0 < s.size := by omega
  have h3 : s.size ≤ 24 := by omega
  have e0 := Lib.hid (at_lt s 0 h2)
  have b1 : decide ((s.size : Int) < 1) = false := by rw [decide_eq_false_iff_not]; omega
  have b2 : decide ((24 : Int) < (s.size : Int)) = false := by rw [decide_eq_false_iff_not]; omega
  by_cases hl : letterB ↑s[0].toNat = true
  · go_enter Try.func35, Try.ntmps35
    go_wp2_with (go_at_call 84; refine (ref07_letter _ _).mono ?_; rintro e w' ⟨rfl, rfl⟩)
    go_loop [3] (fun i => ∃ k : Nat, i = .int .i64 k ∧ k ≤ s.size ∧ ∀ j, j < k → inName (at_ s j) = true) (fun i => s.size - (intOf i).toNat)
    case atStart => exact ⟨0, rfl, by omega, fun j hj => by omega⟩
    case round =>
      obtain ⟨k, rfl, hk, hj⟩ := hrel
      have HJ := Lib.hid hj
      clear hj
      by_cases hlt : k < s.size
      · have ek := Lib.hid (at_lt s k hlt)
        by_cases hl2 : letterB ↑(s[k]'hlt).toNat = true
        · have IN : RowKit.Hid (inName ↑(s[k]'hlt).toNat = true) := Lib.hid (by simp [inName, hl2])
          go_wp2_with (go_at_call 84; refine (ref07_letter _ _).mono ?_; rintro e w' ⟨rfl, rfl⟩)
          go_round
          case rel => exact ⟨k + 1, by go_num, by omega, fun j hj => by
            rcases Nat.lt_or_ge j k with h | h
            · exact HJ.out j h
            · rw [show j = k by omega, ek.out]; exact IN.out⟩
          case measure => simp [intOf]; omega
        have hl3 : letterB ↑(s[k]'hlt).toNat = false := by simpa using hl2
        clear hl2
        have hc : ((↑(s[k]'hlt).toNat : Int) < 48 ∧ (↑(s[k]'hlt).toNat : Int) ≠ 46) ∨ (↑(s[k]'hlt).toNat : Int) = 46 ∨ (48 ≤ (↑(s[k]'hlt).toNat : Int) ∧ (↑(s[k]'hlt).toNat : Int) ≤ 57) ∨ 57 < (↑(s[k]'hlt).toNat : Int) := by omega
        rcases hc with ⟨c1, c2⟩ | c1 | ⟨c1, c2⟩ | c1
        · have c3 : ((↑(s[k]'hlt).toNat : Int) != 46) = true := by simpa using c2
          have IN : RowKit.Hid (inName ↑(s[k]'hlt).toNat = false) := Lib.hid (by simp only [inName, hl3, Bool.false_or, Bool.or_eq_false_iff, Bool.and_eq_false_iff, decide_eq_false_iff_not, beq_eq_false_iff_ne]; exact ⟨by omega, c2⟩)
          go_wp2_with (go_at_call 84; refine (ref07_letter _ _).mono ?_; rintro e w' ⟨rfl, rfl⟩)
          go_ret
          exact ⟨ret_bool (nameOk_not s (fun h => by have h1 := h.2.2.2 k hlt; rw [ek.out] at h1; have h2 := IN.out; rw [h1] at h2; cases h2)), rfl⟩
        · have IN : RowKit.Hid (inName ↑(s[k]'hlt).toNat = true) := Lib.hid (by simp [inName, c1])
          go_wp2_with (go_at_call 84; refine (ref07_letter _ _).mono ?_; rintro e w' ⟨rfl, rfl⟩)
          go_round
          case rel => exact ⟨k + 1, by go_num, by omega, fun j hj => by
            rcases Nat.lt_or_ge j k with h | h
            · exact HJ.out j h
            · rw [show j = k by omega, ek.out]; exact IN.out⟩
          case measure => simp [intOf]; omega
        · have IN : RowKit.Hid (inName ↑(s[k]'hlt).toNat = true) := Lib.hid (by simp only [inName, Bool.or_eq_true, Bool.and_eq_true, decide_eq_true_eq]; omega)
          go_wp2_with (go_at_call 84; refine (ref07_letter _ _).mono ?_; rintro e w' ⟨rfl, rfl⟩)
          go_round
          case rel => exact ⟨k + 1, by go_num, by omega, fun j hj => by
            rcases Nat.lt_or_ge j k with h | h
            · exact HJ.out j h
            · rw [show j = k by omega, ek.out]; exact IN.out⟩
          case measure => simp [intOf]; omega
        · have c3 : ((↑(s[k]'hlt).toNat : Int) != 46) = true := by simp only [bne_iff_ne]; omega
          have IN : RowKit.Hid (inName ↑(s[k]'hlt).toNat = false) := Lib.hid (by simp only [inName, hl3, Bool.false_or, Bool.or_eq_false_iff, Bool.and_eq_false_iff, decide_eq_false_iff_not, beq_eq_false_iff_ne]; omega)
          go_wp2_with (go_at_call 84; refine (ref07_letter _ _).mono ?_; rintro e w' ⟨rfl, rfl⟩)
          go_ret
          exact ⟨ret_bool (nameOk_not s (fun h => by have h1 := h.2.2.2 k hlt; rw [ek.out] at h1; have h2 := IN.out; rw [h1] at h2; cases h2)), rfl⟩
      · go_wp2_with fail
        go_ret
        exact ⟨ret_bool (nameOk_yes s ⟨by omega, by omega, by rw [e0.out]; exact hl, fun i hi => HJ.out i (by omega)⟩), rfl⟩
  · go_enter Try.func35, Try.ntmps35
    go_wp2_with (go_at_call 84; refine (ref07_letter _ _).mono ?_; rintro e w' ⟨rfl, rfl⟩)
    go_ret
    exact ⟨ret_bool (nameOk_not s (fun h => hl (by rw [← e0.out]; exact h.2.2.1))), rfl⟩
end Go.Proofs.Ytceflhffilldeaa

/-
  Keys of maps that are arrays of integers. No program in sight but the types' rows.
-/
namespace Go.Proofs.Ytceflhffilldeaa
set_option linter.unusedVariables false
set_option linter.unusedSimpArgs false
open Go.RowKit Go.Maps Go.WideMaps

/-- The key that an array of integers is. -/
def akey (q : IntKind) (xs : List Int) : Lit := .string (keyBytes (xs.map (Lit.int q)))

theorem mapM_keyLits {P : Program} {e : TypeId} {q : IntKind} (he : P.underlying e = some (.int q)) (h1 : P.cellsOf e = 1) (D : Nat) (xs : List Int) (hw : ∀ x ∈ xs, (Lit.int q x).wf = true) :
    ∀ (L : List Nat), (∀ i ∈ L, i < xs.length) → L.mapM (fun i => P.keyLits (D + 1) e (((xs.map (Value.int q)).drop (i * P.cellsOf e)).take (P.cellsOf e))) = some (L.map fun i => [Lit.int q (xs.getD i 0)])
  | [], _ => rfl
  | i :: L, h => by
    rw [List.mapM_cons, mapM_keyLits he h1 D xs hw L (fun j hj => h j (by simp [hj]))]
    have hi := h i (by simp)
    have e1 : ((xs.map (Value.int q)).drop (i * P.cellsOf e)).take (P.cellsOf e) = [Value.int q xs[i]] := by
      rw [h1, Nat.mul_one, List.drop_eq_getElem_cons (by simpa using hi)]
      simp
    rw [e1]
    have hx : (Lit.int q xs[i]).wf = true := hw _ (List.getElem_mem hi)
    simp [Program.keyLits, he, hx, List.getD, hi]

theorem keyOf_arr {P : Program} {k e : TypeId} {n : Nat} {q : IntKind} (A : ArrKey P k e n) (he : P.underlying e = some (.int q)) (hsz : ∃ m, P.types.size = m + 1) (xs : List Int) (hn : xs.length = n) (hw : ∀ x ∈ xs, (Lit.int q x).wf = true) :
    keyOf P k (.agg (xs.map (Value.int q)).toArray) = some (akey q xs) := by
  have hkt := A.keyType hsz
  obtain ⟨m0, hm0⟩ := hsz
  unfold keyOf
  simp only [A.hu]
  rw [if_pos (by simp [hkt, Value.formed, A.hu, A.size, hn]), hm0]
  unfold Program.keyLits
  simp only [A.hu, Value.cells]
  rw [if_pos (by rw [A.size]; simpa using hn)]
  have h := mapM_keyLits he A.one m0 xs hw (List.range n) (by intro i hi; rw [hn]; simpa using hi)
  try simp only [List.toList_toArray] at *
  rw [h]
  have hfl : ∀ l : List Nat, (l.map fun i => [Lit.int q (xs.getD i 0)]).flatten = l.map fun i => Lit.int q (xs.getD i 0) := fun l => by induction l with | nil => rfl | cons a r ih => rw [List.map_cons, List.flatten_cons, ih]; rfl
  simp only [Option.map_some, hfl, akey]
  congr 3
  apply List.ext_getElem
  · simp [hn]
  · intro i h1 h2
    have : i < xs.length := by simpa using h2
    simp [List.getD, this]

theorem akey_inj {P : Program} {k e : TypeId} {n : Nat} {q : IntKind} (A : ArrKey P k e n) (he : P.underlying e = some (.int q)) (hsz : ∃ m, P.types.size = m + 1) {xs ys : List Int} (hn : xs.length = n) (hw : ∀ x ∈ xs, (Lit.int q x).wf = true)
    (hn' : ys.length = n) (hw' : ∀ x ∈ ys, (Lit.int q x).wf = true) (h : akey q xs = akey q ys) : xs = ys := by
  have h1 := keyOf_arr A he hsz xs hn hw
  have h2 := keyOf_arr A he hsz ys hn' hw'
  rw [h] at h1
  have h3 := A.law.inj h1 h2
  injection h3 with h3
  have h4 : xs.map (Value.int q) = ys.map (Value.int q) := by simpa using congrArg Array.toList h3
  exact (List.map_inj_right (fun a b hab => by injection hab)).1 h4

end Go.Proofs.Ytceflhffilldeaa

/-
  The store of files: its keys, and its calls, walked.
-/
namespace Go.Proofs.Ytceflhffilldeaa
set_option linter.unusedVariables false
set_option linter.unusedSimpArgs false
open Go.RowKit Go.Maps Go.WideMaps

theorem sArr : ArrKey Try.prog 68 5 24 := ⟨Try.underlying68, by kernel_rfl, by kernel_rfl, by kernel_rfl⟩
theorem sSize : ∃ m, Try.prog.types.size = m + 1 := ⟨Try.prog.types.size - 1, by kernel_rfl⟩
theorem sKeyed : Keyed Try.prog 68 := Keyed.of_law sArr.law

theorem at_bd (s : ByteArray) (i : Nat) : 0 ≤ at_ s i ∧ at_ s i < 256 := by
  unfold at_
  split
  · have := (s[i]).toNat_lt; omega
  · omega
/-- A name's key: its bytes, filled up with 0. -/
def keyInts (s : ByteArray) : List Int := (List.range 24).map (at_ s)
def keyCells (s : ByteArray) : Array Value := #[.int .u8 (at_ s 0), .int .u8 (at_ s 1), .int .u8 (at_ s 2), .int .u8 (at_ s 3), .int .u8 (at_ s 4), .int .u8 (at_ s 5), .int .u8 (at_ s 6), .int .u8 (at_ s 7), .int .u8 (at_ s 8), .int .u8 (at_ s 9), .int .u8 (at_ s 10), .int .u8 (at_ s 11), .int .u8 (at_ s 12), .int .u8 (at_ s 13), .int .u8 (at_ s 14), .int .u8 (at_ s 15), .int .u8 (at_ s 16), .int .u8 (at_ s 17), .int .u8 (at_ s 18), .int .u8 (at_ s 19), .int .u8 (at_ s 20), .int .u8 (at_ s 21), .int .u8 (at_ s 22), .int .u8 (at_ s 23)]
def zeros24 : Array Value := #[.int .u8 0, .int .u8 0, .int .u8 0, .int .u8 0, .int .u8 0, .int .u8 0, .int .u8 0, .int .u8 0, .int .u8 0, .int .u8 0, .int .u8 0, .int .u8 0, .int .u8 0, .int .u8 0, .int .u8 0, .int .u8 0, .int .u8 0, .int .u8 0, .int .u8 0, .int .u8 0, .int .u8 0, .int .u8 0, .int .u8 0, .int .u8 0]
def fkey (s : ByteArray) : Lit := akey .u8 (keyInts s)
theorem keyCells_eq (s : ByteArray) : keyCells s = ((keyInts s).map (Value.int .u8)).toArray := rfl
theorem keyInts_wf (s : ByteArray) : ∀ x ∈ keyInts s, (Lit.int .u8 x).wf = true := by
  intro x hx
  simp only [keyInts, List.mem_map] at hx
  obtain ⟨i, _, rfl⟩ := hx
  have := at_bd s i
  simp [Lit.wf, IntKind.min, IntKind.max, IntKind.bits, IntKind.signed]
  omega
theorem keyOf_name (s : ByteArray) : keyOf Try.prog 68 (.agg (keyCells s)) = some (fkey s) := by
  rw [keyCells_eq]
  exact keyOf_arr sArr Try.underlying5 sSize (keyInts s) (by simp [keyInts]) (keyInts_wf s)
theorem inName_zero : inName 0 = false := by decide
theorem fkey_inj (a b : ByteArray) (ha : nameOk a = true) (hb : nameOk b = true) (h : fkey a = fkey b) : a = b := by
  have h1 := akey_inj sArr Try.underlying5 sSize (by simp [keyInts]) (keyInts_wf a) (by simp [keyInts]) (keyInts_wf b) h
  have h2 : ∀ i, i < 24 → at_ a i = at_ b i := fun i hi => by
    have := congrArg (fun l => l.getD i 0) h1
    simpa [keyInts, List.getD, hi] using this
  obtain ⟨a1, a2, _, a4⟩ := (nameOk_iff a).1 ha
  obtain ⟨b1, b2, _, b4⟩ := (nameOk_iff b).1 hb
  have out : ∀ (s : ByteArray) i, s.size ≤ i → at_ s i = 0 := fun s i hi => by rw [at_, dif_neg (by omega)]
  have hs : a.size = b.size := by
    rcases Nat.lt_trichotomy a.size b.size with h | h | h
    · have h3 := b4 a.size h
      rw [← h2 _ (by omega), out a _ (Nat.le_refl _), inName_zero] at h3; cases h3
    · exact h
    · have h3 := a4 b.size h
      rw [h2 _ (by omega), out b _ (Nat.le_refl _), inName_zero] at h3; cases h3
  apply ByteArray.ext
  apply Array.ext
  · exact hs
  · intro i hi hi'
    have h4 := h2 i (by have : i < a.size := hi; omega)
    rw [at_lt a i hi, at_lt b i hi'] at h4
    have h5 : (a[i]'hi).toNat = (b[i]'hi').toNat := by omega
    exact UInt8.toNat_inj.1 h5

theorem setRow_last (w : World) (t : TypeId) (cs cs' : Array Value) : (w.alloc (.cells cs t)).setRow w.heap.size cs' = w.alloc (.cells cs' t) := by
  unfold World.setRow World.alloc
  congr 1
  apply Array.ext_getElem?
  intro i
  rw [Array.getElem?_modify]
  by_cases h : w.heap.size = i
  · subst h; simp
  · rw [if_neg h]
    simp only [Array.getElem?_push]
    rw [if_neg (fun e => h e.symm), if_neg (fun e => h e.symm)]

theorem run_copy_key (w : World) (s : ByteArray) (t ty : TypeId) (hs : s.size ≤ 9223372036854775807) : (Builtin.copy_ #[40, 9] ty #[.slice (some ⟨w.heap.size, 0, none⟩) 24 24, .string s]).run Try.prog (w.alloc (.cells zeros24 t)) =
    .ok (goInt (Nat.min s.size 24)) (w.alloc (.cells (keyCells s) t)) := by
  have hl : (((s.data.toList.map fun b => Value.int .u8 (b.toNat : Int)).take (Nat.min s.size 24))).length = Nat.min s.size 24 := by
    rw [List.length_take, List.length_map]
    have : s.data.toList.length = s.size := rfl
    rw [this]; exact Nat.min_eq_left (Nat.min_le_left _ _)
  have hst := run_storeCells_at Try.prog w.heap.size 0 t ((s.data.toList.map fun b => Value.int .u8 (b.toNat : Int)).take (Nat.min s.size 24)) 0 zeros24 (w.alloc (.cells zeros24 t)) (heap_alloc_new w _)
    (by rw [hl]; simp only [zeros24, List.size_toArray, List.length_cons, List.length_nil]; exact Nat.le_trans (by simpa using Nat.min_le_right s.size 24) (Nat.le_refl 24)) (by intro v hv; have := List.mem_of_mem_take hv; simp at this; obtain ⟨b, _, rfl⟩ := this; rfl)
  rw [setRow_last] at hst
  have e : (zeros24.toList.take (0 + 0) ++ (s.data.toList.map fun b => Value.int .u8 (b.toNat : Int)).take (Nat.min s.size 24) ++ zeros24.toList.drop (0 + 0 + ((s.data.toList.map fun b => Value.int .u8 (b.toNat : Int)).take (Nat.min s.size 24)).length)).toArray = keyCells s := by
    rw [hl, keyCells_eq]
    congr 1
    apply List.ext_getElem?
    intro i
    have hm : s.data.toList.length = s.size := rfl
    have hk : ((keyInts s).map (Value.int .u8))[i]? = if i < 24 then some (Value.int .u8 (at_ s i)) else none := by
      rw [List.getElem?_map, keyInts, List.getElem?_map]
      by_cases hi : i < 24
      · rw [if_pos hi]; simp [List.getElem?_range, hi]
      · rw [if_neg hi]; simp [hi]
    have hz : ∀ j, zeros24.toList[j]? = if j < 24 then some (Value.int .u8 0) else none := by
      intro j
      have : zeros24.toList = List.replicate 24 (Value.int .u8 0) := rfl
      rw [this, List.getElem?_replicate]
    rw [hk]
    simp only [Nat.add_zero, List.take_zero, List.nil_append, Nat.zero_add]
    rw [List.getElem?_append, hl, List.getElem?_take, List.getElem?_map, List.getElem?_drop, hz]
    have hmn : Nat.min s.size 24 = s.size ∧ s.size ≤ 24 ∨ Nat.min s.size 24 = 24 ∧ 24 < s.size := by
      rcases Nat.lt_or_ge 24 s.size with h | h
      · exact Or.inr ⟨Nat.min_eq_right (by omega), h⟩
      · exact Or.inl ⟨Nat.min_eq_left h, h⟩
    by_cases hi : i < Nat.min s.size 24
    · have h1 : i < s.size := by omega
      have h2 : i < 24 := by omega
      rw [if_pos hi, if_pos hi, if_pos h2, at_lt s i h1, List.getElem?_eq_getElem (by rw [hm]; exact h1)]
      rfl
    · rw [if_neg hi]
      by_cases h2 : i < 24
      · rw [if_pos h2, if_pos (by omega), at_, dif_neg (by omega)]
      · rw [if_neg h2, if_neg (by omega)]
  rw [e] at hst
  have hmin : (Nat.min s.size 24) = Nat.min s.size 24 := rfl
  obtain ⟨i0, hi0, hsz⟩ : ∃ i, Try.prog.info? 5 = some i ∧ i.size = 1 := by
    have h : (Try.prog.info? 5).map (fun i => i.size) = some 1 := by kernel_rfl
    cases hq : Try.prog.info? 5 with
    | none => rw [hq] at h; cases h
    | some i => rw [hq] at h; exact ⟨i, rfl, by simpa using h⟩
  simp [Builtin.copy_, run_underlying Try.underlying40, Builtin.lenOf, Builtin.firstCells, sizeOf, typeInfo, hi0, hsz]
  rw [hst]
  simp [Result.andThen]

theorem region_still_drew {P : Program} {id : Nat} {Q : Exit → Act → World → Prop} {a : Act} {w : World} {l : List Oper} (n : Nat) (hm : P.follows .mixedOrders = true) (hB : Region.lexTailB .any l.toArray n = true)
    (h : wpStill P l.toArray w.drew (fun a' => wpList P l.toArray Q (l.drop n) a' w.drew) (l.take n) a) : (Code.region id l.toArray true).wp P Q a w := wp_region_still_tail n hm hB h

theorem wpStill_load_row {P : Program} {ops : Array Oper} {rest : List Oper} {o : Oper} {a : Act} {w : World} {Q : Act → Prop} (hgd : o.guard = none) (ty : TypeId) (x : Operand) (ho : o.op = .load ty x)
    (g : Nat) (hx : a.eval x = .pointer (some ⟨g, 0, none⟩)) (t : TypeId) (cs : Array Value) (fr : Nat × Nat) (d : TypeDesc) (hg : w.heap[g]? = some (.cells cs t fr))
    (hu : P.underlying ty = some d) (hd : (match d with | .struct _ | .array _ _ => true | _ => false) = true) (hi : (P.info? ty).map (·.size) = some cs.size)
    (h : wpStill P ops w Q rest (a.put o.dst (.agg cs))) : wpStill P ops w Q (o :: rest) a := by
  refine wpStill_step fun K hK => ?_
  rw [if_pos (by simp [Region.wanted, hgd])]
  unfold Oper.still execOp
  simp only [ho, hx, Instr.loadAt, Instr.sureAddr, Sem.run_bind, Sem.run_pure, Result.andThen_ok, run_loadVar_row w g t ty cs fr d hg hu hd hi]
  rw [Oper.stillUpon_value]
  exact hK _ h

theorem key_size (s : ByteArray) : (Try.prog.info? 68).map (·.size) = some (keyCells s).size := by
  have h : (Try.prog.info? 68).map (·.size) = some 24 := by kernel_rfl
  rw [h]; rfl
theorem key_one (s : ByteArray) : (keyCells s).all (·.oneCell') = true := by simp [keyCells, Value.oneCell']

set_option maxRecDepth 100000 in
theorem store_of (s : ByteArray) (w : World) (hs : s.size ≤ 9223372036854775807) :
    Calls Try.prog 34 #[.string s] w fun e w' => e = .returned (.tuple #[.agg (keyCells s), .bool (nameOk s)]) ∧ Below w.heap.size w w' := by
  have HC := run_copy_key (w.alloc (.cells zeros24 68)) s 68 3 hs
  have HN := fun W => Lib.hid (store_name s W hs)
  simp only [zeros24, World.size_alloc] at HC
  have k1 := Lib.hid (key_size s)
  have k2 := Lib.hid (key_one s)
  have k3 : RowKit.Hid (24 = (keyCells s).size) := rfl
  generalize keyCells s = K at *
  go_enter Try.func34, Try.ntmps34
  go_wp2_with fail
  refine region_still_drew 3 (by kernel_rfl) (by kernel_rfl) ?_
  simp only [List.take_succ_cons, List.take_zero, List.drop_succ_cons, List.drop_zero]
  refine wpStill_load_row rfl 68 (.tmp 4) rfl (w.heap.size + 1) rfl 68 K (0, 0) _ (heap_alloc2_new w _ _) Try.underlying68 rfl k1.out ?_
  still_step
  still_call ((HN _).out.mono (by rintro e w' ⟨rfl, rfl⟩; exact ⟨rfl, rfl⟩))
  refine wpStill_nil ?_
  refine wpList_store_row rfl 68 (.tmp 2) (.tmp 8) rfl w.heap.size K rfl rfl 68 _ (heap_alloc2_old w _ _) k1.out k3.out k2.out ?_
  go_wp2_with fail
  have hb := (below_setRow ((((Below.refl w.heap.size w).alloc (Nat.le_refl _) (.cells zeros24 68)).alloc (by simp) (.cells K 68)).drew) (Nat.le_refl _) K)
  have hg := setRow_heap (((w.alloc (.cells zeros24 68)).alloc (.cells K 68)).drew) w.heap.size _ K 68 (0, 0) (heap_alloc2_old w _ _)
  simp only [zeros24] at hb hg
  generalize World.setRow _ _ _ = W at *
  have hl := run_loadVar_row W w.heap.size 68 68 K (0, 0) _ hg Try.underlying68 rfl k1.out
  clear hg HC
  refine bodyPost_ret (v := .tuple #[.agg K, .bool (nameOk s)]) ?_ rfl ⟨rfl, hb⟩
  simp only [results, Try.results34]
  trace_state
  simp [hl, asAddr]
end Go.Proofs.Ytceflhffilldeaa
