/-
  Which words change where one entry does. No program in sight.
-/
import Derived.Test.YtlihcdhcljljoaaImageLaw
namespace Go.Proofs.Ytlihcdhcljljoaa
set_option linter.unusedVariables false
set_option linter.unusedSimpArgs false
open Go.RowKit Bw

namespace Boot
def pre (size : Int) : List Int := zeros ++ [(hi (4 * size / 65536)).E, (lo (4 * size % 65536)).E]
theorem pre_len (size : Int) : (pre size).length = 10 := rfl
def mid (es : List Int) : List Int := (calls es es.length).map Ins.E
theorem mid_len (es : List Int) : (mid es).length = es.length := by simp [mid, calls_len]
theorem words_eq (size : Int) (es : List Int) : words size es = pre size ++ (mid es ++ fin.map Ins.E) := by
  simp [words, ins, pre, mid]
theorem mid_at (es : List Int) (i : Nat) (h : i < es.length) : (mid es)[i]? = some (call (es.getD i 0 - (10 + i) - 1)).E := by
  simp [mid, calls, h]
theorem words_call (size : Int) (es : List Int) (i : Nat) (h : i < es.length) : (words size es).getD (10 + i) 0 = (call (es.getD i 0 - (10 + i) - 1)).E := by
  have h1 := pre_len size
  have h2 := mid_len es
  rw [words_eq, List.getD_eq_getElem?_getD, List.getElem?_append_right (by omega), List.getElem?_append_left (by omega), h1, show 10 + i - 10 = i by omega, mid_at es i h]
  rfl
theorem words_other (size : Int) (es fs : List Int) (K i : Nat) (hl : es.length = fs.length) (h : ∀ j, j ≠ K → es.getD j 0 = fs.getD j 0) (hi : i ≠ 10 + K) : (words size es).getD i 0 = (words size fs).getD i 0 := by
  have h1 := pre_len size
  have h2 := mid_len es
  have h3 := mid_len fs
  rw [words_eq, words_eq, List.getD_eq_getElem?_getD, List.getD_eq_getElem?_getD]
  congr 1
  by_cases h4 : i < 10
  · rw [List.getElem?_append_left (l₁ := pre size) (l₂ := mid es ++ _) (by omega), List.getElem?_append_left (l₁ := pre size) (l₂ := mid fs ++ _) (by omega)]
  · rw [List.getElem?_append_right (l₁ := pre size) (l₂ := mid es ++ _) (by omega), List.getElem?_append_right (l₁ := pre size) (l₂ := mid fs ++ _) (by omega), h1]
    by_cases h5 : i - 10 < es.length
    · rw [List.getElem?_append_left (l₁ := mid es) (by omega), List.getElem?_append_left (l₁ := mid fs) (by omega), mid_at es _ h5, mid_at fs _ (by omega), h (i - 10) (by omega)]
    · rw [List.getElem?_append_right (l₁ := mid es) (by omega), List.getElem?_append_right (l₁ := mid fs) (by omega), h2, h3, hl]
theorem call_good (d : Int) (h0 : -8388608 ≤ d) (h1 : d < 8388608) : (call d).good = true := by
  have : Fits d 24 = true := by rw [fits24]; simp; omega
  simp [call, Ins.good, half4, Ins.inb, this]
theorem call_dec (d : Int) (h0 : -8388608 ≤ d) (h1 : d < 8388608) : Ins.dec (call d).E = call d ∧ Ins.derr (call d).E = 0 := by
  have hg := call_good d h0 h1
  rw [Ins.E, if_pos hg]
  exact Ins.dec_enc _ hg
end Boot

end Go.Proofs.Ytlihcdhcljljoaa
