/-
  How a run begins: the words, as a plain list. No program in sight.
-/
import Derived.Test.YtlihcdhcljljoaaRiscLaw
namespace Go.Proofs.Ytlihcdhcljljoaa
set_option linter.unusedVariables false
set_option linter.unusedSimpArgs false
open Go.RowKit Bw

namespace Boot
def hi (e : Int) : Ins := ⟨1, true, false, 14, 0, 0, 0, e⟩
def lo (e : Int) : Ins := ⟨1, false, false, 14, 14, 0, 6, e⟩
def call (d : Int) : Ins := ⟨3, true, true, 7, 0, 0, 0, d⟩
def fin : List Ins := [⟨1, true, false, 1, 0, 0, 0, 65535⟩, ⟨1, false, false, 1, 1, 0, 8, 65472⟩, ⟨2, true, false, 0, 1, 0, 0, 0⟩]
/-- The first k entries' calls. -/
def calls (es : List Int) (k : Nat) : List Ins := (List.range k).map fun i => call (es.getD i 0 - (10 + i) - 1)
/-- All instructions up to the k-th call. -/
def ins (size : Int) (es : List Int) (k : Nat) : List Ins := [hi (4 * size / 65536), lo (4 * size % 65536)] ++ calls es k
def zeros : List Int := [0, 0, 0, 0, 0, 0, 0, 0]
def words (size : Int) (es : List Int) : List Int := zeros ++ (ins size es es.length ++ fin).map Ins.E
def sized (size : Int) (es : List Int) : Bool := decide (256 ≤ size ∧ size ≤ 65536) && decide (es.length ≤ 16)
def inside (size : Int) (es : List Int) : Bool := decide (∀ i, i < es.length → 0 ≤ es.getD i 0 ∧ es.getD i 0 < size)
def ok (size : Int) (es : List Int) : Bool := sized size es && inside size es
def first (mods : Int) : Int := if 0 ≤ mods ∧ mods ≤ 16 then 13 + mods else 0

theorem calls_succ (es : List Int) (k : Nat) : calls es (k + 1) = calls es k ++ [call (es.getD k 0 - (10 + k) - 1)] := by
  simp [calls, List.range_succ]
theorem calls_len (es : List Int) (k : Nat) : (calls es k).length = k := by simp [calls]
theorem ins_succ (size : Int) (es : List Int) (k : Nat) : ins size es (k + 1) = ins size es k ++ [call (es.getD k 0 - (10 + k) - 1)] := by
  rw [ins, ins, calls_succ, List.append_assoc]
theorem ins_len (size : Int) (es : List Int) (k : Nat) : (ins size es k).length = k + 2 := by simp [ins, calls_len]
theorem words_len (size : Int) (es : List Int) : (words size es).length = es.length + 13 := by simp [words, zeros, ins_len, fin]
end Boot

end Go.Proofs.Ytlihcdhcljljoaa
