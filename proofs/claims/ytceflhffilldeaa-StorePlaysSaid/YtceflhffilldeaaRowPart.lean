/-
  A part of a row of texts reads as that part. No walk.
-/
import Derived.Test.YtceflhffilldeaaStrApp
namespace Go.Proofs.Ytceflhffilldeaa
set_option linter.unusedVariables false
set_option linter.unusedSimpArgs false
open Go.RowKit

theorem rp_add (g a k : Nat) : (⟨g, a, none⟩ : Addr).add k = ⟨g, a + k, none⟩ := by unfold Addr.add; split <;> simp_all
theorem srow_take {w : World} {base n c g c' : Nat} {e : TypeId} {l : List ByteArray} (h : w.ownsRow base e 1 (.slice (some ⟨g, 0, none⟩) n c) n (l.map Value.string)) (i : Nat) (hi : i ≤ n) (hn : n ≤ 1000000) : SRow w (.slice (some ⟨g, 0, none⟩) i c') (l.take i) := by
  have hl : l.length = n := by have := h.1; simpa using this
  have ht : (l.take i).length = i := by rw [List.length_take]; omega
  refine ⟨by omega, some ⟨g, 0, none⟩, c', by rw [ht], fun k hk => ⟨⟨g, 0, none⟩, rfl, (h.lt g rfl).2, ?_⟩⟩
  have hk' : k < l.length := by omega
  refine h.cells (g := g) rfl k _ ?_
  rw [List.getElem?_map, List.getElem?_eq_getElem hk']
  simp [List.getD, List.getElem?_take, show k < i by omega, hk']
theorem srow_drop {w : World} {base n c g c' : Nat} {e : TypeId} {l : List ByteArray} (h : w.ownsRow base e 1 (.slice (some ⟨g, 0, none⟩) n c) n (l.map Value.string)) (j : Nat) (hj : j ≤ n) (hn : n ≤ 1000000) : SRow w (.slice (some ⟨g, j, none⟩) (n - j) c') (l.drop j) := by
  have hl : l.length = n := by have := h.1; simpa using this
  have hd : (l.drop j).length = n - j := by rw [List.length_drop, hl]
  refine ⟨by omega, some ⟨g, j, none⟩, c', by rw [hd], fun k hk => ⟨⟨g, j, none⟩, rfl, (h.lt g rfl).2, ?_⟩⟩
  have hk' : j + k < l.length := by omega
  have hx := h.cells (g := g) rfl (j + k) (.string (l[j + k]'hk')) (by rw [List.getElem?_map, List.getElem?_eq_getElem hk']; rfl)
  rw [rp_add, Nat.zero_add] at hx
  rw [rp_add, hx]
  simp [List.getD, List.getElem?_drop, List.getElem?_eq_getElem hk']

end Go.Proofs.Ytceflhffilldeaa
