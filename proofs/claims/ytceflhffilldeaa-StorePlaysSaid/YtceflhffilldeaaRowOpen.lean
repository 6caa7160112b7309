/-
  A slice of integers that came in reads as a list; one that the call made does, too.
-/
import Derived.Test.YtceflhffilldeaaRow
import Derived.ChangeSlices
import Derived.OpenShut
import Derived.OwnWalk
namespace Go.Proofs.Ytceflhffilldeaa
set_option linter.unusedVariables false
set_option linter.unusedSimpArgs false
open Go.RowKit Go.ChangeShapes Go.WideShapes

section
variable {H : Type} {enc : TypeId × Value → H} {P : Program} {w : World} {base : Nat} {spare : Nat → Bool} {held : Bool}
theorem row_of_cells {t e : TypeId} {k : IntKind} {v : Value} {fuel : Nat} {x : DataW H × List MemPlace} (ht : P.underlying t = some (.slice e)) (he : P.underlying e = some (.int k)) (hc : P.cellsOf e = 1)
    (h : DataW.trod enc P w base spare held fuel t [v] = some x) : ∃ zs, Row k w v zs ∧ ∀ n ∈ zs, (Lit.int k n).wf = true := by
  rcases open_ints ht he hc h with ⟨hcs, _⟩ | ⟨a, len, cap, zs, hcs, _, hl, hm, hz, _, hcell, hwz⟩
  · simp at hcs
    subst hcs
    exact ⟨[], Row.nil_, by simp⟩
  · simp at hcs
    subst hcs
    have hz' : len ≤ zs.length := by rw [hz]; split <;> omega
    have e1 : (zs.take len).length = len := by simp; omega
    refine ⟨zs.take len, ⟨by rw [e1]; unfold maxLen at hm; omega, some a, cap, by rw [e1], fun k' hk => ?_⟩, fun n hn => hwz n (List.mem_of_mem_take hn)⟩
    rw [e1] at hk
    have h1 := hcell k' (by omega)
    refine ⟨a, rfl, ?_, ?_⟩
    · have := block_lt_of_cell h1
      rwa [block_add] at this
    · rw [h1]
      congr 2
      simp only [List.getD_eq_getElem?_getD, List.getElem?_take, if_pos hk]
theorem row_of_trod {r : Reach} {b0 : Nat} {t e : TypeId} {k : IntKind} {v : Value} {d : DataW H} {p : List MemPlace} (ht : P.underlying t = some (.slice e)) (he : P.underlying e = some (.int k)) (hc : P.cellsOf e = 1)
    (hv : Value.okWide P w r b0 t v) (h : DataW.Trod enc P w base spare held t v d p) : ∃ zs, Row k w v zs ∧ ∀ n ∈ zs, (Lit.int k n).wf = true := by
  obtain ⟨a, len, cap, rfl⟩ := okWide_slice ht hv
  obtain ⟨fuel, hf⟩ := h
  exact row_of_cells ht he hc hf
end

theorem row_of_own {q : IntKind} {w : World} {base n : Nat} {e : TypeId} {v : Value} {l : List Int} (h : w.ownsRow base e 1 v n (l.map (Value.int q))) : Row q w v l := by
  have hl : l.length = n := by have := h.1; simpa using this
  rcases h.2 with ⟨rfl, h0⟩ | ⟨g, cap, cur, rfl, hb, hh, hn, hc, hs, ht⟩
  · have : l = [] := List.eq_nil_of_length_eq_zero (by omega)
    subst this
    exact Row.nil_
  · refine ⟨by rw [hl]; unfold maxLen at hc; omega, some ⟨g, 0, none⟩, cap, by rw [hl], fun k hk => ⟨⟨g, 0, none⟩, rfl, (h.lt g rfl).2, ?_⟩⟩
    refine h.cells (g := g) rfl k _ ?_
    rw [List.getElem?_map, List.getElem?_eq_getElem hk]
    simp [List.getD, hk]

end Go.Proofs.Ytceflhffilldeaa
