/-
  The document's store as two lists: where a name stands; what is put and what is taken away. No program in sight.
-/
import Derived.Test.YtceflhffilldeaaRefStore
import Derived.Sort.Walk0
namespace Go.Proofs.Ytceflhffilldeaa
set_option linter.unusedVariables false
set_option linter.unusedSimpArgs false
open Go.RowKit Go.Maps Go.WideMaps

namespace Plays
def lt (a b : ByteArray) : Prop := a.data.toList < b.data.toList
theorem lt_irrefl (a : ByteArray) : ¬ lt a a := List.lt_irrefl _
theorem lt_trans {a b c : ByteArray} (h : lt a b) (k : lt b c) : lt a c := List.lt_trans h k
theorem lt_asymm {a b : ByteArray} (h : lt a b) : ¬ lt b a := fun k => lt_irrefl a (lt_trans h k)
theorem eq_of {a b : ByteArray} (h : a.data.toList = b.data.toList) : a = b := ByteArray.ext (Array.toList_inj.1 h)
theorem lt_or (a b : ByteArray) : lt a b ∨ a = b ∨ lt b a := by
  by_cases h1 : a.data.toList < b.data.toList
  · exact Or.inl h1
  · by_cases h2 : b.data.toList < a.data.toList
    · exact Or.inr (Or.inr h2)
    · exact Or.inr (Or.inl (eq_of (List.le_antisymm h2 h1)))
theorem same_iff (a b : ByteArray) : (a.toList == b.toList) = true ↔ a = b := by
  rw [beq_iff_eq, ByteArray.toList_eq, ByteArray.toList_eq]
  exact ⟨eq_of, fun h => by rw [h]⟩
theorem gtB_iff (x s : ByteArray) : gtB x s = true ↔ lt s x := by
  unfold gtB
  rw [bytesLess_eq]
  simp only [ByteArray.toList_eq, Bool.not_eq_true', Bool.or_eq_false_iff, decide_eq_false_iff_not, beq_eq_false_iff_ne]
  refine ⟨fun ⟨h1, h2⟩ => ?_, fun h => ⟨lt_asymm h, fun e => lt_irrefl s (by unfold lt at h ⊢; rwa [e] at h)⟩⟩
  rcases lt_or x s with h | h | h
  · exact absurd h h1
  · exact absurd (by rw [h]) h2
  · exact h
def Sorted (N : List ByteArray) : Prop := N.Pairwise lt
theorem Sorted.tail {a : ByteArray} {r : List ByteArray} (h : Sorted (a :: r)) : Sorted r := (List.pairwise_cons.1 h).2
/-- A name that stands there. -/
theorem plc_there (s : ByteArray) : ∀ (N : List ByteArray), Sorted N → (plc s N).2 = true → (plc s N).1 < N.length ∧ N.getD (plc s N).1 ⟨#[]⟩ = s
  | [], _, h => by simp [plc] at h
  | x :: r, hs, h => by
    rw [plc] at h ⊢
    by_cases h1 : (x.toList == s.toList) = true
    · rw [if_pos h1]
      exact ⟨by simp, by simpa [List.getD] using (same_iff x s).1 h1⟩
    · rw [if_neg h1] at h ⊢
      by_cases h2 : gtB x s = true
      · rw [if_pos h2] at h; cases h
      · rw [if_neg h2] at h ⊢
        obtain ⟨i1, i2⟩ := plc_there s r hs.tail h
        exact ⟨by simp; omega, by simpa [List.getD] using i2⟩
/-- A name that does not. -/
theorem plc_not (s : ByteArray) : ∀ (N : List ByteArray), Sorted N → (plc s N).2 = false → (∀ x ∈ N.take (plc s N).1, lt x s) ∧ (∀ x ∈ N.drop (plc s N).1, lt s x)
  | [], _, _ => by simp [plc]
  | x :: r, hs, h => by
    rw [plc] at h ⊢
    by_cases h1 : (x.toList == s.toList) = true
    · rw [if_pos h1] at h; cases h
    · rw [if_neg h1] at h ⊢
      by_cases h2 : gtB x s = true
      · rw [if_pos h2]
        have hx := (gtB_iff x s).1 h2
        refine ⟨by simp, fun y hy => ?_⟩
        rw [List.drop_zero] at hy
        rcases List.mem_cons.1 hy with rfl | hy
        · exact hx
        · exact lt_trans hx ((List.pairwise_cons.1 hs).1 y hy)
      · rw [if_neg h2] at h ⊢
        obtain ⟨i1, i2⟩ := plc_not s r hs.tail h
        refine ⟨fun y hy => ?_, fun y hy => i2 y (by simpa using hy)⟩
        rw [List.take_succ_cons] at hy
        rcases List.mem_cons.1 hy with rfl | hy
        · rcases lt_or y s with h3 | h3 | h3
          · exact h3
          · exact absurd ((same_iff y s).2 h3) h1
          · exact absurd ((gtB_iff y s).2 h3) h2
        · exact i1 y hy
theorem plc_mem (s : ByteArray) (N : List ByteArray) (hs : Sorted N) : (plc s N).2 = true ↔ s ∈ N := by
  constructor
  · intro h
    obtain ⟨i1, i2⟩ := plc_there s N hs h
    rw [List.getD_eq_getElem?_getD, List.getElem?_eq_getElem i1] at i2
    exact i2 ▸ List.getElem_mem _
  · intro h
    cases hb : (plc s N).2
    · obtain ⟨i1, i2⟩ := plc_not s N hs hb
      rw [← List.take_append_drop (plc s N).1 N] at h
      rcases List.mem_append.1 h with h | h
      · exact absurd (i1 s h) (lt_irrefl s)
      · exact absurd (i2 s h) (lt_irrefl s)
    · rfl
/-- With a new name. -/
def ins (i : Nat) (s : ByteArray) (N : List ByteArray) : List ByteArray := N.take i ++ s :: N.drop i
/-- Without the one at a place. -/
def out (i : Nat) (N : List ByteArray) : List ByteArray := N.take i ++ N.drop (i + 1)
theorem ins_sorted (s : ByteArray) (N : List ByteArray) (hs : Sorted N) (h : (plc s N).2 = false) : Sorted (ins (plc s N).1 s N) := by
  obtain ⟨i1, i2⟩ := plc_not s N hs h
  have hs' := hs
  unfold Sorted at hs'
  rw [← List.take_append_drop (plc s N).1 N, List.pairwise_append] at hs'
  obtain ⟨p1, p2, p3⟩ := hs'
  unfold ins Sorted
  rw [List.pairwise_append]
  refine ⟨p1, List.pairwise_cons.2 ⟨i2, p2⟩, fun a ha b hb => ?_⟩
  rcases List.mem_cons.1 hb with rfl | hb
  · exact i1 a ha
  · exact p3 a ha b hb
theorem out_sorted (i : Nat) (N : List ByteArray) (hs : Sorted N) : Sorted (out i N) := by
  unfold Sorted out
  refine List.Pairwise.sublist ?_ hs
  have e : N.take i ++ N.drop i = N := List.take_append_drop i N
  conv => rhs; rw [← e]
  refine List.Sublist.append (List.Sublist.refl _) ?_
  rw [← List.drop_drop]
  exact List.drop_sublist 1 _
theorem sorted_nodup {N : List ByteArray} (h : Sorted N) : N.Nodup := List.Pairwise.imp (R := lt) (S := fun a b => a ≠ b) (fun {a b} hab e => by subst e; exact lt_irrefl _ hab) h
/-- Two sorted lists of the same names are one. -/
theorem sorted_eq : ∀ {N M : List ByteArray}, Sorted N → Sorted M → (∀ x, x ∈ N ↔ x ∈ M) → N = M
  | [], [], _, _, _ => rfl
  | [], y :: M, _, _, h => absurd ((h y).2 (by simp)) (by simp)
  | x :: N, [], _, _, h => absurd ((h x).1 (by simp)) (by simp)
  | x :: N, y :: M, hN, hM, h => by
    have hx := (List.pairwise_cons.1 hN).1
    have hy := (List.pairwise_cons.1 hM).1
    have e : x = y := by
      rcases List.mem_cons.1 ((h x).1 (by simp)) with e | hm
      · exact e
      · rcases List.mem_cons.1 ((h y).2 (by simp)) with e | hn
        · exact e.symm
        · exact absurd (hy x hm) (lt_asymm (hx y hn))
    subst e
    rw [sorted_eq hN.tail hM.tail fun z => ?_]
    constructor
    · intro hz
      rcases List.mem_cons.1 ((h z).1 (List.mem_cons_of_mem _ hz)) with e | hm
      · exact absurd (hx z hz) (e ▸ lt_irrefl _)
      · exact hm
    · intro hz
      rcases List.mem_cons.1 ((h z).2 (List.mem_cons_of_mem _ hz)) with e | hm
      · exact absurd (hy z hz) (e ▸ lt_irrefl _)
      · exact hm
end Plays

end Go.Proofs.Ytceflhffilldeaa
