/-
  The program's map and the document's two lists hold the same files. No walk.
-/
import Derived.Test.YtceflhffilldeaaPlaysL
import Derived.Test.YtceflhffilldeaaStoreFork
namespace Go.Proofs.Ytceflhffilldeaa
set_option linter.unusedVariables false
set_option linter.unusedSimpArgs false
open Go.RowKit Go.Maps Go.WideMaps

namespace Plays
variable {α : Type}
def insA (i : Nat) (s : α) (N : List α) : List α := N.take i ++ s :: N.drop i
def outA (i : Nat) (N : List α) : List α := N.take i ++ N.drop (i + 1)
theorem insA_get (i : Nat) (s : α) (N : List α) (hi : i ≤ N.length) (j : Nat) : (insA i s N)[j]? = if j < i then N[j]? else if j = i then some s else N[j - 1]? := by
  have hl : (N.take i).length = i := by rw [List.length_take]; omega
  unfold insA
  by_cases h1 : j < i
  · rw [if_pos h1, List.getElem?_append_left (by omega), List.getElem?_take, if_pos h1]
  · rw [if_neg h1, List.getElem?_append_right (by omega), hl]
    by_cases h2 : j = i
    · subst h2; simp
    · rw [if_neg h2, show j - i = (j - i - 1) + 1 by omega, List.getElem?_cons_succ, List.getElem?_drop]
      congr 1; omega
theorem insA_len (i : Nat) (s : α) (N : List α) (hi : i ≤ N.length) : (insA i s N).length = N.length + 1 := by
  simp [insA]; omega
theorem outA_get (i : Nat) (N : List α) (hi : i < N.length) (j : Nat) : (outA i N)[j]? = if j < i then N[j]? else N[j + 1]? := by
  have hl : (N.take i).length = i := by rw [List.length_take]; omega
  unfold outA
  by_cases h1 : j < i
  · rw [if_pos h1, List.getElem?_append_left (by omega), List.getElem?_take, if_pos h1]
  · rw [if_neg h1, List.getElem?_append_right (by omega), hl, List.getElem?_drop]
    congr 1; omega
theorem outA_len (i : Nat) (N : List α) (hi : i < N.length) : (outA i N).length = N.length - 1 := by
  simp [outA]; omega
theorem insA_mem (i : Nat) (s x : ByteArray) (N : List ByteArray) : x ∈ insA i s N ↔ x = s ∨ x ∈ N := by
  unfold insA
  rw [List.mem_append, List.mem_cons]
  constructor
  · rintro (h | h | h)
    · exact Or.inr (List.mem_of_mem_take h)
    · exact Or.inl h
    · exact Or.inr (List.mem_of_mem_drop h)
  · rintro (h | h)
    · exact Or.inr (Or.inl h)
    · rw [← List.take_append_drop i N] at h
      rcases List.mem_append.1 h with h | h
      · exact Or.inl h
      · exact Or.inr (Or.inr h)
/-- The map and the lists. -/
structure Rel (D : DataW Unit) (N T : List ByteArray) : Prop where
  len : N.length = T.length
  sorted : Sorted N
  ok : ∀ s ∈ N, nameOk s = true
  has_ : ∀ s, nameOk s = true → (has D (fkey s) = true ↔ s ∈ N)
  get : ∀ (i : Nat) (n t : ByteArray), N[i]? = some n → T[i]? = some t → D.atKey (fkey n) (text ⟨#[]⟩) = text t
  named : Named D
  tidy : Tidy D
  isMap : IsMap D
  size : Maps.size D = N.length
theorem Rel.empty : Rel (.map []) [] [] :=
  ⟨rfl, List.Pairwise.nil, by simp, fun s _ => by simp [has], fun i n t h => by simp at h, named_empty, tidy_empty, ⟨[], rfl⟩, rfl⟩
theorem Rel.put_old {D : DataW Unit} {N T : List ByteArray} (h : Rel D N T) (s t : ByteArray) (hs : nameOk s = true) (hp : (plc s N).2 = true) : Rel (D.put (fkey s) (text t)) N (T.set (plc s N).1 t) := by
  obtain ⟨i1, i2⟩ := plc_there s N h.sorted hp
  have hm : s ∈ N := (plc_mem s N h.sorted).1 hp
  have hD := (h.has_ s hs).2 hm
  refine ⟨by simp [h.len], h.sorted, h.ok, fun x hx => ?_, fun i n u hn hu => ?_, named_put h.named hs _, h.tidy.put (fkey_key s) _, h.isMap.put _ _, by rw [size_put h.tidy, if_pos hD]; exact h.size⟩
  · by_cases e : x = s
    · subst e
      rw [has_put_same h.isMap (fkey_key x)]
      simp [hm]
    · rw [has_put_other (fkey_ne hx hs e)]
      exact h.has_ x hx
  · by_cases e : n = s
    · subst e
      have hi : i = (plc n N).1 := by
        have hnd := sorted_nodup h.sorted
        have a1 : N[(plc n N).1]? = some n := by
          rw [List.getElem?_eq_getElem i1]
          rw [List.getD_eq_getElem?_getD, List.getElem?_eq_getElem i1] at i2
          simpa using i2
        exact (List.getElem?_inj (List.getElem?_eq_some_iff.1 hn).1 hnd).1 (hn.trans a1.symm)
      subst hi
      rw [List.getElem?_set] at hu
      rw [if_pos rfl, if_pos (by rw [← h.len]; exact i1)] at hu
      injection hu with hu
      subst hu
      exact atKey_put_same h.isMap (fkey_key n) _ _
    · rw [atKey_put_other (fkey_ne (h.ok n (List.mem_of_getElem? hn)) hs e)]
      refine h.get i n u hn ?_
      rw [List.getElem?_set] at hu
      split at hu
      · rename_i hie
        exfalso
        subst hie
        rw [List.getD_eq_getElem?_getD, hn] at i2
        exact e (by simpa using i2)
      · exact hu
theorem Rel.put_new {D : DataW Unit} {N T : List ByteArray} (h : Rel D N T) (s t : ByteArray) (hs : nameOk s = true) (hp : (plc s N).2 = false) : Rel (D.put (fkey s) (text t)) (insA (plc s N).1 s N) (insA (plc s N).1 t T) := by
  have hi := plc_le s N
  have hiT : (plc s N).1 ≤ T.length := by rw [← h.len]; exact hi
  have hm : s ∉ N := fun hm => by have := (plc_mem s N h.sorted).2 hm; rw [hp] at this; cases this
  have hD : ¬ has D (fkey s) = true := fun hd => hm ((h.has_ s hs).1 hd)
  refine ⟨by rw [insA_len _ _ _ hi, insA_len _ _ _ hiT, h.len], ins_sorted s N h.sorted hp, fun x hx => ?_, fun x hx => ?_, fun i n u hn hu => ?_, named_put h.named hs _, h.tidy.put (fkey_key s) _, h.isMap.put _ _, by rw [size_put h.tidy, if_neg hD, insA_len _ _ _ hi, h.size]⟩
  · rcases (insA_mem _ _ _ _).1 hx with rfl | hx
    · exact hs
    · exact h.ok x hx
  · rw [insA_mem]
    by_cases e : x = s
    · subst e
      rw [has_put_same h.isMap (fkey_key x)]
      simp
    · rw [has_put_other (fkey_ne hx hs e)]
      simp only [e, false_or]
      exact h.has_ x hx
  · rw [insA_get _ _ _ hi] at hn
    rw [insA_get _ _ _ hiT] at hu
    by_cases h1 : i < (plc s N).1
    · rw [if_pos h1] at hn hu
      have hnN := List.mem_of_getElem? hn
      rw [atKey_put_other (fkey_ne (h.ok n hnN) hs (fun e => hm (e ▸ hnN)))]
      exact h.get i n u hn hu
    · rw [if_neg h1] at hn hu
      by_cases h2 : i = (plc s N).1
      · rw [if_pos h2] at hn hu
        injection hn with hn
        injection hu with hu
        subst hn hu
        exact atKey_put_same h.isMap (fkey_key s) _ _
      · rw [if_neg h2] at hn hu
        have hnN := List.mem_of_getElem? hn
        rw [atKey_put_other (fkey_ne (h.ok n hnN) hs (fun e => hm (e ▸ hnN)))]
        exact h.get _ n u hn hu
theorem Rel.del_old {D : DataW Unit} {N T : List ByteArray} (h : Rel D N T) (s : ByteArray) (hs : nameOk s = true) (hp : (plc s N).2 = true) : Rel (D.del (fkey s)) (outA (plc s N).1 N) (outA (plc s N).1 T) := by
  obtain ⟨hi, i2⟩ := plc_there s N h.sorted hp
  have hiT : (plc s N).1 < T.length := by rw [← h.len]; exact hi
  have hm : s ∈ N := (plc_mem s N h.sorted).1 hp
  have hD := (h.has_ s hs).2 hm
  have hnd := sorted_nodup h.sorted
  have a1 : N[(plc s N).1]? = some s := by
    rw [List.getElem?_eq_getElem hi]
    rw [List.getD_eq_getElem?_getD, List.getElem?_eq_getElem hi] at i2
    simpa using i2
  have hout : ∀ (j : Nat) (n : ByteArray), (outA (plc s N).1 N)[j]? = some n → n ≠ s ∧ n ∈ N := by
    intro j n hn
    rw [outA_get _ _ hi] at hn
    split at hn
    · rename_i hj
      refine ⟨fun e => ?_, List.mem_of_getElem? hn⟩
      subst e
      have := (List.getElem?_inj (List.getElem?_eq_some_iff.1 hn).1 hnd).1 (hn.trans a1.symm)
      omega
    · rename_i hj
      refine ⟨fun e => ?_, List.mem_of_getElem? hn⟩
      subst e
      have := (List.getElem?_inj (List.getElem?_eq_some_iff.1 hn).1 hnd).1 (hn.trans a1.symm)
      omega
  have hmem : ∀ x, x ∈ outA (plc s N).1 N ↔ x ≠ s ∧ x ∈ N := by
    intro x
    constructor
    · intro hx
      obtain ⟨j, hj⟩ := List.getElem?_of_mem hx
      exact hout j x hj
    · rintro ⟨hne, hx⟩
      unfold outA
      have e : N = N.take (plc s N).1 ++ (s :: N.drop ((plc s N).1 + 1)) := by
        have := List.take_append_drop (plc s N).1 N
        rw [List.drop_eq_getElem_cons hi] at this
        rw [List.getElem?_eq_getElem hi] at a1
        injection a1 with a1
        rw [a1] at this
        exact this.symm
      rw [e] at hx
      rw [List.mem_append] at hx ⊢
      rcases hx with hx | hx
      · exact Or.inl hx
      · rcases List.mem_cons.1 hx with hx | hx
        · exact absurd hx hne
        · exact Or.inr hx
  have hsz := size_del (k := fkey s) h.tidy
  rw [if_pos hD, h.size] at hsz
  refine ⟨by rw [outA_len _ _ hi, outA_len _ _ hiT, h.len], out_sorted _ N h.sorted, fun x hx => h.ok x ((hmem x).1 hx).2, fun x hx => ?_, fun i n u hn hu => ?_, named_del h.named _, h.tidy.del _, h.isMap.del _, by rw [outA_len _ _ hi]; omega⟩
  · rw [hmem]
    by_cases e : x = s
    · subst e
      rw [has_del_same]
      simp
    · rw [has_del_other (fkey_ne hx hs e)]
      simp only [e, ne_eq, not_false_eq_true, true_and]
      exact h.has_ x hx
  · obtain ⟨hne, hnN⟩ := hout i n hn
    rw [atKey_del_other (fkey_ne (h.ok n hnN) hs hne)]
    rw [outA_get _ _ hi] at hn
    rw [outA_get _ _ hiT] at hu
    split at hn
    · rename_i hj
      rw [if_pos hj] at hu
      exact h.get i n u hn hu
    · rename_i hj
      rw [if_neg hj] at hu
      exact h.get _ n u hn hu
theorem Rel.del_none {D : DataW Unit} {N T : List ByteArray} (h : Rel D N T) (s : ByteArray) (hs : nameOk s = true) (hp : (plc s N).2 = false) : has D (fkey s) = false := by
  cases hd : has D (fkey s)
  · rfl
  · have := (plc_mem s N h.sorted).2 ((h.has_ s hs).1 hd)
    rw [hp] at this; cases this
end Plays

end Go.Proofs.Ytceflhffilldeaa
