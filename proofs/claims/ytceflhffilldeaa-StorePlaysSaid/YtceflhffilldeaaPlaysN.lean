/-
  The names of the map, sorted, are the list's names. No walk.
-/
import Derived.Test.YtceflhffilldeaaPlaysM
import Derived.Test.YtceflhffilldeaaStoreNames2
namespace Go.Proofs.Ytceflhffilldeaa
set_option linter.unusedVariables false
set_option linter.unusedSimpArgs false
open Go.RowKit Go.Maps Go.WideMaps

namespace Plays
def mk (l : List UInt8) : ByteArray := ⟨l.toArray⟩
theorem mk_of (a : ByteArray) : mk a.data.toList = a := by simp [mk]
theorem of_mk (l : List UInt8) : (mk l).data.toList = l := by simp [mk]
theorem le_trans' (a b c : List UInt8) (h : decide (a ≤ b) = true) (k : decide (b ≤ c) = true) : decide (a ≤ c) = true := by
  simp only [decide_eq_true_eq] at *
  exact List.le_trans h k
theorem le_total' (a b : List UInt8) : (decide (a ≤ b) || decide (b ≤ a)) = true := by
  simp only [Bool.or_eq_true, decide_eq_true_eq]
  exact List.le_total a b
theorem names_same {D : DataW Unit} {N T ss : List ByteArray} (h : Rel D N T) (hm : Met D (fun _ => false) ss) : ((ss.map (·.data.toList)).mergeSort fun x y => decide (x ≤ y)) = N.map (·.data.toList) := by
  obtain ⟨m1, m2, m3⟩ := hm
  generalize hL : ((ss.map (·.data.toList)).mergeSort fun x y => decide (x ≤ y)) = L
  have hp : L.Perm (ss.map (·.data.toList)) := by rw [← hL]; exact List.mergeSort_perm _ _
  have hs : L.Pairwise (fun x y => decide (x ≤ y) = true) := by rw [← hL]; exact List.pairwise_mergeSort (le := fun x y => decide (x ≤ y)) le_trans' le_total' _
  have hnd : L.Nodup := by
    rw [hp.nodup_iff]
    refine List.Pairwise.map (R := fun a b => a ≠ b) (S := fun a b => a ≠ b) _ (fun a b hab e => hab (eq_of e)) m1
  have hlt : Sorted (L.map mk) := by
    unfold Sorted
    rw [List.pairwise_map]
    have := hs.and hnd
    refine this.imp (fun {a b} hab => ?_)
    unfold lt
    rw [of_mk, of_mk]
    obtain ⟨h1, h2⟩ := hab
    rw [decide_eq_true_eq] at h1
    rcases lt_or (mk a) (mk b) with h3 | h3 | h3
    · unfold lt at h3; rwa [of_mk, of_mk] at h3
    · exact absurd (by rw [← of_mk a, h3, of_mk]) h2
    · unfold lt at h3; rw [of_mk, of_mk] at h3; exact absurd h3 h1
  have he : L.map mk = N := by
    refine sorted_eq hlt h.sorted fun x => ?_
    rw [List.mem_map]
    constructor
    · rintro ⟨l, hl, rfl⟩
      obtain ⟨s, hss, rfl⟩ := List.mem_map.1 (hp.mem_iff.1 hl)
      rw [mk_of]
      exact (h.has_ s (m2 s hss)).1 ((m3 s (m2 s hss)).1 hss).1
    · intro hx
      have hok := h.ok x hx
      have hss : x ∈ ss := (m3 x hok).2 ⟨(h.has_ x hok).2 hx, rfl⟩
      exact ⟨x.data.toList, hp.mem_iff.2 (List.mem_map.2 ⟨x, hss, rfl⟩), mk_of x⟩
  rw [← he, List.map_map]
  conv => lhs; rw [← List.map_id L]
  refine List.map_congr_left fun l _ => ?_
  exact (of_mk l).symm
end Plays

end Go.Proofs.Ytceflhffilldeaa
