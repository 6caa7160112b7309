/-
  Slices of texts: what they read as; 'append(s, t...)' onto a slice of one's own, whatever t is.
-/
import Derived.Test.YtceflhffilldeaaKept
import Derived.Test.YtceflhffilldeaaProg
import Derived.WalkKit
import Derived.OwnWalk
import Derived.Deep.AppendLies
import Derived.Lib.Hide
namespace Go.Proofs.Ytceflhffilldeaa
set_option linter.unusedVariables false
set_option linter.unusedSimpArgs false
open Go.RowKit

theorem sb_add (a : Addr) (n : Nat) : (a.add n).block = a.block := by unfold Addr.add; split <;> rfl
/-- The slice v reads as these texts. -/
def SRow (w : World) (v : Value) (l : List ByteArray) : Prop :=
  l.length ≤ 1000000 ∧ ∃ A c, v = .slice A l.length c ∧ ∀ k, k < l.length → ∃ ad, A = some ad ∧ ad.block < w.heap.size ∧ w.cell? (ad.add k) = some (.string (l.getD k ⟨#[]⟩))
theorem SRow.below {w w' : World} {v : Value} {l : List ByteArray} (h : SRow w v l) (hb : Below w.heap.size w w') : SRow w' v l := by
  obtain ⟨hm, A, c, rfl, hc⟩ := h
  refine ⟨hm, A, c, rfl, fun k hk => ?_⟩
  obtain ⟨ad, rfl, hl, hx⟩ := hc k hk
  exact ⟨ad, rfl, Nat.lt_of_lt_of_le hl hb.size, (hb.cell (p := ad.add k) (by rw [sb_add]; exact hl)).trans hx⟩
theorem srow_of_own {w : World} {base n : Nat} {e : TypeId} {v : Value} {l : List ByteArray} (hl : l.length ≤ 1000000) (h : w.ownsRow base e 1 v n (l.map Value.string)) : SRow w v l := by
  have hn : l.length = n := by have := h.1; simpa using this
  rcases h.2 with ⟨rfl, h0⟩ | ⟨g, cap, cur, rfl, hb, hh, hn', hc, hs, ht⟩
  · have : l = [] := List.eq_nil_of_length_eq_zero (by omega)
    subst this
    exact ⟨by simp, none, 0, rfl, fun k hk => absurd hk (by simp)⟩
  · refine ⟨hl, some ⟨g, 0, none⟩, cap, by rw [hn], fun k hk => ⟨⟨g, 0, none⟩, rfl, (h.lt g rfl).2, ?_⟩⟩
    refine h.cells (g := g) rfl k _ ?_
    rw [List.getElem?_map, List.getElem?_eq_getElem hk]
    simp [List.getD, hk]

theorem sa_src {w : World} {ad : Addr} {l : List ByteArray} (h : ∀ k, k < l.length → w.cell? (ad.add k) = some (.string (l.getD k ⟨#[]⟩))) : ∀ j u, (l.map Value.string)[j]? = some u → w.cell? (ad.add j) = some u := by
  intro j u hu
  rw [List.getElem?_map] at hu
  by_cases hj : j < l.length
  · rw [List.getElem?_eq_getElem hj] at hu
    have := h j hj
    rw [this]
    simpa [List.getD, hj] using hu
  · rw [List.getElem?_eq_none (by omega)] at hu; cases hu
theorem sa_one (xs : List ByteArray) : ∀ u ∈ (xs.map Value.string), u.oneCell' = true := by
  intro u hu
  simp only [List.mem_map] at hu
  obtain ⟨x, _, rfl⟩ := hu
  rfl
theorem sa_nothing {P : Program} (w : World) (t ty e : TypeId) (n cap c g : Nat) (hn : n ≤ cap) (ht : P.underlying t = some (.slice e)) (i : TypeInfo) (hi : P.info? e = some i) (hh : ∃ cur t' fr, w.heap[g]? = some (.cells cur t' fr)) :
    (Builtin.append_ #[t, t] ty #[.slice (some ⟨g, 0, none⟩) n cap, .slice none 0 c]).run P w = .ok (.slice (some ⟨g, 0, none⟩) n cap) w := by
  simp [Builtin.append_, run_underlying ht, sizeOf, typeInfo, hi, Builtin.lenOf, Builtin.firstCells, storeCells, hn]
theorem wp_app_str {P : Program} {o : Oper} {a : Act} {K : Act → World → Prop} {Q : Exit → Act → World → Prop} (W : World) (s x : Operand) (t e : TypeId)
    (hop : o.op = .call { callee := .builtin .append, args := #[s, x], argTypes := #[t, t] }) (bytes : Nat) (ht : P.underlying t = some (.slice e))
    (info : (P.info? e).map (fun i => (i.zero, i.size, i.bytes)) = some (some (.string ⟨#[]⟩), 1, bytes)) (hb : bytes ≤ 16) (base : Nat) (hb0 : base ≤ W.heap.size) (g0 c0 n : Nat) (xs : List ByteArray)
    (own0 : W.ownsRow base e 1 (.slice (some ⟨g0, 0, none⟩) n c0) n (xs.map Value.string)) (l : List ByteArray) (v : Value) (hs : a.eval s = .slice (some ⟨g0, 0, none⟩) n c0) (hx : a.eval x = v) (hr : SRow W v l) (hl : n + l.length ≤ 1000000)
    (hK : ∀ g c w2, w2.ownsRow base e 1 (.slice (some ⟨g, 0, none⟩) (n + l.length) c) (n + l.length) ((xs ++ l).map Value.string) → W.grownBy w2 (some g0) → K (a.put o.dst (.slice (some ⟨g, 0, none⟩) (n + l.length) c)) w2) : o.wp P a W K Q := by
  obtain ⟨i0, hi0, hz0, hz1, hz2⟩ := info_parts info
  obtain ⟨hm, A, c, rfl, hc⟩ := hr
  rcases A with _ | ad
  · have h0 : l = [] := by
      cases l with
      | nil => rfl
      | cons x xs => obtain ⟨ad, h, _⟩ := hc 0 (by simp); cases h
    subst h0
    have hcap : n ≤ c0 ∧ ∃ cur t' fr, W.heap[g0]? = some (.cells cur t' fr) := by
      rcases own0.2 with ⟨h1, _⟩ | ⟨g', cap, cur, hv, hb', hh, hn, hc', hs', ht'⟩
      · cases h1
      · injection hv with h1 h2 h3
        injection h1 with h1
        injection h1 with h1
        subst h1 h3
        exact ⟨hn, _, _, _, hh⟩
    have HN := fun ty => sa_nothing (P := P) W t ty e n c0 c g0 hcap.1 ht i0 hi0 hcap.2
    have hk := hK g0 c0 W (by simpa using own0) (World.grownBy.refl W _)
    unfold Oper.wp execOp
    simp only [hop, resolve, invoke, builtin, Sem.run_bind, Sem.run_pure, Result.andThen_ok, List.map_toArray, List.map_cons, List.map_nil, hs, hx, List.length_nil, HN]
    exact hk
  · refine wp_append_own W s x t hop base e i0 _ 1 bytes ht hi0 hz0 hz1 hz2 rfl (by omega) _ n (xs.map Value.string) hs own0 ad l.length c (l.map Value.string) hx (by simp)
      (sa_src (fun k hk => by obtain ⟨ad', e1, ha, hxx⟩ := hc k hk; injection e1 with e1; subst e1; exact hxx)) (sa_one _) (by simp only [maxLen]; omega) (by
        have : (n + l.length) * bytes ≤ (n + l.length) * 16 := Nat.mul_le_mul_left _ hb
        omega) hb0 ?_
    intro v2 w2 ho2 hg2 hn2
    rw [← List.map_append] at ho2
    rcases ho2.2 with ⟨rfl, h2⟩ | ⟨g, cap, cur, rfl, hg', hh, r⟩
    · cases hn2.1 rfl
      rename_i h3 h4
      cases h3
    · exact hK g cap w2 ho2 hg2

end Go.Proofs.Ytceflhffilldeaa
