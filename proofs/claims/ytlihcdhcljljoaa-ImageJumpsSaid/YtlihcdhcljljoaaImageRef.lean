/-
  How a run begins: the document's First and Boot, walked.
-/
import Derived.Test.YtlihcdhcljljoaaImageBoot
import Derived.Test.YtlihcdhcljljoaaRiscRefDec
namespace Go.Proofs.Ytlihcdhcljljoaa
set_option linter.unusedVariables false
set_option linter.unusedSimpArgs false
open Go.RowKit Bw

theorem ins_info : (Try.prog.info? 32).map (fun i => (i.zero, i.size, i.bytes)) = some (some (.agg #[.int .i64 0, .bool false, .bool false, .int .i64 0, .int .i64 0, .int .i64 0, .int .i64 0, .int .i64 0]), 8, 56) := by kernel_rfl
def insCells (xs : List Ins) : List Value := xs.flatMap fun x => x.cells.toList
theorem insCells_len (xs : List Ins) : (insCells xs).length = xs.length * 8 := by
  induction xs with
  | nil => rfl
  | cons x xs ih => rw [insCells, List.flatMap_cons, List.length_append]; rw [insCells] at ih; rw [ih]; simp [Ins.cells]; omega
theorem insCells_one (xs : List Ins) : ∀ u ∈ insCells xs, u.oneCell' = true := by
  intro u hu
  simp only [insCells, List.mem_flatMap] at hu
  obtain ⟨x, _, hx⟩ := hu
  exact (Array.all_eq_true_iff_forall_mem.1 (ins_one x)) u (by simpa using hx)
theorem news_new (w : World) (t : TypeId) (cs : Array Value) (news : List Value) (h : cs = news.toArray) : ∀ (j : Nat) (u : Value), news[j]? = some u → (w.alloc (.cells cs t)).cell? ((⟨w.heap.size, 0, none⟩ : Addr).add j) = some u := by
  intro j u hj
  subst h
  rw [block_add0, cell_of_row _ _ j _ _ _ (heap_alloc_new w _)]
  simpa using hj
theorem ins_own (w : World) (xs : List Ins) (cs : Array Value) (h : cs = (insCells xs).toArray) (hm : xs.length ≤ maxLen) : (w.alloc (.cells cs 32)).ownsRow w.heap.size 32 8 (.slice (some ⟨w.heap.size, 0, none⟩) xs.length xs.length) xs.length (insCells xs) := by
  subst h
  exact ⟨insCells_len xs, Or.inr ⟨w.heap.size, xs.length, _, rfl, Nat.le_refl _, heap_alloc_new w _, Nat.le_refl _, hm, by simp [insCells_len], by simp [← insCells_len]⟩⟩
theorem insAt_own {w : World} {base n g cap : Nat} {xs : List Ins} (h : w.ownsRow base 32 8 (.slice (some ⟨g, 0, none⟩) n cap) n (insCells xs)) : InsAt w g xs := by
  refine ⟨(h.lt g rfl).2, fun k x hx j v hv => ?_⟩
  have hc := h.cells (g := g) rfl (k * 8 + j) v
  rw [block_add0] at hc
  refine hc ?_
  have key : ∀ (xs : List Ins) (k : Nat), xs[k]? = some x → (insCells xs)[k * 8 + j]? = some v := by
    intro xs
    induction xs with
    | nil => intro k hk; simp at hk
    | cons y ys ih =>
      intro k hk
      have hl : y.cells.toList.length = 8 := rfl
      rw [insCells, List.flatMap_cons]
      cases k with
      | zero =>
        simp at hk
        subst hk
        rw [Nat.zero_mul, Nat.zero_add, List.getElem?_append_left (by have := (List.getElem?_eq_some_iff.1 hv).1; omega)]
        exact hv
      | succ k =>
        rw [List.getElem?_append_right (by omega), hl, show (k + 1) * 8 + j - 8 = k * 8 + j by omega]
        exact ih k (by simpa using hk)
  exact key xs k hx
theorem own_apart {w : World} {b1 b2 : Nat} {e1 e2 : TypeId} {s1 s2 n1 n2 : Nat} {v1 v2 : Value} {x1 x2 : List Value} (h1 : w.ownsRow b1 e1 s1 v1 n1 x1) (h2 : w.ownsRow b2 e2 s2 v2 n2 x2) (hne : e1 ≠ e2) : v1.ownBlock = none ∨ v1.ownBlock ≠ v2.ownBlock := by
  rcases h1.2 with ⟨rfl, _⟩ | ⟨g, cap, cur, rfl, _, hh, _⟩
  · exact Or.inl rfl
  · refine Or.inr fun he => ?_
    rcases h2.2 with ⟨rfl, _⟩ | ⟨g', cap', cur', rfl, _, hh', _⟩
    · cases he
    · have : g = g' := by simpa [Value.ownBlock] using he
      subst this
      rw [hh] at hh'
      injection hh' with hh'
      injection hh' with _ ht
      exact hne ht

end Go.Proofs.Ytlihcdhcljljoaa
