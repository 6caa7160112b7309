/-
  Slices that read as lists of integers. No program in sight.
-/
import Derived.Test.YtceflhffilldeaaKept
import Derived.StillTailTactics
namespace Go.Proofs.Ytceflhffilldeaa
set_option linter.unusedVariables false
set_option linter.unusedSimpArgs false
open Go.RowKit

/-- The slice value v reads as l. -/
def Row (q : IntKind) (w : World) (v : Value) (l : List Int) : Prop :=
  l.length ≤ 9223372036854775807 ∧ ∃ A c, v = .slice A l.length c ∧ ∀ k, k < l.length → ∃ ad, A = some ad ∧ ad.block < w.heap.size ∧ w.cell? (ad.add k) = some (.int q (l.getD k 0))

theorem block_add (a : Addr) (n : Nat) : (a.add n).block = a.block := by unfold Addr.add; split <;> rfl
section
variable {q : IntKind} {w w' : World} {v : Value} {l : List Int}
theorem Row.nil_ : Row q w (.slice none 0 0) [] := ⟨by simp, none, 0, rfl, fun k hk => absurd hk (by simp)⟩
/-- The slice's block is kept. -/
def Row.in_ (S : Nat → Prop) (v : Value) : Prop := ∀ ad n c, v = .slice (some ad) n c → 0 < n → S ad.block
theorem Row.kept {S : Nat → Prop} (h : Row q w v l) (hk : Kept S w w') (hS : Row.in_ S v) : Row q w' v l := by
  obtain ⟨hm, A, c, rfl, hc⟩ := h
  refine ⟨hm, A, c, rfl, fun k hlt => ?_⟩
  obtain ⟨ad, rfl, hb, hx⟩ := hc k hlt
  exact ⟨ad, rfl, Nat.lt_of_lt_of_le hb hk.size, (hk.cell (p := ad.add k) (by rw [block_add]; exact hS ad _ _ rfl (by omega))).trans hx⟩
theorem Row.lt (h : Row q w v l) : Row.in_ (fun k => k < w.heap.size) v := by
  obtain ⟨hm, A, c, rfl, hc⟩ := h
  intro ad n c' e hn
  injection e with e1 e2 e3
  subst e2
  obtain ⟨ad', e, hb, _⟩ := hc 0 hn
  rw [e1] at e
  injection e with e
  subst e
  exact hb
theorem Row.below (h : Row q w v l) (hb : Below w.heap.size w w') : Row q w' v l := h.kept ((Kept.refl (fun k => k < w.heap.size) w).below hb fun k h => h) h.lt
theorem Row.all (h : Row q w v l) (hk : Kept (fun _ => True) w w') : Row q w' v l := h.kept hk (fun _ _ _ _ _ => trivial)
end

theorem region_drew {P : Program} {id : Nat} {Q : Exit → Act → World → Prop} {a : Act} {w : World} {l : List Oper} (n : Nat) (hm : P.follows .mixedOrders = true) (hB : Region.lexTailB .any l.toArray n = true)
    (h : wpStill P l.toArray w.drew (fun a' => wpList P l.toArray Q (l.drop n) a' w.drew) (l.take n) a) : (Code.region id l.toArray true).wp P Q a w := wp_region_still_tail n hm hB h

theorem Kept.all_below {B : Nat} {w w' : World} (h : Kept (fun _ => True) w w') : Below B w w' := h.to_below fun _ _ => trivial

end Go.Proofs.Ytceflhffilldeaa
