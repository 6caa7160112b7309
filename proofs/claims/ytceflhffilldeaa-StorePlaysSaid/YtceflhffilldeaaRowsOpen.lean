/-
  A slice of structs that came in, opened: each element's fields, one cell each.
-/
import Derived.Test.YtceflhffilldeaaRowOpen
import Derived.Deep.Slices
import Derived.DataReads
namespace Go.Proofs.Ytceflhffilldeaa
set_option linter.unusedVariables false
set_option linter.unusedSimpArgs false
open Go.RowKit Go.ChangeShapes Go.WideShapes

section
variable {H : Type} {enc : TypeId × Value → H} {P : Program} {w : World} {base : Nat} {spare : Nat → Bool} {held : Bool}
/-- A slice of structs of k cells: the fields of each element that are one cell. -/
theorem rows_of_cells {t e : TypeId} {k : Nat} {fs : Array Field} {v : Value} {fuel : Nat} {x : DataW H × List MemPlace} (hk : 0 < k) (ht : P.underlying t = some (.slice e)) (hs : P.underlying e = some (.struct fs)) (hC : P.cellsOf e = k)
    (h : DataW.trod enc P w base spare held fuel t [v] = some x) :
    ∃ A n c, v = .slice A n c ∧ n ≤ 9223372036854775807 ∧ ∀ i, i < n → ∃ ad, A = some ad ∧ ad.block < w.heap.size ∧
      ∀ (j : Nat) (fld : Field), fs[j]? = some fld → fld.offset = j → P.cellsOf fld.type = 1 → j < k → ∃ y m z, w.cell? ((ad.add (i * k)).add j) = some y ∧ DataW.trod enc P w base spare held m fld.type [y] = some z := by
  rcases Go.Deep.open_slice ht h with ⟨hcs, -⟩ | ⟨a', len', cap', m, n, D, Pl, hcs, hb, hl, hm, hmm, hx, hel⟩
  · injection hcs with hcs _
    subst hcs
    exact ⟨none, 0, 0, rfl, by omega, fun i hi => absurd hi (by omega)⟩
  · injection hcs with hcs _
    subst hcs
    have hle : len' ≤ m := by rw [hmm]; split <;> omega
    refine ⟨some a', len', cap', rfl, by unfold maxLen at hm; omega, fun i hi => ?_⟩
    obtain ⟨cs', hc, htr⟩ := hel i (by omega)
    rw [hC] at hc
    obtain ⟨-, hcl, hat⟩ := World.cells?_some hc
    obtain ⟨xs, n', _, _, hlen, hxl, hg⟩ := DataW.trod_struct hs htr
    refine ⟨a', rfl, ?_, fun j fld hfld hoff h1 hj => ?_⟩
    · have h0 := hat 0 hk
      rw [List.getElem?_eq_getElem (by omega)] at h0
      have := block_lt_of_cell h0
      rwa [block_add, block_add] at this
    · have hgj := hg j fld hfld
      rw [hoff, h1, show (cs'.drop j).take 1 = [cs'[j]] by rw [List.drop_eq_getElem_cons (by omega)]; rfl] at hgj
      have hjx : j < xs.length := by rw [hxl]; exact (Array.getElem?_eq_some_iff.1 hfld).1
      rw [List.getElem?_eq_getElem hjx] at hgj
      exact ⟨cs'[j], n', xs[j], by rw [hat j hj, List.getElem?_eq_getElem], hgj⟩
end

/-- A step of the law: its kind, a name, a text, a number. -/
structure Ste where
  kind : Int
  name : ByteArray
  text : ByteArray
  n : Int
/-- The slice v reads as these steps. -/
def SteRow (w : World) (v : Value) (l : List Ste) : Prop :=
  l.length ≤ 9223372036854775807 ∧ ∃ A c, v = .slice A l.length c ∧ ∀ k (hk : k < l.length), ∃ ad, A = some ad ∧ ad.block < w.heap.size ∧
    w.cell? ((ad.add (k * 4)).add 0) = some (.int .i64 l[k].kind) ∧ w.cell? ((ad.add (k * 4)).add 1) = some (.string l[k].name) ∧ w.cell? ((ad.add (k * 4)).add 2) = some (.string l[k].text) ∧ w.cell? ((ad.add (k * 4)).add 3) = some (.int .i64 l[k].n)
theorem SteRow.below {w w' : World} {v : Value} {l : List Ste} (h : SteRow w v l) (hb : Below w.heap.size w w') : SteRow w' v l := by
  obtain ⟨hm, A, c, rfl, hc⟩ := h
  refine ⟨hm, A, c, rfl, fun k hk => ?_⟩
  obtain ⟨ad, rfl, hl, h0, h1, h2, h3⟩ := hc k hk
  have key : ∀ j, w'.cell? ((ad.add (k * 4)).add j) = w.cell? ((ad.add (k * 4)).add j) := fun j => hb.cell (p := (ad.add (k * 4)).add j) (by rw [block_add, block_add]; exact hl)
  exact ⟨ad, rfl, Nat.lt_of_lt_of_le hl hb.size, (key 0).trans h0, (key 1).trans h1, (key 2).trans h2, (key 3).trans h3⟩
section
variable {H : Type} {enc : TypeId × Value → H} {P : Program} {w : World} {base : Nat} {spare : Nat → Bool} {held : Bool}
theorem ste_of_trod {r : Reach} {b0 : Nat} {t e ti ts : TypeId} {f0 f1 f2 f3 : Field} {v : Value} {d : DataW H} {p : List MemPlace} (ht : P.underlying t = some (.slice e)) (hs : P.underlying e = some (.struct #[f0, f1, f2, f3])) (hC : P.cellsOf e = 4)
    (hti : P.underlying ti = some (.int .i64)) (hts : P.underlying ts = some .string) (h0 : f0.type = ti ∧ f0.offset = 0) (h1 : f1.type = ts ∧ f1.offset = 1) (h2 : f2.type = ts ∧ f2.offset = 2) (h3 : f3.type = ti ∧ f3.offset = 3) (c1 : P.cellsOf ti = 1) (c2 : P.cellsOf ts = 1)
    (hv : Value.okWide P w r b0 t v) (h : DataW.Trod enc P w base spare held t v d p) : ∃ l, SteRow w v l ∧ ∀ x ∈ l, x.name.size ≤ 9223372036854775807 ∧ x.text.size ≤ 9223372036854775807 ∧ (-9223372036854775808 ≤ x.n ∧ x.n ≤ 9223372036854775807) := by
  obtain ⟨a, len, cap, rfl⟩ := okWide_slice ht hv
  obtain ⟨fuel, hf⟩ := h
  obtain ⟨A, n, c, e1, hn, hel⟩ := rows_of_cells (by decide) ht hs hC hf
  injection e1 with e1 e2 e3
  subst e1 e2 e3
  have key : ∀ i, i < len → ∃ ad, a = some ad ∧ ad.block < w.heap.size ∧ ∃ x : Ste, (w.cell? ((ad.add (i * 4)).add 0) = some (.int .i64 x.kind) ∧ w.cell? ((ad.add (i * 4)).add 1) = some (.string x.name) ∧ w.cell? ((ad.add (i * 4)).add 2) = some (.string x.text) ∧ w.cell? ((ad.add (i * 4)).add 3) = some (.int .i64 x.n)) ∧ x.name.size ≤ 9223372036854775807 ∧ x.text.size ≤ 9223372036854775807 ∧ (-9223372036854775808 ≤ x.n ∧ x.n ≤ 9223372036854775807) := by
    intro i hi
    obtain ⟨ad, ea, hl, hx⟩ := hel i hi
    obtain ⟨y0, m0, z0, q0, r0⟩ := hx 0 f0 rfl h0.2 (by rw [h0.1]; exact c1) (by decide)
    obtain ⟨y1, m1, z1, q1, r1⟩ := hx 1 f1 rfl h1.2 (by rw [h1.1]; exact c2) (by decide)
    obtain ⟨y2, m2, z2, q2, r2⟩ := hx 2 f2 rfl h2.2 (by rw [h2.1]; exact c2) (by decide)
    obtain ⟨y3, m3, z3, q3, r3⟩ := hx 3 f3 rfl h3.2 (by rw [h3.1]; exact c1) (by decide)
    rw [h0.1] at r0
    rw [h1.1] at r1
    rw [h2.1] at r2
    rw [h3.1] at r3
    obtain ⟨x0, e0, -, -⟩ := DataW.trod_int hti r0
    obtain ⟨x1, e1, -, w1⟩ := DataW.trod_string hts r1
    obtain ⟨x2, e2, -, w2⟩ := DataW.trod_string hts r2
    obtain ⟨x3, e3, -, w3⟩ := DataW.trod_int hti r3
    simp at e0 e1 e2 e3
    subst e0 e1 e2 e3
    unfold maxLen at w1 w2
    exact ⟨ad, ea, hl, ⟨x0, x1, x2, x3⟩, ⟨q0, q1, q2, q3⟩, by dsimp only; omega, by dsimp only; omega, (by have w4 := bounds_i64 w3; dsimp only; omega)⟩
  clear hf hel
  obtain ⟨f, hf⟩ : ∃ f : Nat → Ste, ∀ i, i < len → ∃ ad, a = some ad ∧ ad.block < w.heap.size ∧ (w.cell? ((ad.add (i * 4)).add 0) = some (.int .i64 (f i).kind) ∧ w.cell? ((ad.add (i * 4)).add 1) = some (.string (f i).name) ∧ w.cell? ((ad.add (i * 4)).add 2) = some (.string (f i).text) ∧ w.cell? ((ad.add (i * 4)).add 3) = some (.int .i64 (f i).n)) ∧ (f i).name.size ≤ 9223372036854775807 ∧ (f i).text.size ≤ 9223372036854775807 ∧ (-9223372036854775808 ≤ (f i).n ∧ (f i).n ≤ 9223372036854775807) := by
    refine ⟨fun i => if hi : i < len then (Classical.choose (Classical.choose_spec (key i hi)).2.2) else ⟨0, ⟨#[]⟩, ⟨#[]⟩, 0⟩, fun i hi => ?_⟩
    have := Classical.choose_spec (key i hi)
    refine ⟨_, this.1, this.2.1, ?_⟩
    dsimp only
    rw [dif_pos hi]
    exact Classical.choose_spec (Classical.choose_spec (key i hi)).2.2
  refine ⟨(List.range len).map f, ⟨by simpa using hn, a, cap, by simp, fun k hk => ?_⟩, fun x hx => ?_⟩
  · have hk' : k < len := by simpa using hk
    obtain ⟨ad, e1, e2, ⟨q0, q1, q2, q3⟩, -⟩ := hf k hk'
    refine ⟨ad, e1, e2, ?_, ?_, ?_, ?_⟩ <;> simp only [List.getElem_map, List.getElem_range] <;> assumption
  · obtain ⟨i, hi, rfl⟩ := List.mem_map.1 hx
    exact (hf i (List.mem_range.1 hi)).choose_spec.2.2.2
end

end Go.Proofs.Ytceflhffilldeaa
