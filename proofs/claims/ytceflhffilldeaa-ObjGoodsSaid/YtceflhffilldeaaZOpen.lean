/-
  A slice of structs that came in, opened: each element's fields, one cell each.
-/
import Derived.Test.YtceflhffilldeaaZKept
import Derived.Deep.Slices
import Derived.DataReads
import Derived.Lib.SmallJoins
import Derived.OpenShut
import Derived.Test.YtceflhffilldeaaZObjM
import Derived.Test.YtceflhffilldeaaProg
import Derived.ChangeSame
namespace Go.Proofs.Ytceflhffilldeaa
set_option linter.unusedVariables false
set_option linter.unusedSimpArgs false
open Go.RowKit Go.ChangeShapes Go.WideShapes

section
variable {H : Type} {enc : TypeId × Value → H} {P : Program} {w : World} {base : Nat} {spare : Nat → Bool} {held : Bool}
/-- A slice of structs of k cells: the fields of each element that are one cell. -/
theorem rows_of_cells {t e : TypeId} {k : Nat} {fs : Array Field} {v : Value} {fuel : Nat} {x : DataW H × List MemPlace} (hk : 0 < k) (ht : P.underlying t = some (.slice e)) (hs : P.underlying e = some (.struct fs)) (hC : P.cellsOf e = k)
    (h : DataW.trod enc P w base spare held fuel t [v] = some x) :
    ∃ A n c, v = .slice A n c ∧ n ≤ 9223372036854775807 ∧ ∀ i, i < n → ∃ ad, A = some ad ∧ ad.block < w.heap.size ∧
      ∀ (j : Nat) (fld : Field), fs[j]? = some fld → fld.offset = j → P.cellsOf fld.type = 1 → j < k → ∃ y m z, w.cell? ((ad.add (i * k)).add j) = some y ∧ DataW.trod enc P w base spare held m fld.type [y] = some z := by
  rcases Go.Deep.open_slice ht h with ⟨hcs, -⟩ | ⟨a', len', cap', m, n, D, Pl, hcs, hb, hl, hm, hmm, hx, hel⟩
  · injection hcs with hcs _
    subst hcs
    exact ⟨none, 0, 0, rfl, by omega, fun i hi => absurd hi (by omega)⟩
  · injection hcs with hcs _
    subst hcs
    have hle : len' ≤ m := by rw [hmm]; split <;> omega
    refine ⟨some a', len', cap', rfl, by unfold maxLen at hm; omega, fun i hi => ?_⟩
    obtain ⟨cs', hc, htr⟩ := hel i (by omega)
    rw [hC] at hc
    obtain ⟨-, hcl, hat⟩ := World.cells?_some hc
    obtain ⟨xs, n', _, _, hlen, hxl, hg⟩ := DataW.trod_struct hs htr
    refine ⟨a', rfl, ?_, fun j fld hfld hoff h1 hj => ?_⟩
    · have h0 := hat 0 hk
      rw [List.getElem?_eq_getElem (by omega)] at h0
      have := block_lt_of_cell h0
      rwa [block_add, block_add] at this
    · have hgj := hg j fld hfld
      rw [hoff, h1, show (cs'.drop j).take 1 = [cs'[j]] by rw [List.drop_eq_getElem_cons (by omega)]; rfl] at hgj
      have hjx : j < xs.length := by rw [hxl]; exact (Array.getElem?_eq_some_iff.1 hfld).1
      rw [List.getElem?_eq_getElem hjx] at hgj
      exact ⟨cs'[j], n', xs[j], by rw [hat j hj, List.getElem?_eq_getElem], hgj⟩
end

/-- A step of the law: its kind, a name, a text, a number. -/
structure Ste where
  kind : Int
  name : ByteArray
  text : ByteArray
  n : Int
/-- The slice v reads as these steps. -/
def SteRow (w : World) (v : Value) (l : List Ste) : Prop :=
  l.length ≤ 9223372036854775807 ∧ ∃ A c, v = .slice A l.length c ∧ ∀ k (hk : k < l.length), ∃ ad, A = some ad ∧ ad.block < w.heap.size ∧
    w.cell? ((ad.add (k * 4)).add 0) = some (.int .i64 l[k].kind) ∧ w.cell? ((ad.add (k * 4)).add 1) = some (.string l[k].name) ∧ w.cell? ((ad.add (k * 4)).add 2) = some (.string l[k].text) ∧ w.cell? ((ad.add (k * 4)).add 3) = some (.int .i64 l[k].n)
theorem SteRow.below {w w' : World} {v : Value} {l : List Ste} (h : SteRow w v l) (hb : Below w.heap.size w w') : SteRow w' v l := by
  obtain ⟨hm, A, c, rfl, hc⟩ := h
  refine ⟨hm, A, c, rfl, fun k hk => ?_⟩
  obtain ⟨ad, rfl, hl, h0, h1, h2, h3⟩ := hc k hk
  have key : ∀ j, w'.cell? ((ad.add (k * 4)).add j) = w.cell? ((ad.add (k * 4)).add j) := fun j => hb.cell (p := (ad.add (k * 4)).add j) (by rw [block_add, block_add]; exact hl)
  exact ⟨ad, rfl, Nat.lt_of_lt_of_le hl hb.size, (key 0).trans h0, (key 1).trans h1, (key 2).trans h2, (key 3).trans h3⟩
section
variable {H : Type} {enc : TypeId × Value → H} {P : Program} {w : World} {base : Nat} {spare : Nat → Bool} {held : Bool}
theorem ste_of_trod {r : Reach} {b0 : Nat} {t e ti ts : TypeId} {f0 f1 f2 f3 : Field} {v : Value} {d : DataW H} {p : List MemPlace} (ht : P.underlying t = some (.slice e)) (hs : P.underlying e = some (.struct #[f0, f1, f2, f3])) (hC : P.cellsOf e = 4)
    (hti : P.underlying ti = some (.int .i64)) (hts : P.underlying ts = some .string) (h0 : f0.type = ti ∧ f0.offset = 0) (h1 : f1.type = ts ∧ f1.offset = 1) (h2 : f2.type = ts ∧ f2.offset = 2) (h3 : f3.type = ti ∧ f3.offset = 3) (c1 : P.cellsOf ti = 1) (c2 : P.cellsOf ts = 1)
    (hv : Value.okWide P w r b0 t v) (h : DataW.Trod enc P w base spare held t v d p) : ∃ l, SteRow w v l ∧ ∀ x ∈ l, x.name.size ≤ 9223372036854775807 ∧ x.text.size ≤ 9223372036854775807 ∧ (-9223372036854775808 ≤ x.n ∧ x.n ≤ 9223372036854775807) := by
  obtain ⟨a, len, cap, rfl⟩ := okWide_slice ht hv
  obtain ⟨fuel, hf⟩ := h
  obtain ⟨A, n, c, e1, hn, hel⟩ := rows_of_cells (by decide) ht hs hC hf
  injection e1 with e1 e2 e3
  subst e1 e2 e3
  have key : ∀ i, i < len → ∃ ad, a = some ad ∧ ad.block < w.heap.size ∧ ∃ x : Ste, (w.cell? ((ad.add (i * 4)).add 0) = some (.int .i64 x.kind) ∧ w.cell? ((ad.add (i * 4)).add 1) = some (.string x.name) ∧ w.cell? ((ad.add (i * 4)).add 2) = some (.string x.text) ∧ w.cell? ((ad.add (i * 4)).add 3) = some (.int .i64 x.n)) ∧ x.name.size ≤ 9223372036854775807 ∧ x.text.size ≤ 9223372036854775807 ∧ (-9223372036854775808 ≤ x.n ∧ x.n ≤ 9223372036854775807) := by
    intro i hi
    obtain ⟨ad, ea, hl, hx⟩ := hel i hi
    obtain ⟨y0, m0, z0, q0, r0⟩ := hx 0 f0 rfl h0.2 (by rw [h0.1]; exact c1) (by decide)
    obtain ⟨y1, m1, z1, q1, r1⟩ := hx 1 f1 rfl h1.2 (by rw [h1.1]; exact c2) (by decide)
    obtain ⟨y2, m2, z2, q2, r2⟩ := hx 2 f2 rfl h2.2 (by rw [h2.1]; exact c2) (by decide)
    obtain ⟨y3, m3, z3, q3, r3⟩ := hx 3 f3 rfl h3.2 (by rw [h3.1]; exact c1) (by decide)
    rw [h0.1] at r0
    rw [h1.1] at r1
    rw [h2.1] at r2
    rw [h3.1] at r3
    obtain ⟨x0, e0, -, -⟩ := DataW.trod_int hti r0
    obtain ⟨x1, e1, -, w1⟩ := DataW.trod_string hts r1
    obtain ⟨x2, e2, -, w2⟩ := DataW.trod_string hts r2
    obtain ⟨x3, e3, -, w3⟩ := DataW.trod_int hti r3
    simp at e0 e1 e2 e3
    subst e0 e1 e2 e3
    unfold maxLen at w1 w2
    exact ⟨ad, ea, hl, ⟨x0, x1, x2, x3⟩, ⟨q0, q1, q2, q3⟩, by dsimp only; omega, by dsimp only; omega, (by have w4 := bounds_i64 w3; dsimp only; omega)⟩
  clear hf hel
  obtain ⟨f, hf⟩ : ∃ f : Nat → Ste, ∀ i, i < len → ∃ ad, a = some ad ∧ ad.block < w.heap.size ∧ (w.cell? ((ad.add (i * 4)).add 0) = some (.int .i64 (f i).kind) ∧ w.cell? ((ad.add (i * 4)).add 1) = some (.string (f i).name) ∧ w.cell? ((ad.add (i * 4)).add 2) = some (.string (f i).text) ∧ w.cell? ((ad.add (i * 4)).add 3) = some (.int .i64 (f i).n)) ∧ (f i).name.size ≤ 9223372036854775807 ∧ (f i).text.size ≤ 9223372036854775807 ∧ (-9223372036854775808 ≤ (f i).n ∧ (f i).n ≤ 9223372036854775807) := by
    refine ⟨fun i => if hi : i < len then (Classical.choose (Classical.choose_spec (key i hi)).2.2) else ⟨0, ⟨#[]⟩, ⟨#[]⟩, 0⟩, fun i hi => ?_⟩
    have := Classical.choose_spec (key i hi)
    refine ⟨_, this.1, this.2.1, ?_⟩
    dsimp only
    rw [dif_pos hi]
    exact Classical.choose_spec (Classical.choose_spec (key i hi)).2.2
  refine ⟨(List.range len).map f, ⟨by simpa using hn, a, cap, by simp, fun k hk => ?_⟩, fun x hx => ?_⟩
  · have hk' : k < len := by simpa using hk
    obtain ⟨ad, e1, e2, ⟨q0, q1, q2, q3⟩, -⟩ := hf k hk'
    refine ⟨ad, e1, e2, ?_, ?_, ?_, ?_⟩ <;> simp only [List.getElem_map, List.getElem_range] <;> assumption
  · obtain ⟨i, hi, rfl⟩ := List.mem_map.1 hx
    exact (hf i (List.mem_range.1 hi)).choose_spec.2.2.2
end

end Go.Proofs.Ytceflhffilldeaa

/-
  A struct by value, opened field by field, whatever lies in it.
-/
namespace Go.Proofs.Ytceflhffilldeaa
set_option linter.unusedVariables false
set_option linter.unusedSimpArgs false
open Go.Joins Go.ChangeShapes Go.WideShapes Go.RowKit Go.Deep
section
variable {H : Type} {enc : TypeId × Value → H} {P : Program} {w : World} {base : Nat} {spare : Nat → Bool} {held : Bool}
/-- The cells of a struct's value, and each field's reading. -/
theorem open_struct {r : Reach} {b0 : Nat} {t : TypeId} {fs : Array Field} {v : Value} {d : DataW H} {p : List MemPlace} {k : Nat} (hs : P.underlying t = some (.struct fs)) (hC : P.cellsOf t = k)
    (hv : Value.okWide P w r b0 t v) (h : DataW.Trod enc P w base spare held t v d p) :
    ∃ (l : List Value) (n : Nat), v = .agg l.toArray ∧ l.length = k ∧ ∀ (i : Nat) (f : Field), fs[i]? = some f → ∃ x, DataW.trod enc P w base spare held n f.type ((l.drop f.offset).take (P.cellsOf f.type)) = some x := by
  obtain ⟨cs, rfl, hsz⟩ := okWide_struct hs hv
  obtain ⟨l⟩ := cs
  obtain ⟨fuel, hf⟩ := h
  obtain ⟨xs, n, _, hx, _, hlen, hg⟩ := DataW.trod_struct hs hf
  refine ⟨l, n, rfl, by simpa using hsz.trans hC, fun i f hi => ?_⟩
  have hlt : i < xs.length := by rw [hlen]; exact (Array.getElem?_eq_some_iff.1 hi).1
  have h1 := hg i f hi
  rw [List.getElem?_eq_getElem hlt] at h1
  exact ⟨_, h1⟩
/-- A struct within a struct. -/
theorem open_inner {t : TypeId} {fs : Array Field} {cs : List Value} {m : Nat} {x : DataW H × List MemPlace} (hs : P.underlying t = some (.struct fs)) (h : DataW.trod enc P w base spare held m t cs = some x) :
    ∃ n : Nat, ∀ (i : Nat) (f : Field), fs[i]? = some f → ∃ x, DataW.trod enc P w base spare held n f.type ((cs.drop f.offset).take (P.cellsOf f.type)) = some x := by
  obtain ⟨xs, n, _, hx, _, hlen, hg⟩ := DataW.trod_struct hs h
  refine ⟨n, fun i f hi => ?_⟩
  have hlt : i < xs.length := by rw [hlen]; exact (Array.getElem?_eq_some_iff.1 hi).1
  have h1 := hg i f hi
  rw [List.getElem?_eq_getElem hlt] at h1
  exact ⟨_, h1⟩
/-- An array's value, element by element. -/
theorem open_array {r : Reach} {b0 : Nat} {t e : TypeId} {n : Nat} {v : Value} {d : DataW H} {p : List MemPlace} {k : Nat} (hs : P.underlying t = some (.array n e)) (hC : P.cellsOf t = k)
    (hv : Value.okWide P w r b0 t v) (h : DataW.Trod enc P w base spare held t v d p) :
    ∃ (l : List Value) (m : Nat), v = .agg l.toArray ∧ l.length = k ∧ ∀ (i : Nat), i < n → ∃ x, DataW.trod enc P w base spare held m e ((l.drop (i * P.cellsOf e)).take (P.cellsOf e)) = some x := by
  simp only [Value.okWide, hs] at hv
  obtain ⟨cs, rfl, hsz, _⟩ := hv
  obtain ⟨l⟩ := cs
  obtain ⟨fuel, hf⟩ := h
  obtain ⟨xs, m, _, hx, _, hlen, hg⟩ := DataW.trod_array hs hf
  refine ⟨l, m, rfl, by simpa using hsz.trans hC, fun i hi => ?_⟩
  have h1 := hg i hi
  rw [List.getElem?_eq_getElem (by omega)] at h1
  exact ⟨_, h1⟩
/-- An array within another value. -/
theorem open_arr {t e : TypeId} {n : Nat} {cs : List Value} {m : Nat} {x : DataW H × List MemPlace} (hs : P.underlying t = some (.array n e)) (h : DataW.trod enc P w base spare held m t cs = some x) :
    ∃ m : Nat, ∀ (i : Nat), i < n → ∃ x, DataW.trod enc P w base spare held m e ((cs.drop (i * P.cellsOf e)).take (P.cellsOf e)) = some x := by
  obtain ⟨xs, m, _, hx, _, hlen, hg⟩ := DataW.trod_array hs h
  refine ⟨m, fun i hi => ?_⟩
  have h1 := hg i hi
  rw [List.getElem?_eq_getElem (by omega)] at h1
  exact ⟨_, h1⟩
theorem list2 {l : List Value} (h : l.length = 2) : ∃ x0 x1, l = [x0, x1] := by
  match l, h with
  | [x0, x1], _ => exact ⟨x0, x1, rfl⟩
theorem list3 {l : List Value} (h : l.length = 3) : ∃ x0 x1 x2, l = [x0, x1, x2] := by
  match l, h with
  | [x0, x1, x2], _ => exact ⟨x0, x1, x2, rfl⟩
theorem list4 {l : List Value} (h : l.length = 4) : ∃ x0 x1 x2 x3, l = [x0, x1, x2, x3] := by
  match l, h with
  | [x0, x1, x2, x3], _ => exact ⟨x0, x1, x2, x3, rfl⟩
theorem list5 {l : List Value} (h : l.length = 5) : ∃ x0 x1 x2 x3 x4, l = [x0, x1, x2, x3, x4] := by
  match l, h with
  | [x0, x1, x2, x3, x4], _ => exact ⟨x0, x1, x2, x3, x4, rfl⟩
theorem list6 {l : List Value} (h : l.length = 6) : ∃ x0 x1 x2 x3 x4 x5, l = [x0, x1, x2, x3, x4, x5] := by
  match l, h with
  | [x0, x1, x2, x3, x4, x5], _ => exact ⟨x0, x1, x2, x3, x4, x5, rfl⟩
theorem list7 {l : List Value} (h : l.length = 7) : ∃ x0 x1 x2 x3 x4 x5 x6, l = [x0, x1, x2, x3, x4, x5, x6] := by
  match l, h with
  | [x0, x1, x2, x3, x4, x5, x6], _ => exact ⟨x0, x1, x2, x3, x4, x5, x6, rfl⟩
theorem list8 {l : List Value} (h : l.length = 8) : ∃ x0 x1 x2 x3 x4 x5 x6 x7, l = [x0, x1, x2, x3, x4, x5, x6, x7] := by
  match l, h with
  | [x0, x1, x2, x3, x4, x5, x6, x7], _ => exact ⟨x0, x1, x2, x3, x4, x5, x6, x7, rfl⟩
theorem list9 {l : List Value} (h : l.length = 9) : ∃ x0 x1 x2 x3 x4 x5 x6 x7 x8, l = [x0, x1, x2, x3, x4, x5, x6, x7, x8] := by
  match l, h with
  | [x0, x1, x2, x3, x4, x5, x6, x7, x8], _ => exact ⟨x0, x1, x2, x3, x4, x5, x6, x7, x8, rfl⟩
theorem list10 {l : List Value} (h : l.length = 10) : ∃ x0 x1 x2 x3 x4 x5 x6 x7 x8 x9, l = [x0, x1, x2, x3, x4, x5, x6, x7, x8, x9] := by
  match l, h with
  | [x0, x1, x2, x3, x4, x5, x6, x7, x8, x9], _ => exact ⟨x0, x1, x2, x3, x4, x5, x6, x7, x8, x9, rfl⟩
theorem list11 {l : List Value} (h : l.length = 11) : ∃ x0 x1 x2 x3 x4 x5 x6 x7 x8 x9 x10, l = [x0, x1, x2, x3, x4, x5, x6, x7, x8, x9, x10] := by
  match l, h with
  | [x0, x1, x2, x3, x4, x5, x6, x7, x8, x9, x10], _ => exact ⟨x0, x1, x2, x3, x4, x5, x6, x7, x8, x9, x10, rfl⟩
theorem list12 {l : List Value} (h : l.length = 12) : ∃ x0 x1 x2 x3 x4 x5 x6 x7 x8 x9 x10 x11, l = [x0, x1, x2, x3, x4, x5, x6, x7, x8, x9, x10, x11] := by
  match l, h with
  | [x0, x1, x2, x3, x4, x5, x6, x7, x8, x9, x10, x11], _ => exact ⟨x0, x1, x2, x3, x4, x5, x6, x7, x8, x9, x10, x11, rfl⟩
theorem list13 {l : List Value} (h : l.length = 13) : ∃ x0 x1 x2 x3 x4 x5 x6 x7 x8 x9 x10 x11 x12, l = [x0, x1, x2, x3, x4, x5, x6, x7, x8, x9, x10, x11, x12] := by
  match l, h with
  | [x0, x1, x2, x3, x4, x5, x6, x7, x8, x9, x10, x11, x12], _ => exact ⟨x0, x1, x2, x3, x4, x5, x6, x7, x8, x9, x10, x11, x12, rfl⟩
theorem list14 {l : List Value} (h : l.length = 14) : ∃ x0 x1 x2 x3 x4 x5 x6 x7 x8 x9 x10 x11 x12 x13, l = [x0, x1, x2, x3, x4, x5, x6, x7, x8, x9, x10, x11, x12, x13] := by
  match l, h with
  | [x0, x1, x2, x3, x4, x5, x6, x7, x8, x9, x10, x11, x12, x13], _ => exact ⟨x0, x1, x2, x3, x4, x5, x6, x7, x8, x9, x10, x11, x12, x13, rfl⟩
theorem list15 {l : List Value} (h : l.length = 15) : ∃ x0 x1 x2 x3 x4 x5 x6 x7 x8 x9 x10 x11 x12 x13 x14, l = [x0, x1, x2, x3, x4, x5, x6, x7, x8, x9, x10, x11, x12, x13, x14] := by
  match l, h with
  | [x0, x1, x2, x3, x4, x5, x6, x7, x8, x9, x10, x11, x12, x13, x14], _ => exact ⟨x0, x1, x2, x3, x4, x5, x6, x7, x8, x9, x10, x11, x12, x13, x14, rfl⟩
theorem list16 {l : List Value} (h : l.length = 16) : ∃ x0 x1 x2 x3 x4 x5 x6 x7 x8 x9 x10 x11 x12 x13 x14 x15, l = [x0, x1, x2, x3, x4, x5, x6, x7, x8, x9, x10, x11, x12, x13, x14, x15] := by
  match l, h with
  | [x0, x1, x2, x3, x4, x5, x6, x7, x8, x9, x10, x11, x12, x13, x14, x15], _ => exact ⟨x0, x1, x2, x3, x4, x5, x6, x7, x8, x9, x10, x11, x12, x13, x14, x15, rfl⟩
end

end Go.Proofs.Ytceflhffilldeaa

/-
  An object that came in, opened.
-/
namespace Go.Proofs.Ytceflhffilldeaa
set_option linter.unusedVariables false
set_option linter.unusedSimpArgs false
open Go.RowKit Go.ChangeShapes Go.WideShapes ObjL

theorem list_choose {α : Type} {p : Nat → α → Prop} : ∀ n, (∀ i, i < n → ∃ x, p i x) → ∃ l : List α, l.length = n ∧ ∀ i (h : i < l.length), p i l[i]
  | 0, _ => ⟨[], rfl, fun i h => absurd h (by simp)⟩
  | n + 1, h => by
    obtain ⟨l, h1, h2⟩ := list_choose n (fun i hi => h i (by omega))
    obtain ⟨x, hx⟩ := h n (by omega)
    refine ⟨l ++ [x], by simp [h1], fun i hi => ?_⟩
    by_cases e : i < l.length
    · rw [List.getElem_append_left e]
      exact h2 i e
    · have e2 : i = n := by simp at hi; omega
      subst e2
      rw [List.getElem_append_right (by omega)]
      simpa using hx

/-- No weight of a datum is more than a machine has. -/
def Light {H : Type} (P : Program) (t : TypeId) (d : DataW H) : Prop := ∀ n ∈ d.weights P t, n ≤ reachBytes
section
variable {H : Type} {P : Program}
theorem light_text {t : TypeId} {b : List UInt8} (h : Light P t (DataW.lit (.string b) : DataW H)) : b.length ≤ 140737488351232 := h b.length (by simp [DataW.weights])
theorem weightsAll_mem {e : TypeId} : ∀ (l : List (DataW H)) (d : DataW H) (n : Nat), d ∈ l → n ∈ d.weights P e → n ∈ DataW.weightsAll P e l
  | [], d, n, h, _ => by cases h
  | x :: l, d, n, h, hn => by
    rw [DataW.weightsAll]
    rcases List.mem_cons.1 h with rfl | h
    · exact List.mem_append_left _ hn
    · exact List.mem_append_right _ (weightsAll_mem l d n h hn)
theorem light_slice {t e : TypeId} {es sp : List (DataW H)} (ht : P.underlying t = some (.slice e)) (h : Light P t (.slice es sp)) : (es.length + sp.length) * P.bytesOf e ≤ 140737488351232 ∧ ∀ d ∈ es, Light P e d := by
  unfold Light at h
  rw [DataW.weights, ht] at h
  dsimp only at h
  refine ⟨h _ (List.mem_cons_self), fun d hd n hn => h n ?_⟩
  exact List.mem_cons_of_mem _ (List.mem_append_left _ (weightsAll_mem es d n hd hn))
theorem weightsEach_mem : ∀ (ts : List TypeId) (ds : List (DataW H)) (i : Nat) (t : TypeId) (d : DataW H) (n : Nat), ts[i]? = some t → ds[i]? = some d → n ∈ d.weights P t → n ∈ DataW.weightsEach P ts ds
  | [], _, i, t, d, n, h, _, _ => by simp at h
  | _ :: _, [], i, t, d, n, _, h, _ => by simp at h
  | t0 :: ts, d0 :: ds, 0, t, d, n, h, h2, hn => by
    simp at h h2
    subst h h2
    rw [DataW.weightsEach]
    exact List.mem_append_left _ hn
  | t0 :: ts, d0 :: ds, i + 1, t, d, n, h, h2, hn => by
    rw [DataW.weightsEach]
    exact List.mem_append_right _ (weightsEach_mem ts ds i t d n (by simpa using h) (by simpa using h2) hn)
theorem light_part {t : TypeId} {fs : Array Field} {ps : List (DataW H)} (ht : P.underlying t = some (.struct fs)) (h : Light P t (.agg ps)) {i : Nat} {f : Field} {d : DataW H} (hf : fs[i]? = some f) (hd : ps[i]? = some d) : Light P f.type d := by
  unfold Light at h
  rw [DataW.weights, ht] at h
  dsimp only at h
  exact fun n hn => h n (weightsEach_mem _ _ i f.type d n (by rw [List.getElem?_map, Array.getElem?_toList, hf]; rfl) hd hn)
theorem light_arg {ts : List TypeId} {ds : List (DataW H)} (h : (DataW.weightsEach P ts ds).all (· ≤ reachBytes) = true) {i : Nat} {t : TypeId} {d : DataW H} (ht : ts[i]? = some t) (hd : ds[i]? = some d) : Light P t d := fun n hn => by
  have := List.all_eq_true.1 h n (weightsEach_mem ts ds i t d n ht hd hn)
  simpa using this
end

section
variable {H : Type} {enc : TypeId × Value → H} {P : Program} {w : World} {base : Nat} {spare : Nat → Bool} {held : Bool}
/-- A slice of structs of two cells. -/
theorem row2_of_cells {α : Type} {is : World → α → Nat → Value → Prop} {fine : α → Prop} {t e : TypeId} {f0 f1 : Field} {v : Value} {fuel : Nat} {x : DataW H × List MemPlace} (ht : P.underlying t = some (.slice e)) (hs : P.underlying e = some (.struct #[f0, f1])) (hC : P.cellsOf e = 2)
    (o0 : f0.offset = 0) (o1 : f1.offset = 1) (c0 : P.cellsOf f0.type = 1) (c1 : P.cellsOf f1.type = 1)
    (elt : ∀ y0 y1 m z0 z1, DataW.trod enc P w base spare held m f0.type [y0] = some z0 → DataW.trod enc P w base spare held m f1.type [y1] = some z1 → Light P f0.type z0.1 → Light P f1.type z1.1 → ∃ a, fine a ∧ is w a 0 y0 ∧ is w a 1 y1)
    (h : DataW.trod enc P w base spare held fuel t [v] = some x) (hx : Light P t x.1) : ∃ l, RowOf 2 is w v l ∧ (∀ a ∈ l, fine a) ∧ l.length * P.bytesOf e ≤ 140737488351232 := by
  rcases Go.Deep.open_slice ht h with ⟨hcs, -⟩ | ⟨a', len', cap', m, n, D, Pl, hcs, hb, hl, hm, hmm, hxx, hel⟩
  · injection hcs with hcs _
    subst hcs
    exact ⟨[], RowOf.nil_, by simp, by simp⟩
  · injection hcs with hcs _
    subst hcs
    subst hxx
    have hle : len' ≤ m := by rw [hmm]; split <;> omega
    have hL := light_slice ht hx
    simp only [List.length_map, List.length_range] at hL
    obtain ⟨l, hll, hp⟩ := list_choose (p := fun i a => fine a ∧ ∃ ad, some a' = some ad ∧ ad.block < w.heap.size ∧ ∀ j, j < 2 → ∃ y, w.cell? ((ad.add (i * 2)).add j) = some y ∧ is w a j y) len' (fun i hi => by
      obtain ⟨cs', hc, htr⟩ := hel i (by omega)
      rw [hC] at hc
      obtain ⟨-, hcl, hat⟩ := World.cells?_some hc
      obtain ⟨z0, z1, n', hz, -, t0, t1⟩ := trod_struct2 hs htr
      rw [o0, c0] at t0
      rw [o1, c1] at t1
      match cs', hcl, hat, t0, t1 with
      | [y0, y1], _, hat, t0, t1 =>
        simp at t0 t1
        have hD : Light P e (D i) := hL.2 _ (List.mem_map.2 ⟨i, List.mem_range.2 hi, rfl⟩)
        have hz1 : D i = .agg [z0.1, z1.1] := (Prod.mk.inj hz).1
        rw [hz1] at hD
        obtain ⟨a, hf, i0, i1⟩ := elt y0 y1 n' z0 z1 t0 t1 (light_part hs hD (i := 0) rfl rfl) (light_part hs hD (i := 1) rfl rfl)
        refine ⟨a, hf, a', rfl, ?_, fun j hj => ?_⟩
        · have h0 := hat 0 (by decide)
          have := block_lt_of_cell (h0.trans (show [y0, y1][0]? = some y0 from rfl))
          rwa [block_add, block_add] at this
        · have : j = 0 ∨ j = 1 := by omega
          rcases this with rfl | rfl
          · exact ⟨y0, hat 0 (by decide), i0⟩
          · exact ⟨y1, hat 1 (by decide), i1⟩)
    subst hll
    refine ⟨l, ⟨by unfold maxLen at hm; omega, some a', cap', rfl, fun i hi => (hp i hi).2⟩, fun a ha => ?_, ?_⟩
    · obtain ⟨i, hi, rfl⟩ := List.getElem_of_mem ha
      exact (hp i hi).1
    · exact Nat.le_trans (Nat.mul_le_mul_right _ (Nat.le_add_right _ _)) hL.1
theorem row1_of_cells {t e : TypeId} {k : IntKind} {v : Value} {fuel : Nat} {x : DataW H × List MemPlace} (ht : P.underlying t = some (.slice e)) (he : P.underlying e = some (.int k)) (hc : P.cellsOf e = 1)
    (h : DataW.trod enc P w base spare held fuel t [v] = some x) (hx : Light P t x.1) : ∃ zs, Row k w v zs ∧ (∀ n ∈ zs, (Lit.int k n).wf = true) ∧ zs.length * P.bytesOf e ≤ 140737488351232 := by
  obtain ⟨zs, hr, hw⟩ := row_of_cells ht he hc h
  refine ⟨zs, hr, hw, ?_⟩
  obtain ⟨-, A, c, rfl, -⟩ := hr
  rcases Go.Deep.open_slice ht h with ⟨hcs, -⟩ | ⟨a', len', cap', m, n, D, Pl, hcs, hb, hl, hm, hmm, hxx, hel⟩
  · injection hcs with hcs _
    injection hcs with _ e2 _
    rw [e2]; simp
  · injection hcs with hcs _
    injection hcs with _ e2 _
    rw [e2]
    subst hxx
    have hL := (light_slice ht hx).1
    simp only [List.length_map, List.length_range] at hL
    exact Nat.le_trans (Nat.mul_le_mul_right _ (Nat.le_add_right _ _)) hL
end

theorem wf_i64 {x : Int} (h : (Lit.int .i64 x).wf = true) : I64 x := bounds_i64 h
theorem wf_u32 {x : Int} (h : (Lit.int .u32 x).wf = true) : 0 ≤ x ∧ x ≤ 4294967295 := by have := bounds_u32 h; omega

/-- No part of an object is more than a machine has. -/
structure ObSized (o : Ob) : Prop where
  name : o.name.length ≤ 140737488351232
  uses : o.uses.length * 24 ≤ 140737488351232
  use : ∀ u ∈ o.uses, u.1.length ≤ 140737488351232
  descs : o.descs.length * 32 ≤ 140737488351232
  desc : ∀ d ∈ o.descs, d.2.length * 16 ≤ 140737488351232
  strings : o.strings.length ≤ 140737488351232
  code : o.code.length * 4 ≤ 140737488351232
  entries : o.entries.length * 8 ≤ 140737488351232

section
variable {H : Type} {enc : TypeId × Value → H} {w : World} {base : Nat} {spare : Nat → Bool} {held : Bool}
theorem one_int {t : TypeId} {k : IntKind} {m : Nat} {y : Value} {z : DataW H × List MemPlace} (ht : Try.prog.underlying t = some (.int k)) (h : DataW.trod enc Try.prog w base spare held m t [y] = some z) : ∃ x, y = .int k x ∧ (Lit.int k x).wf = true := by
  obtain ⟨x, e, -, hw⟩ := DataW.trod_int ht h
  simp at e
  exact ⟨x, e, hw⟩
theorem one_text {t : TypeId} {m : Nat} {y : Value} {z : DataW H × List MemPlace} (ht : Try.prog.underlying t = some .string) (h : DataW.trod enc Try.prog w base spare held m t [y] = some z) (hz : Light Try.prog t z.1) : ∃ x : List UInt8, y = .string (txt x) ∧ x.length ≤ 140737488351232 := by
  obtain ⟨x, e, rfl, hw⟩ := DataW.trod_string ht h
  simp at e
  exact ⟨x.data.toList, by rw [txt_of]; exact e, light_text hz⟩

theorem by_ext : Try.prog.bytesOf 86 = 16 := by kernel_rfl
theorem by_desc : Try.prog.bytesOf 76 = 32 := by kernel_rfl
theorem by_used : Try.prog.bytesOf 78 = 24 := by kernel_rfl
theorem by_u32 : Try.prog.bytesOf 43 = 4 := by kernel_rfl
theorem by_int : Try.prog.bytesOf 3 = 8 := by kernel_rfl

set_option maxRecDepth 100000 in
theorem open_exts {m : Nat} {v : Value} {z : DataW H × List MemPlace} (h : DataW.trod enc Try.prog w base spare held m 74 [v] = some z) (hz : Light Try.prog 74 z.1) : ∃ l, ERow w v l ∧ (∀ e ∈ l, I64 e.1 ∧ I64 e.2) ∧ l.length * 16 ≤ 140737488351232 := by
  rw [← by_ext]
  exact row2_of_cells (is := extIs) (fine := fun e => I64 e.1 ∧ I64 e.2) Try.underlying74 Try.underlying86 (by kernel_rfl) rfl rfl (by kernel_rfl) (by kernel_rfl) (fun y0 y1 m z0 z1 r0 r1 l0 l1 => by
    obtain ⟨a, rfl, ha⟩ := one_int Try.underlying3 r0
    obtain ⟨b, rfl, hb⟩ := one_int Try.underlying3 r1
    exact ⟨(a, b), ⟨wf_i64 ha, wf_i64 hb⟩, ⟨fun _ => rfl, fun h => absurd h (by decide)⟩, ⟨fun h => absurd h (by decide), fun _ => rfl⟩⟩) h hz
set_option maxRecDepth 100000 in
theorem open_descs {m : Nat} {v : Value} {z : DataW H × List MemPlace} (h : DataW.trod enc Try.prog w base spare held m 45 [v] = some z) (hz : Light Try.prog 45 z.1) : ∃ l, DRow w v l ∧ (∀ d ∈ l, I64 d.1 ∧ (∀ e ∈ d.2, I64 e.1 ∧ I64 e.2) ∧ d.2.length * 16 ≤ 140737488351232) ∧ l.length * 32 ≤ 140737488351232 := by
  rw [← by_desc]
  exact row2_of_cells (is := descIs) (fine := fun d => I64 d.1 ∧ (∀ e ∈ d.2, I64 e.1 ∧ I64 e.2) ∧ d.2.length * 16 ≤ 140737488351232) Try.underlying45 Try.underlying76 (by kernel_rfl) rfl rfl (by kernel_rfl) (by kernel_rfl) (fun y0 y1 m z0 z1 r0 r1 l0 l1 => by
    obtain ⟨a, rfl, ha⟩ := one_int Try.underlying3 r0
    obtain ⟨b, hb, hb2, hb3⟩ := open_exts r1 l1
    exact ⟨(a, b), ⟨wf_i64 ha, hb2, hb3⟩, ⟨fun _ => rfl, fun h => absurd h (by decide)⟩, ⟨fun h => absurd h (by decide), fun _ => hb⟩⟩) h hz
set_option maxRecDepth 100000 in
theorem open_uses {m : Nat} {v : Value} {z : DataW H × List MemPlace} (h : DataW.trod enc Try.prog w base spare held m 44 [v] = some z) (hz : Light Try.prog 44 z.1) : ∃ l, URow w v l ∧ (∀ u ∈ l, u.1.length ≤ 140737488351232 ∧ 0 ≤ u.2 ∧ u.2 ≤ 4294967295) ∧ l.length * 24 ≤ 140737488351232 := by
  rw [← by_used]
  exact row2_of_cells (is := useIs) (fine := fun u => u.1.length ≤ 140737488351232 ∧ 0 ≤ u.2 ∧ u.2 ≤ 4294967295) Try.underlying44 Try.underlying78 (by kernel_rfl) rfl rfl (by kernel_rfl) (by kernel_rfl) (fun y0 y1 m z0 z1 r0 r1 l0 l1 => by
    obtain ⟨a, rfl, ha⟩ := one_text Try.underlying9 r0 l0
    obtain ⟨b, rfl, hb⟩ := one_int Try.underlying43 r1
    exact ⟨(a, b), ⟨ha, wf_u32 hb⟩, ⟨fun _ => rfl, fun h => absurd h (by decide)⟩, ⟨fun h => absurd h (by decide), fun _ => rfl⟩⟩) h hz

set_option maxRecDepth 100000 in
theorem open_object {r : Reach} {b0 : Nat} {v : Value} {d : DataW H} {p : List MemPlace} (hv : Value.okWide Try.prog w r b0 49 v) (h : DataW.Trod enc Try.prog w base spare held 49 v d p) (hl : Light Try.prog 49 d) :
    ∃ o vU vD vC vE, v = .agg (obCells o vU vD vC vE) ∧ ObParts w o vU vD vC vE ∧ ObFine o ∧ ObSized o := by
  have hs := Try.underlying49
  obtain ⟨cs, rfl, hsz⟩ := okWide_struct hs hv
  obtain ⟨l⟩ := cs
  obtain ⟨fuel, hf⟩ := h
  obtain ⟨xs, n, _, hx, _, hlen, hg⟩ := DataW.trod_struct hs hf
  have hll : l.length = 10 := by
    have h1 : l.length = Try.prog.cellsOf 49 := by simpa using hsz
    exact h1.trans (show Try.prog.cellsOf 49 = 10 by kernel_rfl)
  have hx10 : xs.length = 10 := hlen
  obtain ⟨c0, c1, c2, c3, c4, c5, c6, c7, c8, c9, rfl⟩ := list10 hll
  match xs, hx10 with
  | [x0, x1, x2, x3, x4, x5, x6, x7, x8, x9], _ =>
    have hd : d = .agg [x0.1, x1.1, x2.1, x3.1, x4.1, x5.1, x6.1, x7.1, x8.1, x9.1] := (Prod.mk.inj hx).1
    subst hd
    have g0 : DataW.trod enc Try.prog w base spare held n 9 [c0] = some x0 := hg 0 _ rfl
    have g1 : DataW.trod enc Try.prog w base spare held n 43 [c1] = some x1 := hg 1 _ rfl
    have g2 : DataW.trod enc Try.prog w base spare held n 44 [c2] = some x2 := hg 2 _ rfl
    have g3 : DataW.trod enc Try.prog w base spare held n 45 [c3] = some x3 := hg 3 _ rfl
    have g4 : DataW.trod enc Try.prog w base spare held n 3 [c4] = some x4 := hg 4 _ rfl
    have g5 : DataW.trod enc Try.prog w base spare held n 9 [c5] = some x5 := hg 5 _ rfl
    have g6 : DataW.trod enc Try.prog w base spare held n 46 [c6] = some x6 := hg 6 _ rfl
    have g7 : DataW.trod enc Try.prog w base spare held n 47 [c7] = some x7 := hg 7 _ rfl
    have g8 : DataW.trod enc Try.prog w base spare held n 3 [c8] = some x8 := hg 8 _ rfl
    have g9 : DataW.trod enc Try.prog w base spare held n 3 [c9] = some x9 := hg 9 _ rfl
    have l0 : Light Try.prog 9 x0.1 := light_part hs hl (i := 0) rfl rfl
    have l2 : Light Try.prog 44 x2.1 := light_part hs hl (i := 2) rfl rfl
    have l3 : Light Try.prog 45 x3.1 := light_part hs hl (i := 3) rfl rfl
    have l5 : Light Try.prog 9 x5.1 := light_part hs hl (i := 5) rfl rfl
    have l6 : Light Try.prog 46 x6.1 := light_part hs hl (i := 6) rfl rfl
    have l7 : Light Try.prog 47 x7.1 := light_part hs hl (i := 7) rfl rfl
    clear hg hl
    obtain ⟨nm, rfl, b0⟩ := one_text Try.underlying9 g0 l0
    obtain ⟨key, rfl, b1⟩ := one_int Try.underlying43 g1
    obtain ⟨us, hU, b2, d2⟩ := open_uses g2 l2
    obtain ⟨ds, hD, b3, d3⟩ := open_descs g3 l3
    obtain ⟨da, rfl, b4⟩ := one_int Try.underlying3 g4
    obtain ⟨st, rfl, b5⟩ := one_text Try.underlying9 g5 l5
    obtain ⟨co, hC, b6, d6⟩ := row1_of_cells Try.underlying46 Try.underlying43 (by kernel_rfl) g6 l6
    obtain ⟨en, hE, b7, d7⟩ := row1_of_cells Try.underlying47 Try.underlying3 (by kernel_rfl) g7 l7
    obtain ⟨ca, rfl, b8⟩ := one_int Try.underlying3 g8
    obtain ⟨pl, rfl, b9⟩ := one_int Try.underlying3 g9
    rw [by_u32] at d6
    rw [by_int] at d7
    refine ⟨⟨nm, key, us, ds, da, st, co, en, ca, pl⟩, c2, c3, c6, c7, rfl, ⟨hU, hD, hC, hE⟩, ⟨by dsimp only; omega, wf_u32 b1, fun u hu => ?_, fun d hd => ⟨(b3 d hd).1, (b3 d hd).2.1⟩, wf_i64 b4, by dsimp only; omega, fun x hx => wf_u32 (b6 x hx), fun x hx => wf_i64 (b7 x hx), wf_i64 b8, wf_i64 b9⟩, ⟨b0, d2, fun u hu => (b2 u hu).1, d3, fun d hd => (b3 d hd).2.2, b5, d6, d7⟩⟩
    have := b2 u hu
    exact ⟨by omega, this.2⟩
end

end Go.Proofs.Ytceflhffilldeaa
