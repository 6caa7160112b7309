/-
  How runs of the machine end. No program in sight.
-/
import Derived.Test.YtefgajojimkdiaaZLaw
import Derived.Lib.SmallJoins
import Derived.OpenShut
import Derived.Test.YtefgajojimkdiaaProg
import Derived.ProofKit
import Derived.Test.YtefgajojimkdiaaZCpuKit
namespace Go.Proofs.Ytefgajojimkdiaa
set_option linter.unusedVariables false
set_option linter.unusedSimpArgs false
open Go.RowKit Bw

namespace Mc
theorem en_loads (m : Mc) (a at_ : Int) (small : Bool) (h : m.en ≠ 3) : (m.loads a at_ small).en ≠ 3 := by
  unfold Mc.loads
  split
  · split
    · exact h
    · exact h
  split
  · exact h
  split
  · exact h
  · simp
theorem en_stores (m : Mc) (at_ v : Int) (small : Bool) (h : m.en ≠ 3) : (m.stores at_ v small).en ≠ 3 := by
  unfold Mc.stores
  split
  · split
    · simp
    · exact h
  split
  · simp
  split
  · simp
  split
  · exact h
  · simp
theorem en_does (m : Mc) (x : Ins) (h : m.en ≠ 3) : (m.does x).en ≠ 3 := by
  unfold Mc.does
  split
  · unfold Mc.moves
    split
    · exact en_stores _ _ _ _ h
    · exact en_loads _ _ _ _ h
  split
  · unfold Mc.jumps
    split
    · exact h
    · exact h
  · unfold Mc.reckons
    split
    · exact h
    split
    · exact h
    · exact h
theorem en_step (m : Mc) (h : m.en ≠ 3) : m.step.en ≠ 3 := by
  unfold Mc.step
  split
  · simp only
    split
    · exact en_does _ _ h
    · simp
  · simp
theorem en_run (m : Mc) (n : Nat) (h : m.en ≠ 3) : (m.run n).en ≠ 3 := by
  induction n generalizing m with
  | zero => exact h
  | succ n ih =>
    rw [Mc.run]
    split
    · exact ih _ (en_step m h)
    · exact h
end Mc

end Go.Proofs.Ytefgajojimkdiaa

/-
  A struct by value, opened field by field, whatever lies in it.
-/
namespace Go.Proofs.Ytefgajojimkdiaa
set_option linter.unusedVariables false
set_option linter.unusedSimpArgs false
open Go.Joins Go.ChangeShapes Go.WideShapes Go.RowKit Go.Deep
section
variable {H : Type} {enc : TypeId × Value → H} {P : Program} {w : World} {base : Nat} {spare : Nat → Bool} {held : Bool}
/-- The cells of a struct's value, and each field's reading. -/
theorem open_struct {r : Reach} {b0 : Nat} {t : TypeId} {fs : Array Field} {v : Value} {d : DataW H} {p : List MemPlace} {k : Nat} (hs : P.underlying t = some (.struct fs)) (hC : P.cellsOf t = k)
    (hv : Value.okWide P w r b0 t v) (h : DataW.Trod enc P w base spare held t v d p) :
    ∃ (l : List Value) (n : Nat), v = .agg l.toArray ∧ l.length = k ∧ ∀ (i : Nat) (f : Field), fs[i]? = some f → ∃ x, DataW.trod enc P w base spare held n f.type ((l.drop f.offset).take (P.cellsOf f.type)) = some x := by
  obtain ⟨cs, rfl, hsz⟩ := okWide_struct hs hv
  obtain ⟨l⟩ := cs
  obtain ⟨fuel, hf⟩ := h
  obtain ⟨xs, n, _, hx, _, hlen, hg⟩ := DataW.trod_struct hs hf
  refine ⟨l, n, rfl, by simpa using hsz.trans hC, fun i f hi => ?_⟩
  have hlt : i < xs.length := by rw [hlen]; exact (Array.getElem?_eq_some_iff.1 hi).1
  have h1 := hg i f hi
  rw [List.getElem?_eq_getElem hlt] at h1
  exact ⟨_, h1⟩
/-- A struct within a struct. -/
theorem open_inner {t : TypeId} {fs : Array Field} {cs : List Value} {m : Nat} {x : DataW H × List MemPlace} (hs : P.underlying t = some (.struct fs)) (h : DataW.trod enc P w base spare held m t cs = some x) :
    ∃ n : Nat, ∀ (i : Nat) (f : Field), fs[i]? = some f → ∃ x, DataW.trod enc P w base spare held n f.type ((cs.drop f.offset).take (P.cellsOf f.type)) = some x := by
  obtain ⟨xs, n, _, hx, _, hlen, hg⟩ := DataW.trod_struct hs h
  refine ⟨n, fun i f hi => ?_⟩
  have hlt : i < xs.length := by rw [hlen]; exact (Array.getElem?_eq_some_iff.1 hi).1
  have h1 := hg i f hi
  rw [List.getElem?_eq_getElem hlt] at h1
  exact ⟨_, h1⟩
/-- An array's value, element by element. -/
theorem open_array {r : Reach} {b0 : Nat} {t e : TypeId} {n : Nat} {v : Value} {d : DataW H} {p : List MemPlace} {k : Nat} (hs : P.underlying t = some (.array n e)) (hC : P.cellsOf t = k)
    (hv : Value.okWide P w r b0 t v) (h : DataW.Trod enc P w base spare held t v d p) :
    ∃ (l : List Value) (m : Nat), v = .agg l.toArray ∧ l.length = k ∧ ∀ (i : Nat), i < n → ∃ x, DataW.trod enc P w base spare held m e ((l.drop (i * P.cellsOf e)).take (P.cellsOf e)) = some x := by
  simp only [Value.okWide, hs] at hv
  obtain ⟨cs, rfl, hsz, _⟩ := hv
  obtain ⟨l⟩ := cs
  obtain ⟨fuel, hf⟩ := h
  obtain ⟨xs, m, _, hx, _, hlen, hg⟩ := DataW.trod_array hs hf
  refine ⟨l, m, rfl, by simpa using hsz.trans hC, fun i hi => ?_⟩
  have h1 := hg i hi
  rw [List.getElem?_eq_getElem (by omega)] at h1
  exact ⟨_, h1⟩
/-- An array within another value. -/
theorem open_arr {t e : TypeId} {n : Nat} {cs : List Value} {m : Nat} {x : DataW H × List MemPlace} (hs : P.underlying t = some (.array n e)) (h : DataW.trod enc P w base spare held m t cs = some x) :
    ∃ m : Nat, ∀ (i : Nat), i < n → ∃ x, DataW.trod enc P w base spare held m e ((cs.drop (i * P.cellsOf e)).take (P.cellsOf e)) = some x := by
  obtain ⟨xs, m, _, hx, _, hlen, hg⟩ := DataW.trod_array hs h
  refine ⟨m, fun i hi => ?_⟩
  have h1 := hg i hi
  rw [List.getElem?_eq_getElem (by omega)] at h1
  exact ⟨_, h1⟩
theorem list2 {l : List Value} (h : l.length = 2) : ∃ x0 x1, l = [x0, x1] := by
  match l, h with
  | [x0, x1], _ => exact ⟨x0, x1, rfl⟩
theorem list3 {l : List Value} (h : l.length = 3) : ∃ x0 x1 x2, l = [x0, x1, x2] := by
  match l, h with
  | [x0, x1, x2], _ => exact ⟨x0, x1, x2, rfl⟩
theorem list4 {l : List Value} (h : l.length = 4) : ∃ x0 x1 x2 x3, l = [x0, x1, x2, x3] := by
  match l, h with
  | [x0, x1, x2, x3], _ => exact ⟨x0, x1, x2, x3, rfl⟩
theorem list5 {l : List Value} (h : l.length = 5) : ∃ x0 x1 x2 x3 x4, l = [x0, x1, x2, x3, x4] := by
  match l, h with
  | [x0, x1, x2, x3, x4], _ => exact ⟨x0, x1, x2, x3, x4, rfl⟩
theorem list6 {l : List Value} (h : l.length = 6) : ∃ x0 x1 x2 x3 x4 x5, l = [x0, x1, x2, x3, x4, x5] := by
  match l, h with
  | [x0, x1, x2, x3, x4, x5], _ => exact ⟨x0, x1, x2, x3, x4, x5, rfl⟩
theorem list7 {l : List Value} (h : l.length = 7) : ∃ x0 x1 x2 x3 x4 x5 x6, l = [x0, x1, x2, x3, x4, x5, x6] := by
  match l, h with
  | [x0, x1, x2, x3, x4, x5, x6], _ => exact ⟨x0, x1, x2, x3, x4, x5, x6, rfl⟩
theorem list8 {l : List Value} (h : l.length = 8) : ∃ x0 x1 x2 x3 x4 x5 x6 x7, l = [x0, x1, x2, x3, x4, x5, x6, x7] := by
  match l, h with
  | [x0, x1, x2, x3, x4, x5, x6, x7], _ => exact ⟨x0, x1, x2, x3, x4, x5, x6, x7, rfl⟩
theorem list9 {l : List Value} (h : l.length = 9) : ∃ x0 x1 x2 x3 x4 x5 x6 x7 x8, l = [x0, x1, x2, x3, x4, x5, x6, x7, x8] := by
  match l, h with
  | [x0, x1, x2, x3, x4, x5, x6, x7, x8], _ => exact ⟨x0, x1, x2, x3, x4, x5, x6, x7, x8, rfl⟩
theorem list10 {l : List Value} (h : l.length = 10) : ∃ x0 x1 x2 x3 x4 x5 x6 x7 x8 x9, l = [x0, x1, x2, x3, x4, x5, x6, x7, x8, x9] := by
  match l, h with
  | [x0, x1, x2, x3, x4, x5, x6, x7, x8, x9], _ => exact ⟨x0, x1, x2, x3, x4, x5, x6, x7, x8, x9, rfl⟩
theorem list11 {l : List Value} (h : l.length = 11) : ∃ x0 x1 x2 x3 x4 x5 x6 x7 x8 x9 x10, l = [x0, x1, x2, x3, x4, x5, x6, x7, x8, x9, x10] := by
  match l, h with
  | [x0, x1, x2, x3, x4, x5, x6, x7, x8, x9, x10], _ => exact ⟨x0, x1, x2, x3, x4, x5, x6, x7, x8, x9, x10, rfl⟩
theorem list12 {l : List Value} (h : l.length = 12) : ∃ x0 x1 x2 x3 x4 x5 x6 x7 x8 x9 x10 x11, l = [x0, x1, x2, x3, x4, x5, x6, x7, x8, x9, x10, x11] := by
  match l, h with
  | [x0, x1, x2, x3, x4, x5, x6, x7, x8, x9, x10, x11], _ => exact ⟨x0, x1, x2, x3, x4, x5, x6, x7, x8, x9, x10, x11, rfl⟩
theorem list13 {l : List Value} (h : l.length = 13) : ∃ x0 x1 x2 x3 x4 x5 x6 x7 x8 x9 x10 x11 x12, l = [x0, x1, x2, x3, x4, x5, x6, x7, x8, x9, x10, x11, x12] := by
  match l, h with
  | [x0, x1, x2, x3, x4, x5, x6, x7, x8, x9, x10, x11, x12], _ => exact ⟨x0, x1, x2, x3, x4, x5, x6, x7, x8, x9, x10, x11, x12, rfl⟩
theorem list14 {l : List Value} (h : l.length = 14) : ∃ x0 x1 x2 x3 x4 x5 x6 x7 x8 x9 x10 x11 x12 x13, l = [x0, x1, x2, x3, x4, x5, x6, x7, x8, x9, x10, x11, x12, x13] := by
  match l, h with
  | [x0, x1, x2, x3, x4, x5, x6, x7, x8, x9, x10, x11, x12, x13], _ => exact ⟨x0, x1, x2, x3, x4, x5, x6, x7, x8, x9, x10, x11, x12, x13, rfl⟩
theorem list15 {l : List Value} (h : l.length = 15) : ∃ x0 x1 x2 x3 x4 x5 x6 x7 x8 x9 x10 x11 x12 x13 x14, l = [x0, x1, x2, x3, x4, x5, x6, x7, x8, x9, x10, x11, x12, x13, x14] := by
  match l, h with
  | [x0, x1, x2, x3, x4, x5, x6, x7, x8, x9, x10, x11, x12, x13, x14], _ => exact ⟨x0, x1, x2, x3, x4, x5, x6, x7, x8, x9, x10, x11, x12, x13, x14, rfl⟩
theorem list16 {l : List Value} (h : l.length = 16) : ∃ x0 x1 x2 x3 x4 x5 x6 x7 x8 x9 x10 x11 x12 x13 x14 x15, l = [x0, x1, x2, x3, x4, x5, x6, x7, x8, x9, x10, x11, x12, x13, x14, x15] := by
  match l, h with
  | [x0, x1, x2, x3, x4, x5, x6, x7, x8, x9, x10, x11, x12, x13, x14, x15], _ => exact ⟨x0, x1, x2, x3, x4, x5, x6, x7, x8, x9, x10, x11, x12, x13, x14, x15, rfl⟩
end

end Go.Proofs.Ytefgajojimkdiaa

/-
  An image by value: its words, its start, its modules' places.
-/
namespace Go.Proofs.Ytefgajojimkdiaa
set_option linter.unusedVariables false
set_option linter.unusedSimpArgs false
set_option maxRecDepth 100000
open Go.Joins Go.ChangeShapes Go.WideShapes Go.RowKit Go.Deep

theorem mapM_at {α β : Type} {g : α → Option β} : ∀ (l : List α) (cs : List β), l.mapM g = some cs → ∀ j (hj : j < l.length), g l[j] = cs[j]?
  | [], cs, h, j, hj => absurd hj (by simp)
  | a :: l, cs, h, j, hj => by
    rw [List.mapM_cons] at h
    cases ha : g a with
    | none => rw [ha] at h; cases h
    | some b =>
      rw [ha] at h
      cases hl : l.mapM g with
      | none => rw [hl] at h; cases h
      | some bs =>
        rw [hl] at h
        injection h with h
        subst h
        cases j with
        | zero => simpa using ha
        | succ j =>
          have := mapM_at l bs hl j (by simpa using hj)
          simpa using this
/-- A module's places: where its descriptors and its code are. -/
def MRow (w : World) (v : Value) (n : Nat) (D C : Nat → Int) : Prop :=
  n ≤ 9223372036854775807 ∧ ∃ A c, v = .slice A n c ∧ ∀ i, i < n → ∃ ad, A = some ad ∧ ad.block < w.heap.size ∧ w.cell? ((ad.add (i * 6)).add 2) = some (.int .i64 (D i)) ∧ w.cell? ((ad.add (i * 6)).add 5) = some (.int .i64 (C i))
theorem MRow.below {w w' : World} {v : Value} {n : Nat} {D C : Nat → Int} (h : MRow w v n D C) (hb : Below w.heap.size w w') : MRow w' v n D C := by
  obtain ⟨hm, A, c, rfl, hc⟩ := h
  refine ⟨hm, A, c, rfl, fun i hi => ?_⟩
  obtain ⟨ad, rfl, hl, h1, h2⟩ := hc i hi
  exact ⟨ad, rfl, Nat.lt_of_lt_of_le hl hb.size, (hb.cell (p := (ad.add (i * 6)).add 2) (by rw [block_add, block_add]; exact hl)).trans h1, (hb.cell (p := (ad.add (i * 6)).add 5) (by rw [block_add, block_add]; exact hl)).trans h2⟩

section
variable {H : Type} {enc : TypeId × Value → H} {w : World} {base : Nat} {spare : Nat → Bool} {held : Bool}
theorem mrow_of_cells {fuel : Nat} {v : Value} {x : DataW H × List MemPlace} (h : DataW.trod enc Try.prog w base spare held fuel 66 [v] = some x) :
    ∃ n D C, MRow w v n D C ∧ ∀ i, i < n → (-9223372036854775808 ≤ D i ∧ D i ≤ 9223372036854775807) ∧ (-9223372036854775808 ≤ C i ∧ C i ≤ 9223372036854775807) := by
  rcases Go.Deep.open_slice Try.underlying66 h with ⟨hcs, -⟩ | ⟨a', len, cap, m, n, D, Pl, hcs, hb, hl, hm, hmm, hx, hel⟩
  · injection hcs with hcs _
    subst hcs
    exact ⟨0, fun _ => 0, fun _ => 0, ⟨by decide, none, 0, rfl, fun i hi => absurd hi (by omega)⟩, fun i hi => absurd hi (by omega)⟩
  · injection hcs with hcs _
    subst hcs
    have hC : Try.prog.cellsOf 101 = 6 := by kernel_rfl
    have h1 : Try.prog.cellsOf 3 = 1 := by kernel_rfl
    have hle : len ≤ m := by rw [hmm]; split <;> omega
    have key : ∀ i j, i < len → j = 2 ∨ j = 5 → ∃ x : Int, w.cell? ((a'.add (i * 6)).add j) = some (.int .i64 x) ∧ -9223372036854775808 ≤ x ∧ x ≤ 9223372036854775807 := by
      intro i j hi hj
      obtain ⟨cs', hc, htr⟩ := hel i (by omega)
      rw [hC] at hc
      obtain ⟨xs, n', _, _, hlen, hxl, hg⟩ := DataW.trod_struct Try.underlying101 htr
      have hj6 : j < 6 := by omega
      have hgj : DataW.trod enc Try.prog w base spare held n' 3 ((cs'.drop j).take 1) = xs[j]? := by
        rcases hj with rfl | rfl
        · exact hg 2 _ rfl
        · exact hg 5 _ rfl
      unfold World.cells? at hc
      split at hc
      · have hmg := mapM_at _ _ hc j (by simpa using hj6)
        rw [List.getElem_range] at hmg
        have hjl : j < cs'.length := by rw [hlen, hC]; exact hj6
        rw [show (cs'.drop j).take 1 = [cs'[j]] by rw [List.drop_eq_getElem_cons hjl]; rfl] at hgj
        cases hxs : xs[j]? with
        | none =>
          rw [List.getElem?_eq_none_iff, hxl] at hxs
          exfalso
          have h6 : (#[(), (), (), (), (), ()] : Array Unit).size = 6 := rfl
          simp only [List.size_toArray, List.length_cons, List.length_nil] at hxs
          omega
        | some x =>
          rw [hxs] at hgj
          obtain ⟨y, hy, -, hw⟩ := DataW.trod_int Try.underlying3 hgj
          simp at hy
          have hb := bounds_i64 hw
          refine ⟨y, ?_, hb.1, hb.2⟩
          rw [hmg, List.getElem?_eq_getElem hjl, hy]
      · cases hc
    refine ⟨len, fun i => match w.cell? ((a'.add (i * 6)).add 2) with | some (.int _ x) => x | _ => 0, fun i => match w.cell? ((a'.add (i * 6)).add 5) with | some (.int _ x) => x | _ => 0,
      ⟨by unfold maxLen at hm; omega, some a', cap, rfl, fun i hi => ⟨a', rfl, ?_, ?_, ?_⟩⟩, fun i hi => ?_⟩
    · obtain ⟨x, hx, _⟩ := key i 2 hi (Or.inl rfl)
      have := block_lt_of_cell hx
      rwa [block_add, block_add] at this
    · obtain ⟨x, hx, _⟩ := key i 2 hi (Or.inl rfl)
      simp only [hx]
    · obtain ⟨x, hx, _⟩ := key i 5 hi (Or.inr rfl)
      simp only [hx]
    · obtain ⟨x, hx, hw⟩ := key i 2 hi (Or.inl rfl)
      obtain ⟨y, hy, hw'⟩ := key i 5 hi (Or.inr rfl)
      simp only [hx, hy]
      exact ⟨hw, hw'⟩

theorem open_image {r : Reach} {b0 : Nat} {v : Value} {d : DataW H} {p : List MemPlace} (hv : Value.okWide Try.prog w r b0 68 v) (h : DataW.Trod enc Try.prog w base spare held 68 v d p) :
    ∃ vW st vM z n D C, v = .agg #[vW, .int .i64 st, vM] ∧ Row .u32 w vW z ∧ (∀ x ∈ z, (Lit.int .u32 x).wf = true) ∧ (-9223372036854775808 ≤ st ∧ st ≤ 9223372036854775807) ∧ MRow w vM n D C ∧
      ∀ i, i < n → (-9223372036854775808 ≤ D i ∧ D i ≤ 9223372036854775807) ∧ (-9223372036854775808 ≤ C i ∧ C i ≤ 9223372036854775807) := by
  obtain ⟨l, m, rfl, hl, hg⟩ := open_struct Try.underlying68 (show Try.prog.cellsOf 68 = 3 by kernel_rfl) hv h
  obtain ⟨c0, c1, c2, rfl⟩ := list3 hl
  obtain ⟨x0, h0⟩ := hg 0 _ rfl
  obtain ⟨x1, h1⟩ := hg 1 _ rfl
  obtain ⟨x2, h2⟩ := hg 2 _ rfl
  have h0 : DataW.trod enc Try.prog w base spare held m 32 [c0] = some x0 := h0
  have h1 : DataW.trod enc Try.prog w base spare held m 3 [c1] = some x1 := h1
  have h2 : DataW.trod enc Try.prog w base spare held m 66 [c2] = some x2 := h2
  obtain ⟨z, hz, hw⟩ := row_of_cells Try.underlying32 Try.underlying43 (by kernel_rfl) h0
  obtain ⟨st, e1, -, hst⟩ := DataW.trod_int Try.underlying3 h1
  obtain ⟨n, D, C, hM, hb⟩ := mrow_of_cells h2
  simp at e1
  subst e1
  exact ⟨c0, st, c2, z, n, D, C, rfl, hz, hw, bounds_i64 hst, hM, hb⟩
end

end Go.Proofs.Ytefgajojimkdiaa

/-
  Runs of images, walked.
-/
namespace Go.Proofs.Ytefgajojimkdiaa
set_option linter.unusedVariables false
set_option linter.unusedSimpArgs false
open Go.RowKit Bw

theorem Ran.below {N : Nat} {w w' : World} {p mp ap : Nat} {ov : Value} {m' : Mc} (h : Ran N w p mp ap ov m' w') : Below N w w' := by
  obtain ⟨ov', _, _, h3, _⟩ := h
  exact h3

set_option maxRecDepth 100000 in
set_option maxHeartbeats 2000000 in
theorem run_run (n : Nat) (l : List Int) (st : Int) (s : ByteArray) (vW vM : Value) (w : World) (h : Row .u32 w vW l) (hu : ∀ x ∈ l, Mc.W32 x) (h0 : Mc.noStart l st s = 0) (hn : (n : Int) ≤ 4194304) :
    Calls Try.prog 32 #[.agg #[vW, .int .i64 st, vM], .string s, .int .i64 n] w fun e w' => e = .returned (.tuple #[((Mc.start l st s).run n).oc ((Mc.start l st s).steps n), .int .i64 0]) ∧ Below w.heap.size w w' := by
  obtain ⟨hl, hs, hs0, hs1⟩ := cpu_start_any l st s h0
  have B1 : Below w.heap.size w (w.alloc (.cells #[vW, .int .i64 st, vM] 68)) := (Below.refl _ _).alloc (Nat.le_refl _) _
  have B2 := B1.alloc B1.size (.cells #[.int .i64 0, .int .i64 0, .string ⟨#[]⟩, .int .i64 0, .int .i64 0] 28)
  have h' := Lib.hid (h.below B2)
  have BO := Lib.hid (Blk.new (w.alloc (.cells #[vW, .int .i64 st, vM] 68)) 28 #[.int .i64 0, .int .i64 0, .string ⟨#[]⟩, .int .i64 0, .int .i64 0])
  have CN := fun W hW => Lib.hid (cpu_new l st s vW W hW hu hl hs hs0 hs1)
  have sz : (w.alloc (.cells #[vW, .int .i64 st, vM] 68)).heap.size = w.heap.size + 1 := by simp
  rw [sz] at BO
  have hgB : w.heap.size + 1 < ((w.alloc (.cells #[vW, .int .i64 st, vM] 68)).alloc (.cells #[.int .i64 0, .int .i64 0, .string ⟨#[]⟩, .int .i64 0, .int .i64 0] 28)).heap.size := by simp
  have hgB := Lib.hid hgB
  have hB2 := Lib.hid B2
  clear hu h0 B1 B2 sz
  go_enter Try.func32, Try.ntmps32
  go_wp2_with fail
  generalize hW : (w.alloc (.cells #[vW, .int .i64 st, vM] 68)).alloc (.cells #[.int .i64 0, .int .i64 0, .string ⟨#[]⟩, .int .i64 0, .int .i64 0] 28) = W at *
  clear hW
  refine (CN W h'.out).out.mono ?_
  rintro e w2 ⟨p, mp, ap, rfl, hp, hmp, hap, hM, hb⟩
  have BO2 := Lib.hid (BO.out.below hb hgB.out)
  have B3 := Lib.hid (hB2.out.trans (hb.mono hB2.out.size))
  have RU := Lib.hid (cpu_run_n W.heap.size n p mp ap _ _ w2 hM hn hb.size hp hap (own_nil _))
  have hM := Lib.hid hM
  have hbs := Lib.hid hb.size
  clear hp hmp hap hb CN
  go_wp2_with fail
  refine RU.out.mono ?_
  rintro e w3 ⟨rfl, hran⟩
  rw [oc_form]
  have BO3 := BO2.out.below hran.below hgB.out
  have b0 := BO3.cell 0
  have b1 := BO3.cell 1
  have b2 := BO3.cell 2
  have b3 := BO3.cell 3
  have b4 := BO3.cell 4
  simp only [List.getElem?_toArray, List.getElem?_cons_zero, List.getElem?_cons_succ] at b0 b1 b2 b3 b4
  have g0 := BO3.frozen 0
  have g1 := BO3.frozen 1
  have g2 := BO3.frozen 2
  have g3 := BO3.frozen 3
  have g4 := BO3.frozen 4
  have hz := BO3.lt
  have B4 := Lib.hid (B3.out.trans (hran.below.mono hB2.out.size))
  clear BO3 hran BO2 BO
  go_wp2_with fail
  refine bodyPost_ret (by simp only [results, Try.results32]; go_simp; rfl) rfl ⟨?_, ?_⟩
  · rw [oc_form]
  · exact (((((B4.out.setCell (p := ⟨w.heap.size + 1, 0, none⟩) (by simp) _).setCell (p := ⟨w.heap.size + 1, 1, none⟩) (by simp) _).setCell (p := ⟨w.heap.size + 1, 2, none⟩) (by simp) _).setCell (p := ⟨w.heap.size + 1, 3, none⟩) (by simp) _).setCell (p := ⟨w.heap.size + 1, 4, none⟩) (by simp) _)

set_option maxRecDepth 100000 in
set_option maxHeartbeats 2000000 in
theorem run_run_none (n : Int) (l : List Int) (st : Int) (s : ByteArray) (vW vM : Value) (w : World) (h : Row .u32 w vW l) (h0 : Mc.noStart l st s ≠ 0) (hs : s.size ≤ 9223372036854775807) :
    Calls Try.prog 32 #[.agg #[vW, .int .i64 st, vM], .string s, .int .i64 n] w fun e w' => e = .returned (.tuple #[.agg #[.int .i64 0, .int .i64 0, .string ⟨#[]⟩, .int .i64 0, .int .i64 0], .int .i64 (Mc.noStart l st s)]) ∧ Below w.heap.size w w' := by
  have B1 : Below w.heap.size w (w.alloc (.cells #[vW, .int .i64 st, vM] 68)) := (Below.refl _ _).alloc (Nat.le_refl _) _
  have B2 := B1.alloc B1.size (.cells #[.int .i64 0, .int .i64 0, .string ⟨#[]⟩, .int .i64 0, .int .i64 0] 28)
  have h' := Lib.hid (h.below B2)
  have BO := Lib.hid (Blk.new (w.alloc (.cells #[vW, .int .i64 st, vM] 68)) 28 #[.int .i64 0, .int .i64 0, .string ⟨#[]⟩, .int .i64 0, .int .i64 0])
  have CN := fun W hW => Lib.hid (cpu_new_none l st s vW W hW h0 hs)
  have sz : (w.alloc (.cells #[vW, .int .i64 st, vM] 68)).heap.size = w.heap.size + 1 := by simp
  rw [sz] at BO
  have hgB : w.heap.size + 1 < ((w.alloc (.cells #[vW, .int .i64 st, vM] 68)).alloc (.cells #[.int .i64 0, .int .i64 0, .string ⟨#[]⟩, .int .i64 0, .int .i64 0] 28)).heap.size := by simp
  have hgB := Lib.hid hgB
  have hB2 := Lib.hid B2
  clear B1 B2 sz
  generalize Mc.noStart l st s = er at *
  have h0' : (er == 0) = false := by rw [beq_eq_false_iff_ne]; exact h0
  go_enter Try.func32, Try.ntmps32
  go_wp2_with fail
  generalize hW : (w.alloc (.cells #[vW, .int .i64 st, vM] 68)).alloc (.cells #[.int .i64 0, .int .i64 0, .string ⟨#[]⟩, .int .i64 0, .int .i64 0] 28) = W at *
  clear hW
  refine (CN W h'.out).out.mono ?_
  rintro e w2 ⟨rfl, hb⟩
  have BO3 := BO.out.below hb hgB.out
  have b0 := BO3.cell 0
  have b1 := BO3.cell 1
  have b2 := BO3.cell 2
  have b3 := BO3.cell 3
  have b4 := BO3.cell 4
  simp only [List.getElem?_toArray, List.getElem?_cons_zero, List.getElem?_cons_succ] at b0 b1 b2 b3 b4
  have g0 := BO3.frozen 0
  have g1 := BO3.frozen 1
  have g2 := BO3.frozen 2
  have g3 := BO3.frozen 3
  have g4 := BO3.frozen 4
  have hz := BO3.lt
  have B4 := Lib.hid (hB2.out.trans (hb.mono hB2.out.size))
  clear BO3 BO CN hb
  go_wp2_with fail
  refine bodyPost_ret (by simp only [results, Try.results32]; go_simp) rfl ⟨rfl, ?_⟩
  exact (((((B4.out.setCell (p := ⟨w.heap.size + 1, 0, none⟩) (by simp) _).setCell (p := ⟨w.heap.size + 1, 1, none⟩) (by simp) _).setCell (p := ⟨w.heap.size + 1, 2, none⟩) (by simp) _).setCell (p := ⟨w.heap.size + 1, 3, none⟩) (by simp) _).setCell (p := ⟨w.heap.size + 1, 4, none⟩) (by simp) _)

def bigImage (l n : Nat) : Bool := decide (4096 < l ∧ l ≤ 65536 ∨ 70000 < l ∨ 100 < n)
set_option maxRecDepth 100000 in
set_option maxHeartbeats 2000000 in
theorem law27_large (l : List Int) (n : Nat) (D C : Nat → Int) (st : Int) (vW vM : Value) (w : World) (h : Row .u32 w vW l) (hM : MRow w vM n D C) :
    Calls Try.prog 30 #[.agg #[vW, .int .i64 st, vM]] w fun e w' => e = .returned (.bool (bigImage l.length n)) ∧ Below w.heap.size w w' := by
  unfold bigImage
  have B1 : Below w.heap.size w (w.alloc (.cells #[vW, .int .i64 st, vM] 68)) := (Below.refl _ _).alloc (Nat.le_refl _) _
  obtain ⟨hm, A, c, rfl, hc⟩ := h
  obtain ⟨hm2, A2, c2, rfl, hc2⟩ := hM
  clear hc hc2
  by_cases h4 : (100 : Int) < n
  · by_cases h1 : (4096 : Int) < l.length
    · by_cases h2 : (l.length : Int) ≤ 65536
      · go_enter Try.func30, Try.ntmps30
        go_wp2_with fail
        go_ret
        exact ⟨by simp; omega, B1⟩
      · by_cases h3 : (70000 : Int) < l.length
        · go_enter Try.func30, Try.ntmps30
          go_wp2_with fail
          go_ret
          exact ⟨by simp; omega, B1⟩
        · go_enter Try.func30, Try.ntmps30
          go_wp2_with fail
          go_ret
          exact ⟨by simp; omega, B1⟩
    · have h3 : ¬ (70000 : Int) < l.length := by omega
      go_enter Try.func30, Try.ntmps30
      go_wp2_with fail
      go_ret
      exact ⟨by simp; omega, B1⟩
  · by_cases h1 : (4096 : Int) < l.length
    · by_cases h2 : (l.length : Int) ≤ 65536
      · go_enter Try.func30, Try.ntmps30
        go_wp2_with fail
        go_ret
        exact ⟨by simp; omega, B1⟩
      · by_cases h3 : (70000 : Int) < l.length
        · go_enter Try.func30, Try.ntmps30
          go_wp2_with fail
          go_ret
          exact ⟨by simp; omega, B1⟩
        · go_enter Try.func30, Try.ntmps30
          go_wp2_with fail
          go_ret
          exact ⟨by simp; omega, B1⟩
    · have h3 : ¬ (70000 : Int) < l.length := by omega
      go_enter Try.func30, Try.ntmps30
      go_wp2_with fail
      go_ret
      exact ⟨by simp; omega, B1⟩

set_option maxRecDepth 100000 in
set_option maxHeartbeats 2000000 in
theorem law27_wakes (w : World) : Calls Try.prog 31 #[] w fun e w' => e = .returned (.bool true) ∧ Below w.heap.size w w' := by
  go_enter Try.func31, Try.ntmps31
  go_wp2_with fail
  refine (law05_halt 66 w (by decide) (by decide)).mono ?_
  rintro e w1 ⟨v, rfl, ho, hb1⟩
  have hb1 := Lib.hid hb1
  obtain ⟨L, hL⟩ : ∃ L, (haltIns 66).map Ins.E = L := ⟨_, rfl⟩
  rw [hL] at ho
  have hr := Lib.hid (row_of_own ho)
  clear ho
  obtain ⟨hm, A, c, rfl, hc⟩ := hr.out
  clear hc
  have hW := Lib.hid (halt_words 66 (Or.inr rfl))
  have hN : RowKit.Hid (Mc.noStart L 0 ⟨#[]⟩ = 0) := Lib.hid (by rw [← hL]; decide)
  have hoc := Lib.hid oc_66
  rw [hL] at hW hoc
  have hL := Lib.hid hL
  go_wp2_with fail
  refine (run_run 100 L 0 ⟨#[]⟩ _ (.slice none 0 0) w1 hr.out hW.out hN.out (by decide)).mono ?_
  rintro e w2 ⟨rfl, hb2⟩
  rw [hoc.out]
  have BK := Lib.hid (Blk.new w2 28 #[.int .i64 1, .int .i64 0, .string ⟨#[66]⟩, .int .i64 5, .int .i64 0])
  have hg : w2.heap.size < (w2.alloc (.cells #[.int .i64 1, .int .i64 0, .string ⟨#[66]⟩, .int .i64 5, .int .i64 0] 28)).heap.size := by simp
  have hg := Lib.hid hg
  have B2 := hb1.out.trans (hb2.mono hb1.out.size)
  have B3 := Lib.hid (B2.alloc B2.size (.cells #[.int .i64 1, .int .i64 0, .string ⟨#[66]⟩, .int .i64 5, .int .i64 0] 28))
  clear hb2 hr hb1 B2
  go_wp2_with fail
  generalize hW : w2.alloc (.cells #[.int .i64 1, .int .i64 0, .string ⟨#[66]⟩, .int .i64 5, .int .i64 0] 28) = W at *
  clear hW
  refine (run_run 1 [] 0 ⟨#[]⟩ (.slice none 0 0) (.slice none 0 0) W Row.nil_ (by simp) (by decide) (by decide)).mono ?_
  rintro e w3 ⟨rfl, hb3⟩
  rw [oc_none]
  have BK3 := BK.out.below hb3 hg.out
  have b0 := BK3.cell 0
  have b2 := BK3.cell 2
  simp only [List.getElem?_toArray, List.getElem?_cons_zero, List.getElem?_cons_succ] at b0 b2
  have hz := BK3.lt
  have B4 := B3.out.trans (hb3.mono B3.out.size)
  have B5 := Lib.hid (B4.alloc B4.size (.cells #[.int .i64 5, .int .i64 0, .string ⟨#[]⟩, .int .i64 1, .int .i64 0] 28))
  clear BK3 hb3 B4 BK
  go_wp2_with fail
  go_ret
  exact ⟨rfl, B5.out⟩

end Go.Proofs.Ytefgajojimkdiaa

/-
  The statement RunFuel: its walk, out of the contracts. (Printed by gen_runfuel.py.)
-/
namespace Go.Proofs.Ytefgajojimkdiaa
set_option linter.unusedVariables false
set_option linter.unusedSimpArgs false
open Go.RowKit Bw

set_option maxRecDepth 100000 in
set_option maxHeartbeats 1000000 in
theorem ref05_same (a0 a1 a3 a4 : Int) (s : ByteArray) (w : World) :
    Calls Try.prog 27 #[.agg #[.int .i64 a0, .int .i64 a1, .string s, .int .i64 a3, .int .i64 a4], .agg #[.int .i64 a0, .int .i64 a1, .string s, .int .i64 a3, .int .i64 a4]] w fun e w' => e = .returned (.bool true) ∧ Below w.heap.size w w' := by
  have B1 := (Below.refl w.heap.size w).alloc (Nat.le_refl _) (.cells #[.int .i64 a0, .int .i64 a1, .string s, .int .i64 a3, .int .i64 a4] 28)
  have B2 := B1.alloc B1.size (.cells #[.int .i64 a0, .int .i64 a1, .string s, .int .i64 a3, .int .i64 a4] 28)
  have B2 := Lib.hid B2
  clear B1
  go_enter Try.func27, Try.ntmps27
  go_wp2_with fail
  go_ret
  exact ⟨rfl, B2.out⟩

theorem fuel_law (X0 : Mc) (h3 : X0.en ≠ 3) (A B : Nat) (hAB : A ≤ B) : ((X0.run A).endv ≠ 3 → X0.run B = X0.run A ∧ X0.steps B = X0.steps A) ∧ ((X0.run A).endv = 3 → X0.steps A = A ∧ A ≤ X0.steps B) ∧ X0.steps B ≤ B ∧ Mc.Goes (X0.run A) (X0.run B) := by
  obtain ⟨d, rfl⟩ := Nat.le.dest hAB
  have e := Mc.run_add X0 A d
  have h5 := Mc.en_run X0 A h3
  refine ⟨fun h => ?_, fun h => ?_, Mc.steps_le X0 _, by rw [e.1]; exact Mc.goes_run _ _⟩
  · exact run_stop X0 A (A + d) hAB fun h0 => h (by rw [Mc.endv, if_pos h0])
  · have h0 : (X0.run A).en = 0 := by
      unfold Mc.endv at h
      split at h
      · assumption
      · exact absurd h h5
    have h6 := Mc.steps_on X0 A h0
    exact ⟨h6, by rw [e.2, h6]; omega⟩

set_option maxRecDepth 100000 in
set_option maxHeartbeats 8000000 in
theorem law27_fuel (a b : Int) (l : List Int) (st : Int) (n : Nat) (D C : Nat → Int) (s : ByteArray) (vW vM : Value) (w : World) (h : Row .u32 w vW l) (hM : MRow w vM n D C) (hu : ∀ x ∈ l, Mc.W32 x) (hs : s.size ≤ 9223372036854775807)
    (a0 : -9223372036854775808 ≤ a) (a1 : a ≤ 9223372036854775807) (b0 : -9223372036854775808 ≤ b) (b1 : b ≤ 9223372036854775807) :
    Calls Try.prog 12 #[.agg #[vW, .int .i64 st, vM], .string s, .agg #[.int .i64 a, .int .i64 b]] w fun e w' => e = .returned (.bool true) ∧ Below w.heap.size w w' := by
  have LG := fun W hW hM => Lib.hid (law27_large l n D C st vW vM W hW hM)
  have B0 : Below w.heap.size w ((w.alloc (.cells #[vW, .int .i64 st, vM] 68)).alloc (.cells #[.int .i64 a, .int .i64 b] 33)) := ((Below.refl _ _).alloc (Nat.le_refl _) _).alloc (by simp) _
  have R0 := Lib.hid (And.intro h (h.below B0.drew))
  have M0 := Lib.hid (And.intro hM (hM.below B0.drew))
  have I0 : Blk ((w.alloc (.cells #[vW, .int .i64 st, vM] 68)).alloc (.cells #[.int .i64 a, .int .i64 b] 33)) w.heap.size 68 #[vW, .int .i64 st, vM] := (Blk.new w 68 _).alloc _
  have c0 := I0.cell 0
  have c1 := I0.cell 1
  have c2 := I0.cell 2
  simp only [List.getElem?_toArray, List.getElem?_cons_zero, List.getElem?_cons_succ] at c0 c1 c2
  have J0 : Blk ((w.alloc (.cells #[vW, .int .i64 st, vM] 68)).alloc (.cells #[.int .i64 a, .int .i64 b] 33)) (w.heap.size + 1) 33 #[.int .i64 a, .int .i64 b] := by
    have := Blk.new (w.alloc (.cells #[vW, .int .i64 st, vM] 68)) 33 #[.int .i64 a, .int .i64 b]
    rwa [show (w.alloc (.cells #[vW, .int .i64 st, vM] 68)).heap.size = w.heap.size + 1 by simp] at this
  have d0 := J0.cell 0
  have d1 := J0.cell 1
  simp only [List.getElem?_toArray, List.getElem?_cons_zero, List.getElem?_cons_succ] at d0 d1
  have I0 := Lib.hid I0
  have B0 := Lib.hid B0
  have hu := Lib.hid hu
  clear J0 h hM
  by_cases hL : bigImage l.length n = true
  · rw [hL] at LG
    go_enter Try.func12, Try.ntmps12
    go_wp2_with fail
    generalize hW : (w.alloc (.cells #[vW, .int .i64 st, vM] 68)).alloc (.cells #[.int .i64 a, .int .i64 b] 33) = W at *
    clear hW
    (refine region_drew 5 (by kernel_rfl) (by kernel_rfl) ?_; simp only [List.take_succ_cons, List.take_zero, List.drop_succ_cons, List.drop_zero]; (repeat still_step))
    refine wpStill_nil ?_
    go_wp2_with (first | (go_at_call 30; refine (LG _ R0.out.2 M0.out.2).out.mono ?_; rintro e w1 ⟨rfl, hb1⟩))
    have B1 := Lib.hid (B0.out.drew.trans (hb1.mono B0.out.size))
    go_wp2_with (go_at_call 31; refine (law27_wakes _).mono ?_; rintro e w9 ⟨rfl, hb9⟩)
    go_ret
    exact ⟨rfl, B1.out.trans (hb9.mono B1.out.size)⟩
  have hL := Bool.eq_false_iff.2 hL
  rw [hL] at LG
  have hl2 : RowKit.Hid (l.length ≤ 1000000) := Lib.hid (by
    have := of_decide_eq_false hL
    omega)
  clear hL
  by_cases hs4 : (4000 : Int) < s.size
  · go_enter Try.func12, Try.ntmps12
    go_wp2_with fail
    generalize hW : (w.alloc (.cells #[vW, .int .i64 st, vM] 68)).alloc (.cells #[.int .i64 a, .int .i64 b] 33) = W at *
    clear hW
    (refine region_drew 5 (by kernel_rfl) (by kernel_rfl) ?_; simp only [List.take_succ_cons, List.take_zero, List.drop_succ_cons, List.drop_zero]; (repeat still_step))
    refine wpStill_nil ?_
    go_wp2_with (first | (go_at_call 30; refine (LG _ R0.out.2 M0.out.2).out.mono ?_; rintro e w1 ⟨rfl, hb1⟩))
    have B1 := Lib.hid (B0.out.drew.trans (hb1.mono B0.out.size))
    go_wp2_with (go_at_call 31; refine (law27_wakes _).mono ?_; rintro e w9 ⟨rfl, hb9⟩)
    go_ret
    exact ⟨rfl, B1.out.trans (hb9.mono B1.out.size)⟩
  by_cases ha0 : a < 0
  · go_enter Try.func12, Try.ntmps12
    go_wp2_with fail
    generalize hW : (w.alloc (.cells #[vW, .int .i64 st, vM] 68)).alloc (.cells #[.int .i64 a, .int .i64 b] 33) = W at *
    clear hW
    (refine region_drew 5 (by kernel_rfl) (by kernel_rfl) ?_; simp only [List.take_succ_cons, List.take_zero, List.drop_succ_cons, List.drop_zero]; (repeat still_step))
    refine wpStill_nil ?_
    go_wp2_with (first | (go_at_call 30; refine (LG _ R0.out.2 M0.out.2).out.mono ?_; rintro e w1 ⟨rfl, hb1⟩))
    have B1 := Lib.hid (B0.out.drew.trans (hb1.mono B0.out.size))
    go_wp2_with (go_at_call 31; refine (law27_wakes _).mono ?_; rintro e w9 ⟨rfl, hb9⟩)
    go_ret
    exact ⟨rfl, B1.out.trans (hb9.mono B1.out.size)⟩
  by_cases hba : b < a
  · go_enter Try.func12, Try.ntmps12
    go_wp2_with fail
    generalize hW : (w.alloc (.cells #[vW, .int .i64 st, vM] 68)).alloc (.cells #[.int .i64 a, .int .i64 b] 33) = W at *
    clear hW
    (refine region_drew 5 (by kernel_rfl) (by kernel_rfl) ?_; simp only [List.take_succ_cons, List.take_zero, List.drop_succ_cons, List.drop_zero]; (repeat still_step))
    refine wpStill_nil ?_
    go_wp2_with (first | (go_at_call 30; refine (LG _ R0.out.2 M0.out.2).out.mono ?_; rintro e w1 ⟨rfl, hb1⟩))
    have B1 := Lib.hid (B0.out.drew.trans (hb1.mono B0.out.size))
    go_wp2_with (go_at_call 31; refine (law27_wakes _).mono ?_; rintro e w9 ⟨rfl, hb9⟩)
    go_ret
    exact ⟨rfl, B1.out.trans (hb9.mono B1.out.size)⟩
  by_cases hb6 : 6000 < b
  · go_enter Try.func12, Try.ntmps12
    go_wp2_with fail
    generalize hW : (w.alloc (.cells #[vW, .int .i64 st, vM] 68)).alloc (.cells #[.int .i64 a, .int .i64 b] 33) = W at *
    clear hW
    (refine region_drew 5 (by kernel_rfl) (by kernel_rfl) ?_; simp only [List.take_succ_cons, List.take_zero, List.drop_succ_cons, List.drop_zero]; (repeat still_step))
    refine wpStill_nil ?_
    go_wp2_with (first | (go_at_call 30; refine (LG _ R0.out.2 M0.out.2).out.mono ?_; rintro e w1 ⟨rfl, hb1⟩))
    have B1 := Lib.hid (B0.out.drew.trans (hb1.mono B0.out.size))
    go_wp2_with (go_at_call 31; refine (law27_wakes _).mono ?_; rintro e w9 ⟨rfl, hb9⟩)
    go_ret
    exact ⟨rfl, B1.out.trans (hb9.mono B1.out.size)⟩
  obtain ⟨A, rfl⟩ := Int.eq_ofNat_of_zero_le (by omega : 0 ≤ a)
  obtain ⟨B, rfl⟩ := Int.eq_ofNat_of_zero_le (by omega : 0 ≤ b)
  by_cases hns : Mc.noStart l st s = 0
  · have hAB : A ≤ B := by omega
    have FL := Lib.hid (fuel_law (Mc.start l st s) (by simp [Mc.start]) A B hAB)
    have RU := fun (k : Nat) W hW (hk : (k : Int) ≤ 4194304) => run_run k l st s vW vM W hW hu.out hns hk
    have hO1 := ((Mc.start_ok l st s hu.out (cpu_start_any l st s hns).1 (cpu_start_any l st s hns).2.1 (cpu_start_any l st s hns).2.2.1 (cpu_start_any l st s hns).2.2.2).run A).ol
    have hO2 := ((Mc.start_ok l st s hu.out (cpu_start_any l st s hns).1 (cpu_start_any l st s hns).2.1 (cpu_start_any l st s hns).2.2.1 (cpu_start_any l st s hns).2.2.2).run B).ol
    simp only [oc_form] at RU
    have RU1 := fun W hW => Lib.hid (RU A W hW (by omega))
    have RU2 := fun W hW => Lib.hid (RU B W hW (by omega))
    clear RU
    generalize (Mc.start l st s).run A = X1 at *
    generalize (Mc.start l st s).run B = X2 at *
    generalize (Mc.start l st s).steps A = n1 at *
    generalize (Mc.start l st s).steps B = n2 at *
    go_enter Try.func12, Try.ntmps12
    go_wp2_with fail
    generalize hW : (w.alloc (.cells #[vW, .int .i64 st, vM] 68)).alloc (.cells #[.int .i64 A, .int .i64 B] 33) = W at *
    clear hW
    (refine region_drew 5 (by kernel_rfl) (by kernel_rfl) ?_; simp only [List.take_succ_cons, List.take_zero, List.drop_succ_cons, List.drop_zero]; (repeat still_step))
    refine wpStill_nil ?_
    go_wp2_with (first | (go_at_call 30; refine (LG _ R0.out.2 M0.out.2).out.mono ?_; rintro e w1 ⟨rfl, hb1⟩; have I1 := Lib.hid (I0.out.drew.below hb1 I0.out.lt); clear c0 c1 c2 d0 d1; have c0 := I1.out.cell 0; have c1 := I1.out.cell 1; have c2 := I1.out.cell 2; simp only [List.getElem?_toArray, List.getElem?_cons_zero, List.getElem?_cons_succ] at c0 c1 c2))
    have B1 := Lib.hid (B0.out.drew.trans (hb1.mono B0.out.size))
    have R1 := Lib.hid (R0.out.1.below B1.out)
    have hI1 := I1.out.lt
    clear hb1
    refine (RU1 _ R1.out).out.mono ?_
    rintro e w2 ⟨rfl, hb2⟩
    have I2 := I1.out.below hb2 hI1
    have B2 := B1.out.trans (hb2.mono B1.out.size)
    have B2 := B2.alloc B2.size (.cells #[.int .i64 X1.endv, .int .i64 X1.trap, .string (strOfNums X1.out), .int .i64 n1, .int .i64 X1.read] 28)
    have BO := Blk.new w2 28 #[.int .i64 X1.endv, .int .i64 X1.trap, .string (strOfNums X1.out), .int .i64 n1, .int .i64 X1.read]
    have R2 := Lib.hid (R0.out.1.below B2)
    have B2 := Lib.hid B2
    clear hb2 I1 B1 R1 c0 c1 c2 hI1
    have c0 := I2.cell 0
    have c1 := I2.cell 1
    have c2 := I2.cell 2
    simp only [List.getElem?_toArray, List.getElem?_cons_zero, List.getElem?_cons_succ] at c0 c1 c2
    have zI2 := I2.lt
    have I2 := Lib.hid I2
    go_wp2_with fail
    generalize hW2 : w2.alloc (.cells #[.int .i64 X1.endv, .int .i64 X1.trap, .string (strOfNums X1.out), .int .i64 n1, .int .i64 X1.read] 28) = W2 at *
    clear hW2
    have zO := BO.lt
    have BO := Lib.hid BO
    refine (RU2 _ R2.out).out.mono ?_
    rintro e w3 ⟨rfl, hb3⟩
    have BO3 := BO.out.below hb3 zO
    have B3 := B2.out.trans (hb3.mono B2.out.size)
    have B3 := fun o => Lib.hid (B3.alloc B3.size o)
    have o0 := BO3.cell 0
    have o1 := BO3.cell 1
    have o2 := BO3.cell 2
    have o3 := BO3.cell 3
    have o4 := BO3.cell 4
    simp only [List.getElem?_toArray, List.getElem?_cons_zero, List.getElem?_cons_succ] at o0 o1 o2 o3 o4
    have zO3 := BO3.lt
    clear BO3 hb3 BO I2 B2 c0 c1 c2 zO zI2
    have BG := fun W => Lib.hid (keep_begins (strOfNums X2.out) (strOfNums X1.out) W (by rw [strOfNums_size]; omega) (by rw [strOfNums_size]; omega))
    rw [begins_goes FL.out.2.2.2] at BG
    clear hO1 hO2
    by_cases hE : X1.endv = 3
    · obtain ⟨e1, e2⟩ := FL.out.2.1 hE
      have e3 := FL.out.2.2.1
      have e4 : (X1.read : Int) ≤ X2.read := by have := FL.out.2.2.2.2.1; omega
      have e5 : (A : Int) ≤ n2 := by omega
      have e6 : (n2 : Int) ≤ B := by omega
      subst e1
      clear FL e2 e3
      go_wp2_with (first | (go_at_call 21; refine (BG _).out.mono ?_; rintro e w9 ⟨rfl, rfl⟩) | (go_at_call 31; refine (law27_wakes _).mono ?_; rintro e w10 ⟨rfl, hb10⟩))
      go_ret
      exact ⟨rfl, (B3 _).out.trans (hb10.mono (B3 _).out.size)⟩
    · obtain ⟨e1, e2⟩ := FL.out.1 hE
      subst e1 e2
      have hE' : (X2.endv == 3) = false := by rw [beq_eq_false_iff_ne]; exact hE
      clear FL
      go_wp2_with (first | (go_at_call 27; refine (ref05_same _ _ _ _ _ _).mono ?_; rintro e w9 ⟨rfl, hb9⟩) | (go_at_call 31; refine (law27_wakes _).mono ?_; rintro e w10 ⟨rfl, hb10⟩))
      go_ret
      exact ⟨rfl, ((B3 _).out.trans (hb9.mono (B3 _).out.size)).trans (hb10.mono ((B3 _).out.trans (hb9.mono (B3 _).out.size)).size)⟩
  · have RN := fun (k : Int) W hW => Lib.hid (run_run_none k l st s vW vM W hW hns hs)
    generalize Mc.noStart l st s = er at *
    have hns' : (er == 0) = false := by rw [beq_eq_false_iff_ne]; exact hns
    go_enter Try.func12, Try.ntmps12
    go_wp2_with fail
    generalize hW : (w.alloc (.cells #[vW, .int .i64 st, vM] 68)).alloc (.cells #[.int .i64 A, .int .i64 B] 33) = W at *
    clear hW
    (refine region_drew 5 (by kernel_rfl) (by kernel_rfl) ?_; simp only [List.take_succ_cons, List.take_zero, List.drop_succ_cons, List.drop_zero]; (repeat still_step))
    refine wpStill_nil ?_
    go_wp2_with (first | (go_at_call 30; refine (LG _ R0.out.2 M0.out.2).out.mono ?_; rintro e w1 ⟨rfl, hb1⟩; have I1 := Lib.hid (I0.out.drew.below hb1 I0.out.lt); clear c0 c1 c2 d0 d1; have c0 := I1.out.cell 0; have c1 := I1.out.cell 1; have c2 := I1.out.cell 2; simp only [List.getElem?_toArray, List.getElem?_cons_zero, List.getElem?_cons_succ] at c0 c1 c2))
    have B1 := Lib.hid (B0.out.drew.trans (hb1.mono B0.out.size))
    have R1 := Lib.hid (R0.out.1.below B1.out)
    have hI1 := I1.out.lt
    clear hb1
    refine (RN _ _ R1.out).out.mono ?_
    rintro e w2 ⟨rfl, hb2⟩
    have I2 := I1.out.below hb2 hI1
    have B2 := B1.out.trans (hb2.mono B1.out.size)
    have B2 := B2.alloc B2.size (.cells #[.int .i64 0, .int .i64 0, .string ⟨#[]⟩, .int .i64 0, .int .i64 0] 28)
    have BO := Blk.new w2 28 #[.int .i64 0, .int .i64 0, .string ⟨#[]⟩, .int .i64 0, .int .i64 0]
    have R2 := Lib.hid (R0.out.1.below B2)
    have B2 := Lib.hid B2
    clear hb2 I1 B1 R1 c0 c1 c2 hI1
    have c0 := I2.cell 0
    have c1 := I2.cell 1
    have c2 := I2.cell 2
    simp only [List.getElem?_toArray, List.getElem?_cons_zero, List.getElem?_cons_succ] at c0 c1 c2
    have zI2 := I2.lt
    have I2 := Lib.hid I2
    go_wp2_with fail
    generalize hW2 : w2.alloc (.cells #[.int .i64 0, .int .i64 0, .string ⟨#[]⟩, .int .i64 0, .int .i64 0] 28) = W2 at *
    clear hW2
    have zO := BO.lt
    have BO := Lib.hid BO
    refine (RN _ _ R2.out).out.mono ?_
    rintro e w3 ⟨rfl, hb3⟩
    have BO3 := BO.out.below hb3 zO
    have B3 := B2.out.trans (hb3.mono B2.out.size)
    have B3 := fun o => Lib.hid (B3.alloc B3.size o)
    have o0 := BO3.cell 0
    have o1 := BO3.cell 1
    have o2 := BO3.cell 2
    have o3 := BO3.cell 3
    have o4 := BO3.cell 4
    simp only [List.getElem?_toArray, List.getElem?_cons_zero, List.getElem?_cons_succ] at o0 o1 o2 o3 o4
    have zO3 := BO3.lt
    clear BO3 hb3 BO I2 B2 c0 c1 c2 zO zI2
    go_wp2_with (go_at_call 31; refine (law27_wakes _).mono ?_; rintro e w10 ⟨rfl, hb10⟩)
    go_ret
    exact ⟨rfl, (B3 _).out.trans (hb10.mono (B3 _).out.size)⟩

end Go.Proofs.Ytefgajojimkdiaa
