/-
  A slice of places (structs of four integers), and the map that the law makes of it.
-/
import Derived.Test.YtlihcdhcljljoaaFixMap
import Derived.Test.YtlihcdhcljljoaaRowOpen
import Derived.Deep.Slices
import Derived.WalkKit
import Derived.OwnWalk
import Derived.BigQuiet
import Derived.Deep.QuietTactic
import Derived.Lib.Hide
import Derived.WalkSpells
namespace Go.Proofs.Ytlihcdhcljljoaa
set_option linter.unusedVariables false
set_option linter.unusedSimpArgs false
open Go.RowKit Go.Maps Go.WideMaps Go.ChangeShapes Go.WideShapes

/-- The slice value v reads as n elements of four integers. -/
def PRow (w : World) (v : Value) (n : Nat) (f : Nat → Nat → Int) : Prop :=
  n ≤ 9223372036854775807 ∧ ∃ A c, v = .slice A n c ∧ ∀ i, i < n → ∃ ad, A = some ad ∧ ad.block < w.heap.size ∧ ∀ j, j < 4 → w.cell? ((ad.add (i * 4)).add j) = some (.int .i64 (f i j))
theorem PRow.below {w w' : World} {v : Value} {n : Nat} {f : Nat → Nat → Int} (h : PRow w v n f) (hb : Below w.heap.size w w') : PRow w' v n f := by
  obtain ⟨hm, A, c, rfl, hc⟩ := h
  refine ⟨hm, A, c, rfl, fun i hi => ?_⟩
  obtain ⟨ad, rfl, hl, hx⟩ := hc i hi
  exact ⟨ad, rfl, Nat.lt_of_lt_of_le hl hb.size, fun j hj => (hb.cell (p := (ad.add (i * 4)).add j) (by rw [block_add, block_add]; exact hl)).trans (hx j hj)⟩
theorem mapM_get {α β : Type} {g : α → Option β} : ∀ (l : List α) (cs : List β), l.mapM g = some cs → ∀ j (hj : j < l.length), g l[j] = cs[j]?
  | [], cs, h, j, hj => absurd hj (by simp)
  | a :: l, cs, h, j, hj => by
    rw [List.mapM_cons] at h
    cases ha : g a with
    | none => rw [ha] at h; cases h
    | some b =>
      rw [ha] at h
      cases hl : l.mapM g with
      | none => rw [hl] at h; cases h
      | some bs =>
        rw [hl] at h
        injection h with h
        subst h
        cases j with
        | zero => simpa using ha
        | succ j =>
          have := mapM_get l bs hl j (by simpa using hj)
          simpa using this
section
variable {H : Type} {enc : TypeId × Value → H} {P : Program} {w : World} {base : Nat} {spare : Nat → Bool} {held : Bool}
theorem prow_of_trod {r : Reach} {b0 : Nat} {t e ti : TypeId} {fs : Array Field} {v : Value} {d : DataW H} {p : List MemPlace} (ht : P.underlying t = some (.slice e)) (hs : P.underlying e = some (.struct fs)) (hC : P.cellsOf e = 4)
    (hti : P.underlying ti = some (.int .i64)) (h1 : P.cellsOf ti = 1) (hf : ∀ j, j < 4 → ∃ fld : Field, fs[j]? = some fld ∧ fld.type = ti ∧ fld.offset = j)
    (hv : Value.okWide P w r b0 t v) (h : DataW.Trod enc P w base spare held t v d p) : ∃ n f, PRow w v n f ∧ ∀ i j, i < n → j < 4 → In64 (f i j) := by
  obtain ⟨a, len, cap, rfl⟩ := okWide_slice ht hv
  obtain ⟨fuel, hf1⟩ := h
  rcases Go.Deep.open_slice ht hf1 with ⟨hcs, -⟩ | ⟨a', len', cap', m, n, D, Pl, hcs, hb, hl, hm, hmm, hx, hel⟩
  · injection hcs with hcs _
    injection hcs with e1 e2 e3
    subst e1 e2 e3
    exact ⟨0, fun _ _ => 0, ⟨by decide, none, 0, rfl, fun i hi => absurd hi (by omega)⟩, fun i j hi => absurd hi (by omega)⟩
  · injection hcs with hcs _
    injection hcs with e1 e2 e3
    subst e1 e2 e3
    have hle : len ≤ m := by rw [hmm]; split <;> omega
    have key : ∀ i j, i < len → j < 4 → ∃ x : Int, w.cell? ((a'.add (i * 4)).add j) = some (.int .i64 x) ∧ In64 x := by
      intro i j hi hj
      obtain ⟨cs', hc, htr⟩ := hel i (by omega)
      rw [hC] at hc
      obtain ⟨xs, n', _, _, hlen, hxl, hg⟩ := DataW.trod_struct hs htr
      obtain ⟨fld, hfld, hty, hoff⟩ := hf j hj
      have hgj := hg j fld hfld
      unfold World.cells? at hc
      split at hc
      · have hmg := mapM_get _ _ hc j (by simpa using hj)
        rw [List.getElem_range] at hmg
        rw [hty, hoff, h1] at hgj
        have hjl : j < cs'.length := by rw [hlen, hC]; exact hj
        rw [show (cs'.drop j).take 1 = [cs'[j]] by rw [List.drop_eq_getElem_cons hjl]; rfl] at hgj
        cases hxs : xs[j]? with
        | none =>
          rw [List.getElem?_eq_none_iff, hxl] at hxs
          have := (Array.getElem?_eq_some_iff.1 hfld).1
          omega
        | some x =>
          rw [hxs] at hgj
          obtain ⟨y, hy, -, hw⟩ := DataW.trod_int hti hgj
          simp at hy
          refine ⟨y, ?_, wf64_iff hw⟩
          rw [hmg, List.getElem?_eq_getElem hjl, hy]
      · cases hc
    refine ⟨len, fun i j => match w.cell? ((a'.add (i * 4)).add j) with | some (.int _ x) => x | _ => 0, ⟨by unfold maxLen at hm; omega, some a', cap, rfl, fun i hi => ⟨a', rfl, ?_, fun j hj => ?_⟩⟩, fun i j hi hj => ?_⟩
    · obtain ⟨x, hx, _⟩ := key i 0 hi (by omega)
      have := block_lt_of_cell hx
      rwa [block_add, block_add] at this
    · obtain ⟨x, hx, _⟩ := key i j hi hj
      simp only [hx]
    · obtain ⟨x, hx, hw⟩ := key i j hi hj
      simp only [hx]
      exact hw
end

/-- The map that the law makes of the first places. -/
def pmap (f : Nat → Nat → Int) : Nat → DataW Unit
  | 0 => .map []
  | i + 1 => (pmap f i).put (pkey (f i 0) (f i 1) (f i 2)) (pnum (f i 3))
theorem pmap_isMap (f : Nat → Nat → Int) : ∀ n, IsMap (pmap f n)
  | 0 => isMap_empty
  | n + 1 => (pmap_isMap f n).put _ _

set_option maxRecDepth 100000 in
set_option maxHeartbeats 1000000 in
theorem law22_places (n : Nat) (f : Nat → Nat → Int) (v : Value) (w : World) (hv : PRow w v n f) (hi : ∀ i j, i < n → j < 4 → In64 (f i j)) :
    Calls Try.prog 25 #[v] w fun e w' => ∃ b, e = .returned (.map (some b)) ∧ w'.ownsMap Try.prog 61 (plainElem Try.prog 3) b 300 (pmap f (min n 300)) ∧ w.heap.size ≤ b ∧ Below w.heap.size w w' := by
  have hv' := Lib.hid hv
  obtain ⟨hm, A, c, rfl, -⟩ := hv
  have hi := Lib.hid hi
  have MM : ∀ W : World, (Instr.makeMap 57 none).run Try.prog W = .ok (.map (some W.heap.size)) (W.alloc (.map #[] 0)) := fun W => rfl
  go_enter Try.func25, Try.ntmps25
  go_wp2_with fail
  go_loopw [4] (fun i wr => ∃ k : Nat, i = .int .i64 k ∧ k ≤ n ∧ k ≤ 300 ∧ RowKit.Hid (wr.ownsMap Try.prog 61 (plainElem Try.prog 3) w.heap.size k (pmap f k)) ∧ Below w.heap.size w wr) (fun i _ => 300 - (intOf i).toNat)
  case atStart => exact ⟨0, rfl, by omega, by omega, Lib.hid (World.ownsMap_made w _ _ _), (Below.refl _ _).alloc (Nat.le_refl _) _⟩
  case round =>
    clear MM
    obtain ⟨k, rfl, hk, hk3, hown, hb⟩ := hrel
    by_cases hlt : (k : Int) < n
    · by_cases hlt3 : (k : Int) < 300
      · obtain ⟨-, A1, c1, e1, hc⟩ := hv'.out.below hb
        injection e1 with e1 _ e2
        subst e1 e2
        obtain ⟨ad, rfl, had, hcell⟩ := hc k (by omega)
        have x0 : wr.cell? (ad.add (k * 4)) = some (.int .i64 (f k 0)) := hcell 0 (by omega)
        have x1 : wr.cell? ⟨(ad.add (k * 4)).block, (ad.add (k * 4)).off + 1, none⟩ = some (.int .i64 (f k 1)) := hcell 1 (by omega)
        have x2 : wr.cell? ⟨(ad.add (k * 4)).block, (ad.add (k * 4)).off + 2, none⟩ = some (.int .i64 (f k 2)) := hcell 2 (by omega)
        have x3 : wr.cell? ⟨(ad.add (k * 4)).block, (ad.add (k * 4)).off + 3, none⟩ = some (.int .i64 (f k 3)) := hcell 3 (by omega)
        have i0 := hi.out k 0 (by omega) (by omega)
        have i1 := hi.out k 1 (by omega) (by omega)
        have i2 := hi.out k 2 (by omega) (by omega)
        have i3 := hi.out k 3 (by omega) (by omega)
        have hpm : pmap f (k + 1) = (pmap f k).put (pkey (f k 0) (f k 1) (f k 2)) (pnum (f k 3)) := rfl
        have hpm := Lib.hid hpm
        generalize f k 0 = y0 at *
        generalize f k 1 = y1 at *
        generalize f k 2 = y2 at *
        generalize f k 3 = y3 at *
        clear hc hcell
        have k0 := Lib.hid (keyOf_pkey i0 i1 i2)
        go_wp2_with fail
        refine region_drew 22 (by kernel_rfl) (by kernel_rfl) ?_
        simp only [List.take_succ_cons, List.take_zero, List.drop_succ_cons, List.drop_zero]
        repeat still_step
        refine wpStill_nil ?_
        refine wpList_mapUpdate_own _ rfl (.tmp 16) (.tmp 32) (.tmp 37) 57 rfl 61 3 pKeyed Try.underlying57 (plainElem Try.prog 3) w.heap.size k (pmap f k) rfl hown.out.drew (by simp only [maxLen]; omega) _ _ (pkey y0 y1 y2) rfl rfl k0.out (pnum y3) [] (plainElem_int Try.underlying3 (wf64 i3)) ?_
        intro w2 hm2 hg2
        rw [← hpm.out] at hm2
        have hm2 := Lib.hid hm2
        have B2 : Below w.heap.size w w2 := hb.drew.grown hg2 hb.size (fun q hq => by injection hq with hq; omega)
        go_wp2_with fail
        exact ⟨⟨k + 1, by go_num, by omega, by omega, hm2, B2⟩, by simp [intOf]; omega⟩
      · go_wp2_with fail
        go_ret
        obtain rfl : k = 300 := by omega
        exact ⟨_, rfl, by rw [show min n 300 = 300 by omega]; exact hown.out, Nat.le_refl _, hb⟩
    · go_wp2_with fail
      go_ret
      obtain rfl : k = n := by omega
      exact ⟨_, rfl, by rw [show min k 300 = k by omega]; exact hown.out.mono hk3, Nat.le_refl _, hb⟩

end Go.Proofs.Ytlihcdhcljljoaa
