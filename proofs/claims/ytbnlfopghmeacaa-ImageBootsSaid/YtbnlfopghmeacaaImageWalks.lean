/-
  The statement ImageBoots: its walk, out of the contracts.
-/
import Derived.Test.YtbnlfopghmeacaaImageRef
import Derived.Test.YtbnlfopghmeacaaRowOpen
import Derived.Test.YtbnlfopghmeacaaKeep
namespace Go.Proofs.Ytbnlfopghmeacaa
set_option linter.unusedVariables false
set_option linter.unusedSimpArgs false
open Go.RowKit Bw

/-- What Boot tells: the words and the error. -/
def Boot.list (size : Int) (es : List Int) : List Int := if Boot.ok size es = true then Boot.words size es else []
def Boot.err (size : Int) (es : List Int) : Int := if Boot.ok size es = true then 0 else 1
def Booted (size : Int) (es : List Int) (w : World) (e : Ending) (w' : World) : Prop := ∃ u, e = .returned (.tuple #[u, .int .i64 (Boot.err size es)]) ∧ Row .u32 w' u (Boot.list size es) ∧ Row.in_ (fun k => w.heap.size ≤ k) u
theorem own_in {w : World} {base n : Nat} {e : TypeId} {s : Nat} {v : Value} {xs : List Value} (h : w.ownsRow base e s v n xs) : Row.in_ (fun k => base ≤ k) v := by
  rintro ad m c rfl hm
  exact (h.lt ad.block rfl).1

theorem image_boot_any (size : Int) (es : List Int) (v : Value) (w : World) (hv : Row .i64 w v es) (s0 : -9223372036854775808 ≤ size) (s1 : size ≤ 9223372036854775807) :
    Calls Try.prog 40 #[.int .i64 size, v] w fun e w' => Booted size es w e w' ∧ Below w.heap.size w w' := by
  unfold Booted Boot.list Boot.err
  cases hok : Boot.ok size es
  · have hno : (if false = true then (0 : Int) else 1) = 1 := rfl
    have hno' : (if false = true then Boot.words size es else []) = [] := rfl
    rw [hno, hno']
    cases hsz : Boot.sized size es
    · exact (image_boot_none size es v w hv s0 s1 hsz).mono fun e w' h => ⟨⟨_, h.1, Row.nil_, by rintro ad m c h; cases h⟩, h.2⟩
    · have : Boot.inside size es = false := by rw [Boot.ok, hsz, Bool.true_and] at hok; exact hok
      exact (image_boot_out size es v w hv hsz this).mono fun e w' h => ⟨⟨_, h.1, Row.nil_, by rintro ad m c h; cases h⟩, h.2⟩
  · exact (image_boot_ok size es v w hv hok).mono fun e w' ⟨u, h1, h2, h3⟩ => ⟨⟨u, h1, row_of_own h2, own_in h2⟩, h3⟩
theorem ref25_boot_any (size : Int) (es : List Int) (v : Value) (w : World) (hv : Row .i64 w v es) (s0 : -9223372036854775808 ≤ size) (s1 : size ≤ 9223372036854775807) :
    Calls Try.prog 41 #[.int .i64 size, v] w fun e w' => Booted size es w e w' ∧ Below w.heap.size w w' := by
  unfold Booted Boot.list Boot.err
  cases hok : Boot.ok size es
  · have hno : (if false = true then (0 : Int) else 1) = 1 := rfl
    have hno' : (if false = true then Boot.words size es else []) = [] := rfl
    rw [hno, hno']
    cases hsz : Boot.sized size es
    · exact (ref25_boot_none size es v w hv s0 s1 hsz).mono fun e w' h => ⟨⟨_, h.1, Row.nil_, by rintro ad m c h; cases h⟩, h.2⟩
    · have : Boot.inside size es = false := by rw [Boot.ok, hsz, Bool.true_and] at hok; exact hok
      exact (ref25_boot_out size es v w hv hsz this).mono fun e w' h => ⟨⟨_, h.1, Row.nil_, by rintro ad m c h; cases h⟩, h.2⟩
  · exact (ref25_boot_ok size es v w hv hok).mono fun e w' ⟨u, h1, h2, h3⟩ => ⟨⟨u, h1, row_of_own h2, own_in h2⟩, h3⟩

theorem row_new1 (w : World) (t : TypeId) (q : IntKind) (x : Int) : Row q (w.alloc (.cells #[.int q x] t)) (.slice (some ⟨w.heap.size, 0, none⟩) 1 1) [x] := by
  refine ⟨by simp, _, 1, rfl, fun k hk => ⟨_, rfl, by simp, ?_⟩⟩
  have : k = 0 := by simp at hk; omega
  subst this
  rw [block_add0, cell_of_row _ _ _ _ _ _ (heap_alloc_new w _)]
  rfl

set_option maxRecDepth 100000 in
theorem law25_wakes (w : World) : Calls Try.prog 39 #[] w fun e w' => e = .returned (.bool true) ∧ Below w.heap.size w w' := by
  have hlen : (Boot.list 256 [100]).length = 14 := by decide
  have h7 : (Boot.list 256 [100]).getD 7 0 = 0 := by decide
  have h8 : ((Boot.list 256 [100]).getD 8 0 != 0) = true := by decide
  have herr : Boot.err 256 [100] = 0 := by decide
  go_enter Try.func39, Try.ntmps39
  go_wp2_with fail
  refine (image_boot_any 256 [100] _ _ (row_new1 w 3 .i64 100) (by decide) (by decide)).mono ?_
  rintro e w1 ⟨⟨u, rfl, ⟨hm, A, c, rfl, hc⟩, -⟩, hb⟩
  obtain ⟨ad, rfl, had, x7⟩ := hc 7 (by omega)
  obtain ⟨ad', e, -, x8⟩ := hc 8 (by omega)
  injection e with e
  subst e
  rw [hlen, herr]
  rw [h7] at x7
  generalize (Boot.list 256 [100]).getD 8 0 = v8 at *
  clear hc h7 hlen herr hm
  rw [show ad.add 7 = ⟨ad.block, ad.off + 7, none⟩ from rfl] at x7
  rw [show ad.add 8 = ⟨ad.block, ad.off + 8, none⟩ from rfl] at x8
  go_wp2_with fail
  refine (image_first 1 _ (by decide) (by decide)).mono ?_
  rintro e w2 ⟨rfl, rfl⟩
  rw [show Boot.first 1 = 14 by decide]
  go_wp2_with fail
  go_ret
  exact ⟨rfl, ((Below.refl _ _).alloc (Nat.le_refl _) _).trans (hb.mono (by simp))⟩

theorem append_nothing (w : World) (t ty e : TypeId) (c g : Nat) (ht : Try.prog.underlying t = some (.slice e)) (i : TypeInfo) (hi : Try.prog.info? e = some i) (hh : ∃ cur t' fr, w.heap[g]? = some (.cells cur t' fr)) :
    (Builtin.append_ #[t, t] ty #[.slice (some ⟨g, 0, none⟩) 0 0, .slice none 0 c]).run Try.prog w = .ok (.slice (some ⟨g, 0, none⟩) 0 0) w := by
  simp [Builtin.append_, run_underlying ht, sizeOf, typeInfo, hi, Builtin.lenOf, Builtin.firstCells, storeCells]

theorem int_info : (Try.prog.info? 3).map (fun i => (i.zero, i.size, i.bytes)) = some (some (.int .i64 0), 1, 8) := by kernel_rfl
theorem ints_one (q : IntKind) (xs : List Int) : ∀ u ∈ (xs.map (Value.int q)), u.oneCell' = true := by
  intro u hu
  simp only [List.mem_map] at hu
  obtain ⟨x, _, rfl⟩ := hu
  rfl
theorem row_src {q : IntKind} {w : World} {ad : Addr} {l : List Int} (h : ∀ k, k < l.length → w.cell? (ad.add k) = some (.int q (l.getD k 0))) : ∀ j u, (l.map (Value.int q))[j]? = some u → w.cell? (ad.add j) = some u := by
  intro j u hu
  rw [List.getElem?_map] at hu
  by_cases hj : j < l.length
  · rw [List.getElem?_eq_getElem hj] at hu
    have := h j hj
    rw [this]
    simpa [List.getD, hj] using hu
  · rw [List.getElem?_eq_none (by omega)] at hu; cases hu

set_option maxRecDepth 100000 in
theorem law25_boots (size mods : Int) (es : List Int) (v : Value) (w : World) (hv : Row .i64 w v es) (s0 : -9223372036854775808 ≤ size) (s1 : size ≤ 9223372036854775807) (m0 : -9223372036854775808 ≤ mods) (m1 : mods ≤ 9223372036854775807) :
    Calls Try.prog 12 #[.int .i64 size, v, .int .i64 mods] w fun e w' => e = .returned (.bool true) ∧ Below w.heap.size w w' := by
  have hv' := Lib.hid hv
  obtain ⟨hm, A, c, rfl, hc⟩ := hv
  have hc := Lib.hid hc
  by_cases hl : (1000 : Int) < es.length
  · go_enter Try.func12, Try.ntmps12
    go_wp2_with fail
    refine (law25_wakes _).mono ?_
    rintro e w1 ⟨rfl, hb⟩
    go_wp2_with fail
    go_ret
    exact ⟨rfl, hb⟩
  have hl : (es.length : Int) ≤ 1000 := by omega
  obtain ⟨i0, hi0, hz0, hz1, hz2⟩ := info_parts int_info
  have own0 : RowKit.Hid ((w.alloc (.cells #[] 3)).ownsRow w.heap.size 3 1 (.slice (some ⟨w.heap.size, 0, none⟩) 0 0) 0 []) := Lib.hid ⟨rfl, Or.inr ⟨w.heap.size, 0, _, rfl, Nat.le_refl _, heap_alloc_new w _, Nat.le_refl _, by decide, rfl, rfl⟩⟩
  have B1 : Below w.heap.size w (w.alloc (.cells #[] 3)) := (Below.refl _ _).alloc (Nat.le_refl _) _
  rcases A with _ | ad
  · have h0 : es = [] := by
      cases es with
      | nil => rfl
      | cons x xs => obtain ⟨ad, h, _⟩ := hc.out 0 (by simp); cases h
    subst h0
    have HN := append_nothing (w.alloc (.cells #[] 3)) 47 47 3 c w.heap.size Try.underlying47 i0 hi0 ⟨_, _, _, heap_alloc_new w _⟩
    go_enter Try.func12, Try.ntmps12
    go_wp2_with fail
    have R2 : RowKit.Hid (Row .i64 (w.alloc (.cells #[] 3)) (.slice (some ⟨w.heap.size, 0, none⟩) 0 0) []) := Lib.hid (row_of_own own0.out)
    have B2 := B1
    generalize Value.slice (some ⟨w.heap.size, 0, none⟩) 0 0 = v2 at *
    generalize w.alloc (.cells #[] 3) = w2 at *
    clear HN
    refine (image_boot_any size ([] : List Int) _ _ R2.out s0 s1).mono ?_
    rintro e w3 ⟨⟨u3, rfl, R3, in3⟩, hb3⟩
    have R3 := Lib.hid R3
    have R2' := Lib.hid (R2.out.below hb3)
    have B3 : Below w.heap.size w w3 := B2.trans (hb3.mono B2.size)
    go_wp2_with fail
    refine (ref25_boot_any size ([] : List Int) _ _ (hv'.out.below B3) s0 s1).mono ?_
    rintro e w4 ⟨⟨u4, rfl, R4, in4⟩, hb4⟩
    have R4 := Lib.hid R4
    have R3' := Lib.hid (R3.out.below hb4)
    have R2'' := Lib.hid (R2'.out.below hb4)
    have B4 : Below w.heap.size w w4 := B3.trans (hb4.mono B3.size)
    generalize Boot.err size ([] : List Int) = er at *
    clear in3 in4 R2 R2' R3
    go_wp2_with fail
    refine (keep_words _ _ _ _ _ R3'.out R4.out).mono ?_
    rintro e w5 ⟨rfl, k5⟩
    rw [show decide (Boot.list size ([] : List Int) = Boot.list size ([] : List Int)) = true from decide_eq_true rfl]
    have B5 : Below w.heap.size w w5 := B4.trans k5.all_below
    go_wp2_with fail
    refine (keep_same _ _ _ _ _ (R2''.out.all k5) (hv'.out.below B5)).mono ?_
    rintro e w6 ⟨rfl, k6⟩
    rw [show decide (([] : List Int) = ([] : List Int)) = true from decide_eq_true rfl]
    have B6 : Below w.heap.size w w6 := B5.trans k6.all_below
    go_wp2_with fail
    refine (image_first mods _ m0 m1).mono ?_
    rintro e w7 ⟨rfl, rfl⟩
    go_wp2_with fail
    refine (ref25_first mods _ m0 m1).mono ?_
    rintro e w7 ⟨rfl, rfl⟩
    go_wp2_with fail
    refine (law25_wakes _).mono ?_
    rintro e w8 ⟨rfl, hb8⟩
    go_wp2_with fail
    go_ret
    exact ⟨rfl, B6.trans (hb8.mono B6.size)⟩
  · have hl' : es.length ≤ 1000 := by omega
    go_enter Try.func12, Try.ntmps12
    go_wp2_with (at_builtin; refine wpList_append_own _ rfl (.tmp 16) (.tmp 17) 47 rfl w.heap.size 3 i0 _ 1 8 Try.underlying47 hi0 hz0 hz1 hz2 rfl (by omega) _ 0 [] rfl own0.out ad es.length c (es.map (Value.int .i64)) rfl (by simp) (row_src (fun k hk => by obtain ⟨ad', e, ha, hx⟩ := hc.out k hk; injection e with e; subst e; exact (World.cell?_alloc_lt w _ _ (by rw [block_add]; exact ha)).trans hx)) (ints_one _ _) (by simp only [maxLen]; omega) (by omega) (by simp) ?_; intro v2 w2 ho2 hg2 _)
    have R2 : RowKit.Hid (Row .i64 w2 v2 es) := Lib.hid (row_of_own (by simpa using ho2))
    have B2 : Below w.heap.size w w2 := B1.grown hg2 (by simp) (fun k hk => by have := own0.out.lt k hk; exact this.1)
    clear ho2 hg2
    go_wp2_with fail
    refine (image_boot_any size es _ _ R2.out s0 s1).mono ?_
    rintro e w3 ⟨⟨u3, rfl, R3, in3⟩, hb3⟩
    have R3 := Lib.hid R3
    have R2' := Lib.hid (R2.out.below hb3)
    have B3 : Below w.heap.size w w3 := B2.trans (hb3.mono B2.size)
    go_wp2_with fail
    refine (ref25_boot_any size es _ _ (hv'.out.below B3) s0 s1).mono ?_
    rintro e w4 ⟨⟨u4, rfl, R4, in4⟩, hb4⟩
    have R4 := Lib.hid R4
    have R3' := Lib.hid (R3.out.below hb4)
    have R2'' := Lib.hid (R2'.out.below hb4)
    have B4 : Below w.heap.size w w4 := B3.trans (hb4.mono B3.size)
    generalize Boot.err size es = er at *
    clear in3 in4 R2 R2' R3
    go_wp2_with fail
    refine (keep_words _ _ _ _ _ R3'.out R4.out).mono ?_
    rintro e w5 ⟨rfl, k5⟩
    rw [show decide (Boot.list size es = Boot.list size es) = true from decide_eq_true rfl]
    have B5 : Below w.heap.size w w5 := B4.trans k5.all_below
    go_wp2_with fail
    refine (keep_same _ _ _ _ _ (R2''.out.all k5) (hv'.out.below B5)).mono ?_
    rintro e w6 ⟨rfl, k6⟩
    rw [show decide (es = es) = true from decide_eq_true rfl]
    have B6 : Below w.heap.size w w6 := B5.trans k6.all_below
    go_wp2_with fail
    refine (image_first mods _ m0 m1).mono ?_
    rintro e w7 ⟨rfl, rfl⟩
    go_wp2_with fail
    refine (ref25_first mods _ m0 m1).mono ?_
    rintro e w7 ⟨rfl, rfl⟩
    go_wp2_with fail
    refine (law25_wakes _).mono ?_
    rintro e w8 ⟨rfl, hb8⟩
    go_wp2_with fail
    go_ret
    exact ⟨rfl, B6.trans (hb8.mono B6.size)⟩

end Go.Proofs.Ytbnlfopghmeacaa
