/-
  How a run begins: the program's First and Boot, walked.
-/
import Derived.Test.YtefgajojimkdiaaZCpuHalt
import Derived.Laws.MakeOwn
import Derived.Test.YtefgajojimkdiaaZImgLaw
import Derived.Test.YtefgajojimkdiaaZCpuKit
import Derived.Test.YtefgajojimkdiaaZLaw
import Derived.Laws.CopyOwn
namespace Go.Proofs.Ytefgajojimkdiaa
set_option linter.unusedVariables false
set_option linter.unusedSimpArgs false
open Go.RowKit Bw

theorem image_first (n : Int) (w : World) (h0 : -9223372036854775808 ≤ n) (h1 : n ≤ 9223372036854775807) : Calls Try.prog 37 #[.int .i64 n] w fun e w' => e = .returned (.int .i64 (Boot.first n)) ∧ w = w' := by
  unfold Boot.first
  by_cases h : 0 ≤ n ∧ n ≤ 16
  · rw [if_pos h]
    obtain ⟨a, b⟩ := h
    go_enter Try.func37, Try.ntmps37
    go_wp2_with fail
    go_ret
    exact ⟨rfl, rfl⟩
  · rw [if_neg h]
    by_cases h2 : n < 0
    · go_enter Try.func37, Try.ntmps37
      go_wp2_with fail
      go_ret
      exact ⟨rfl, rfl⟩
    · have h3 : 16 < n := by omega
      go_enter Try.func37, Try.ntmps37
      go_wp2_with fail
      go_ret
      exact ⟨rfl, rfl⟩

theorem insAt_cells (w : World) (t : TypeId) (xs : List Ins) (cs : Array Value) (h : cs = (xs.flatMap fun x => x.cells.toList).toArray) : InsAt (w.alloc (.cells cs t)) w.heap.size xs := by
  subst h
  refine ⟨by simp, fun k x hx j v hv => ?_⟩
  rw [cell_of_row _ _ _ _ _ _ (heap_alloc_new w _)]
  have key : ∀ (xs : List Ins) (k : Nat), xs[k]? = some x → (xs.flatMap fun x => x.cells.toList)[k * 8 + j]? = some v := by
    intro xs
    induction xs with
    | nil => intro k hk; simp at hk
    | cons y ys ih =>
      intro k hk
      have hl : y.cells.toList.length = 8 := rfl
      rw [List.flatMap_cons]
      cases k with
      | zero =>
        simp at hk
        subst hk
        rw [Nat.zero_mul, Nat.zero_add, List.getElem?_append_left (by have := (List.getElem?_eq_some_iff.1 hv).1; omega)]
        exact hv
      | succ k =>
        rw [List.getElem?_append_right (by omega), hl, show (k + 1) * 8 + j - 8 = k * 8 + j by omega]
        exact ih k (by simpa using hk)
  simpa using key xs k hx
theorem own_cells {w : World} {base : Nat} {n : Nat} {v : Value} {xs : List Value} (h : w.ownsRow base 43 1 v n xs) (hn : 0 < n) : ∃ g cap, v = .slice (some ⟨g, 0, none⟩) n cap ∧ xs.length = n * 1 ∧ ∀ j u, xs[j]? = some u → w.cell? ((⟨g, 0, none⟩ : Addr).add j) = some u := by
  obtain ⟨g, cap, hv, _, hlt⟩ := h.form hn
  exact ⟨g, cap, hv, h.1, h.cells (g := g) (by rw [hv]; rfl)⟩
theorem words_one (xs : List Ins) : ∀ u ∈ (xs.map fun x => Value.int .u32 x.E), u.oneCell' = true := by
  intro u hu
  simp only [List.mem_map] at hu
  obtain ⟨x, _, rfl⟩ := hu
  rfl

theorem i64_and65535 (n : Int) : bits .and .i64 n 65535 = n % 65536 := by
  have h127 : (BitVec.ofInt 64 65535).toNat = 2 ^ 16 - 1 := by decide
  have key : (BitVec.ofInt 64 n &&& BitVec.ofInt 64 65535).toNat = (n % ((2 ^ 64 : Nat) : Int)).toNat % 2 ^ 16 := by
    rw [BitVec.toNat_and, BitVec.toNat_ofInt, h127, Nat.and_two_pow_sub_one_eq_mod]
  show IntKind.i64.wrap ((BitVec.ofInt 64 n &&& BitVec.ofInt 64 65535).toNat : Nat) = n % 65536
  rw [key, IntKind.wrap_i64]
  omega
theorem make8 (w : World) : (Instr.makeSlice 32 (.int .i64 8) (.int .i64 8)).run Try.prog w = .ok (.slice (some ⟨w.heap.size, 0, none⟩) 8 8) (w.alloc (.cells #[.int .u32 0, .int .u32 0, .int .u32 0, .int .u32 0, .int .u32 0, .int .u32 0, .int .u32 0, .int .u32 0] 43)) := by
  obtain ⟨i0, hi0, hz0, hz1, hz2⟩ := info_parts u32_info
  have h := run_makeSlice (P := Try.prog) w 32 43 i0 (.int .u32 0) Try.underlying32 hi0 hz0 .i64 .i64 8 8 (by decide) (by decide) (by rw [hz1]; decide) (by rw [hz2]; decide) (by decide)
  rw [hz1] at h
  rw [show madeCells (Value.int .u32 0).cells (Int.toNat 8 * 1) = #[.int .u32 0, .int .u32 0, .int .u32 0, .int .u32 0, .int .u32 0, .int .u32 0, .int .u32 0, .int .u32 0] by kernel_rfl] at h
  exact h
theorem zeros_own (w : World) : (w.alloc (.cells #[.int .u32 0, .int .u32 0, .int .u32 0, .int .u32 0, .int .u32 0, .int .u32 0, .int .u32 0, .int .u32 0] 43)).ownsRow w.heap.size 43 1 (.slice (some ⟨w.heap.size, 0, none⟩) 8 8) 8 (Boot.zeros.map (Value.int .u32)) :=
  ⟨rfl, Or.inr ⟨w.heap.size, 8, _, rfl, Nat.le_refl _, heap_alloc_new w _, Nat.le_refl _, by decide, rfl, rfl⟩⟩

set_option maxRecDepth 100000 in
set_option maxHeartbeats 4000000 in
theorem image_boot_ok (size : Int) (es : List Int) (v : Value) (w : World) (hv : Row .i64 w v es) (hok : Boot.ok size es = true) :
    Calls Try.prog 39 #[.int .i64 size, v] w fun e w' => ∃ u, e = .returned (.tuple #[u, .int .i64 0]) ∧ w'.ownsRow w.heap.size 43 1 u (es.length + 13) ((Boot.words size es).map (Value.int .u32)) ∧ Below w.heap.size w w' := by
  simp only [Boot.ok, Boot.sized, Boot.inside, Bool.and_eq_true, decide_eq_true_eq] at hok
  obtain ⟨⟨⟨h1, h2⟩, h3⟩, h4⟩ := hok
  obtain ⟨hm, A, c, rfl, hc⟩ := hv
  have hc := Lib.hid hc
  have h4 := Lib.hid h4
  have h3' : (es.length : Int) ≤ 16 := by omega
  obtain ⟨i0, hi0, hz0, hz1, hz2⟩ := info_parts u32_info
  have MK := make8
  have e1 : bits .and .i64 (4 * size) 65535 = 4 * size % 65536 := by
    rw [i64_and65535]
  go_enter Try.func39, Try.ntmps39
  go_wp2_with fail
  have Z0 := Lib.hid (zeros_own w)
  have B0 : Below w.heap.size w (w.alloc (.cells #[.int .u32 0, .int .u32 0, .int .u32 0, .int .u32 0, .int .u32 0, .int .u32 0, .int .u32 0, .int .u32 0] 43)) := (Below.refl _ _).alloc (Nat.le_refl _) _
  have z0 : (w.alloc (.cells #[.int .u32 0, .int .u32 0, .int .u32 0, .int .u32 0, .int .u32 0, .int .u32 0, .int .u32 0, .int .u32 0] 43)).heap.size = w.heap.size + 1 := by simp
  rw [← z0]
  generalize w.alloc (.cells #[.int .u32 0, .int .u32 0, .int .u32 0, .int .u32 0, .int .u32 0, .int .u32 0, .int .u32 0, .int .u32 0] 43) = W at *
  have z0 := Lib.hid z0
  refine (image_words [Boot.hi (4 * size / 65536), Boot.lo (4 * size % 65536)] W.heap.size 2 _ (insAt_cells W _ _ _ rfl) (by simp [Boot.hi, Boot.lo, Ins.fits]; omega) (by simp)).mono ?_
  rintro e w1 ⟨u1, rfl, ho1, hb1⟩
  obtain ⟨g1, c1, rfl, l1, x1⟩ := own_cells ho1 (by simp)
  have Z1 := Lib.hid (own_below (Z0.out.alloc _) hb1)
  have B1 : Below w.heap.size w w1 := (B0.alloc B0.size _).trans (hb1.mono (by simp; exact Nat.le_succ_of_le B0.size))
  have x1 := Lib.hid x1
  clear hb1 B0
  go_wp2_with (at_builtin; refine wpList_append_own _ rfl (.tmp 24) (.tmp 32) 32 rfl w.heap.size 43 i0 _ 1 4 Try.underlying32 hi0 hz0 hz1 hz2 rfl (by omega) _ 8 _ rfl Z1.out ⟨g1, 0, none⟩ 2 c1 _ rfl l1 x1.out (words_one _) (by simp only [maxLen]; omega) (by omega) B1.size ?_; intro v2 w2 ho2 hg2 _)
  have H2 : RowKit.Hid (w2.ownsRow w.heap.size 43 1 v2 (10 + 0) ((Boot.zeros ++ (Boot.ins size es 0).map Ins.E).map (Value.int .u32))) := Lib.hid ho2
  have B2 : Below w.heap.size w w2 := B1.grown hg2 B1.size (fun k hk => by have := Z1.out.lt k hk; exact this.1)
  clear ho2 hg2 Z1 x1 l1 ho1 B1 Z0 z0
  go_wp2_with fail
  go_loopw [6, 36] (fun o i wr => ∃ k : Nat, i = .int .i64 k ∧ k ≤ es.length ∧ wr.ownsRow w.heap.size 43 1 o (10 + k) ((Boot.zeros ++ (Boot.ins size es k).map Ins.E).map (Value.int .u32)) ∧ Below w.heap.size w wr) (fun _ i _ => es.length - (intOf i).toNat)
  case atStart => exact ⟨0, rfl, by omega, H2.out, B2⟩
  case round =>
    clear H2
    obtain ⟨k, rfl, hk, hown, hb⟩ := hrel
    by_cases hlt : (k : Int) < (es.length : Int)
    · obtain ⟨ad, rfl, had, hcell⟩ := hc.out k (by omega)
      have hcell' := (hb.cell (p := ad.add k) (by rw [block_add]; exact had)).trans hcell
      obtain ⟨e0, e1'⟩ := h4.out k (by omega)
      have hs := Lib.hid (Boot.ins_succ size es k)
      generalize es.getD k 0 = e at *
      obtain ⟨g3, c3, rfl, l3, x3⟩ := own_cells hown (by omega)
      have hown := Lib.hid hown
      clear l3 x3 hcell
      go_wp2_with fail
      refine (image_words [Boot.call (e - (10 + k) - 1)] wr.heap.size 1 _ (insAt_cells wr _ _ _ rfl) (by simp [Boot.call, Ins.fits]; omega) (by simp)).mono ?_
      rintro e w3 ⟨u3, rfl, ho3, hb3⟩
      obtain ⟨g4, c4, rfl, l4, x4⟩ := own_cells ho3 (by simp)
      have Z3 := Lib.hid (own_below (hown.out.alloc _) hb3)
      have B3 : Below w.heap.size w w3 := (hb.alloc hb.size _).trans (hb3.mono (by simp; exact Nat.le_succ_of_le hb.size))
      have x4 := Lib.hid x4
      clear hb3 ho3 hown hb
      go_wp2_with (at_builtin; refine wpList_append_own _ rfl (.tmp 47) (.tmp 55) 32 rfl w.heap.size 43 i0 _ 1 4 Try.underlying32 hi0 hz0 hz1 hz2 rfl (by omega) _ (10 + k) _ rfl Z3.out ⟨g4, 0, none⟩ 1 c4 _ rfl l4 x4.out (words_one _) (by simp only [maxLen]; omega) (by omega) B3.size ?_; intro v5 w5 ho5 hg5 _)
      have H5 := Lib.hid ho5
      have B5 : Below w.heap.size w w5 := B3.grown hg5 B3.size (fun k hk => by have := Z3.out.lt k hk; exact this.1)
      clear ho5 hg5 Z3 x4 l4 B3
      go_wp2_with fail
      refine ⟨⟨k + 1, by go_num, by omega, ?_, B5⟩, by simp [intOf]; omega⟩
      have := H5.out
      rw [hs.out]
      simpa [List.map_append, Function.comp_def, Nat.add_assoc] using this
    · obtain rfl : k = es.length := by omega
      obtain ⟨g3, c3, rfl, l3, x3⟩ := own_cells hown (by omega)
      have hown := Lib.hid hown
      clear l3 x3 hlt hk
      go_wp2_with fail
      refine (image_words Boot.fin wr.heap.size 3 _ (insAt_cells wr _ _ _ rfl) (by simp [Boot.fin, Ins.fits]) (by simp [Boot.fin])).mono ?_
      rintro e w3 ⟨u3, rfl, ho3, hb3⟩
      obtain ⟨g4, c4, rfl, l4, x4⟩ := own_cells ho3 (by simp [Boot.fin])
      have Z3 := Lib.hid (own_below (hown.out.alloc _) hb3)
      have B3 : Below w.heap.size w w3 := (hb.alloc hb.size _).trans (hb3.mono (by simp; exact Nat.le_succ_of_le hb.size))
      have x4 := Lib.hid x4
      clear hb3 ho3 hown hb
      go_wp2_with (at_builtin; refine wpList_append_own _ rfl (.tmp 58) (.tmp 63) 32 rfl w.heap.size 43 i0 _ 1 4 Try.underlying32 hi0 hz0 hz1 hz2 rfl (by omega) _ (10 + es.length) _ rfl Z3.out ⟨g4, 0, none⟩ 3 c4 _ rfl l4 x4.out (words_one _) (by simp only [maxLen]; omega) (by omega) B3.size ?_; intro v5 w5 ho5 hg5 _)
      have H5 := Lib.hid ho5
      have B5 : Below w.heap.size w w5 := B3.grown hg5 B3.size (fun k hk => by have := Z3.out.lt k hk; exact this.1)
      clear ho5 hg5 Z3 x4 l4 B3
      go_wp2_with fail
      go_ret2
      refine ⟨v5, rfl, ?_, B5⟩
      have := H5.out
      rw [show es.length + 13 = 10 + es.length + 3 by omega, Boot.words]
      simpa [List.map_append, Function.comp_def, Nat.add_assoc, Boot.fin] using this

/- No image: an entry lies outside. -/
set_option maxRecDepth 100000 in
set_option maxHeartbeats 4000000 in
theorem image_boot_out (size : Int) (es : List Int) (v : Value) (w : World) (hv : Row .i64 w v es) (hsz : Boot.sized size es = true) (hok : Boot.inside size es = false) :
    Calls Try.prog 39 #[.int .i64 size, v] w fun e w' => e = .returned (.tuple #[.slice none 0 0, .int .i64 1]) ∧ Below w.heap.size w w' := by
  simp only [Boot.sized, Bool.and_eq_true, decide_eq_true_eq] at hsz
  simp only [Boot.inside, decide_eq_false_iff_not] at hok
  obtain ⟨⟨h1, h2⟩, h3⟩ := hsz
  obtain ⟨hm, A, c, rfl, hc⟩ := hv
  have hc := Lib.hid hc
  have hok := Lib.hid hok
  have h3' : (es.length : Int) ≤ 16 := by omega
  obtain ⟨i0, hi0, hz0, hz1, hz2⟩ := info_parts u32_info
  have MK := make8
  have e1 : bits .and .i64 (4 * size) 65535 = 4 * size % 65536 := by
    rw [i64_and65535]
  go_enter Try.func39, Try.ntmps39
  go_wp2_with fail
  have Z0 := Lib.hid (zeros_own w)
  have B0 : Below w.heap.size w (w.alloc (.cells #[.int .u32 0, .int .u32 0, .int .u32 0, .int .u32 0, .int .u32 0, .int .u32 0, .int .u32 0, .int .u32 0] 43)) := (Below.refl _ _).alloc (Nat.le_refl _) _
  have z0 : (w.alloc (.cells #[.int .u32 0, .int .u32 0, .int .u32 0, .int .u32 0, .int .u32 0, .int .u32 0, .int .u32 0, .int .u32 0] 43)).heap.size = w.heap.size + 1 := by simp
  rw [← z0]
  generalize w.alloc (.cells #[.int .u32 0, .int .u32 0, .int .u32 0, .int .u32 0, .int .u32 0, .int .u32 0, .int .u32 0, .int .u32 0] 43) = W at *
  have z0 := Lib.hid z0
  refine (image_words [Boot.hi (4 * size / 65536), Boot.lo (4 * size % 65536)] W.heap.size 2 _ (insAt_cells W _ _ _ rfl) (by simp [Boot.hi, Boot.lo, Ins.fits]; omega) (by simp)).mono ?_
  rintro e w1 ⟨u1, rfl, ho1, hb1⟩
  obtain ⟨g1, c1, rfl, l1, x1⟩ := own_cells ho1 (by simp)
  have Z1 := Lib.hid (own_below (Z0.out.alloc _) hb1)
  have B1 : Below w.heap.size w w1 := (B0.alloc B0.size _).trans (hb1.mono (by simp; exact Nat.le_succ_of_le B0.size))
  have x1 := Lib.hid x1
  clear hb1 B0
  go_wp2_with (at_builtin; refine wpList_append_own _ rfl (.tmp 24) (.tmp 32) 32 rfl w.heap.size 43 i0 _ 1 4 Try.underlying32 hi0 hz0 hz1 hz2 rfl (by omega) _ 8 _ rfl Z1.out ⟨g1, 0, none⟩ 2 c1 _ rfl l1 x1.out (words_one _) (by simp only [maxLen]; omega) (by omega) B1.size ?_; intro v2 w2 ho2 hg2 _)
  have H2 : RowKit.Hid (w2.ownsRow w.heap.size 43 1 v2 (10 + 0) ((Boot.zeros ++ (Boot.ins size es 0).map Ins.E).map (Value.int .u32))) := Lib.hid ho2
  have B2 : Below w.heap.size w w2 := B1.grown hg2 B1.size (fun k hk => by have := Z1.out.lt k hk; exact this.1)
  clear ho2 hg2 Z1 x1 l1 ho1 B1 Z0 z0
  go_wp2_with fail
  go_loopw [6, 36] (fun o i wr => ∃ k : Nat, i = .int .i64 k ∧ k ≤ es.length ∧ (∀ j, j < k → 0 ≤ es.getD j 0 ∧ es.getD j 0 < size) ∧ wr.ownsRow w.heap.size 43 1 o (10 + k) ((Boot.zeros ++ (Boot.ins size es k).map Ins.E).map (Value.int .u32)) ∧ Below w.heap.size w wr) (fun _ i _ => es.length - (intOf i).toNat)
  case atStart => exact ⟨0, rfl, by omega, fun j hj => by omega, H2.out, B2⟩
  case round =>
    clear H2
    obtain ⟨k, rfl, hk, hj, hown, hb⟩ := hrel
    have hj := Lib.hid hj
    by_cases hlt : (k : Int) < (es.length : Int)
    · obtain ⟨ad, rfl, had, hcell⟩ := hc.out k (by omega)
      have hcell' := (hb.cell (p := ad.add k) (by rw [block_add]; exact had)).trans hcell
      have hs := Lib.hid (Boot.ins_succ size es k)
      generalize he : es.getD k 0 = e at *
      have he := Lib.hid he
      obtain ⟨g3, c3, rfl, l3, x3⟩ := own_cells hown (by omega)
      have hown := Lib.hid hown
      clear l3 x3 hcell
      by_cases e0 : e < 0
      · go_wp2_with fail
        go_ret2
        exact ⟨rfl, hb⟩
      by_cases e2 : size ≤ e
      · go_wp2_with fail
        go_ret2
        exact ⟨rfl, hb⟩
      have e0 : 0 ≤ e := by omega
      have e1' : e < size := by omega
      clear e2
      go_wp2_with fail
      refine (image_words [Boot.call (e - (10 + k) - 1)] wr.heap.size 1 _ (insAt_cells wr _ _ _ rfl) (by simp [Boot.call, Ins.fits]; omega) (by simp)).mono ?_
      rintro e w3 ⟨u3, rfl, ho3, hb3⟩
      obtain ⟨g4, c4, rfl, l4, x4⟩ := own_cells ho3 (by simp)
      have Z3 := Lib.hid (own_below (hown.out.alloc _) hb3)
      have B3 : Below w.heap.size w w3 := (hb.alloc hb.size _).trans (hb3.mono (by simp; exact Nat.le_succ_of_le hb.size))
      have x4 := Lib.hid x4
      clear hb3 ho3 hown hb
      go_wp2_with (at_builtin; refine wpList_append_own _ rfl (.tmp 47) (.tmp 55) 32 rfl w.heap.size 43 i0 _ 1 4 Try.underlying32 hi0 hz0 hz1 hz2 rfl (by omega) _ (10 + k) _ rfl Z3.out ⟨g4, 0, none⟩ 1 c4 _ rfl l4 x4.out (words_one _) (by simp only [maxLen]; omega) (by omega) B3.size ?_; intro v5 w5 ho5 hg5 _)
      have H5 := Lib.hid ho5
      have B5 : Below w.heap.size w w5 := B3.grown hg5 B3.size (fun k hk => by have := Z3.out.lt k hk; exact this.1)
      clear ho5 hg5 Z3 x4 l4 B3
      go_wp2_with fail
      refine ⟨⟨k + 1, by go_num, by omega, fun j hj' => (by
        rcases Nat.lt_or_ge j k with h | h
        · exact hj.out j h
        · obtain rfl : j = k := by omega
          rw [he.out]; exact ⟨e0, e1'⟩), ?_, B5⟩, by simp [intOf]; omega⟩
      have := H5.out
      rw [hs.out]
      simpa [List.map_append, Function.comp_def, Nat.add_assoc] using this
    · exact absurd (fun i hi => hj.out i (by omega)) hok.out

set_option maxRecDepth 100000 in
theorem image_boot_none (size : Int) (es : List Int) (v : Value) (w : World) (hv : Row .i64 w v es) (s0 : -9223372036854775808 ≤ size) (s1 : size ≤ 9223372036854775807) (hsz : Boot.sized size es = false) :
    Calls Try.prog 39 #[.int .i64 size, v] w fun e w' => e = .returned (.tuple #[.slice none 0 0, .int .i64 1]) ∧ Below w.heap.size w w' := by
  obtain ⟨hm, A, c, rfl, hc⟩ := hv
  clear hc
  have h : size < 256 ∨ 65536 < size ∨ (256 ≤ size ∧ size ≤ 65536 ∧ (16 : Int) < es.length) := by
    simp only [Boot.sized, Bool.and_eq_false_iff, decide_eq_false_iff_not] at hsz; omega
  clear hsz
  rcases h with h | h | ⟨h1, h2, h3⟩
  · go_enter Try.func39, Try.ntmps39
    go_wp2_with fail
    go_ret2
    exact ⟨rfl, Below.refl _ _⟩
  · go_enter Try.func39, Try.ntmps39
    go_wp2_with fail
    go_ret2
    exact ⟨rfl, Below.refl _ _⟩
  · go_enter Try.func39, Try.ntmps39
    go_wp2_with fail
    go_ret2
    exact ⟨rfl, Below.refl _ _⟩

end Go.Proofs.Ytefgajojimkdiaa

/-
  The statement ImageRuns: its walk, out of the contracts.
-/
namespace Go.Proofs.Ytefgajojimkdiaa
set_option linter.unusedVariables false
set_option linter.unusedSimpArgs false
open Go.RowKit Bw

theorem ir_int_info : (Try.prog.info? 3).map (fun i => (i.zero, i.size, i.bytes)) = some (some (.int .i64 0), 1, 8) := by kernel_rfl
theorem run_convert_row {w : World} {v : Value} {l : List Int} (h : Row .u8 w v l) : (convert 75 9 v).run Try.prog w = .ok (.string (strOfNums l)) w := by
  obtain ⟨hm, A, c, rfl, hc⟩ := h
  rcases A with _ | ad
  · have h0 : l = [] := by
      cases l with
      | nil => rfl
      | cons x xs => obtain ⟨ad, h, _⟩ := hc 0 (by simp); cases h
    subst h0
    exact run_convert_bytes_nil w _ _ Try.underlying75 Try.underlying5 _ _ _ Try.underlying9
  · have hl : (loadCells ad l.length).run Try.prog w = .ok (l.map (Value.int .u8)).toArray w := by
      have := run_loadCells_list (P := Try.prog) w ad (l.map (Value.int .u8)) (fun j v hj => by
        have hjl : j < l.length := by
          rcases Nat.lt_or_ge j l.length with h | h
          · exact h
          · simp [List.getElem?_eq_none (show (l.map (Value.int .u8)).length ≤ j by simpa using h)] at hj
        obtain ⟨ad', e, _, hx⟩ := hc j hjl
        injection e with e
        subst e
        rw [hx]
        simp [List.getElem?_eq_getElem hjl] at hj
        subst hj
        simp [List.getD, List.getElem?_eq_getElem hjl])
      simpa using this
    rw [run_convert_bytes_string w _ _ _ (some ad) l.length c Try.underlying75 Try.underlying5 Try.underlying9, run_bytesToString w _ l.length c l hl, foldl_push_bytes]
    simp [strOfNums, ByteArray.empty, ByteArray.emptyWithCapacity]
    rfl
theorem ir_row1 (w : World) (t : TypeId) (q : IntKind) (x : Int) : Row q (w.alloc (.cells #[.int q x] t)) (.slice (some ⟨w.heap.size, 0, none⟩) 1 1) [x] := by
  refine ⟨by simp, _, 1, rfl, fun k hk => ⟨_, rfl, by simp, ?_⟩⟩
  have : k = 0 := by simp at hk; omega
  subst this
  rw [block_add0, cell_of_row _ _ _ _ _ _ (heap_alloc_new w _)]
  rfl

set_option maxRecDepth 100000 in
theorem ir_wakes (w : World) : Calls Try.prog 36 #[] w fun e w' => e = .returned (.bool true) ∧ Below w.heap.size w w' := by
  have hlen : (Boot.words 256 [100]).length = 14 := by decide
  have h7 : (Boot.words 256 [100]).getD 7 0 = 0 := by decide
  have h8 : ((Boot.words 256 [100]).getD 8 0 != 0) = true := by decide
  go_enter Try.func36, Try.ntmps36
  go_wp2_with fail
  refine (image_boot_ok 256 [100] _ _ (ir_row1 w 3 .i64 100) (by decide)).mono ?_
  rintro e w1 ⟨u, rfl, ho, hb⟩
  obtain ⟨hm, A, c, rfl, hc⟩ := row_of_own ho
  obtain ⟨ad, rfl, had, x7⟩ := hc 7 (by omega)
  obtain ⟨ad', e, -, x8⟩ := hc 8 (by omega)
  injection e with e
  subst e
  rw [hlen]
  rw [h7] at x7
  generalize (Boot.words 256 [100]).getD 8 0 = v8 at *
  clear hc h7 hlen hm ho
  rw [show ad.add 7 = ⟨ad.block, ad.off + 7, none⟩ from rfl] at x7
  rw [show ad.add 8 = ⟨ad.block, ad.off + 8, none⟩ from rfl] at x8
  go_wp2_with fail
  refine (image_first 1 _ (by decide) (by decide)).mono ?_
  rintro e w2 ⟨rfl, rfl⟩
  rw [show Boot.first 1 = 14 by decide]
  go_wp2_with fail
  go_ret
  exact ⟨rfl, ((Below.refl _ _).alloc (Nat.le_refl _) _).trans (hb.mono (by simp))⟩

theorem ir_mod_fits (c : Int) (h0 : 0 ≤ c) (h1 : c < 256) : ∀ x ∈ ImgRun.mod c, x.fits := by
  intro x hx
  simp only [ImgRun.mod, List.mem_cons, List.not_mem_nil, or_false] at hx
  rcases hx with rfl | rfl | rfl | rfl | rfl <;> simp [Ins.fits] <;> omega
theorem u8s_of {z : List Int} (h : ∀ x ∈ z, (Lit.int .u8 x).wf = true) : ∀ x ∈ z, 0 ≤ x ∧ x < 256 := fun x hx => by
  have := h x hx
  simp [Lit.wf, IntKind.min, IntKind.max, IntKind.bits, IntKind.signed] at this
  omega
theorem ir_own_slice {w : World} {base n s : Nat} {e : TypeId} {v : Value} {xs : List Value} (h : w.ownsRow base e s v n xs) (hn : 0 < n) : ∃ g c, v = .slice (some ⟨g, 0, none⟩) n c := by
  rcases h.2 with ⟨rfl, h0⟩ | ⟨g, cap, cur, rfl, hb, hh, hn', hc, hs, ht⟩
  · omega
  · exact ⟨g, cap, rfl⟩
/-- Block g is these words. -/
def Wds (w : World) (g : Nat) (l : List Int) : Prop := Blk w g 43 (l.map (Value.int .u32)).toArray
theorem Wds.cell {w : World} {g : Nat} {l : List Int} (h : Wds w g l) (k : Nat) (hk : k < l.length) : w.cell? ⟨g, k, none⟩ = some (.int .u32 (l.getD k 0)) := by
  rw [Blk.cell h k]; simp [List.getD, hk]
theorem Wds.set_ {w : World} {g : Nat} {l : List Int} (h : Wds w g l) (k : Nat) (x : Int) : Wds (w.setCell ⟨g, k, none⟩ (.int .u32 x)) g (l.set k x) := by
  have := Blk.set_ h k (.int .u32 x)
  unfold Wds
  rw [List.map_set]
  simpa using this
theorem Wds.row {w : World} {g c : Nat} {l : List Int} (h : Wds w g l) (hl : l.length ≤ 1000000) : Row .u32 w (.slice (some ⟨g, 0, none⟩) l.length c) l :=
  ⟨by omega, some ⟨g, 0, none⟩, c, rfl, fun k hk => ⟨⟨g, 0, none⟩, rfl, Blk.lt h, by rw [block_add0]; exact h.cell k hk⟩⟩

set_option maxRecDepth 100000 in
set_option maxHeartbeats 8000000 in
theorem law25_runs (size : Int) (cs : List Int) (v : Value) (w : World) (hv : Row .u8 w v cs) (hcb : ∀ c ∈ cs, 0 ≤ c ∧ c < 256) (s0 : -9223372036854775808 ≤ size) (s1 : size ≤ 9223372036854775807) :
    Calls Try.prog 14 #[.int .i64 size, v] w fun e w' => e = .returned (.bool true) ∧ Below w.heap.size w w' := by
  have hv' := Lib.hid hv
  obtain ⟨hm, A, cv, rfl, hc⟩ := hv
  have hc := Lib.hid hc
  have hcb := Lib.hid hcb
  obtain ⟨i0, hi0, hz0, hz1, hz2⟩ := info_parts u32_info
  obtain ⟨j0, hj0, hj1, hj2, hj3⟩ := info_parts ir_int_info
  by_cases h1 : size < 256
  · go_enter Try.func14, Try.ntmps14
    go_wp2_with (go_at_call 36; refine (ir_wakes _).mono ?_; rintro e w9 ⟨rfl, hb9⟩)
    go_ret
    exact ⟨rfl, hb9⟩
  by_cases h2 : 3000 < size
  · go_enter Try.func14, Try.ntmps14
    go_wp2_with (go_at_call 36; refine (ir_wakes _).mono ?_; rintro e w9 ⟨rfl, hb9⟩)
    go_ret
    exact ⟨rfl, hb9⟩
  by_cases h3 : (16 : Int) < cs.length
  · go_enter Try.func14, Try.ntmps14
    go_wp2_with (go_at_call 36; refine (ir_wakes _).mono ?_; rintro e w9 ⟨rfl, hb9⟩)
    go_ret
    exact ⟨rfl, hb9⟩
  obtain ⟨N, rfl⟩ := Int.eq_ofNat_of_zero_le (by omega : 0 ≤ size)
  have n1 : 256 ≤ N := by omega
  have n2 : N ≤ 3000 := by omega
  have n3 : cs.length ≤ 16 := by omega
  obtain ⟨F, hF⟩ : ∃ F : Nat, 13 + cs.length = F := ⟨_, rfl⟩
  have hfirst : Boot.first (cs.length : Int) = (F : Int) := by unfold Boot.first; rw [if_pos (by omega)]; omega
  have IF := fun W => image_first cs.length W (by omega) (by omega)
  rw [hfirst] at IF
  have F1 : F ≤ 29 := by omega
  have hFh := Lib.hid hF
  have IF := fun W => Lib.hid (IF W)
  clear hfirst hF
  go_enter Try.func14, Try.ntmps14
  go_wp2_with fail
  refine (IF _).out.mono ?_
  rintro e w0 ⟨rfl, rfl⟩
  go_wp2_with (at_make; refine wpList_make_full _ rfl (.tmp 35) (.tmp 35) 32 rfl w.heap.size 43 i0 _ 1 Try.underlying32 hi0 hz0 hz1 .i64 .i64 _ _ N rfl rfl rfl rfl (by rw [hz2]; omega) (by simp only [maxLen]; omega) (Nat.le_refl _) ?_; intro w1 hown hg; have hb1 := Lib.hid ((Below.refl w.heap.size w).grown hg (Nat.le_refl _) (fun k hk => by cases hk)); have hB1 := Lib.hid (made_blk hown); clear hg hown)
  have hB1 : RowKit.Hid (Wds w1 w.heap.size (ImgRun.stage cs.length N cs 0)) := Lib.hid (by
    have h0 := hB1.out
    rw [ImgRun.stage_zero _ _ _ (by have := hFh.out; omega)]
    unfold Wds
    rw [List.map_replicate]
    exact h0)
  go_loopw [6, 8, 9] (fun es at_ i wr => ∃ (k a : Nat), i = .int .i64 k ∧ k ≤ cs.length ∧ at_ = .int .i64 a ∧ a = F + 5 * k ∧ wr.ownsRow w.heap.size 3 1 es k (((ImgRun.ents cs.length).take k).map (.int .i64)) ∧ Wds wr w.heap.size (ImgRun.stage cs.length N cs (5 * k)) ∧ Below w.heap.size w wr) (fun _ _ i _ => cs.length - (intOf i).toNat)
  case atStart => exact ⟨0, F, rfl, by omega, rfl, rfl, World.ownsRow_nil _ _ _ _, hB1.out, hb1.out⟩
  case round =>
    obtain ⟨k, a, rfl, hk, rfl, ha0, hown, hW, hb⟩ := hrel
    have ha := Lib.hid ha0
    clear ha0
    have hown := Lib.hid hown
    have hW := Lib.hid hW
    have hb := Lib.hid hb
    have hbs := hb.out.size
    by_cases hlt : (k : Int) < cs.length
    · have hkl : k < cs.length := by omega
      obtain ⟨ad, rfl, hadl, x1⟩ := hc.out k hkl
      have hx := hcb.out (cs.getD k 0) (by rw [List.getD_eq_getElem?_getD, List.getElem?_eq_getElem hkl]; exact List.getElem_mem _)
      have hcw : ∀ j, j < 5 → (ImgRun.codeW cs).getD (5 * k + j) 0 = ((ImgRun.mod (cs.getD k 0)).getD j ⟨0, false, false, 0, 0, 0, 0, 0⟩).E := fun j hj => ImgRun.codeW_get cs k j hkl hj
      have hcw := Lib.hid hcw
      have hen := ImgRun.ents_get cs.length k hkl
      have het : (ImgRun.ents cs.length).take (k + 1) = (ImgRun.ents cs.length).take k ++ [(a : Int)] := by
        have hel : k < (ImgRun.ents cs.length).length := by rw [ImgRun.ents_len]; exact hkl
        rw [List.take_add_one, List.getElem?_eq_getElem hel]
        rw [List.getD_eq_getElem?_getD, List.getElem?_eq_getElem hel, Option.getD_some] at hen
        rw [hen]
        have e1 := hFh.out
        have e2 := ha.out
        simp only [ImgRun.ent, Option.toList_some]
        congr 2
        omega
      have het := Lib.hid het
      clear hen
      generalize cs.getD k 0 = c at *
      have hx0 : 0 ≤ c := hx.1
      have hx1 : c < 256 := hx.2
      have gd := Lib.hid (ImgRun.mod_good c hx0 hx1)
      have fd := Lib.hid (ir_mod_fits c hx0 hx1)
      go_wp2_with (at_builtin; refine wpList_append_own _ rfl (.tmp 44) (.tmp 46) 51 rfl w.heap.size 3 j0 _ 1 8 Try.underlying51 hj0 hj1 hj2 hj3 rfl (by omega) _ k _ rfl (hown.out.alloc _) ⟨wr.heap.size, 0, none⟩ 1 1 [.int .i64 a] rfl rfl (news1 wr _ _) (by simp [Value.oneCell']) (by simp only [maxLen]; omega) (by omega) (by simp; exact Nat.le_succ_of_le hb.out.size) ?_; intro v2 w2 hown2 hg2 _; have B2 : Below w.heap.size w w2 := (hb.out.alloc hb.out.size _).grown hg2 (by simp; exact Nat.le_succ_of_le hb.out.size) (fun q hq => (hown.out.lt q hq).1); have cx2 : w2.cell? (ad.add k) = some (.int .u8 c) := (B2.cell (p := ad.add k) (by rw [block_add]; exact hadl)).trans x1)
      have hW2 : Wds w2 w.heap.size (ImgRun.stage cs.length N cs (5 * k)) := Blk.grown (Blk.alloc hW.out _) hg2 (fun e => own_blk_ne hown.out hW.out (by decide) w.heap.size e.symm rfl)
      have g2 : w.heap.size < w2.heap.size := Blk.lt hW2
      generalize hWW : w2.alloc _ = W2
      have I0 : InsAt W2 w2.heap.size (ImgRun.mod c) := by rw [← hWW]; exact insAt_blk w2 _ _ _ rfl
      have hW3 : Wds W2 w.heap.size (ImgRun.stage cs.length N cs (5 * k)) := by rw [← hWW]; exact Blk.alloc hW2 _
      have hown3 : W2.ownsRow w.heap.size 3 1 v2 (k + 1) (((ImgRun.ents cs.length).take (k + 1)).map (.int .i64)) := by
        rw [← hWW, het.out, List.map_append]
        exact hown2.alloc _
      have B3 : Below w.heap.size w W2 := by rw [← hWW]; exact B2.alloc B2.size _
      clear hWW hown2 hg2 B2 cx2 hW2 hown hW hb hbs het x1 hadl
      generalize w2.heap.size = g3 at *
      generalize wr = wa at *
      have I0 := Lib.hid I0
      have hW3 := Lib.hid hW3
      have hown3 := Lib.hid hown3
      have B3 := Lib.hid B3
      go_loopw [8, 11] (fun at_ j wr => ∃ (m b : Nat), j = .int .i64 m ∧ m ≤ 5 ∧ at_ = .int .i64 b ∧ b = F + (5 * k + m) ∧ Wds wr w.heap.size (ImgRun.stage cs.length N cs (5 * k + m)) ∧ Kept (fun q => q < W2.heap.size ∧ q ≠ w.heap.size) W2 wr) (fun _ j _ => 5 - (intOf j).toNat)
      case atStart => exact ⟨0, a, rfl, by omega, rfl, ha.out, hW3.out, Kept.refl _ _⟩
      case round =>
        obtain ⟨m, b, rfl, hm5, rfl, hbb0, hWm, hK⟩ := hrel
        have hbb := Lib.hid hbb0
        clear hbb0
        have hWm := Lib.hid hWm
        have hK := Lib.hid hK
        by_cases hlm : (m : Int) < 5
        · have hml : m < (ImgRun.mod c).length := by show m < 5; omega
          have hxk : (ImgRun.mod c)[m]? = some ((ImgRun.mod c)[m]'hml) := List.getElem?_eq_getElem hml
          have hgk := gd.out _ (List.mem_of_getElem? hxk)
          have hfx := fd.out _ (List.mem_of_getElem? hxk)
          have hE : (ImgRun.codeW cs).getD (5 * k + m) 0 = ((ImgRun.mod c)[m]'hml).enc := by
            rw [hcw.out m (by omega), List.getD_eq_getElem?_getD, hxk, Option.getD_some, Ins.E, if_pos hgk]
          have hr : wr.rangeAt g3 (m * 8) ((ImgRun.mod c)[m]'hml).cells.toList := fun j u hu => (hK.out.cell (p := ⟨g3, m * 8 + j, none⟩) ⟨I0.out.1, Nat.ne_of_gt g2⟩).trans (I0.out.2 m _ hxk j u hu)
          have hE := Lib.hid hE
          have hr := Lib.hid hr
          generalize (ImgRun.mod c)[m]'hml = x at *
          have EN := fun W => Lib.hid (risc_encode x W hfx hgk)
          have s2 := Lib.hid (ins_size' x)
          have hb0 := hFh.out
          have hb1' := hbb.out
          have hbN : b < N := by omega
          have hbN' : (b : Int) < N := by omega
          have hst := ImgRun.stage_len cs.length N cs (5 * k + m) (by omega) (by omega)
          have hnx := ImgRun.stage_next cs.length N cs (5 * k + m) (by omega) (by omega)
          rw [hE.out, show 13 + cs.length + (5 * k + m) = b by omega] at hnx
          have hnx := Lib.hid hnx
          clear hb0 hb1' hxk hfx hgk hml
          go_wp2_with (refine wpList_load_mid rfl 24 (.tmp 68) rfl g3 (m * 8) rfl x.cells.toList _ hr.out Try.underlying24 rfl s2.out ?_)
          refine (EN _).out.mono ?_
          rintro e w5 ⟨rfl, hb5⟩
          have hW5 : Wds w5 w.heap.size _ := Blk.below hWm.out hb5 (Blk.lt hWm.out)
          have cb := hW5.cell b (by rw [hst]; exact hbN)
          have fb := Blk.frozen hW5 b
          have K5 : RowKit.Hid (Kept (fun q => q < W2.heap.size ∧ q ≠ w.heap.size) W2 w5) := Lib.hid (hK.out.below hb5 (fun q hq => Nat.lt_of_lt_of_le hq.1 hK.out.size))
          have hW6 := hW5.set_ b x.enc
          rw [hnx.out] at hW6
          have hW6 := Lib.hid hW6
          have K6 := Lib.hid (K5.out.setCell (p := ⟨w.heap.size, b, none⟩) (fun h => h.2 rfl) (.int .u32 x.enc))
          clear hW5 hb5 EN hr hE s2 hst hnx hWm hK
          generalize List.getD _ b 0 = y at cb
          generalize x.enc = E at *
          go_wp2_with fail
          refine ⟨⟨m + 1, b + 1, by go_num, by omega, by go_num, by have := hbb.out; omega, hW6.out, K6.out⟩, by simp [intOf]; omega⟩
        · obtain rfl : m = 5 := by omega
          go_wp2_with fail
          refine ⟨⟨k + 1, b, by go_num, by omega, rfl, by have := hbb.out; omega, ?_, ?_, ?_⟩, by simp [intOf]; omega⟩
          · exact own_kept hown3.out hK.out (fun q hq => ⟨(hown3.out.lt q hq).2, fun e => own_blk_ne hown3.out hW3.out (by decide) q hq e.symm⟩)
          · exact hWm.out
          · exact B3.out.trans (hK.out.to_below fun q hq => ⟨Nat.lt_of_lt_of_le hq B3.out.size, Nat.ne_of_lt hq⟩)
    · obtain rfl : k = cs.length := by omega
      have hok := ImgRun.ents_ok N cs.length n1 n2 n3
      have hrow : Row .i64 wr _ (ImgRun.ents cs.length) := row_of_own (by have := hown.out; rwa [List.take_of_length_le (by rw [ImgRun.ents_len]; exact Nat.le_refl _)] at this)
      have BT := image_boot_ok N (ImgRun.ents cs.length) _ wr hrow hok
      rw [ImgRun.ents_len, show cs.length + 13 = F by have := hFh.out; omega] at BT
      have BT := Lib.hid BT
      have law := ImgRun.law (ImgRun.whole_lies N cs n1 n2 n3 hcb.out)
      obtain ⟨l1, l2, l3, l4⟩ := law
      have hwl : (ImgRun.whole N cs).length = N := (ImgRun.whole_lies N cs n1 n2 n3 hcb.out).len
      have hbl : (Boot.words N (ImgRun.ents cs.length)).length = F := by rw [Boot.words_len, ImgRun.ents_len]; have := hFh.out; omega
      have hwo := ImgRun.whole_of N cs
      rw [hFh.out] at hwo
      have hst := ImgRun.stage_len cs.length N cs (5 * cs.length) (by have := hFh.out; omega) (Nat.le_refl _)
      have CN := fun v W hW => Lib.hid (cpu_new (ImgRun.whole N cs) 8 ⟨#[]⟩ v W hW (ImgRun.whole_w32 N cs) (by omega) (by decide) (by decide) (by omega))
      simp only [MadeCpu] at CN
      have ro := fun N' p mp ap W hM h1 h2 h3 => cpu_run_n N' 1000 p mp ap (.slice none 0 0) (Mc.start (ImgRun.whole N cs) 8 ⟨#[]⟩) W hM (by decide) h1 h2 h3 (own_nil _)
      simp only [oc_form] at ro
      obtain ⟨T, hT⟩ : ∃ T, strOfNums cs = T := ⟨_, rfl⟩
      obtain ⟨ST, hST⟩ : ∃ ST : Nat, 5 + 6 * cs.length = ST := ⟨_, rfl⟩
      obtain ⟨Q, hQ⟩ : ∃ Q : Int, 6 * (cs.length : Int) = Q := ⟨_, rfl⟩
      obtain ⟨V, hV⟩ : ∃ V : Int, 4 * (N : Int) = V := ⟨_, rfl⟩
      have h6a : IntKind.i64.wrap (6 * (cs.length : Int)) = Q := by rw [IntKind.wrap_i64]; omega
      have h6b : IntKind.i64.wrap (5 + Q) = (ST : Int) := by rw [IntKind.wrap_i64]; omega
      have h4a : IntKind.i64.wrap (4 * (N : Int)) = V := by rw [IntKind.wrap_i64]; omega
      have h4b : IntKind.u32.wrap V = V := by rw [IntKind.wrap_u32]; omega
      rw [l2, l4, hT, hST] at ro
      rw [hV] at l3
      clear hST hQ hV
      have hT := Lib.hid hT
      rw [show ((Mc.start (ImgRun.whole N cs) 8 ⟨#[]⟩).run 1000).endv = 1 by rw [Mc.endv, l1]; rfl] at ro
      have ro := fun N' p mp ap W hM h1 h2 h3 => Lib.hid (ro N' p mp ap W hM h1 h2 h3)
      clear l1 l2 l4 hok hrow hown
      generalize hR : (Mc.start (ImgRun.whole N cs) 8 ⟨#[]⟩).run 1000 = R at *
      clear hR
      generalize Mc.start (ImgRun.whole N cs) 8 ⟨#[]⟩ = X0 at *
      have l3 := Lib.hid l3
      go_wp2_with fail
      refine BT.out.mono ?_
      rintro e w3 ⟨u, rfl, hu3, hb3⟩
      obtain ⟨gB, cB, rfl⟩ := ir_own_slice hu3 (by have := hFh.out; omega)
      have hW3 : Wds w3 w.heap.size _ := Blk.below hW.out hb3 (Blk.lt hW.out)
      have B3 := Lib.hid (hb.out.trans (hb3.mono hb.out.size))
      have hu3 := Lib.hid hu3
      have hW3 := Lib.hid hW3
      clear hW hb hb3 BT IF
      go_wp2_with (refine wpList_copy_own rfl (.tmp 100) (.tmp 101) 32 32 rfl 43 Try.underlying32 mem_u32_size w.heap.size 0 N N ⟨gB, 0, none⟩ F cB rfl rfl _ 43 hW3.out ((Boot.words N (ImgRun.ents cs.length)).map (Value.int .u32)) (by rw [List.length_map, hbl]; exact (Nat.min_eq_left (by omega)).symm) ?c1 (by simp only [List.length_map, List.size_toArray]; rw [hbl, hst]; omega) (by simp [Value.oneCell']) ?_)
      case c1 =>
        intro j x hj
        exact hu3.out.cells (g := gB) rfl j x hj
      generalize hW4 : w3.setRow w.heap.size _ = W4
      have hB4 : Wds W4 w.heap.size (ImgRun.whole N cs) := by
        rw [← hW4]
        refine (setRow_heap _ _ _ _ _ _ hW3.out).trans ?_
        rw [← hwo]
        simp [hbl, List.map_drop]
      have B4 : Below w.heap.size w W4 := by rw [← hW4]; exact below_setRow B3.out (Nat.le_refl _) _
      have R4 : Row .u32 W4 (.slice (some ⟨w.heap.size, 0, none⟩) N N) (ImgRun.whole N cs) := by
        have := hB4.row (c := N) (by omega)
        rwa [hwl] at this
      clear hW4 hB4 hwo hbl hst hwl hW3 hu3 B3
      refine (CN _ _ R4).out.mono ?_
      rintro e w5 ⟨p, mp, ap, rfl, hp, hmp, hap, hM, hb5⟩
      have B5 := Lib.hid (B4.trans (hb5.mono B4.size))
      have RU := Lib.hid (ro w.heap.size p mp ap w5 hM B5.out.size (Nat.le_trans B4.size hp) (Nat.le_trans B4.size hap))
      clear hM hp hmp hap hb5 CN R4 B4
      go_wp2_with fail
      refine RU.out.out.mono ?_
      rintro e w6 ⟨rfl, hran⟩
      obtain ⟨ov6, hM6, _, hB6, _⟩ := hran
      have B6 := B5.out.trans hB6
      have B7 := B6.alloc B6.size (.cells #[.int .i64 1, .int .i64 R.trap, .string T, .int .i64 ST, .int .i64 R.read] 28)
      have M7 := hM6.alloc (.cells #[.int .i64 1, .int .i64 R.trap, .string T, .int .i64 ST, .int .i64 R.read] 28)
      have RG := cpu_reg p mp ap 14 ov6 R _ M7 (by decide)
      rw [l3.out] at RG
      have RG := Lib.hid RG
      have hcv := run_convert_row (hv'.out.below B7)
      rw [hT.out] at hcv
      have B7 := Lib.hid B7
      clear hM6 hB6 B6 M7 RU
      go_wp2_with (first | (go_at_call 22; refine RG.out.mono ?_; rintro e w8 ⟨rfl, rfl⟩) | (go_at_call 36; refine (ir_wakes _).mono ?_; rintro e w9 ⟨rfl, hb9⟩))
      go_ret
      exact ⟨rfl, B7.out.trans (hb9.mono B7.out.size)⟩

end Go.Proofs.Ytefgajojimkdiaa
