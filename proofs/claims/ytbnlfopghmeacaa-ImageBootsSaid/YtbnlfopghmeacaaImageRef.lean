/-
  How a run begins: the document's First and Boot, walked.
-/
import Derived.Test.YtbnlfopghmeacaaImageBoot
import Derived.Test.YtbnlfopghmeacaaRiscRefDec
namespace Go.Proofs.Ytbnlfopghmeacaa
set_option linter.unusedVariables false
set_option linter.unusedSimpArgs false
open Go.RowKit Bw

theorem ref25_first (n : Int) (w : World) (h0 : -9223372036854775808 ≤ n) (h1 : n ≤ 9223372036854775807) : Calls Try.prog 45 #[.int .i64 n] w fun e w' => e = .returned (.int .i64 (Boot.first n)) ∧ w = w' := by
  unfold Boot.first
  by_cases h : 0 ≤ n ∧ n ≤ 16
  · rw [if_pos h]
    obtain ⟨a, b⟩ := h
    go_enter Try.func45, Try.ntmps45
    go_wp2_with fail
    go_ret
    exact ⟨rfl, rfl⟩
  · rw [if_neg h]
    by_cases h2 : n < 0
    · go_enter Try.func45, Try.ntmps45
      go_wp2_with fail
      go_ret
      exact ⟨rfl, rfl⟩
    · have h3 : 16 < n := by omega
      go_enter Try.func45, Try.ntmps45
      go_wp2_with fail
      go_ret
      exact ⟨rfl, rfl⟩

theorem ins_info : (Try.prog.info? 70).map (fun i => (i.zero, i.size, i.bytes)) = some (some (.agg #[.int .i64 0, .bool false, .bool false, .int .i64 0, .int .i64 0, .int .i64 0, .int .i64 0, .int .i64 0]), 8, 56) := by kernel_rfl
def insCells (xs : List Ins) : List Value := xs.flatMap fun x => x.cells.toList
theorem insCells_len (xs : List Ins) : (insCells xs).length = xs.length * 8 := by
  induction xs with
  | nil => rfl
  | cons x xs ih => rw [insCells, List.flatMap_cons, List.length_append]; rw [insCells] at ih; rw [ih]; simp [Ins.cells]; omega
theorem insCells_one (xs : List Ins) : ∀ u ∈ insCells xs, u.oneCell' = true := by
  intro u hu
  simp only [insCells, List.mem_flatMap] at hu
  obtain ⟨x, _, hx⟩ := hu
  exact (Array.all_eq_true_iff_forall_mem.1 (ins_one x)) u (by simpa using hx)
theorem news_new (w : World) (t : TypeId) (cs : Array Value) (news : List Value) (h : cs = news.toArray) : ∀ (j : Nat) (u : Value), news[j]? = some u → (w.alloc (.cells cs t)).cell? ((⟨w.heap.size, 0, none⟩ : Addr).add j) = some u := by
  intro j u hj
  subst h
  rw [block_add0, cell_of_row _ _ j _ _ _ (heap_alloc_new w _)]
  simpa using hj
theorem ins_own (w : World) (xs : List Ins) (cs : Array Value) (h : cs = (insCells xs).toArray) (hm : xs.length ≤ maxLen) : (w.alloc (.cells cs 70)).ownsRow w.heap.size 70 8 (.slice (some ⟨w.heap.size, 0, none⟩) xs.length xs.length) xs.length (insCells xs) := by
  subst h
  exact ⟨insCells_len xs, Or.inr ⟨w.heap.size, xs.length, _, rfl, Nat.le_refl _, heap_alloc_new w _, Nat.le_refl _, hm, by simp [insCells_len], by simp [← insCells_len]⟩⟩
theorem insAt_own {w : World} {base n g cap : Nat} {xs : List Ins} (h : w.ownsRow base 70 8 (.slice (some ⟨g, 0, none⟩) n cap) n (insCells xs)) : InsAt w g xs := by
  refine ⟨(h.lt g rfl).2, fun k x hx j v hv => ?_⟩
  have hc := h.cells (g := g) rfl (k * 8 + j) v
  rw [block_add0] at hc
  refine hc ?_
  have key : ∀ (xs : List Ins) (k : Nat), xs[k]? = some x → (insCells xs)[k * 8 + j]? = some v := by
    intro xs
    induction xs with
    | nil => intro k hk; simp at hk
    | cons y ys ih =>
      intro k hk
      have hl : y.cells.toList.length = 8 := rfl
      rw [insCells, List.flatMap_cons]
      cases k with
      | zero =>
        simp at hk
        subst hk
        rw [Nat.zero_mul, Nat.zero_add, List.getElem?_append_left (by have := (List.getElem?_eq_some_iff.1 hv).1; omega)]
        exact hv
      | succ k =>
        rw [List.getElem?_append_right (by omega), hl, show (k + 1) * 8 + j - 8 = k * 8 + j by omega]
        exact ih k (by simpa using hk)
  exact key xs k hx
theorem own_apart {w : World} {b1 b2 : Nat} {e1 e2 : TypeId} {s1 s2 n1 n2 : Nat} {v1 v2 : Value} {x1 x2 : List Value} (h1 : w.ownsRow b1 e1 s1 v1 n1 x1) (h2 : w.ownsRow b2 e2 s2 v2 n2 x2) (hne : e1 ≠ e2) : v1.ownBlock = none ∨ v1.ownBlock ≠ v2.ownBlock := by
  rcases h1.2 with ⟨rfl, _⟩ | ⟨g, cap, cur, rfl, _, hh, _⟩
  · exact Or.inl rfl
  · refine Or.inr fun he => ?_
    rcases h2.2 with ⟨rfl, _⟩ | ⟨g', cap', cur', rfl, _, hh', _⟩
    · cases he
    · have : g = g' := by simpa [Value.ownBlock] using he
      subst this
      rw [hh] at hh'
      injection hh' with hh'
      injection hh' with _ ht
      exact hne ht

set_option maxRecDepth 100000 in
set_option maxHeartbeats 4000000 in
theorem ref25_boot_ok (size : Int) (es : List Int) (v : Value) (w : World) (hv : Row .i64 w v es) (hok : Boot.ok size es = true) :
    Calls Try.prog 41 #[.int .i64 size, v] w fun e w' => ∃ u, e = .returned (.tuple #[u, .int .i64 0]) ∧ w'.ownsRow w.heap.size 22 1 u (es.length + 13) ((Boot.words size es).map (Value.int .u32)) ∧ Below w.heap.size w w' := by
  simp only [Boot.ok, Boot.sized, Boot.inside, Bool.and_eq_true, decide_eq_true_eq] at hok
  obtain ⟨⟨⟨h1, h2⟩, h3⟩, h4⟩ := hok
  obtain ⟨hm, A, c, rfl, hc⟩ := hv
  have hc := Lib.hid hc
  have h4 := Lib.hid h4
  have h3' : (es.length : Int) ≤ 16 := by omega
  obtain ⟨i0, hi0, hz0, hz1, hz2⟩ := info_parts u32_info
  obtain ⟨i1, hi1, hy0, hy1, hy2⟩ := info_parts ins_info
  have MK := make8
  go_enter Try.func41, Try.ntmps41
  go_wp2_with fail
  have H2 : RowKit.Hid ((w.alloc (.cells (insCells (Boot.ins size es 0)).toArray 70)).ownsRow w.heap.size 70 8 (.slice (some ⟨w.heap.size, 0, none⟩) 2 2) (0 + 2) (insCells (Boot.ins size es 0))) := Lib.hid (ins_own w (Boot.ins size es 0) _ rfl (by simp [Boot.ins, Boot.calls, maxLen]))
  go_loopw [7, 8] (fun o i wr => ∃ k : Nat, i = .int .i64 k ∧ k ≤ es.length ∧ wr.ownsRow w.heap.size 70 8 o (k + 2) (insCells (Boot.ins size es k)) ∧ Below w.heap.size w wr) (fun _ i _ => es.length - (intOf i).toNat)
  case atStart => exact ⟨0, rfl, by omega, H2.out, (Below.refl _ _).alloc (Nat.le_refl _) _⟩
  case round =>
    clear H2
    obtain ⟨k, rfl, hk, hown, hb⟩ := hrel
    by_cases hlt : (k : Int) < (es.length : Int)
    · obtain ⟨ad, rfl, had, hcell⟩ := hc.out k (by omega)
      have hcell' := (hb.cell (p := ad.add k) (by rw [block_add]; exact had)).trans hcell
      obtain ⟨e0, e1'⟩ := h4.out k (by omega)
      have hs := Lib.hid (Boot.ins_succ size es k)
      generalize es.getD k 0 = e at *
      obtain ⟨g3, c3, rfl, -, -⟩ := hown.form (by omega)
      have hown := Lib.hid hown
      clear hcell
      have e5 : e - (8 + ((k : Int) + 2)) - 1 = e - (10 + k) - 1 := by omega
      go_wp2_with (at_builtin; refine wpList_append_own _ rfl (.tmp 52) (.tmp 63) 71 rfl w.heap.size 70 i1 _ 8 56 Try.underlying71 hi1 hy0 hy1 hy2 rfl (by omega) _ (k + 2) _ rfl (hown.out.alloc _) ⟨wr.heap.size, 0, none⟩ 1 1 (insCells [Boot.call (e - (10 + k) - 1)]) rfl rfl (news_new wr _ _ _ rfl) (insCells_one _) (by simp only [maxLen]; omega) (by omega) (by simp; exact Nat.le_succ_of_le hb.size) ?_; intro v5 w5 ho5 hg5 _)
      have H5 := Lib.hid ho5
      have B5 : Below w.heap.size w w5 := (hb.alloc hb.size _).grown hg5 (by simp; exact Nat.le_succ_of_le hb.size) (fun k hk => by have := hown.out.lt k hk; exact this.1)
      clear ho5 hg5 hown hb
      go_wp2_with fail
      refine ⟨⟨k + 1, by go_num, by omega, ?_, B5⟩, by simp [intOf]; omega⟩
      have := H5.out
      rw [hs.out, insCells, List.flatMap_append]
      rw [show k + 1 + 2 = k + 2 + 1 by omega]
      exact this
    · obtain rfl : k = es.length := by omega
      obtain ⟨g3, c3, rfl, -, -⟩ := hown.form (by omega)
      have hown := Lib.hid hown
      clear hlt hk
      go_wp2_with (at_builtin; refine wpList_append_own _ rfl (.tmp 65) (.tmp 69) 71 rfl w.heap.size 70 i1 _ 8 56 Try.underlying71 hi1 hy0 hy1 hy2 rfl (by omega) _ (es.length + 2) _ rfl (hown.out.alloc _) ⟨wr.heap.size, 0, none⟩ 3 3 (insCells Boot.fin) rfl rfl (news_new wr _ _ _ rfl) (insCells_one _) (by simp only [maxLen]; omega) (by omega) (by simp; exact Nat.le_succ_of_le hb.size) ?_; intro v5 w5 ho5 hg5 _)
      obtain ⟨g5, c5, rfl, -, -⟩ := ho5.form (by omega)
      have H5 : RowKit.Hid (w5.ownsRow w.heap.size 70 8 (.slice (some ⟨g5, 0, none⟩) (es.length + 2 + 3) c5) (es.length + 2 + 3) (insCells (Boot.ins size es es.length ++ Boot.fin))) := Lib.hid (by rw [insCells, List.flatMap_append]; exact ho5)
      have B5 : Below w.heap.size w w5 := (hb.alloc hb.size _).grown hg5 (by simp; exact Nat.le_succ_of_le hb.size) (fun k hk => by have := hown.out.lt k hk; exact this.1)
      clear ho5 hg5 hown hb
      have hL : RowKit.Hid ((Boot.ins size es es.length ++ Boot.fin).length = es.length + 2 + 3) := Lib.hid (by simp [Boot.ins_len, Boot.fin])
      have hF : RowKit.Hid (∀ x ∈ Boot.ins size es es.length ++ Boot.fin, x.fits) := Lib.hid (by
        intro x hx
        simp only [Boot.ins, Boot.calls, Boot.fin, List.mem_append, List.mem_map, List.mem_range, List.mem_cons, List.not_mem_nil, or_false] at hx
        rcases hx with ((rfl | rfl) | ⟨i, hi, rfl⟩) | (rfl | rfl | rfl)
        · simp only [Boot.hi, Ins.fits]; omega
        · simp only [Boot.lo, Ins.fits]; omega
        · have := h4.out i hi
          simp only [Boot.call, Ins.fits]; omega
        · simp [Ins.fits]
        · simp [Ins.fits]
        · simp [Ins.fits])
      have hW : RowKit.Hid (Boot.words size es = Boot.zeros ++ (Boot.ins size es es.length ++ Boot.fin).map Ins.E) := Lib.hid rfl
      generalize Boot.ins size es es.length ++ Boot.fin = L at *
      go_wp2_with fail
      have O6 : RowKit.Hid ((w5.alloc (.cells #[.int .u32 0, .int .u32 0, .int .u32 0, .int .u32 0, .int .u32 0, .int .u32 0, .int .u32 0, .int .u32 0] 22)).ownsRow w.heap.size 22 1 (.slice (some ⟨w5.heap.size, 0, none⟩) 8 8) (8 + 0) ((Boot.zeros ++ (L.take 0).map Ins.E).map (Value.int .u32))) := Lib.hid ((zeros_own w5).mono B5.size)
      go_loopw [9, 10] (fun o i wr => ∃ k : Nat, i = .int .i64 k ∧ k ≤ es.length + 2 + 3 ∧ wr.ownsRow w.heap.size 22 1 o (8 + k) ((Boot.zeros ++ (L.take k).map Ins.E).map (Value.int .u32)) ∧ wr.ownsRow w.heap.size 70 8 (.slice (some ⟨g5, 0, none⟩) (es.length + 2 + 3) c5) (es.length + 2 + 3) (insCells L) ∧ Below w.heap.size w wr) (fun _ i _ => es.length + 2 + 3 - (intOf i).toNat)
      case atStart => exact ⟨0, rfl, by omega, O6.out, H5.out.alloc _, B5.alloc B5.size _⟩
      case round =>
        clear O6 H5 B5
        obtain ⟨k, rfl, hk, ho, hi, hb⟩ := hrel
        have ho := Lib.hid ho
        have hi := Lib.hid hi
        by_cases hlt : (k : Int) < (es.length : Int) + 2 + 3
        · have hxk : L[k]? = some (L[k]'(by have := hL.out; omega)) := List.getElem?_eq_getElem (by have := hL.out; omega)
          have hfk := Lib.hid (hF.out _ (List.mem_of_getElem? hxk))
          have hk2 : L.take (k + 1) = L.take k ++ [L[k]'(by have := hL.out; omega)] := by rw [List.take_add_one, hxk]; rfl
          have hk2 := Lib.hid hk2
          have hr := Lib.hid ((insAt_own hi.out).2 k _ hxk)
          generalize L[k]'(by have := hL.out; omega) = x at *
          have s2 := Lib.hid (ins_size' x)
          have EN := fun W => Lib.hid (ref02_encode_any x W hfk.out)
          clear hxk
          go_wp2_with (first | (refine wpList_load_mid rfl 70 (.tmp 81) rfl g5 (k * 8) rfl x.cells.toList _ hr.out Try.underlying70 rfl s2.out ?_))
          refine (EN _).out.mono ?_
          rintro e w7 ⟨rfl, hb7⟩
          have O7 := Lib.hid (own_below ho.out hb7)
          have I7 := Lib.hid (own_below hi.out hb7)
          have B7 : Below w.heap.size w w7 := hb.trans (hb7.mono hb.size)
          clear hb7 ho hi hb
          go_wp2_with (at_builtin; refine wpList_append_own _ rfl (.tmp 86) (.tmp 88) 48 rfl w.heap.size 22 i0 _ 1 4 Try.underlying48 hi0 hz0 hz1 hz2 rfl (by omega) _ (8 + k) _ rfl (O7.out.alloc _) ⟨w7.heap.size, 0, none⟩ 1 1 [.int .u32 x.E] rfl rfl (news1 w7 _ _) (by simp [Value.oneCell']) (by simp only [maxLen]; omega) (by omega) (by simp; exact Nat.le_succ_of_le B7.size) ?_; intro v8 w8 ho8 hg8 _)
          have H8 := Lib.hid ho8
          have I8 := Lib.hid ((I7.out.alloc _).kept hg8 (own_apart I7.out O7.out (by decide)))
          have B8 : Below w.heap.size w w8 := (B7.alloc B7.size _).grown hg8 (by simp; exact Nat.le_succ_of_le B7.size) (fun q hq => (O7.out.lt q hq).1)
          clear ho8 hg8
          go_wp2_with fail
          refine ⟨⟨k + 1, by go_num, by omega, ?_, I8.out, B8⟩, by simp [intOf]; omega⟩
          have := H8.out
          rw [hk2.out]
          simpa [List.map_append, Function.comp_def, Nat.add_assoc] using this
        · obtain rfl : k = es.length + 2 + 3 := by omega
          clear hlt hk
          go_wp2_with fail
          go_ret2
          refine ⟨_, rfl, ?_, hb⟩
          have := ho.out
          rw [hW.out]
          rw [show L.take (es.length + 2 + 3) = L from List.take_of_length_le (Nat.le_of_eq hL.out)] at this
          rw [show es.length + 13 = 8 + (es.length + 2 + 3) by omega]
          exact this

/- No image: an entry lies outside. -/
set_option maxRecDepth 100000 in
set_option maxHeartbeats 4000000 in
theorem ref25_boot_out (size : Int) (es : List Int) (v : Value) (w : World) (hv : Row .i64 w v es) (hsz : Boot.sized size es = true) (hok : Boot.inside size es = false) :
    Calls Try.prog 41 #[.int .i64 size, v] w fun e w' => e = .returned (.tuple #[.slice none 0 0, .int .i64 1]) ∧ Below w.heap.size w w' := by
  simp only [Boot.sized, Bool.and_eq_true, decide_eq_true_eq] at hsz
  simp only [Boot.inside, decide_eq_false_iff_not] at hok
  obtain ⟨⟨h1, h2⟩, h3⟩ := hsz
  obtain ⟨hm, A, c, rfl, hc⟩ := hv
  have hc := Lib.hid hc
  have hok := Lib.hid hok
  have h3' : (es.length : Int) ≤ 16 := by omega
  obtain ⟨i0, hi0, hz0, hz1, hz2⟩ := info_parts u32_info
  obtain ⟨i1, hi1, hy0, hy1, hy2⟩ := info_parts ins_info
  have MK := make8
  go_enter Try.func41, Try.ntmps41
  go_wp2_with fail
  have H2 : RowKit.Hid ((w.alloc (.cells (insCells (Boot.ins size es 0)).toArray 70)).ownsRow w.heap.size 70 8 (.slice (some ⟨w.heap.size, 0, none⟩) 2 2) (0 + 2) (insCells (Boot.ins size es 0))) := Lib.hid (ins_own w (Boot.ins size es 0) _ rfl (by simp [Boot.ins, Boot.calls, maxLen]))
  go_loopw [7, 8] (fun o i wr => ∃ k : Nat, i = .int .i64 k ∧ k ≤ es.length ∧ (∀ j, j < k → 0 ≤ es.getD j 0 ∧ es.getD j 0 < size) ∧ wr.ownsRow w.heap.size 70 8 o (k + 2) (insCells (Boot.ins size es k)) ∧ Below w.heap.size w wr) (fun _ i _ => es.length - (intOf i).toNat)
  case atStart => exact ⟨0, rfl, by omega, fun j hj => by omega, H2.out, (Below.refl _ _).alloc (Nat.le_refl _) _⟩
  case round =>
    clear H2
    obtain ⟨k, rfl, hk, hj, hown, hb⟩ := hrel
    have hj := Lib.hid hj
    by_cases hlt : (k : Int) < (es.length : Int)
    · obtain ⟨ad, rfl, had, hcell⟩ := hc.out k (by omega)
      have hcell' := (hb.cell (p := ad.add k) (by rw [block_add]; exact had)).trans hcell
      have hs := Lib.hid (Boot.ins_succ size es k)
      generalize he : es.getD k 0 = e at *
      have he := Lib.hid he
      obtain ⟨g3, c3, rfl, -, -⟩ := hown.form (by omega)
      have hown := Lib.hid hown
      clear hcell
      by_cases e0 : e < 0
      · go_wp2_with fail
        go_ret2
        exact ⟨rfl, hb⟩
      by_cases e2 : size ≤ e
      · go_wp2_with fail
        go_ret2
        exact ⟨rfl, hb⟩
      have e0 : 0 ≤ e := by omega
      have e1' : e < size := by omega
      clear e2
      have e5 : e - (8 + ((k : Int) + 2)) - 1 = e - (10 + k) - 1 := by omega
      go_wp2_with (at_builtin; refine wpList_append_own _ rfl (.tmp 52) (.tmp 63) 71 rfl w.heap.size 70 i1 _ 8 56 Try.underlying71 hi1 hy0 hy1 hy2 rfl (by omega) _ (k + 2) _ rfl (hown.out.alloc _) ⟨wr.heap.size, 0, none⟩ 1 1 (insCells [Boot.call (e - (10 + k) - 1)]) rfl rfl (news_new wr _ _ _ rfl) (insCells_one _) (by simp only [maxLen]; omega) (by omega) (by simp; exact Nat.le_succ_of_le hb.size) ?_; intro v5 w5 ho5 hg5 _)
      have H5 := Lib.hid ho5
      have B5 : Below w.heap.size w w5 := (hb.alloc hb.size _).grown hg5 (by simp; exact Nat.le_succ_of_le hb.size) (fun k hk => by have := hown.out.lt k hk; exact this.1)
      clear ho5 hg5 hown hb
      go_wp2_with fail
      refine ⟨⟨k + 1, by go_num, by omega, fun j hj' => (by
        rcases Nat.lt_or_ge j k with h | h
        · exact hj.out j h
        · obtain rfl : j = k := by omega
          rw [he.out]; exact ⟨e0, e1'⟩), ?_, B5⟩, by simp [intOf]; omega⟩
      have := H5.out
      rw [hs.out, insCells, List.flatMap_append]
      rw [show k + 1 + 2 = k + 2 + 1 by omega]
      exact this
    · exact absurd (fun i hi => hj.out i (by omega)) hok.out

set_option maxRecDepth 100000 in
theorem ref25_boot_none (size : Int) (es : List Int) (v : Value) (w : World) (hv : Row .i64 w v es) (s0 : -9223372036854775808 ≤ size) (s1 : size ≤ 9223372036854775807) (hsz : Boot.sized size es = false) :
    Calls Try.prog 41 #[.int .i64 size, v] w fun e w' => e = .returned (.tuple #[.slice none 0 0, .int .i64 1]) ∧ Below w.heap.size w w' := by
  obtain ⟨hm, A, c, rfl, hc⟩ := hv
  clear hc
  have h : size < 256 ∨ 65536 < size ∨ (256 ≤ size ∧ size ≤ 65536 ∧ (16 : Int) < es.length) := by
    simp only [Boot.sized, Bool.and_eq_false_iff, decide_eq_false_iff_not] at hsz; omega
  clear hsz
  rcases h with h | h | ⟨h1, h2, h3⟩
  · go_enter Try.func41, Try.ntmps41
    go_wp2_with fail
    go_ret2
    exact ⟨rfl, Below.refl _ _⟩
  · go_enter Try.func41, Try.ntmps41
    go_wp2_with fail
    go_ret2
    exact ⟨rfl, Below.refl _ _⟩
  · go_enter Try.func41, Try.ntmps41
    go_wp2_with fail
    go_ret2
    exact ⟨rfl, Below.refl _ _⟩

end Go.Proofs.Ytbnlfopghmeacaa
