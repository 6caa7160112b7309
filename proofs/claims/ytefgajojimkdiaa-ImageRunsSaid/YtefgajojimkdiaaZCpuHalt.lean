/-
  How a run begins: the program's image.words and Boot, walked.
-/
import Derived.Test.YtefgajojimkdiaaZRiscDec
import Derived.Test.YtefgajojimkdiaaZLaw
import Derived.Deep.MidRow
import Derived.Deep.AppendLies
import Derived.Deep.Onto
import Derived.OwnWalk
import Derived.Test.YtefgajojimkdiaaZRiscRefEnc
namespace Go.Proofs.Ytefgajojimkdiaa
set_option linter.unusedVariables false
set_option linter.unusedSimpArgs false
open Go.RowKit Bw

/-- Block g begins with these instructions. -/
def InsAt (w : World) (g : Nat) (xs : List Ins) : Prop := g < w.heap.size ∧ ∀ k x, xs[k]? = some x → w.rangeAt g (k * 8) x.cells.toList
theorem InsAt.below {w w' : World} {g : Nat} {xs : List Ins} (h : InsAt w g xs) {B : Nat} (hb : Below B w w') (hg : g < B) : InsAt w' g xs :=
  ⟨Nat.lt_of_lt_of_le h.1 hb.size, fun k x hx j v hv => (hb.cell (p := ⟨g, k * 8 + j, none⟩) hg).trans (h.2 k x hx j v hv)⟩
theorem ins_size (x : Ins) : (Try.prog.info? 24).map (·.size) = some x.cells.size := by
  have h : (Try.prog.info? 24).map (·.size) = some 8 := by kernel_rfl
  rw [h]; rfl
theorem ins_size' (x : Ins) : (Try.prog.info? 24).map (·.size) = some x.cells.toList.length := ins_size x
theorem ins_one (x : Ins) : x.cells.all (·.oneCell') = true := by simp [Ins.cells, Value.oneCell']
theorem wpList_store_last {P : Program} {ops : Array Oper} {rest : List Oper} {o : Oper} {a : Act} {w : World} {Q : Exit → Act → World → Prop} (hgd : o.guard = none) (ty : TypeId) (x y : Operand) (ho : o.op = .store ty x y)
    (w1 : World) (cells old : Array Value) (t : TypeId) (hw : w = w1.alloc (.cells old t)) (hx : a.eval x = .pointer (some ⟨w1.heap.size, 0, none⟩)) (hy : a.eval y = .agg cells)
    (hi : (P.info? ty).map (·.size) = some cells.size) (hold : old.size = cells.size) (h1 : cells.all (·.oneCell') = true)
    (h : wpList P ops Q rest (a.put o.dst undef) (w1.alloc (.cells cells t))) : wpList P ops Q (o :: rest) a w := by
  subst hw
  refine wpList_store_row hgd ty x y ho w1.heap.size cells hx hy t old (heap_alloc_new w1 _) hi hold h1 ?_
  rw [show (w1.alloc (.cells old t)).setRow w1.heap.size cells = w1.alloc (.cells cells t) by
    unfold World.setRow World.alloc
    congr 1
    apply Array.ext_getElem?
    intro i
    rw [Array.getElem?_modify]
    by_cases h : w1.heap.size = i
    · subst h; simp
    · rw [if_neg h]
      simp only [Array.getElem?_push]
      rw [if_neg (fun e => h e.symm), if_neg (fun e => h e.symm)]]
  exact h

theorem u32_info : (Try.prog.info? 43).map (fun i => (i.zero, i.size, i.bytes)) = some (some (.int .u32 0), 1, 4) := by kernel_rfl

theorem block_add0 (g j : Nat) : (⟨g, 0, none⟩ : Addr).add j = ⟨g, j, none⟩ := by rw [Addr.add_mid]; simp
theorem news1 (w : World) (t : TypeId) (v : Value) : ∀ (j : Nat) (u : Value), [v][j]? = some u → (w.alloc (.cells #[v] t)).cell? ((⟨w.heap.size, 0, none⟩ : Addr).add j) = some u := by
  intro j u hj
  rw [block_add0, cell_of_row _ _ j _ _ _ (heap_alloc_new w (.cells #[v] t))]
  simpa using hj
theorem own_below {w w' : World} {base : Nat} {e : TypeId} {size n : Nat} {v : Value} {xs : List Value} (h : w.ownsRow base e size v n xs) (hb : Below w.heap.size w w') : w'.ownsRow base e size v n xs := by
  refine ⟨h.1, ?_⟩
  rcases h.2 with h2 | ⟨g, cap, cur, hv, hg, hh, r⟩
  · exact Or.inl h2
  · exact Or.inr ⟨g, cap, cur, hv, hg, (hb.block g (Array.getElem?_eq_some_iff.1 hh).1).trans hh, r⟩

set_option maxRecDepth 100000 in
theorem image_words (xs : List Ins) (g c : Nat) (w : World) (hx : InsAt w g xs) (hf : ∀ x ∈ xs, x.fits) (hn : xs.length ≤ 1000) :
    Calls Try.prog 55 #[.slice (some ⟨g, 0, none⟩) xs.length c] w fun e w' => ∃ u, e = .returned u ∧ w'.ownsRow w.heap.size 43 1 u xs.length (xs.map fun x => .int .u32 x.E) ∧ Below w.heap.size w w' := by
  have hx := Lib.hid hx
  have hf := Lib.hid hf
  have hn' := Lib.hid hn
  have hn : (xs.length : Int) ≤ 1000 := by omega
  obtain ⟨i0, hi0, hz0, hz1, hz2⟩ := info_parts u32_info
  go_enter Try.func55, Try.ntmps55
  go_wp2_with fail
  go_loopw [3, 10] (fun o i wr => ∃ k : Nat, i = .int .i64 k ∧ k ≤ xs.length ∧ wr.ownsRow w.heap.size 43 1 o k ((xs.take k).map fun x => .int .u32 x.E) ∧ Below w.heap.size w wr) (fun _ i _ => xs.length - (intOf i).toNat)
  case atStart => exact ⟨0, rfl, by omega, World.ownsRow_nil _ _ _ _, Below.refl _ _⟩
  case round =>
    obtain ⟨k, rfl, hk, hown, hb⟩ := hrel
    have hown := Lib.hid hown
    by_cases hlt : (k : Int) < (xs.length : Int)
    · have hxk : xs[k]? = some (xs[k]'(by omega)) := List.getElem?_eq_getElem (by omega)
      have hfk := Lib.hid (hf.out _ (List.mem_of_getElem? hxk))
      have hk2 : xs.take (k + 1) = xs.take k ++ [xs[k]'(by omega)] := by rw [List.take_add_one, hxk]; rfl
      have hk2 := Lib.hid hk2
      have hr := Lib.hid ((hx.out.below hb hx.out.1).2 k _ hxk)
      generalize xs[k]'(by omega) = x at *
      have s1 := Lib.hid (ins_size x)
      have s2 := Lib.hid (ins_size' x)
      have s3 := Lib.hid (ins_one x)
      have EN := fun W => Lib.hid (risc_encode_any x W hfk.out)
      clear hxk
      go_wp2_with (first | (refine wpList_load_mid rfl 24 (.tmp 12) rfl g (k * 8) rfl x.cells.toList _ hr.out Try.underlying24 rfl s2.out ?_) | (refine wpList_store_last rfl 24 (.tmp 5) (.tmp 13) rfl wr x.cells _ _ rfl rfl rfl s1.out rfl s3.out ?_) | (refine wpList_load_row rfl 24 (.tmp 5) rfl wr.heap.size rfl _ x.cells _ _ (heap_alloc_new wr _) Try.underlying24 rfl s1.out ?_))
      refine (EN _).out.mono ?_
      rintro e w1 ⟨rfl, hb1⟩
      have hown1 : RowKit.Hid (w1.ownsRow w.heap.size 43 1 _ k ((xs.take k).map fun x => .int .u32 x.E)) := Lib.hid (own_below (hown.out.alloc _) hb1)
      have hb2 : Below w.heap.size w w1 := (hb.alloc hb.size _).trans (hb1.mono (by simp; exact Nat.le_succ_of_le hb.size))
      clear hown hb1 hb
      go_wp2_with (at_builtin; refine wpList_append_own _ rfl (.tmp 19) (.tmp 21) 32 rfl w.heap.size 43 i0 _ 1 4 Try.underlying32 hi0 hz0 hz1 hz2 rfl (by omega) _ k _ rfl (hown1.out.alloc _) ⟨w1.heap.size, 0, none⟩ 1 1 [.int .u32 x.E] rfl rfl (news1 w1 _ _) (by simp [Value.oneCell']) (by simp only [maxLen]; omega) (by omega) (by simp; exact Nat.le_succ_of_le hb2.size) ?_; intro v2 w2 hown2 hg2 _)
      have hown2 := Lib.hid hown2
      have hb3 : Below w.heap.size w w2 := (hb2.alloc hb2.size _).grown hg2 (by simp; exact Nat.le_succ_of_le hb2.size) (fun q hq => (hown1.out.lt q hq).1)
      go_wp2_with fail
      refine ⟨⟨k + 1, by go_num, by omega, ?_, hb3⟩, by simp [intOf]; omega⟩
      rw [hk2.out, List.map_append]
      exact hown2.out
    · go_wp2_with fail
      go_ret
      obtain rfl : k = xs.length := by omega
      exact ⟨_, rfl, by have := hown.out; rwa [List.take_length] at this, hb⟩

end Go.Proofs.Ytefgajojimkdiaa

/-
  Instructions in a slice, and their words: Halt, walked.
-/
namespace Go.Proofs.Ytefgajojimkdiaa
set_option linter.unusedVariables false
set_option linter.unusedSimpArgs false
open Go.RowKit Bw

theorem ref02_encode_all (x : Ins) (w : World) (hx : x.fits) :
    Calls Try.prog 29 #[x.val] w fun e w' => e = .returned (.tuple #[.int .u32 x.E, .int .i64 x.eerr]) ∧ Below w.heap.size w w' := by
  cases hg : x.good
  · rw [Ins.E, Ins.eerr, hg]; exact ref02_encode_none x w hx hg
  · rw [Ins.E, Ins.eerr, hg]; exact ref02_encode x w hx hg

theorem insAt_blk (w : World) (t : TypeId) (xs : List Ins) (cs : Array Value) (h : cs = (xs.flatMap fun x => x.cells.toList).toArray) : InsAt (w.alloc (.cells cs t)) w.heap.size xs := by
  subst h
  refine ⟨by simp, fun k x hx j v hv => ?_⟩
  rw [cell_of_row _ _ _ _ _ _ (heap_alloc_new w _)]
  have key : ∀ (xs : List Ins) (k : Nat), xs[k]? = some x → (xs.flatMap fun x => x.cells.toList)[k * 8 + j]? = some v := by
    intro xs
    induction xs with
    | nil => intro k hk; simp at hk
    | cons y ys ih =>
      intro k hk
      have hl : y.cells.toList.length = 8 := rfl
      rw [List.flatMap_cons]
      cases k with
      | zero =>
        simp at hk
        subst hk
        rw [Nat.zero_mul, Nat.zero_add, List.getElem?_append_left (by have := (List.getElem?_eq_some_iff.1 hv).1; omega)]
        exact hv
      | succ k =>
        rw [List.getElem?_append_right (by omega), hl, show (k + 1) * 8 + j - 8 = k * 8 + j by omega]
        exact ih k (by simpa using hk)
  simpa using key xs k hx

theorem own_base {w : World} {base base' : Nat} {e : TypeId} {size n : Nat} {v : Value} {xs : List Value} (hle : base' ≤ base) (h : w.ownsRow base e size v n xs) : w.ownsRow base' e size v n xs := by
  refine ⟨h.1, ?_⟩
  rcases h.2 with h2 | ⟨g, cap, cur, hv, hg, r⟩
  · exact Or.inl h2
  · exact Or.inr ⟨g, cap, cur, hv, Nat.le_trans hle hg, r⟩
theorem halt_fits (b : Int) (hb0 : -9223372036854775808 ≤ b) (hb1 : b ≤ 9223372036854775807) : ∀ x ∈ haltIns b, x.fits := by
  simp [haltIns, Ins.fits]; omega

set_option maxRecDepth 100000 in
set_option maxHeartbeats 2000000 in
theorem law05_halt (b : Int) (w : World) (hb0 : -9223372036854775808 ≤ b) (hb1 : b ≤ 9223372036854775807) :
    Calls Try.prog 40 #[.int .i64 b] w fun e w' => ∃ v, e = .returned v ∧ w'.ownsRow 0 43 1 v 5 (((haltIns b).map Ins.E).map (Value.int .u32)) ∧ Below w.heap.size w w' := by
  obtain ⟨i0, hi0, hz0, hz1, hz2⟩ := info_parts u32_info
  go_enter Try.func40, Try.ntmps40
  go_wp2_with fail
  have I0 : InsAt (w.alloc (.cells #[.int .i64 1, .bool true, .bool false, .int .i64 1, .int .i64 0, .int .i64 0, .int .i64 0, .int .i64 65535, .int .i64 1, .bool false, .bool false, .int .i64 1, .int .i64 1, .int .i64 0, .int .i64 8, .int .i64 65472, .int .i64 1, .bool false, .bool false, .int .i64 0, .int .i64 0, .int .i64 0, .int .i64 0, .int .i64 b, .int .i64 2, .bool true, .bool false, .int .i64 0, .int .i64 1, .int .i64 0, .int .i64 0, .int .i64 8, .int .i64 2, .bool true, .bool false, .int .i64 0, .int .i64 1, .int .i64 0, .int .i64 0, .int .i64 0] 24)) w.heap.size (haltIns b) := insAt_blk w _ _ _ rfl
  have BW := (Below.refl w.heap.size w).alloc (Nat.le_refl _) (.cells #[.int .i64 1, .bool true, .bool false, .int .i64 1, .int .i64 0, .int .i64 0, .int .i64 0, .int .i64 65535, .int .i64 1, .bool false, .bool false, .int .i64 1, .int .i64 1, .int .i64 0, .int .i64 8, .int .i64 65472, .int .i64 1, .bool false, .bool false, .int .i64 0, .int .i64 0, .int .i64 0, .int .i64 0, .int .i64 b, .int .i64 2, .bool true, .bool false, .int .i64 0, .int .i64 1, .int .i64 0, .int .i64 0, .int .i64 8, .int .i64 2, .bool true, .bool false, .int .i64 0, .int .i64 1, .int .i64 0, .int .i64 0, .int .i64 0] 24)
  generalize w.alloc _ = W at *
  have hf := Lib.hid (halt_fits b hb0 hb1)
  have hlen : (haltIns b).length = 5 := rfl
  obtain ⟨xs, hxs⟩ : ∃ xs, haltIns b = xs := ⟨_, rfl⟩
  rw [hxs] at I0 hf hlen
  have hxs' := Lib.hid hxs
  clear hxs
  have hlen := Lib.hid hlen
  have I0 := Lib.hid I0
  have BW := Lib.hid BW
  obtain ⟨g, hg⟩ : ∃ g, w.heap.size = g := ⟨_, rfl⟩
  rw [hg] at I0
  rw [hg]
  go_loopw [4, 5] (fun o i wr => ∃ k : Nat, i = .int .i64 k ∧ k ≤ 5 ∧ wr.ownsRow W.heap.size 43 1 o k ((xs.take k).map fun x => .int .u32 x.E) ∧ Below W.heap.size W wr) (fun _ i _ => 5 - (intOf i).toNat)
  case atStart => exact ⟨0, rfl, by omega, World.ownsRow_nil _ _ _ _, Below.refl _ _⟩
  case round =>
    obtain ⟨k, rfl, hk, hown, hb⟩ := hrel
    have hown := Lib.hid hown
    by_cases hlt : (k : Int) < 5
    · have hkl : k < xs.length := by rw [hlen.out]; omega
      have hxk : xs[k]? = some (xs[k]'hkl) := List.getElem?_eq_getElem hkl
      have hfk := Lib.hid (hf.out _ (List.mem_of_getElem? hxk))
      have hk2 : xs.take (k + 1) = xs.take k ++ [xs[k]'hkl] := by rw [List.take_add_one, hxk]; rfl
      have hk2 := Lib.hid hk2
      have hr := Lib.hid ((I0.out.below hb I0.out.1).2 k _ hxk)
      generalize xs[k]'hkl = x at *
      have s1 := Lib.hid (ins_size x)
      have s2 := Lib.hid (ins_size' x)
      have s3 := Lib.hid (ins_one x)
      have EN := fun W => Lib.hid (ref02_encode_all x W hfk.out)
      clear hxk
      go_wp2_with (first | (refine wpList_load_mid rfl 24 (.tmp 24) rfl g (k * 8) rfl x.cells.toList _ hr.out Try.underlying24 rfl s2.out ?_))
      refine (EN _).out.mono ?_
      rintro e w1 ⟨rfl, hb1⟩
      have hown1 : RowKit.Hid (w1.ownsRow W.heap.size 43 1 _ k ((xs.take k).map fun x => .int .u32 x.E)) := Lib.hid (own_below hown.out hb1)
      have hb2 : Below W.heap.size W w1 := hb.trans (hb1.mono hb.size)
      clear hown hb1 hb
      go_wp2_with (at_builtin; refine wpList_append_own _ rfl (.tmp 29) (.tmp 31) 32 rfl W.heap.size 43 i0 _ 1 4 Try.underlying32 hi0 hz0 hz1 hz2 rfl (by omega) _ k _ rfl (hown1.out.alloc _) ⟨w1.heap.size, 0, none⟩ 1 1 [.int .u32 x.E] rfl rfl (news1 w1 _ _) (by simp [Value.oneCell']) (by simp only [maxLen]; omega) (by omega) (by simp; exact Nat.le_succ_of_le hb2.size) ?_; intro v2 w2 hown2 hg2 _)
      have hown2 := Lib.hid hown2
      have hb3 : Below W.heap.size W w2 := (hb2.alloc hb2.size _).grown hg2 (by simp; exact Nat.le_succ_of_le hb2.size) (fun q hq => (hown1.out.lt q hq).1)
      go_wp2_with fail
      refine ⟨⟨k + 1, by go_num, by omega, ?_, hb3⟩, by simp [intOf]; omega⟩
      rw [hk2.out, List.map_append]
      exact hown2.out
    · go_wp2_with fail
      go_ret
      obtain rfl : k = 5 := by omega
      refine ⟨_, rfl, own_base (base := W.heap.size) (Nat.zero_le _) ?_, hg ▸ BW.out.trans (hb.mono BW.out.size)⟩
      have := hown.out
      rw [List.take_of_length_le (by rw [hlen.out]; omega)] at this
      rw [show (xs.map fun x => Value.int .u32 x.E) = (xs.map Ins.E).map (Value.int .u32) by rw [List.map_map]; rfl, ← hxs'.out, List.map_map] at this
      exact this

end Go.Proofs.Ytefgajojimkdiaa
