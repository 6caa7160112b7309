/-
  The statement StoreFull: its walk, out of the contracts.
-/
import Derived.Test.YtlihcdhcljljoaaSortLay
namespace Go.Proofs.Ytlihcdhcljljoaa
set_option linter.unusedVariables false
set_option linter.unusedSimpArgs false
open Go.RowKit Go.Maps Go.WideMaps

set_option maxRecDepth 100000 in
theorem names_nil (p : Nat) (w : World) (hp : Blk w p 99 #[.map none]) :
    Calls Try.prog 29 #[.pointer (some ⟨p, 0, none⟩)] w fun e w' => e = .returned (.slice none 0 0) ∧ Below w.heap.size w w' := by
  have C1 := hp.cell 0
  have C2 := hp.frozen 0
  simp only [List.getElem?_toArray, List.getElem?_cons_zero] at C1
  have hrg := run_range_nilMap (P := Try.prog) w 97 101 9 Try.underlying97
  have hnx : ∀ ty, (Instr.next (.pointer (some ⟨w.heap.size, 0, none⟩)) false ty).run Try.prog (w.alloc (.mapIter none 0 #[] 0)) = _ := fun ty => run_next_nilMap _ ty 0 0 #[]
  go_enter Try.func29, Try.ntmps29
  go_wp2
  refine wp_loop_rounds 1 ?_
  rw [rounds_succ]
  go_wp2_with (go_at_call 50; refine (sort_none none 0 _).mono ?_; rintro e w' ⟨rfl, rfl⟩)
  go_ret
  exact ⟨rfl, (Below.refl _ _).alloc (Nat.le_refl _) _⟩

/-- The law's names. -/
def nm (i : Nat) : ByteArray := ⟨#[70, UInt8.ofNat (97 + i / 26), UInt8.ofNat (97 + i % 26)]⟩
theorem nm_ok : ∀ i, i < 70 → nameOk (nm i) = true := by decide
theorem nm_ne : ∀ i, i < 70 → ∀ j, j < 70 → i ≠ j → nm i ≠ nm j := by
  intro i hi j hj hij h
  have h1 : i / 26 < 3 := by omega
  have h2 : j / 26 < 3 := by omega
  have e : (nm i).data = (nm j).data := by rw [h]
  simp only [nm, Array.mk.injEq, List.cons.injEq, and_true, true_and] at e
  obtain ⟨e1, e2⟩ := e
  have e3 := congrArg UInt8.toNat e1
  have e4 := congrArg UInt8.toNat e2
  simp only [UInt8.toNat_ofNat'] at e3 e4
  omega

set_option maxRecDepth 100000 in
theorem law07_name (i : Nat) (hi : i < 70) (w : World) :
    Calls Try.prog 28 #[.int .i64 (i : Int)] w fun e w' => e = .returned (.string (nm i)) ∧ Below w.heap.size w w' := by
  have hi' : (i : Int) < 70 := by omega
  go_enter Try.func28, Try.ntmps28
  have L := Blk.new w 5 #[.int .u8 70, .int .u8 (97 + (i : Int) / 26), .int .u8 (97 + (i : Int) % 26)]
  have hBy : Go.Lib.Bytes (w.alloc (.cells #[.int .u8 70, .int .u8 (97 + (i : Int) / 26), .int .u8 (97 + (i : Int) % 26)] 5)) w.heap.size 0 (nm i) := fun j hj => by
    have hj3 : j = 0 ∨ j = 1 ∨ j = 2 := by have : j < 3 := hj; omega
    rw [Nat.zero_add, L.cell j]
    rcases hj3 with rfl | rfl | rfl
    · rfl
    · have e : (97 + (i : Int) / 26) = ((UInt8.ofNat (97 + i / 26)).toNat : Int) := by rw [UInt8.toNat_ofNat']; omega
      show some (Value.int .u8 (97 + (i : Int) / 26)) = _
      rw [e]; rfl
    · have e : (97 + (i : Int) % 26) = ((UInt8.ofNat (97 + i % 26)).toNat : Int) := by rw [UInt8.toNat_ofNat']; omega
      show some (Value.int .u8 (97 + (i : Int) % 26)) = _
      rw [e]; rfl
  have hconv := Go.Lib.run_convert_whole (P := Try.prog) _ 84 5 9 Try.underlying84 Try.underlying5 Try.underlying9 w.heap.size 0 (nm i) hBy 3
  have hsz : (nm i).size = 3 := rfl
  rw [hsz] at hconv
  clear hBy hsz L
  go_wp2_with fail
  go_ret
  exact ⟨rfl, (Below.refl _ _).alloc (Nat.le_refl _) _⟩

/-- What the store holds behind some puts. -/
def Full (w : World) (p : Nat) (i : Nat) : Prop :=
  (i = 0 ∧ Blk w p 99 #[.map none]) ∨ (0 < i ∧ ∃ m n D, Blk w p 99 #[.map (some m)] ∧ w.ownsMap Try.prog 101 (plainElem Try.prog 9) m n D ∧ n ≤ i ∧ p < m ∧ Tidy D ∧ Named D ∧ Maps.size D = min i 64 ∧ ∀ j, j < 70 → has D (fkey (nm j)) = decide (j < min i 64))
theorem Full.below {w w' : World} {p i : Nat} (h : Full w p i) (hb : Below w.heap.size w w') : Full w' p i := by
  rcases h with ⟨h, hB⟩ | ⟨h, m, n, D, hB, ho, r⟩
  · exact Or.inl ⟨h, hB.below hb hB.lt⟩
  · exact Or.inr ⟨h, m, n, D, hB.below hb hB.lt, ho.kept (row := none) ⟨hb.os, hb.tape, hb.output, hb.size, fun k hk _ => hb.block k hk⟩ (by simp), r⟩

set_option maxRecDepth 100000 in
/-- One put of the law. -/
theorem full_put (w : World) (p i B : Nat) (hi : i < 70) (h : Full w p i) (hB : B ≤ p) :
    Calls Try.prog 27 #[.pointer (some ⟨p, 0, none⟩), .string (nm i), .string ⟨#[120]⟩] w fun e w' => e = .returned (.int .i64 (if i < 64 then 0 else 3)) ∧ Full w' p (i + 1) ∧ Below B w w' := by
  have hn := nm_ok i hi
  rcases h with ⟨rfl, hb⟩ | ⟨h0, m, n, D, hb, ho, hn1, hpm, hT, hN, hS, hH⟩
  · refine (store_put_nil _ _ p w (by decide) hb hn (by decide)).mono ?_
    rintro e w' ⟨rfl, m, hb2, ho2, hm2, hk2⟩
    refine ⟨rfl, Or.inr ⟨by omega, m, 1, _, hb2, ho2, by omega, by have := hb.lt; omega, tidy_empty.put (fkey_key _) _, named_put named_empty hn _, ?_, fun j hj => ?_⟩, hk2.to_below (fun k hk => ⟨by have := hb.lt; omega, by omega⟩)⟩
    · rw [size_put tidy_empty, show has (DataW.map [] : DataW Unit) (fkey (nm 0)) = false from rfl]; rfl
    · by_cases e : j = 0
      · subst e; rw [has_put_same isMap_empty (fkey_key _)]; rfl
      · rw [has_put_other (fkey_ne (nm_ok j hj) hn (nm_ne j hj 0 hi e)), show has (DataW.map [] : DataW Unit) (fkey (nm j)) = false from rfl]
        exact (decide_eq_false (by omega)).symm
  · by_cases h64 : i < 64
    · have hno : has D (fkey (nm i)) = false := by rw [hH i hi]; exact decide_eq_false (by omega)
      refine (store_put_some _ _ p n m D w (by show 3 ≤ _; decide) (hb.cell 0) ho hn (by decide) (Or.inr (by omega)) (by simp only [maxLen]; omega)).mono ?_
      rintro e w' ⟨rfl, ho2, hk2⟩
      rw [if_pos h64]
      have hpm' : p ≠ m := by omega
      refine ⟨rfl, Or.inr ⟨by omega, m, n + 1, _, hb.kept hk2 ⟨hb.lt, hpm'⟩, ho2, by omega, hpm, hT.put (fkey_key _) _, named_put hN hn _, ?_, fun j hj => ?_⟩, hk2.to_below (fun k hk => ⟨by have := hb.lt; omega, by omega⟩)⟩
      · rw [size_put hT, hno, hS]; simp; omega
      · by_cases e : j = i
        · subst e; rw [has_put_same hT.isMap (fkey_key _)]; exact (decide_eq_true (by omega)).symm
        · rw [has_put_other (fkey_ne (nm_ok j hj) hn (nm_ne j hj i hi e)), hH j hj]
          exact decide_eq_decide.2 (by omega)
    · have hno : has D (fkey (nm i)) = false := by rw [hH i hi]; exact decide_eq_false (by omega)
      refine (store_put_full _ _ p n (.map (some m)) D w (by show 3 ≤ _; decide) hb (Or.inr ⟨m, rfl, ho⟩) hn (by decide) hno (by omega)).mono ?_
      rintro e w' ⟨rfl, hb2⟩
      rw [if_neg h64]
      have h2 : Full w p (i + 1) := Or.inr ⟨by omega, m, n, D, hb, ho, by omega, hpm, hT, hN, by omega, fun j hj => by rw [hH j hj]; exact decide_eq_decide.2 (by omega)⟩
      exact ⟨rfl, h2.below hb2, hb2.mono (by have := hb.lt; omega)⟩

theorem full_again (w : World) (p i B : Nat) (hi : i < 70) (h0 : 0 < i) (h : Full w p i) (hB : B ≤ p) :
    Calls Try.prog 27 #[.pointer (some ⟨p, 0, none⟩), .string (nm 0), .string ⟨#[121]⟩] w fun e w' => e = .returned (.int .i64 0) ∧
      (∃ m n D, Blk w' p 99 #[.map (some m)] ∧ w'.ownsMap Try.prog 101 (plainElem Try.prog 9) m n D ∧ Named D ∧ Maps.size D = min i 64) ∧ Below B w w' := by
  have hn := nm_ok 0 (by omega)
  rcases h with ⟨rfl, hb⟩ | ⟨h0, m, n, D, hb, ho, hn1, hpm, hT, hN, hS, hH⟩
  · omega
  · have hyes : has D (fkey (nm 0)) = true := by rw [hH 0 (by omega)]; exact decide_eq_true (by omega)
    refine (store_put_some _ _ p n m D w (by show 3 ≤ _; decide) (hb.cell 0) ho hn (by decide) (Or.inl hyes) (by simp only [maxLen]; omega)).mono ?_
    rintro e w' ⟨rfl, ho2, hk2⟩
    refine ⟨rfl, ⟨m, n + 1, _, hb.kept hk2 ⟨hb.lt, by omega⟩, ho2, named_put hN hn _, ?_⟩, hk2.to_below (fun k hk => ⟨by have := hb.lt; omega, by omega⟩)⟩
    rw [size_put hT, hyes, hS]; simp

set_option maxRecDepth 100000 in
set_option maxHeartbeats 2000000 in
theorem law07_full (x : Int) (w : World) (x0 : 0 ≤ x) (x1 : x ≤ 255) :
    Calls Try.prog 9 #[.int .u8 x] w fun e w' => e = .returned (.bool true) ∧ Below w.heap.size w w' := by
  obtain ⟨K, hK, hKl⟩ : ∃ K : Nat, x % 70 = (K : Int) ∧ K < 70 := ⟨(x % 70).toNat, by omega, by omega⟩
  have hKl' : (K : Int) < 70 := by omega
  go_enter Try.func9, Try.ntmps9
  go_wp2_with fail
  refine (store_new _).mono ?_
  rintro e w1 ⟨rfl, hw1⟩
  have F1 : RowKit.Hid (Full w1 w.heap.size 0) := Lib.hid (Or.inl ⟨rfl, hw1 ▸ Blk.new w _ _⟩)
  have B1 : Below w.heap.size w w1 := hw1 ▸ (Below.refl _ _).alloc (Nat.le_refl _) _
  clear hw1
  have hK' := Lib.hid hK
  clear hK
  go_wp2_with fail
  rw [hK'.out]
  go_loopw [5] (fun i wr => ∃ k : Nat, i = .int .i64 k ∧ k ≤ K ∧ RowKit.Hid (Full wr w.heap.size k) ∧ Below w.heap.size w wr) (fun i _ => K - (intOf i).toNat)
  case atStart => exact ⟨0, rfl, by omega, F1, B1⟩
  case round =>
    clear F1 B1
    obtain ⟨k, rfl, hk, hF, hb⟩ := hrel
    by_cases hlt : (k : Int) < K
    · go_wp2_with fail
      refine (law07_name k (by omega) _).mono ?_
      rintro e w2 ⟨rfl, hb2⟩
      have F2 := Lib.hid (hF.out.below hb2)
      have B2 : Below w.heap.size w w2 := hb.trans (hb2.mono hb.size)
      clear hF hb2 hb
      go_wp2_with fail
      refine (full_put _ w.heap.size k w.heap.size (by omega) F2.out (Nat.le_refl _)).mono ?_
      rintro e w3 ⟨rfl, hF3, hb3⟩
      have F3 := Lib.hid hF3
      have B3 : Below w.heap.size w w3 := B2.trans hb3
      clear hF3 F2
      by_cases h64 : (k : Int) < 64
      · rw [if_pos (show k < 64 by omega)]
        go_wp2_with fail
        exact ⟨⟨k + 1, by go_num, by omega, F3, B3⟩, by simp [intOf]; omega⟩
      · rw [if_neg (show ¬ k < 64 by omega)]
        go_wp2_with fail
        exact ⟨⟨k + 1, by go_num, by omega, F3, B3⟩, by simp [intOf]; omega⟩
    · obtain rfl : k = K := by omega
      by_cases h0 : k = 0
      · have hbN : Blk wr w.heap.size 99 #[.map none] := by
          rcases hF.out with ⟨-, h⟩ | ⟨h, -⟩
          · exact h
          · omega
        have NN := Lib.hid (names_nil w.heap.size wr hbN)
        have hk1 : (k : Int) < 64 := by omega
        have hk2 : ((k : Int) == 0) = true := by rw [beq_iff_eq]; omega
        have hk3 : ((0 : Int) == min (k : Int) 64) = true := by rw [beq_iff_eq]; omega
        clear hbN hF h0
        go_wp2_with fail
        refine NN.out.mono ?_
        rintro e w2 ⟨rfl, hb2⟩
        have B2 : Below w.heap.size w w2 := hb.trans (hb2.mono hb.size)
        go_wp2_with fail
        refine (law07_wakes _).mono ?_
        rintro e w3 ⟨rfl, hb3⟩
        go_wp2_with fail
        go_ret
        exact ⟨rfl, B2.trans (hb3.mono B2.size)⟩
      · have h0' : ((k : Int) == 0) = false := by rw [beq_eq_false_iff_ne]; omega
        go_wp2_with fail
        refine (law07_name 0 (by omega) _).mono ?_
        rintro e w2 ⟨rfl, hb2⟩
        have F2 := Lib.hid (hF.out.below hb2)
        have B2 : Below w.heap.size w w2 := hb.trans (hb2.mono hb.size)
        clear hF hb2 hb
        go_wp2_with fail
        refine (full_again _ w.heap.size k w.heap.size (by omega) (by omega) F2.out (Nat.le_refl _)).mono ?_
        rintro e w3 ⟨rfl, ⟨m, n, D, hB3, ho3, hN3, hS3⟩, hb3⟩
        have B3 : Below w.heap.size w w3 := B2.trans hb3
        have NN := Lib.hid (store_names sortsStr w.heap.size m n D w3 hB3 ho3 hN3 (by omega))
        have hS3 := Lib.hid hS3
        clear hB3 ho3 F2 hb3
        go_wp2_with fail
        refine NN.out.mono ?_
        rintro e w4 ⟨ss, v, rfl, -, hl4, hown4, hb4⟩
        have hform : ∃ A c, v = .slice A (min k 64) c := by
          rw [hl4, hS3.out] at hown4
          rcases hown4.2 with ⟨rfl, h⟩ | ⟨g, cap, cur, rfl, -⟩
          · omega
          · exact ⟨_, _, rfl⟩
        obtain ⟨A, c, rfl⟩ := hform
        have B4 : Below w.heap.size w w4 := B3.trans (hb4.mono B3.size)
        clear hown4 hl4 NN hb4
        go_wp2_with fail
        refine (law07_wakes _).mono ?_
        rintro e w5 ⟨rfl, hb5⟩
        go_wp2_with fail
        go_ret
        exact ⟨rfl, B4.trans (hb5.mono B4.size)⟩

end Go.Proofs.Ytlihcdhcljljoaa
