/-
  The statements of the package risc: each law's own walk, out of the contracts.
-/
import Derived.Test.YtffeiekkfcbfaaaRiscSame
namespace Go.Proofs.Ytffeiekkfcbfaaa
set_option linter.unusedVariables false
set_option linter.unusedSimpArgs false
open Go.RowKit Bw

set_option maxHeartbeats 2000000 in
theorem law02_encodes (x : Ins) (w : World) (hx : x.fits) :
    Calls Try.prog 3 #[x.val] w fun e w' => e = .returned (.bool true) ∧ Below w.heap.size w w' := by
  have E1 := fun W => Lib.hid (risc_encode_any x W hx)
  have E2 := fun W => Lib.hid (ref02_encode_any x W hx)
  have G1 := fun W => Lib.hid (risc_good x W hx)
  have G2 := fun W => Lib.hid (ref02_good x W hx)
  generalize x.E = en at *
  generalize x.eerr = er at *
  generalize x.good = gd at *
  obtain ⟨form, u, v, a, b, c, op, im⟩ := x
  simp only [Ins.val, Ins.cells] at *
  go_enter Try.func3, Try.ntmps3
  go_wp2_with fail
  refine (E1 _).out.mono ?_
  rintro e w1 ⟨rfl, hb1⟩
  obtain ⟨hc1, hf1⟩ := bcell hb1
  have hz1 : w.heap.size < w1.heap.size := by have := hb1.size; simp at this; omega
  go_wp2_with fail
  refine (E2 _).out.mono ?_
  rintro e w2 ⟨rfl, hb2⟩
  have k1 := kept8 (new8 _ _ _ _ _ _ _ _ _ _) hb1
  have k2 := kept8 k1 hb2
  clear hc1 hf1 k1
  obtain ⟨k0, kz, kb, c0, c1, c2, c3, c4, c5, c6, c7⟩ := k2
  clear hb1 hb2
  go_wp2_with fail
  go_region_held3 (fun w' => Below w.heap.size w w' ∧ w.heap.size ≤ w'.heap.size ∧ w.heap.size < w'.heap.size ∧ w'.cell? ⟨w.heap.size, 0, none⟩ = some (.int .i64 form) ∧ w'.cell? ⟨w.heap.size, 1, none⟩ = some (.bool u) ∧ w'.cell? ⟨w.heap.size, 2, none⟩ = some (.bool v) ∧ w'.cell? ⟨w.heap.size, 3, none⟩ = some (.int .i64 a) ∧ w'.cell? ⟨w.heap.size, 4, none⟩ = some (.int .i64 b) ∧ w'.cell? ⟨w.heap.size, 5, none⟩ = some (.int .i64 c) ∧ w'.cell? ⟨w.heap.size, 6, none⟩ = some (.int .i64 op) ∧ w'.cell? ⟨w.heap.size, 7, none⟩ = some (.int .i64 im))
    (first | exact ⟨k0.drew, kz, kb, c0, c1, c2, c3, c4, c5, c6, c7⟩ | exact kept8 (by assumption) (by assumption))
    (first | (go_at_call 17; refine (G1 _).out.mono ?_; rintro e w3 ⟨rfl, hb3⟩) | (go_at_call 18; refine (G2 _).out.mono ?_; rintro e w4 ⟨rfl, hb4⟩) | (go_at_call 19; refine (law02_wakes _).mono ?_; rintro e w5 ⟨rfl, hb5⟩))
  all_goals go_wp2_with fail
  all_goals go_ret
  all_goals exact ⟨rfl, And.left (by assumption)⟩

/-- A chain of calls and of new blocks leaves what was there. -/
theorem chain {B : Nat} {w w1 w2 : World} (h : Below B w w1) (hB : B ≤ w1.heap.size) (hb : Below w1.heap.size w1 w2) : Below B w w2 ∧ B ≤ w2.heap.size := ⟨h.trans (hb.mono hB), Nat.le_trans hB hb.size⟩
theorem chain_alloc {B : Nat} {w w1 : World} (h : Below B w w1 ∧ B ≤ w1.heap.size) (o : Obj) : Below B w (w1.alloc o) ∧ B ≤ (w1.alloc o).heap.size := ⟨h.1.alloc h.2 o, by have := h.2; simp; omega⟩
theorem chain_call {B : Nat} {w w1 w2 : World} (h : Below B w w1 ∧ B ≤ w1.heap.size) (hb : Below w1.heap.size w1 w2) : Below B w w2 ∧ B ≤ w2.heap.size := chain h.1 h.2 hb
theorem chain_set {B : Nat} {w w1 : World} (h : Below B w w1 ∧ B ≤ w1.heap.size) {a : Addr} (ha : B ≤ a.block) (v : Value) : Below B w (w1.setCell a v) ∧ B ≤ (w1.setCell a v).heap.size := ⟨h.1.setCell ha v, by have := h.2; simpa [World.setCell] using this⟩
theorem chain_start (w : World) : Below w.heap.size w w ∧ w.heap.size ≤ w.heap.size := ⟨Below.refl _ _, Nat.le_refl _⟩

set_option maxHeartbeats 2000000 in
theorem law02_decodes (x : Int) (w : World) (hx : 0 ≤ x) (hx' : x < 4294967296) :
    Calls Try.prog 4 #[.int .u32 x] w fun e w' => e = .returned (.bool true) ∧ Below w.heap.size w w' := by
  have D1 := fun W => Lib.hid (risc_decode x W hx hx')
  have D2 := fun W => Lib.hid (ref02_decode x W hx hx')
  have SM := fun W => Lib.hid (ref02_same (Ins.dec x) W)
  generalize Ins.dec x = X at *
  generalize Ins.derr x = er at *
  obtain ⟨form, u, v, a, b, c, op, im⟩ := X
  simp only [Ins.val, Ins.cells] at *
  go_enter Try.func4, Try.ntmps4
  go_wp2_with fail
  refine (D1 _).out.mono ?_
  rintro e w1 ⟨rfl, hb1⟩
  go_wp2_with fail
  refine (D2 _).out.mono ?_
  rintro e w2 ⟨rfl, hb2⟩
  obtain ⟨hc2, hf2⟩ := bcell hb2
  have hz2 : w1.heap.size < w2.heap.size := by have := hb2.size; simp at this; omega
  have hz3 : w1.heap.size < w2.heap.size + 1 := by omega
  go_wp2_with fail
  refine (SM _).out.mono ?_
  rintro e w3 ⟨rfl, hb3⟩
  go_wp2_with fail
  refine (law02_wakes _).mono ?_
  rintro e w4 ⟨rfl, hb4⟩
  go_wp2_with fail
  go_ret
  exact ⟨rfl, (chain_call (chain_call (chain_alloc (chain_call (chain_alloc (chain_call (chain_start w) hb1) _) hb2) _) hb3) hb4).1⟩

set_option maxHeartbeats 2000000 in
theorem law02_forms (x : Int) (w : World) (hx : 0 ≤ x) (hx' : x < 4294967296) :
    Calls Try.prog 8 #[.int .u32 x] w fun e w' => e = .returned (.bool true) ∧ Below w.heap.size w w' := by
  have D1 := fun W => Lib.hid (risc_decode x W hx hx')
  by_cases he : Ins.derr x = 0
  · have hg := Ins.dec_good x he
    have G1 := fun W => Lib.hid (risc_good (Ins.dec x) W (Ins.dec_fits x hx hx'))
    rw [hg.1] at G1
    rw [he] at D1
    have hF := Ins.dec_forms x he
    clear hg he
    generalize Ins.dec x = X at *
    obtain ⟨form, u, v, a, b, c, op, im⟩ := X
    simp only at hF
    obtain ⟨rfl, rfl, rfl, rfl⟩ := hF
    simp only [Ins.val, Ins.cells] at *
    have n1 := and_1 (x / 536870912) (by omega) (by omega)
    have n2 := and_1 (x / 268435456) (by omega) (by omega)
    have n3 := and_15 (x / 16777216) (by omega) (by omega)
    have q1 : ∀ z : Int, (z == 1) = decide (z = 1) := fun _ => rfl
    go_enter Try.func8, Try.ntmps8
    go_wp2_with fail
    refine (D1 _).out.mono ?_
    rintro e w1 ⟨rfl, hb1⟩
    go_wp2_with fail
    refine (G1 _).out.mono ?_
    rintro e w2 ⟨rfl, hb2⟩
    go_wp2_with fail
    refine (law02_wakes _).mono ?_
    rintro e w4 ⟨rfl, hb4⟩
    go_wp2_with fail
    go_ret
    exact ⟨rfl, (chain_call (chain_call (chain_alloc (chain_call (chain_start w) hb1) _) hb2) hb4).1⟩
  · obtain ⟨h1, h2⟩ := Ins.dec_none x he
    rw [h1, h2] at D1
    clear h1 h2 he
    simp only [Ins.val, Ins.cells, Ins.zero] at *
    go_enter Try.func8, Try.ntmps8
    go_wp2_with fail
    refine (D1 _).out.mono ?_
    rintro e w1 ⟨rfl, hb1⟩
    go_wp2_with fail
    refine (law02_wakes _).mono ?_
    rintro e w4 ⟨rfl, hb4⟩
    go_wp2_with fail
    go_ret
    exact ⟨rfl, (chain_call (chain_alloc (chain_call (chain_start w) hb1) _) hb4).1⟩

set_option maxHeartbeats 2000000 in
theorem law02_back_yy (x : Ins) (y : Int) (w : World) (hx : x.fits) (hy : 0 ≤ y) (hy' : y < 4294967296) (hg : x.good = true) (hd : Ins.derr y = 0) :
    Calls Try.prog 5 #[x.val, .int .u32 y] w fun e w' => e = .returned (.bool true) ∧ Below w.heap.size w w' := by
  have E1 := fun W => Lib.hid (risc_encode_any x W hx)
  rw [Ins.E, Ins.eerr, hg] at E1
  have D2 := fun W => Lib.hid (risc_decode y W hy hy')
  simp only [if_true] at E1
  have eb := Ins.enc_bd x hg
  have de := Ins.dec_enc x hg
  have D1 := fun W => Lib.hid (risc_decode x.enc W eb.1 eb.2)
  rw [de.1, de.2] at D1
  have S1 := fun W => Lib.hid (ref02_same x W)
  generalize x.enc = en at *
  have dg := Ins.dec_good y hd
  have df := Ins.dec_fits y hy hy'
  have E2 := fun W => Lib.hid (risc_encode_any (Ins.dec y) W df)
  have G2 := fun W => Lib.hid (risc_good (Ins.dec y) W df)
  rw [Ins.E, Ins.eerr, dg.1, dg.2] at E2
  rw [dg.1] at G2
  simp only [if_true] at E2
  rw [hd] at D2
  clear dg df
  generalize Ins.dec y = Y at *
  obtain ⟨gorm, p, q, aa, bb, cc, oq, jm⟩ := Y
  clear hd hg hx
  clear eb de
  obtain ⟨form, u, v, a, b, c, op, im⟩ := x
  simp only [Ins.val, Ins.cells, Ins.zero] at *
  go_enter Try.func5, Try.ntmps5
  go_wp2_with fail
  refine (E1 _).out.mono ?_
  rintro e w1 ⟨rfl, hb1⟩
  obtain ⟨hc1, hf1⟩ := bcell hb1
  have hz1 : w.heap.size < w1.heap.size := by have := hb1.size; simp at this; omega
  go_wp2_with fail
  refine (D1 _).out.mono ?_
  rintro e w2 ⟨rfl, hb2⟩
  obtain ⟨hc2, hf2⟩ := bcell hb2
  have hz2 : w.heap.size < w2.heap.size := by have := hb2.size; omega
  have hz2' : w.heap.size < w2.heap.size + 1 := by omega
  go_wp2_with fail
  refine (S1 _).out.mono ?_
  rintro e w3 ⟨rfl, hb3⟩
  go_wp2_with fail
  refine (D2 _).out.mono ?_
  rintro e w4 ⟨rfl, hb4⟩
  go_wp2_with fail
  refine (E2 _).out.mono ?_
  rintro e w5 ⟨rfl, hb5⟩
  obtain ⟨hc5, hf5⟩ := bcell hb5
  have hz5 : w4.heap.size < w5.heap.size := by have := hb5.size; simp at this; omega
  go_wp2_with fail
  refine (G2 _).out.mono ?_
  rintro e w6 ⟨rfl, hb6⟩
  go_wp2_with fail
  refine (law02_wakes _).mono ?_
  rintro e w7 ⟨rfl, hb7⟩
  go_wp2_with fail
  go_ret
  exact ⟨rfl, (chain_call (chain_call (chain_call (chain_alloc (chain_call (chain_call (chain_alloc (chain_call (chain_call (chain_alloc (chain_start w) _) hb1) hb2) _) hb3) hb4) _) hb5) hb6) hb7).1⟩

set_option maxHeartbeats 2000000 in
theorem law02_back_yn (x : Ins) (y : Int) (w : World) (hx : x.fits) (hy : 0 ≤ y) (hy' : y < 4294967296) (hg : x.good = true) (hd : Ins.derr y ≠ 0) :
    Calls Try.prog 5 #[x.val, .int .u32 y] w fun e w' => e = .returned (.bool true) ∧ Below w.heap.size w w' := by
  have E1 := fun W => Lib.hid (risc_encode_any x W hx)
  rw [Ins.E, Ins.eerr, hg] at E1
  have D2 := fun W => Lib.hid (risc_decode y W hy hy')
  simp only [if_true] at E1
  have eb := Ins.enc_bd x hg
  have de := Ins.dec_enc x hg
  have D1 := fun W => Lib.hid (risc_decode x.enc W eb.1 eb.2)
  rw [de.1, de.2] at D1
  have S1 := fun W => Lib.hid (ref02_same x W)
  generalize x.enc = en at *
  have S2 := fun W => Lib.hid (ref02_same Ins.zero W)
  have f3 : Ins.fits ⟨0, false, false, 0, 0, 0, 12, 0⟩ := by simp [Ins.fits]
  have G3 := fun W => Lib.hid (risc_good ⟨0, false, false, 0, 0, 0, 12, 0⟩ W f3)
  rw [show Ins.good ⟨0, false, false, 0, 0, 0, 12, 0⟩ = false by decide +kernel] at G3
  obtain ⟨z1, z2⟩ := Ins.dec_none y hd
  rw [z1, z2] at D2
  clear z1 z2 f3
  clear hd hg hx
  clear eb de
  obtain ⟨form, u, v, a, b, c, op, im⟩ := x
  simp only [Ins.val, Ins.cells, Ins.zero] at *
  go_enter Try.func5, Try.ntmps5
  go_wp2_with fail
  refine (E1 _).out.mono ?_
  rintro e w1 ⟨rfl, hb1⟩
  obtain ⟨hc1, hf1⟩ := bcell hb1
  have hz1 : w.heap.size < w1.heap.size := by have := hb1.size; simp at this; omega
  go_wp2_with fail
  refine (D1 _).out.mono ?_
  rintro e w2 ⟨rfl, hb2⟩
  obtain ⟨hc2, hf2⟩ := bcell hb2
  have hz2 : w.heap.size < w2.heap.size := by have := hb2.size; omega
  have hz2' : w.heap.size < w2.heap.size + 1 := by omega
  go_wp2_with fail
  refine (S1 _).out.mono ?_
  rintro e w3 ⟨rfl, hb3⟩
  go_wp2_with fail
  refine (D2 _).out.mono ?_
  rintro e w4 ⟨rfl, hb4⟩
  go_wp2_with fail
  refine (S2 _).out.mono ?_
  rintro e w5 ⟨rfl, hb5⟩
  go_wp2_with fail
  refine (G3 _).out.mono ?_
  rintro e w6 ⟨rfl, hb6⟩
  go_wp2_with fail
  refine (law02_wakes _).mono ?_
  rintro e w7 ⟨rfl, hb7⟩
  go_wp2_with fail
  go_ret
  exact ⟨rfl, (chain_call (chain_call (chain_call (chain_alloc (chain_call (chain_call (chain_alloc (chain_call (chain_call (chain_alloc (chain_start w) _) hb1) hb2) _) hb3) hb4) _) hb5) hb6) hb7).1⟩

set_option maxHeartbeats 2000000 in
theorem law02_back_ny (x : Ins) (y : Int) (w : World) (hx : x.fits) (hy : 0 ≤ y) (hy' : y < 4294967296) (hg : x.good = false) (hd : Ins.derr y = 0) :
    Calls Try.prog 5 #[x.val, .int .u32 y] w fun e w' => e = .returned (.bool true) ∧ Below w.heap.size w w' := by
  have E1 := fun W => Lib.hid (risc_encode_any x W hx)
  rw [Ins.E, Ins.eerr, hg] at E1
  have D2 := fun W => Lib.hid (risc_decode y W hy hy')
  simp only [Bool.false_eq_true, if_false] at E1
  have dg := Ins.dec_good y hd
  have df := Ins.dec_fits y hy hy'
  have E2 := fun W => Lib.hid (risc_encode_any (Ins.dec y) W df)
  have G2 := fun W => Lib.hid (risc_good (Ins.dec y) W df)
  rw [Ins.E, Ins.eerr, dg.1, dg.2] at E2
  rw [dg.1] at G2
  simp only [if_true] at E2
  rw [hd] at D2
  clear dg df
  generalize Ins.dec y = Y at *
  obtain ⟨gorm, p, q, aa, bb, cc, oq, jm⟩ := Y
  clear hd hg hx
  obtain ⟨form, u, v, a, b, c, op, im⟩ := x
  simp only [Ins.val, Ins.cells, Ins.zero] at *
  go_enter Try.func5, Try.ntmps5
  go_wp2_with fail
  refine (E1 _).out.mono ?_
  rintro e w1 ⟨rfl, hb1⟩
  obtain ⟨hc1, hf1⟩ := bcell hb1
  have hz1 : w.heap.size < w1.heap.size := by have := hb1.size; simp at this; omega
  go_wp2_with fail
  refine (D2 _).out.mono ?_
  rintro e w4 ⟨rfl, hb4⟩
  go_wp2_with fail
  refine (E2 _).out.mono ?_
  rintro e w5 ⟨rfl, hb5⟩
  obtain ⟨hc5, hf5⟩ := bcell hb5
  have hz5 : w4.heap.size < w5.heap.size := by have := hb5.size; simp at this; omega
  go_wp2_with fail
  refine (G2 _).out.mono ?_
  rintro e w6 ⟨rfl, hb6⟩
  go_wp2_with fail
  refine (law02_wakes _).mono ?_
  rintro e w7 ⟨rfl, hb7⟩
  go_wp2_with fail
  go_ret
  exact ⟨rfl, (chain_call (chain_call (chain_call (chain_alloc (chain_call (chain_call (chain_alloc (chain_start w) _) hb1) hb4) _) hb5) hb6) hb7).1⟩

set_option maxHeartbeats 2000000 in
theorem law02_back_nn (x : Ins) (y : Int) (w : World) (hx : x.fits) (hy : 0 ≤ y) (hy' : y < 4294967296) (hg : x.good = false) (hd : Ins.derr y ≠ 0) :
    Calls Try.prog 5 #[x.val, .int .u32 y] w fun e w' => e = .returned (.bool true) ∧ Below w.heap.size w w' := by
  have E1 := fun W => Lib.hid (risc_encode_any x W hx)
  rw [Ins.E, Ins.eerr, hg] at E1
  have D2 := fun W => Lib.hid (risc_decode y W hy hy')
  simp only [Bool.false_eq_true, if_false] at E1
  have S2 := fun W => Lib.hid (ref02_same Ins.zero W)
  have f3 : Ins.fits ⟨0, false, false, 0, 0, 0, 12, 0⟩ := by simp [Ins.fits]
  have G3 := fun W => Lib.hid (risc_good ⟨0, false, false, 0, 0, 0, 12, 0⟩ W f3)
  rw [show Ins.good ⟨0, false, false, 0, 0, 0, 12, 0⟩ = false by decide +kernel] at G3
  obtain ⟨z1, z2⟩ := Ins.dec_none y hd
  rw [z1, z2] at D2
  clear z1 z2 f3
  clear hd hg hx
  obtain ⟨form, u, v, a, b, c, op, im⟩ := x
  simp only [Ins.val, Ins.cells, Ins.zero] at *
  go_enter Try.func5, Try.ntmps5
  go_wp2_with fail
  refine (E1 _).out.mono ?_
  rintro e w1 ⟨rfl, hb1⟩
  obtain ⟨hc1, hf1⟩ := bcell hb1
  have hz1 : w.heap.size < w1.heap.size := by have := hb1.size; simp at this; omega
  go_wp2_with fail
  refine (D2 _).out.mono ?_
  rintro e w4 ⟨rfl, hb4⟩
  go_wp2_with fail
  refine (S2 _).out.mono ?_
  rintro e w5 ⟨rfl, hb5⟩
  go_wp2_with fail
  refine (G3 _).out.mono ?_
  rintro e w6 ⟨rfl, hb6⟩
  go_wp2_with fail
  refine (law02_wakes _).mono ?_
  rintro e w7 ⟨rfl, hb7⟩
  go_wp2_with fail
  go_ret
  exact ⟨rfl, (chain_call (chain_call (chain_call (chain_alloc (chain_call (chain_call (chain_alloc (chain_start w) _) hb1) hb4) _) hb5) hb6) hb7).1⟩

theorem law02_back (x : Ins) (y : Int) (w : World) (hx : x.fits) (hy : 0 ≤ y) (hy' : y < 4294967296) :
    Calls Try.prog 5 #[x.val, .int .u32 y] w fun e w' => e = .returned (.bool true) ∧ Below w.heap.size w w' := by
  cases hg : x.good <;> by_cases hd : Ins.derr y = 0
  · exact law02_back_ny x y w hx hy hy' hg hd
  · exact law02_back_nn x y w hx hy hy' hg hd
  · exact law02_back_yy x y w hx hy hy' hg hd
  · exact law02_back_yn x y w hx hy hy' hg hd

theorem mod16 (a : Int) : ∃ k : Int, wrap64 ((IntKind.u64.wrap a).tmod 16) = k ∧ 0 ≤ k ∧ k < 16 := by
  refine ⟨_, rfl, ?_⟩
  rw [wrapU64_emod, Int.tmod_eq_emod_of_nonneg (by omega)]
  unfold wrap64; omega

set_option maxHeartbeats 2000000 in
theorem law02_jumps (cond im : Int) (link : Bool) (w : World) (hc : -9223372036854775808 ≤ cond) (hc' : cond ≤ 9223372036854775807) (hi : -9223372036854775808 ≤ im) (hi' : im ≤ 9223372036854775807) :
    Calls Try.prog 6 #[.int .i64 cond, .int .i64 im, .bool link] w fun e w' => e = .returned (.bool true) ∧ Below w.heap.size w w' := by
  obtain ⟨k, hk, k0, k1⟩ := mod16 cond
  have hJ := Ins.jump_good link k im k0 k1
  have hx : Ins.fits ⟨3, true, link, k, 0, 0, 0, im⟩ := by simp [Ins.fits]; omega
  have E1 := fun W => Lib.hid (risc_encode_any ⟨3, true, link, k, 0, 0, 0, im⟩ W hx)
  rw [Ins.E, Ins.eerr] at E1
  by_cases hr : -8388608 ≤ im ∧ im < 8388608
  · have hg : Ins.good ⟨3, true, link, k, 0, 0, 0, im⟩ = true := by rw [hJ]; simpa using hr
    rw [hg] at E1
    simp only [if_true] at E1
    have eb := Ins.enc_bd _ hg
    have de := Ins.dec_enc _ hg
    have D1 := fun W => Lib.hid (risc_decode _ W eb.1 eb.2)
    rw [de.1, de.2] at D1
    clear hJ hx de
    generalize Ins.enc ⟨3, true, link, k, 0, 0, 0, im⟩ = en at *
    obtain ⟨hr1, hr2⟩ := hr
    clear hg
    simp only [Ins.val, Ins.cells] at *
    go_enter Try.func6, Try.ntmps6
    go_wp2_with fail
    refine (E1 _).out.mono ?_
    rintro e w1 ⟨rfl, hb1⟩
    obtain ⟨hc1, hf1⟩ := bcell hb1
    have hz1 : w.heap.size < w1.heap.size := by have := hb1.size; simp at this; omega
    go_wp2_with fail
    refine (D1 _).out.mono ?_
    rintro e w2 ⟨rfl, hb2⟩
    obtain ⟨hc2, hf2⟩ := bcell hb2
    have hz2 : w.heap.size < w2.heap.size := by have := hb2.size; omega
    have hz2' : w.heap.size < w2.heap.size + 1 := by omega
    go_wp2_with fail
    refine (law02_wakes _).mono ?_
    rintro e w7 ⟨rfl, hb7⟩
    go_wp2_with fail
    go_ret
    exact ⟨rfl, (chain_call (chain_alloc (chain_call (chain_call (chain_alloc (chain_start w) _) hb1) hb2) _) hb7).1⟩
  · have hg : Ins.good ⟨3, true, link, k, 0, 0, 0, im⟩ = false := by rw [hJ]; simpa using hr
    rw [hg] at E1
    simp only [Bool.false_eq_true, if_false] at E1
    clear hJ hx hg
    simp only [Ins.val, Ins.cells] at *
    have h2 : im < -8388608 ∨ 8388608 ≤ im := by omega
    clear hr
    rcases h2 with h2 | h2
    all_goals
      go_enter Try.func6, Try.ntmps6
      go_wp2_with fail
      refine (E1 _).out.mono ?_
      rintro e w1 ⟨rfl, hb1⟩
      go_wp2_with fail
      refine (law02_wakes _).mono ?_
      rintro e w7 ⟨rfl, hb7⟩
      go_wp2_with fail
      go_ret
      exact ⟨rfl, (chain_call (chain_call (chain_alloc (chain_start w) _) hb1) hb7).1⟩

set_option maxHeartbeats 2000000 in
theorem law02_fields_none (x : Ins) (n : Int) (w : World) (hx : x.fits) (hn : -9223372036854775808 ≤ n) (hn' : n ≤ 9223372036854775807) (hg : x.good = false) :
    Calls Try.prog 7 #[x.val, .int .i64 n] w fun e w' => e = .returned (.bool true) ∧ Below w.heap.size w w' := by
  obtain ⟨k, hk, k0, k1⟩ := mod16 n
  have E1 := fun W => Lib.hid (risc_encode_any x W hx)
  rw [Ins.E, Ins.eerr, hg] at E1
  simp only [Bool.false_eq_true, if_false] at E1
  obtain ⟨form, u, v, a, b, c, op, im⟩ := x
  have hy : Ins.fits ⟨form, u, v, k, b, c, op, im⟩ := by simp [Ins.fits] at hx ⊢; omega
  have E2 := fun W => Lib.hid (risc_encode_any _ W hy)
  clear hx hy hg
  generalize Ins.E ⟨form, u, v, k, b, c, op, im⟩ = en at *
  generalize Ins.eerr ⟨form, u, v, k, b, c, op, im⟩ = er at *
  simp only [Ins.val, Ins.cells] at *
  go_enter Try.func7, Try.ntmps7
  go_wp2_with fail
  refine (E1 _).out.mono ?_
  rintro e w1 ⟨rfl, hb1⟩
  obtain ⟨hc1, hf1⟩ := bcell hb1
  have hz1 : w.heap.size < w1.heap.size := by have := hb1.size; simp at this; omega
  go_wp2_with fail
  refine (E2 _).out.mono ?_
  rintro e w2 ⟨rfl, hb2⟩
  go_wp2_with fail
  refine (law02_wakes _).mono ?_
  rintro e w7 ⟨rfl, hb7⟩
  go_wp2_with fail
  go_ret
  exact ⟨rfl, (chain_call (chain_call (by first | exact chain_alloc (chain_call (chain_alloc (chain_start w) _) hb1) _ | exact chain_set (chain_alloc (chain_call (chain_alloc (chain_start w) _) hb1) _) (Nat.le_of_lt hz1) _) hb2) hb7).1⟩

set_option maxHeartbeats 4000000 in
theorem law02_fields_jump (n : Int) (u v : Bool) (a b c op im : Int) (w : World) (hx : Ins.fits ⟨3, u, v, a, b, c, op, im⟩) (hn : -9223372036854775808 ≤ n) (hn' : n ≤ 9223372036854775807) (hg : Ins.good ⟨3, u, v, a, b, c, op, im⟩ = true) :
    Calls Try.prog 7 #[Ins.val ⟨3, u, v, a, b, c, op, im⟩, .int .i64 n] w fun e w' => e = .returned (.bool true) ∧ Below w.heap.size w w' := by
  obtain ⟨k, hk, k0, k1⟩ := mod16 n
  have E1 := fun W => Lib.hid (risc_encode_any _ W hx)
  rw [Ins.E, Ins.eerr, hg] at E1
  simp only [if_true] at E1
  have hy : Ins.fits ⟨3, u, v, k, b, c, op, im⟩ := by simp [Ins.fits] at hx ⊢; omega
  have E2 := fun W => Lib.hid (risc_encode_any _ W hy)
  obtain ⟨g1, g2, g3⟩ := Ins.other_a 3 u v a b c op im k hg k0 k1
  have p1 := Ins.enc_bd _ g1
  rw [Ins.E, Ins.eerr, g1] at E2
  simp only [if_true] at E2
  have n1 := and_15 (Ins.enc ⟨3, u, v, k, b, c, op, im⟩ / 16777216) (by omega) (by omega)
  clear g1 hg hx hy
  generalize Ins.enc ⟨3, u, v, a, b, c, op, im⟩ = ex at *
  generalize Ins.enc ⟨3, u, v, k, b, c, op, im⟩ = ey at *
  simp only [Ins.val, Ins.cells] at *
  go_enter Try.func7, Try.ntmps7
  go_wp2_with fail
  refine (E1 _).out.mono ?_
  rintro e w1 ⟨rfl, hb1⟩
  obtain ⟨hc1, hf1⟩ := bcell hb1
  have hz1 : w.heap.size < w1.heap.size := by have := hb1.size; simp at this; omega
  have hz1' : w.heap.size < w1.heap.size + 1 := by omega
  go_wp2_with fail
  refine (E2 _).out.mono ?_
  rintro e w2 ⟨rfl, hb2⟩
  obtain ⟨hc2, hf2⟩ := bcell hb2
  have hz2 : w1.heap.size < w2.heap.size := by have := hb2.size; simp at this; omega
  have hz2' : w.heap.size < w2.heap.size := by omega
  go_wp2_with fail
  refine (law02_wakes _).mono ?_
  rintro e w7 ⟨rfl, hb7⟩
  go_wp2_with fail
  go_ret
  exact ⟨rfl, (chain_call (chain_call (by first | exact chain_alloc (chain_call (chain_alloc (chain_start w) _) hb1) _ | exact chain_set (chain_alloc (chain_call (chain_alloc (chain_start w) _) hb1) _) (Nat.le_of_lt hz1) _) hb2) hb7).1⟩

set_option maxHeartbeats 4000000 in
theorem law02_fields_rest (form n : Int) (u v : Bool) (a b c op im : Int) (w : World) (hx : Ins.fits ⟨form, u, v, a, b, c, op, im⟩) (hn : -9223372036854775808 ≤ n) (hn' : n ≤ 9223372036854775807) (hg : Ins.good ⟨form, u, v, a, b, c, op, im⟩ = true) (hf : form ≠ 3) :
    Calls Try.prog 7 #[Ins.val ⟨form, u, v, a, b, c, op, im⟩, .int .i64 n] w fun e w' => e = .returned (.bool true) ∧ Below w.heap.size w w' := by
  obtain ⟨k, hk, k0, k1⟩ := mod16 n
  have E1 := fun W => Lib.hid (risc_encode_any _ W hx)
  rw [Ins.E, Ins.eerr, hg] at E1
  simp only [if_true] at E1
  have hy : Ins.fits ⟨form, u, v, k, b, c, op, im⟩ := by simp [Ins.fits] at hx ⊢; omega
  have E2 := fun W => Lib.hid (risc_encode_any _ W hy)
  obtain ⟨g1, g2, g3⟩ := Ins.other_a form u v a b c op im k hg k0 k1
  have p1 := Ins.enc_bd _ g1
  rw [Ins.E, Ins.eerr, g1] at E2
  simp only [if_true] at E2
  have n1 := and_15 (Ins.enc ⟨form, u, v, k, b, c, op, im⟩ / 16777216) (by omega) (by omega)
  have hf' : (form == 3) = false := by simpa using hf
  have hz : Ins.fits ⟨form, u, v, a, k, c, op, im⟩ := by simp [Ins.fits] at hx ⊢; omega
  have E3 := fun W => Lib.hid (risc_encode_any _ W hz)
  obtain ⟨q1, q2, q3⟩ := Ins.other_b form u v a b c op im k hg hf k0 k1
  have p2 := Ins.enc_bd _ q1
  rw [Ins.E, Ins.eerr, q1] at E3
  simp only [if_true] at E3
  have n2 := and_15 (Ins.enc ⟨form, u, v, a, k, c, op, im⟩ / 1048576) (by omega) (by omega)
  clear q1 hz hf
  generalize Ins.enc ⟨form, u, v, a, k, c, op, im⟩ = ez at *
  clear g1 hg hx hy
  generalize Ins.enc ⟨form, u, v, a, b, c, op, im⟩ = ex at *
  generalize Ins.enc ⟨form, u, v, k, b, c, op, im⟩ = ey at *
  simp only [Ins.val, Ins.cells] at *
  go_enter Try.func7, Try.ntmps7
  go_wp2_with fail
  refine (E1 _).out.mono ?_
  rintro e w1 ⟨rfl, hb1⟩
  obtain ⟨hc1, hf1⟩ := bcell hb1
  have hz1 : w.heap.size < w1.heap.size := by have := hb1.size; simp at this; omega
  have hz1' : w.heap.size < w1.heap.size + 1 := by omega
  go_wp2_with fail
  refine (E2 _).out.mono ?_
  rintro e w2 ⟨rfl, hb2⟩
  obtain ⟨hc2, hf2⟩ := bcell hb2
  have hz2 : w1.heap.size < w2.heap.size := by have := hb2.size; simp at this; omega
  have hz2' : w.heap.size < w2.heap.size := by omega
  go_wp2_with fail
  refine (E3 _).out.mono ?_
  rintro e w3 ⟨rfl, hb3⟩
  obtain ⟨hc3, hf3⟩ := bcell hb3
  have hz3 : w2.heap.size < w3.heap.size := by have := hb3.size; simp at this; omega
  have hz3' : w1.heap.size < w3.heap.size := by omega
  go_wp2_with fail
  refine (law02_wakes _).mono ?_
  rintro e w7 ⟨rfl, hb7⟩
  go_wp2_with fail
  go_ret
  exact ⟨rfl, (chain_call (chain_call (by first | exact chain_alloc (chain_call (by first | exact chain_alloc (chain_call (chain_alloc (chain_start w) _) hb1) _ | exact chain_set (chain_alloc (chain_call (chain_alloc (chain_start w) _) hb1) _) (Nat.le_of_lt hz1) _) hb2) _ | exact chain_set (chain_alloc (chain_call (by first | exact chain_alloc (chain_call (chain_alloc (chain_start w) _) hb1) _ | exact chain_set (chain_alloc (chain_call (chain_alloc (chain_start w) _) hb1) _) (Nat.le_of_lt hz1) _) hb2) _) (Nat.le_of_lt hz2') _) hb3) hb7).1⟩

theorem law02_fields (x : Ins) (n : Int) (w : World) (hx : x.fits) (hn : -9223372036854775808 ≤ n) (hn' : n ≤ 9223372036854775807) :
    Calls Try.prog 7 #[x.val, .int .i64 n] w fun e w' => e = .returned (.bool true) ∧ Below w.heap.size w w' := by
  cases hg : x.good
  · exact law02_fields_none x n w hx hn hn' hg
  · obtain ⟨form, u, v, a, b, c, op, im⟩ := x
    by_cases hf : form = 3
    · subst hf; exact law02_fields_jump n u v a b c op im w hx hn hn' hg
    · exact law02_fields_rest form n u v a b c op im w hx hn hn' hg hf

end Go.Proofs.Ytffeiekkfcbfaaa
