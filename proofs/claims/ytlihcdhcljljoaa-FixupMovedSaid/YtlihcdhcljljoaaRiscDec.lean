/-
  What risc.Decode computes, for every word.
-/
import Derived.Test.YtlihcdhcljljoaaRiscEnc
namespace Go.Proofs.Ytlihcdhcljljoaa
set_option linter.unusedVariables false
set_option linter.unusedSimpArgs false
open Go.RowKit Bw

theorem risc_encode_any (x : Ins) (w : World) (hx : x.fits) :
    Calls Try.prog 45 #[x.val] w fun e w' => e = .returned (.tuple #[.int .u32 x.E, .int .i64 x.eerr]) ∧ Below w.heap.size w w' := by
  cases hg : x.good
  · rw [Ins.E, Ins.eerr, hg]; exact risc_encode_none x w hx hg
  · rw [Ins.E, Ins.eerr, hg]; exact risc_encode x w hx hg

set_option maxHeartbeats 1000000 in
theorem risc_decode_0_yes (x : Int) (U V : Bool) (w : World) (hx : 0 ≤ x) (hx' : x < 4294967296) (h30 : x / 1073741824 = 0) (hU : (x / 536870912 % 2 == 1) = U) (hV : (x / 268435456 % 2 == 1) = V) 
    (HE : RowKit.Hid (∀ W, Calls Try.prog 45 #[Ins.val ⟨0, U, V, Get x 24 4, Get x 20 4, x % 16, Get x 16 4, 0⟩] W fun q w' => q = .returned (.tuple #[.int .u32 x, .int .i64 0]) ∧ Below W.heap.size W w')) :
    Calls Try.prog 14 #[.int .u32 x] w fun q w' => q = .returned (.tuple #[Ins.val ⟨0, U, V, Get x 24 4, Get x 20 4, x % 16, Get x 16 4, 0⟩, .int .i64 0]) ∧ Below w.heap.size w w' := by
  have a1 := get_bd x 24 4 hx hx'
  have a2 := get_bd x 20 4 hx hx'
  have a3 := get_bd x 16 4 hx hx'
  have e1 := extend_bd x 20
  have e2 := extend_bd x 24
  have n1 := and_1 (x / 536870912) (by omega) (by omega)
  have n2 := and_1 (x / 268435456) (by omega) (by omega)
  have n3 := and_15 x hx hx'
  have n4 : IntKind.u16.wrap x = x % 65536 := by simp [IntKind.wrap, IntKind.bits, IntKind.signed]
  go_enter Try.func14, Try.ntmps14
  go_wp2_with fail
  refine (bits_get x 24 4 _ hx hx' (by omega) (by omega) (by omega) (by omega)).mono ?_
  rintro e w' ⟨rfl, d0, rfl⟩
  go_wp2_with fail
  refine (bits_get x 20 4 _ hx hx' (by omega) (by omega) (by omega) (by omega)).mono ?_
  rintro e w' ⟨rfl, d1, rfl⟩
  go_wp2_with fail
  refine (bits_get x 16 4 _ hx hx' (by omega) (by omega) (by omega) (by omega)).mono ?_
  rintro e w' ⟨rfl, d2, rfl⟩
  go_wp2_with fail
  refine (HE.out _).mono ?_
  rintro e w1 ⟨rfl, hb⟩
  obtain ⟨hc, hf⟩ := bcell hb
  have hz := hb.size
  simp at hz
  have c0 : w1.cell? ⟨w.heap.size, 0, none⟩ = some (.int .i64 0) := (hb.cell (p := ⟨w.heap.size, 0, none⟩) (by simp; omega)).trans (by go_simp)
  have c1 : w1.cell? ⟨w.heap.size, 1, none⟩ = some (.bool false) := (hb.cell (p := ⟨w.heap.size, 1, none⟩) (by simp; omega)).trans (by go_simp)
  have c2 : w1.cell? ⟨w.heap.size, 2, none⟩ = some (.bool false) := (hb.cell (p := ⟨w.heap.size, 2, none⟩) (by simp; omega)).trans (by go_simp)
  have c3 : w1.cell? ⟨w.heap.size, 3, none⟩ = some (.int .i64 0) := (hb.cell (p := ⟨w.heap.size, 3, none⟩) (by simp; omega)).trans (by go_simp)
  have c4 : w1.cell? ⟨w.heap.size, 4, none⟩ = some (.int .i64 0) := (hb.cell (p := ⟨w.heap.size, 4, none⟩) (by simp; omega)).trans (by go_simp)
  have c5 : w1.cell? ⟨w.heap.size, 5, none⟩ = some (.int .i64 0) := (hb.cell (p := ⟨w.heap.size, 5, none⟩) (by simp; omega)).trans (by go_simp)
  have c6 : w1.cell? ⟨w.heap.size, 6, none⟩ = some (.int .i64 0) := (hb.cell (p := ⟨w.heap.size, 6, none⟩) (by simp; omega)).trans (by go_simp)
  have c7 : w1.cell? ⟨w.heap.size, 7, none⟩ = some (.int .i64 0) := (hb.cell (p := ⟨w.heap.size, 7, none⟩) (by simp; omega)).trans (by go_simp)
  go_wp2_with fail
  refine bodyPost_ret (v := .tuple #[Ins.val ⟨0, U, V, Get x 24 4, Get x 20 4, x % 16, Get x 16 4, 0⟩, .int .i64 0]) (by simp only [results, Try.results14, Ins.val, Ins.cells, Ins.zero]; go_simp) rfl ⟨rfl, ?_⟩
  ((repeat with_reducible refine Below.setCell ?_ (by simp) _); refine below_call ?_ hb; repeat (first | with_reducible exact Below.refl _ _ | with_reducible refine Below.setCell ?_ (by simp) _ | with_reducible refine below_drewN ?_ _ | with_reducible refine Below.alloc ?_ (by simp) _))

set_option maxHeartbeats 1000000 in
theorem risc_decode_0_no (x : Int) (U V : Bool) (w : World) (hx : 0 ≤ x) (hx' : x < 4294967296) (h30 : x / 1073741824 = 0) (hU : (x / 536870912 % 2 == 1) = U) (hV : (x / 268435456 % 2 == 1) = V) (err r : Int) (hn : RowKit.Hid (err ≠ 0 ∨ r ≠ x)) 
    (HE : RowKit.Hid (∀ W, Calls Try.prog 45 #[Ins.val ⟨0, U, V, Get x 24 4, Get x 20 4, x % 16, Get x 16 4, 0⟩] W fun q w' => q = .returned (.tuple #[.int .u32 r, .int .i64 err]) ∧ Below W.heap.size W w')) :
    Calls Try.prog 14 #[.int .u32 x] w fun q w' => q = .returned (.tuple #[Ins.val Ins.zero, .int .i64 20]) ∧ Below w.heap.size w w' := by
  have a1 := get_bd x 24 4 hx hx'
  have a2 := get_bd x 20 4 hx hx'
  have a3 := get_bd x 16 4 hx hx'
  have e1 := extend_bd x 20
  have e2 := extend_bd x 24
  have n1 := and_1 (x / 536870912) (by omega) (by omega)
  have n2 := and_1 (x / 268435456) (by omega) (by omega)
  have n3 := and_15 x hx hx'
  have n4 : IntKind.u16.wrap x = x % 65536 := by simp [IntKind.wrap, IntKind.bits, IntKind.signed]
  go_enter Try.func14, Try.ntmps14
  go_wp2_with fail
  refine (bits_get x 24 4 _ hx hx' (by omega) (by omega) (by omega) (by omega)).mono ?_
  rintro e w' ⟨rfl, d0, rfl⟩
  go_wp2_with fail
  refine (bits_get x 20 4 _ hx hx' (by omega) (by omega) (by omega) (by omega)).mono ?_
  rintro e w' ⟨rfl, d1, rfl⟩
  go_wp2_with fail
  refine (bits_get x 16 4 _ hx hx' (by omega) (by omega) (by omega) (by omega)).mono ?_
  rintro e w' ⟨rfl, d2, rfl⟩
  go_wp2_with fail
  refine (HE.out _).mono ?_
  rintro e w1 ⟨rfl, hb⟩
  obtain ⟨hc, hf⟩ := bcell hb
  have hz := hb.size
  simp at hz
  have c0 : w1.cell? ⟨w.heap.size, 0, none⟩ = some (.int .i64 0) := (hb.cell (p := ⟨w.heap.size, 0, none⟩) (by simp; omega)).trans (by go_simp)
  have c1 : w1.cell? ⟨w.heap.size, 1, none⟩ = some (.bool false) := (hb.cell (p := ⟨w.heap.size, 1, none⟩) (by simp; omega)).trans (by go_simp)
  have c2 : w1.cell? ⟨w.heap.size, 2, none⟩ = some (.bool false) := (hb.cell (p := ⟨w.heap.size, 2, none⟩) (by simp; omega)).trans (by go_simp)
  have c3 : w1.cell? ⟨w.heap.size, 3, none⟩ = some (.int .i64 0) := (hb.cell (p := ⟨w.heap.size, 3, none⟩) (by simp; omega)).trans (by go_simp)
  have c4 : w1.cell? ⟨w.heap.size, 4, none⟩ = some (.int .i64 0) := (hb.cell (p := ⟨w.heap.size, 4, none⟩) (by simp; omega)).trans (by go_simp)
  have c5 : w1.cell? ⟨w.heap.size, 5, none⟩ = some (.int .i64 0) := (hb.cell (p := ⟨w.heap.size, 5, none⟩) (by simp; omega)).trans (by go_simp)
  have c6 : w1.cell? ⟨w.heap.size, 6, none⟩ = some (.int .i64 0) := (hb.cell (p := ⟨w.heap.size, 6, none⟩) (by simp; omega)).trans (by go_simp)
  have c7 : w1.cell? ⟨w.heap.size, 7, none⟩ = some (.int .i64 0) := (hb.cell (p := ⟨w.heap.size, 7, none⟩) (by simp; omega)).trans (by go_simp)
  go_wp2_with fail
  all_goals first | (exfalso; have := hn.out; simp_all; done) | skip
  all_goals refine bodyPost_ret (v := .tuple #[Ins.val Ins.zero, .int .i64 20]) (by simp only [results, Try.results14, Ins.val, Ins.cells, Ins.zero]; go_simp) rfl ⟨rfl, ?_⟩
  all_goals ((repeat with_reducible refine Below.setCell ?_ (by simp) _); refine below_call ?_ hb; repeat (first | with_reducible exact Below.refl _ _ | with_reducible refine Below.setCell ?_ (by simp) _ | with_reducible refine below_drewN ?_ _ | with_reducible refine Below.alloc ?_ (by simp) _))

set_option maxHeartbeats 1000000 in
theorem risc_decode_1_yes (x : Int) (U V : Bool) (w : World) (hx : 0 ≤ x) (hx' : x < 4294967296) (h30 : x / 1073741824 = 1) (hU : (x / 536870912 % 2 == 1) = U) (hV : (x / 268435456 % 2 == 1) = V) 
    (HE : RowKit.Hid (∀ W, Calls Try.prog 45 #[Ins.val ⟨1, U, V, Get x 24 4, Get x 20 4, 0, Get x 16 4, x % 65536⟩] W fun q w' => q = .returned (.tuple #[.int .u32 x, .int .i64 0]) ∧ Below W.heap.size W w')) :
    Calls Try.prog 14 #[.int .u32 x] w fun q w' => q = .returned (.tuple #[Ins.val ⟨1, U, V, Get x 24 4, Get x 20 4, 0, Get x 16 4, x % 65536⟩, .int .i64 0]) ∧ Below w.heap.size w w' := by
  have a1 := get_bd x 24 4 hx hx'
  have a2 := get_bd x 20 4 hx hx'
  have a3 := get_bd x 16 4 hx hx'
  have e1 := extend_bd x 20
  have e2 := extend_bd x 24
  have n1 := and_1 (x / 536870912) (by omega) (by omega)
  have n2 := and_1 (x / 268435456) (by omega) (by omega)
  have n3 := and_15 x hx hx'
  have n4 : IntKind.u16.wrap x = x % 65536 := by simp [IntKind.wrap, IntKind.bits, IntKind.signed]
  go_enter Try.func14, Try.ntmps14
  go_wp2_with fail
  refine (bits_get x 24 4 _ hx hx' (by omega) (by omega) (by omega) (by omega)).mono ?_
  rintro e w' ⟨rfl, d0, rfl⟩
  go_wp2_with fail
  refine (bits_get x 20 4 _ hx hx' (by omega) (by omega) (by omega) (by omega)).mono ?_
  rintro e w' ⟨rfl, d1, rfl⟩
  go_wp2_with fail
  refine (bits_get x 16 4 _ hx hx' (by omega) (by omega) (by omega) (by omega)).mono ?_
  rintro e w' ⟨rfl, d2, rfl⟩
  go_wp2_with fail
  refine (HE.out _).mono ?_
  rintro e w1 ⟨rfl, hb⟩
  obtain ⟨hc, hf⟩ := bcell hb
  have hz := hb.size
  simp at hz
  have c0 : w1.cell? ⟨w.heap.size, 0, none⟩ = some (.int .i64 0) := (hb.cell (p := ⟨w.heap.size, 0, none⟩) (by simp; omega)).trans (by go_simp)
  have c1 : w1.cell? ⟨w.heap.size, 1, none⟩ = some (.bool false) := (hb.cell (p := ⟨w.heap.size, 1, none⟩) (by simp; omega)).trans (by go_simp)
  have c2 : w1.cell? ⟨w.heap.size, 2, none⟩ = some (.bool false) := (hb.cell (p := ⟨w.heap.size, 2, none⟩) (by simp; omega)).trans (by go_simp)
  have c3 : w1.cell? ⟨w.heap.size, 3, none⟩ = some (.int .i64 0) := (hb.cell (p := ⟨w.heap.size, 3, none⟩) (by simp; omega)).trans (by go_simp)
  have c4 : w1.cell? ⟨w.heap.size, 4, none⟩ = some (.int .i64 0) := (hb.cell (p := ⟨w.heap.size, 4, none⟩) (by simp; omega)).trans (by go_simp)
  have c5 : w1.cell? ⟨w.heap.size, 5, none⟩ = some (.int .i64 0) := (hb.cell (p := ⟨w.heap.size, 5, none⟩) (by simp; omega)).trans (by go_simp)
  have c6 : w1.cell? ⟨w.heap.size, 6, none⟩ = some (.int .i64 0) := (hb.cell (p := ⟨w.heap.size, 6, none⟩) (by simp; omega)).trans (by go_simp)
  have c7 : w1.cell? ⟨w.heap.size, 7, none⟩ = some (.int .i64 0) := (hb.cell (p := ⟨w.heap.size, 7, none⟩) (by simp; omega)).trans (by go_simp)
  go_wp2_with fail
  refine bodyPost_ret (v := .tuple #[Ins.val ⟨1, U, V, Get x 24 4, Get x 20 4, 0, Get x 16 4, x % 65536⟩, .int .i64 0]) (by simp only [results, Try.results14, Ins.val, Ins.cells, Ins.zero]; go_simp) rfl ⟨rfl, ?_⟩
  ((repeat with_reducible refine Below.setCell ?_ (by simp) _); refine below_call ?_ hb; repeat (first | with_reducible exact Below.refl _ _ | with_reducible refine Below.setCell ?_ (by simp) _ | with_reducible refine below_drewN ?_ _ | with_reducible refine Below.alloc ?_ (by simp) _))

set_option maxHeartbeats 1000000 in
theorem risc_decode_1_no (x : Int) (U V : Bool) (w : World) (hx : 0 ≤ x) (hx' : x < 4294967296) (h30 : x / 1073741824 = 1) (hU : (x / 536870912 % 2 == 1) = U) (hV : (x / 268435456 % 2 == 1) = V) (err r : Int) (hn : RowKit.Hid (err ≠ 0 ∨ r ≠ x)) 
    (HE : RowKit.Hid (∀ W, Calls Try.prog 45 #[Ins.val ⟨1, U, V, Get x 24 4, Get x 20 4, 0, Get x 16 4, x % 65536⟩] W fun q w' => q = .returned (.tuple #[.int .u32 r, .int .i64 err]) ∧ Below W.heap.size W w')) :
    Calls Try.prog 14 #[.int .u32 x] w fun q w' => q = .returned (.tuple #[Ins.val Ins.zero, .int .i64 20]) ∧ Below w.heap.size w w' := by
  have a1 := get_bd x 24 4 hx hx'
  have a2 := get_bd x 20 4 hx hx'
  have a3 := get_bd x 16 4 hx hx'
  have e1 := extend_bd x 20
  have e2 := extend_bd x 24
  have n1 := and_1 (x / 536870912) (by omega) (by omega)
  have n2 := and_1 (x / 268435456) (by omega) (by omega)
  have n3 := and_15 x hx hx'
  have n4 : IntKind.u16.wrap x = x % 65536 := by simp [IntKind.wrap, IntKind.bits, IntKind.signed]
  go_enter Try.func14, Try.ntmps14
  go_wp2_with fail
  refine (bits_get x 24 4 _ hx hx' (by omega) (by omega) (by omega) (by omega)).mono ?_
  rintro e w' ⟨rfl, d0, rfl⟩
  go_wp2_with fail
  refine (bits_get x 20 4 _ hx hx' (by omega) (by omega) (by omega) (by omega)).mono ?_
  rintro e w' ⟨rfl, d1, rfl⟩
  go_wp2_with fail
  refine (bits_get x 16 4 _ hx hx' (by omega) (by omega) (by omega) (by omega)).mono ?_
  rintro e w' ⟨rfl, d2, rfl⟩
  go_wp2_with fail
  refine (HE.out _).mono ?_
  rintro e w1 ⟨rfl, hb⟩
  obtain ⟨hc, hf⟩ := bcell hb
  have hz := hb.size
  simp at hz
  have c0 : w1.cell? ⟨w.heap.size, 0, none⟩ = some (.int .i64 0) := (hb.cell (p := ⟨w.heap.size, 0, none⟩) (by simp; omega)).trans (by go_simp)
  have c1 : w1.cell? ⟨w.heap.size, 1, none⟩ = some (.bool false) := (hb.cell (p := ⟨w.heap.size, 1, none⟩) (by simp; omega)).trans (by go_simp)
  have c2 : w1.cell? ⟨w.heap.size, 2, none⟩ = some (.bool false) := (hb.cell (p := ⟨w.heap.size, 2, none⟩) (by simp; omega)).trans (by go_simp)
  have c3 : w1.cell? ⟨w.heap.size, 3, none⟩ = some (.int .i64 0) := (hb.cell (p := ⟨w.heap.size, 3, none⟩) (by simp; omega)).trans (by go_simp)
  have c4 : w1.cell? ⟨w.heap.size, 4, none⟩ = some (.int .i64 0) := (hb.cell (p := ⟨w.heap.size, 4, none⟩) (by simp; omega)).trans (by go_simp)
  have c5 : w1.cell? ⟨w.heap.size, 5, none⟩ = some (.int .i64 0) := (hb.cell (p := ⟨w.heap.size, 5, none⟩) (by simp; omega)).trans (by go_simp)
  have c6 : w1.cell? ⟨w.heap.size, 6, none⟩ = some (.int .i64 0) := (hb.cell (p := ⟨w.heap.size, 6, none⟩) (by simp; omega)).trans (by go_simp)
  have c7 : w1.cell? ⟨w.heap.size, 7, none⟩ = some (.int .i64 0) := (hb.cell (p := ⟨w.heap.size, 7, none⟩) (by simp; omega)).trans (by go_simp)
  go_wp2_with fail
  all_goals first | (exfalso; have := hn.out; simp_all; done) | skip
  all_goals refine bodyPost_ret (v := .tuple #[Ins.val Ins.zero, .int .i64 20]) (by simp only [results, Try.results14, Ins.val, Ins.cells, Ins.zero]; go_simp) rfl ⟨rfl, ?_⟩
  all_goals ((repeat with_reducible refine Below.setCell ?_ (by simp) _); refine below_call ?_ hb; repeat (first | with_reducible exact Below.refl _ _ | with_reducible refine Below.setCell ?_ (by simp) _ | with_reducible refine below_drewN ?_ _ | with_reducible refine Below.alloc ?_ (by simp) _))

set_option maxHeartbeats 1000000 in
theorem risc_decode_2_yes (x : Int) (U V : Bool) (w : World) (hx : 0 ≤ x) (hx' : x < 4294967296) (h30 : x / 1073741824 = 2) (hU : (x / 536870912 % 2 == 1) = U) (hV : (x / 268435456 % 2 == 1) = V) 
    (HE : RowKit.Hid (∀ W, Calls Try.prog 45 #[Ins.val ⟨2, U, V, Get x 24 4, Get x 20 4, 0, 0, Extend x 20⟩] W fun q w' => q = .returned (.tuple #[.int .u32 x, .int .i64 0]) ∧ Below W.heap.size W w')) :
    Calls Try.prog 14 #[.int .u32 x] w fun q w' => q = .returned (.tuple #[Ins.val ⟨2, U, V, Get x 24 4, Get x 20 4, 0, 0, Extend x 20⟩, .int .i64 0]) ∧ Below w.heap.size w w' := by
  have a1 := get_bd x 24 4 hx hx'
  have a2 := get_bd x 20 4 hx hx'
  have a3 := get_bd x 16 4 hx hx'
  have e1 := extend_bd x 20
  have e2 := extend_bd x 24
  have n1 := and_1 (x / 536870912) (by omega) (by omega)
  have n2 := and_1 (x / 268435456) (by omega) (by omega)
  have n3 := and_15 x hx hx'
  have n4 : IntKind.u16.wrap x = x % 65536 := by simp [IntKind.wrap, IntKind.bits, IntKind.signed]
  go_enter Try.func14, Try.ntmps14
  go_wp2_with fail
  refine (bits_get x 24 4 _ hx hx' (by omega) (by omega) (by omega) (by omega)).mono ?_
  rintro e w' ⟨rfl, d0, rfl⟩
  go_wp2_with fail
  refine (bits_get x 20 4 _ hx hx' (by omega) (by omega) (by omega) (by omega)).mono ?_
  rintro e w' ⟨rfl, d1, rfl⟩
  go_wp2_with fail
  refine (bits_extend x 20 _ hx hx').mono ?_
  rintro e w' ⟨rfl, rfl⟩
  go_wp2_with fail
  refine (HE.out _).mono ?_
  rintro e w1 ⟨rfl, hb⟩
  obtain ⟨hc, hf⟩ := bcell hb
  have hz := hb.size
  simp at hz
  have c0 : w1.cell? ⟨w.heap.size, 0, none⟩ = some (.int .i64 0) := (hb.cell (p := ⟨w.heap.size, 0, none⟩) (by simp; omega)).trans (by go_simp)
  have c1 : w1.cell? ⟨w.heap.size, 1, none⟩ = some (.bool false) := (hb.cell (p := ⟨w.heap.size, 1, none⟩) (by simp; omega)).trans (by go_simp)
  have c2 : w1.cell? ⟨w.heap.size, 2, none⟩ = some (.bool false) := (hb.cell (p := ⟨w.heap.size, 2, none⟩) (by simp; omega)).trans (by go_simp)
  have c3 : w1.cell? ⟨w.heap.size, 3, none⟩ = some (.int .i64 0) := (hb.cell (p := ⟨w.heap.size, 3, none⟩) (by simp; omega)).trans (by go_simp)
  have c4 : w1.cell? ⟨w.heap.size, 4, none⟩ = some (.int .i64 0) := (hb.cell (p := ⟨w.heap.size, 4, none⟩) (by simp; omega)).trans (by go_simp)
  have c5 : w1.cell? ⟨w.heap.size, 5, none⟩ = some (.int .i64 0) := (hb.cell (p := ⟨w.heap.size, 5, none⟩) (by simp; omega)).trans (by go_simp)
  have c6 : w1.cell? ⟨w.heap.size, 6, none⟩ = some (.int .i64 0) := (hb.cell (p := ⟨w.heap.size, 6, none⟩) (by simp; omega)).trans (by go_simp)
  have c7 : w1.cell? ⟨w.heap.size, 7, none⟩ = some (.int .i64 0) := (hb.cell (p := ⟨w.heap.size, 7, none⟩) (by simp; omega)).trans (by go_simp)
  go_wp2_with fail
  refine bodyPost_ret (v := .tuple #[Ins.val ⟨2, U, V, Get x 24 4, Get x 20 4, 0, 0, Extend x 20⟩, .int .i64 0]) (by simp only [results, Try.results14, Ins.val, Ins.cells, Ins.zero]; go_simp) rfl ⟨rfl, ?_⟩
  ((repeat with_reducible refine Below.setCell ?_ (by simp) _); refine below_call ?_ hb; repeat (first | with_reducible exact Below.refl _ _ | with_reducible refine Below.setCell ?_ (by simp) _ | with_reducible refine below_drewN ?_ _ | with_reducible refine Below.alloc ?_ (by simp) _))

set_option maxHeartbeats 1000000 in
theorem risc_decode_2_no (x : Int) (U V : Bool) (w : World) (hx : 0 ≤ x) (hx' : x < 4294967296) (h30 : x / 1073741824 = 2) (hU : (x / 536870912 % 2 == 1) = U) (hV : (x / 268435456 % 2 == 1) = V) (err r : Int) (hn : RowKit.Hid (err ≠ 0 ∨ r ≠ x)) 
    (HE : RowKit.Hid (∀ W, Calls Try.prog 45 #[Ins.val ⟨2, U, V, Get x 24 4, Get x 20 4, 0, 0, Extend x 20⟩] W fun q w' => q = .returned (.tuple #[.int .u32 r, .int .i64 err]) ∧ Below W.heap.size W w')) :
    Calls Try.prog 14 #[.int .u32 x] w fun q w' => q = .returned (.tuple #[Ins.val Ins.zero, .int .i64 20]) ∧ Below w.heap.size w w' := by
  have a1 := get_bd x 24 4 hx hx'
  have a2 := get_bd x 20 4 hx hx'
  have a3 := get_bd x 16 4 hx hx'
  have e1 := extend_bd x 20
  have e2 := extend_bd x 24
  have n1 := and_1 (x / 536870912) (by omega) (by omega)
  have n2 := and_1 (x / 268435456) (by omega) (by omega)
  have n3 := and_15 x hx hx'
  have n4 : IntKind.u16.wrap x = x % 65536 := by simp [IntKind.wrap, IntKind.bits, IntKind.signed]
  go_enter Try.func14, Try.ntmps14
  go_wp2_with fail
  refine (bits_get x 24 4 _ hx hx' (by omega) (by omega) (by omega) (by omega)).mono ?_
  rintro e w' ⟨rfl, d0, rfl⟩
  go_wp2_with fail
  refine (bits_get x 20 4 _ hx hx' (by omega) (by omega) (by omega) (by omega)).mono ?_
  rintro e w' ⟨rfl, d1, rfl⟩
  go_wp2_with fail
  refine (bits_extend x 20 _ hx hx').mono ?_
  rintro e w' ⟨rfl, rfl⟩
  go_wp2_with fail
  refine (HE.out _).mono ?_
  rintro e w1 ⟨rfl, hb⟩
  obtain ⟨hc, hf⟩ := bcell hb
  have hz := hb.size
  simp at hz
  have c0 : w1.cell? ⟨w.heap.size, 0, none⟩ = some (.int .i64 0) := (hb.cell (p := ⟨w.heap.size, 0, none⟩) (by simp; omega)).trans (by go_simp)
  have c1 : w1.cell? ⟨w.heap.size, 1, none⟩ = some (.bool false) := (hb.cell (p := ⟨w.heap.size, 1, none⟩) (by simp; omega)).trans (by go_simp)
  have c2 : w1.cell? ⟨w.heap.size, 2, none⟩ = some (.bool false) := (hb.cell (p := ⟨w.heap.size, 2, none⟩) (by simp; omega)).trans (by go_simp)
  have c3 : w1.cell? ⟨w.heap.size, 3, none⟩ = some (.int .i64 0) := (hb.cell (p := ⟨w.heap.size, 3, none⟩) (by simp; omega)).trans (by go_simp)
  have c4 : w1.cell? ⟨w.heap.size, 4, none⟩ = some (.int .i64 0) := (hb.cell (p := ⟨w.heap.size, 4, none⟩) (by simp; omega)).trans (by go_simp)
  have c5 : w1.cell? ⟨w.heap.size, 5, none⟩ = some (.int .i64 0) := (hb.cell (p := ⟨w.heap.size, 5, none⟩) (by simp; omega)).trans (by go_simp)
  have c6 : w1.cell? ⟨w.heap.size, 6, none⟩ = some (.int .i64 0) := (hb.cell (p := ⟨w.heap.size, 6, none⟩) (by simp; omega)).trans (by go_simp)
  have c7 : w1.cell? ⟨w.heap.size, 7, none⟩ = some (.int .i64 0) := (hb.cell (p := ⟨w.heap.size, 7, none⟩) (by simp; omega)).trans (by go_simp)
  go_wp2_with fail
  all_goals first | (exfalso; have := hn.out; simp_all; done) | skip
  all_goals refine bodyPost_ret (v := .tuple #[Ins.val Ins.zero, .int .i64 20]) (by simp only [results, Try.results14, Ins.val, Ins.cells, Ins.zero]; go_simp) rfl ⟨rfl, ?_⟩
  all_goals ((repeat with_reducible refine Below.setCell ?_ (by simp) _); refine below_call ?_ hb; repeat (first | with_reducible exact Below.refl _ _ | with_reducible refine Below.setCell ?_ (by simp) _ | with_reducible refine below_drewN ?_ _ | with_reducible refine Below.alloc ?_ (by simp) _))

set_option maxHeartbeats 1000000 in
theorem risc_decode_3t_yes (x : Int) (V : Bool) (w : World) (hx : 0 ≤ x) (hx' : x < 4294967296) (h30 : x / 1073741824 = 3) (hU : (x / 536870912 % 2 == 1) = true) (hV : (x / 268435456 % 2 == 1) = V) 
    (HE : RowKit.Hid (∀ W, Calls Try.prog 45 #[Ins.val ⟨3, true, V, Get x 24 4, 0, 0, 0, Extend x 24⟩] W fun q w' => q = .returned (.tuple #[.int .u32 x, .int .i64 0]) ∧ Below W.heap.size W w')) :
    Calls Try.prog 14 #[.int .u32 x] w fun q w' => q = .returned (.tuple #[Ins.val ⟨3, true, V, Get x 24 4, 0, 0, 0, Extend x 24⟩, .int .i64 0]) ∧ Below w.heap.size w w' := by
  have a1 := get_bd x 24 4 hx hx'
  have a2 := get_bd x 20 4 hx hx'
  have a3 := get_bd x 16 4 hx hx'
  have e1 := extend_bd x 20
  have e2 := extend_bd x 24
  have n1 := and_1 (x / 536870912) (by omega) (by omega)
  have n2 := and_1 (x / 268435456) (by omega) (by omega)
  have n3 := and_15 x hx hx'
  have n4 : IntKind.u16.wrap x = x % 65536 := by simp [IntKind.wrap, IntKind.bits, IntKind.signed]
  go_enter Try.func14, Try.ntmps14
  go_wp2_with fail
  refine (bits_get x 24 4 _ hx hx' (by omega) (by omega) (by omega) (by omega)).mono ?_
  rintro e w' ⟨rfl, d0, rfl⟩
  go_wp2_with fail
  refine (bits_extend x 24 _ hx hx').mono ?_
  rintro e w' ⟨rfl, rfl⟩
  go_wp2_with fail
  refine (HE.out _).mono ?_
  rintro e w1 ⟨rfl, hb⟩
  obtain ⟨hc, hf⟩ := bcell hb
  have hz := hb.size
  simp at hz
  have c0 : w1.cell? ⟨w.heap.size, 0, none⟩ = some (.int .i64 0) := (hb.cell (p := ⟨w.heap.size, 0, none⟩) (by simp; omega)).trans (by go_simp)
  have c1 : w1.cell? ⟨w.heap.size, 1, none⟩ = some (.bool false) := (hb.cell (p := ⟨w.heap.size, 1, none⟩) (by simp; omega)).trans (by go_simp)
  have c2 : w1.cell? ⟨w.heap.size, 2, none⟩ = some (.bool false) := (hb.cell (p := ⟨w.heap.size, 2, none⟩) (by simp; omega)).trans (by go_simp)
  have c3 : w1.cell? ⟨w.heap.size, 3, none⟩ = some (.int .i64 0) := (hb.cell (p := ⟨w.heap.size, 3, none⟩) (by simp; omega)).trans (by go_simp)
  have c4 : w1.cell? ⟨w.heap.size, 4, none⟩ = some (.int .i64 0) := (hb.cell (p := ⟨w.heap.size, 4, none⟩) (by simp; omega)).trans (by go_simp)
  have c5 : w1.cell? ⟨w.heap.size, 5, none⟩ = some (.int .i64 0) := (hb.cell (p := ⟨w.heap.size, 5, none⟩) (by simp; omega)).trans (by go_simp)
  have c6 : w1.cell? ⟨w.heap.size, 6, none⟩ = some (.int .i64 0) := (hb.cell (p := ⟨w.heap.size, 6, none⟩) (by simp; omega)).trans (by go_simp)
  have c7 : w1.cell? ⟨w.heap.size, 7, none⟩ = some (.int .i64 0) := (hb.cell (p := ⟨w.heap.size, 7, none⟩) (by simp; omega)).trans (by go_simp)
  go_wp2_with fail
  refine bodyPost_ret (v := .tuple #[Ins.val ⟨3, true, V, Get x 24 4, 0, 0, 0, Extend x 24⟩, .int .i64 0]) (by simp only [results, Try.results14, Ins.val, Ins.cells, Ins.zero]; go_simp) rfl ⟨rfl, ?_⟩
  ((repeat with_reducible refine Below.setCell ?_ (by simp) _); refine below_call ?_ hb; repeat (first | with_reducible exact Below.refl _ _ | with_reducible refine Below.setCell ?_ (by simp) _ | with_reducible refine below_drewN ?_ _ | with_reducible refine Below.alloc ?_ (by simp) _))

set_option maxHeartbeats 1000000 in
theorem risc_decode_3t_no (x : Int) (V : Bool) (w : World) (hx : 0 ≤ x) (hx' : x < 4294967296) (h30 : x / 1073741824 = 3) (hU : (x / 536870912 % 2 == 1) = true) (hV : (x / 268435456 % 2 == 1) = V) (err r : Int) (hn : RowKit.Hid (err ≠ 0 ∨ r ≠ x)) 
    (HE : RowKit.Hid (∀ W, Calls Try.prog 45 #[Ins.val ⟨3, true, V, Get x 24 4, 0, 0, 0, Extend x 24⟩] W fun q w' => q = .returned (.tuple #[.int .u32 r, .int .i64 err]) ∧ Below W.heap.size W w')) :
    Calls Try.prog 14 #[.int .u32 x] w fun q w' => q = .returned (.tuple #[Ins.val Ins.zero, .int .i64 20]) ∧ Below w.heap.size w w' := by
  have a1 := get_bd x 24 4 hx hx'
  have a2 := get_bd x 20 4 hx hx'
  have a3 := get_bd x 16 4 hx hx'
  have e1 := extend_bd x 20
  have e2 := extend_bd x 24
  have n1 := and_1 (x / 536870912) (by omega) (by omega)
  have n2 := and_1 (x / 268435456) (by omega) (by omega)
  have n3 := and_15 x hx hx'
  have n4 : IntKind.u16.wrap x = x % 65536 := by simp [IntKind.wrap, IntKind.bits, IntKind.signed]
  go_enter Try.func14, Try.ntmps14
  go_wp2_with fail
  refine (bits_get x 24 4 _ hx hx' (by omega) (by omega) (by omega) (by omega)).mono ?_
  rintro e w' ⟨rfl, d0, rfl⟩
  go_wp2_with fail
  refine (bits_extend x 24 _ hx hx').mono ?_
  rintro e w' ⟨rfl, rfl⟩
  go_wp2_with fail
  refine (HE.out _).mono ?_
  rintro e w1 ⟨rfl, hb⟩
  obtain ⟨hc, hf⟩ := bcell hb
  have hz := hb.size
  simp at hz
  have c0 : w1.cell? ⟨w.heap.size, 0, none⟩ = some (.int .i64 0) := (hb.cell (p := ⟨w.heap.size, 0, none⟩) (by simp; omega)).trans (by go_simp)
  have c1 : w1.cell? ⟨w.heap.size, 1, none⟩ = some (.bool false) := (hb.cell (p := ⟨w.heap.size, 1, none⟩) (by simp; omega)).trans (by go_simp)
  have c2 : w1.cell? ⟨w.heap.size, 2, none⟩ = some (.bool false) := (hb.cell (p := ⟨w.heap.size, 2, none⟩) (by simp; omega)).trans (by go_simp)
  have c3 : w1.cell? ⟨w.heap.size, 3, none⟩ = some (.int .i64 0) := (hb.cell (p := ⟨w.heap.size, 3, none⟩) (by simp; omega)).trans (by go_simp)
  have c4 : w1.cell? ⟨w.heap.size, 4, none⟩ = some (.int .i64 0) := (hb.cell (p := ⟨w.heap.size, 4, none⟩) (by simp; omega)).trans (by go_simp)
  have c5 : w1.cell? ⟨w.heap.size, 5, none⟩ = some (.int .i64 0) := (hb.cell (p := ⟨w.heap.size, 5, none⟩) (by simp; omega)).trans (by go_simp)
  have c6 : w1.cell? ⟨w.heap.size, 6, none⟩ = some (.int .i64 0) := (hb.cell (p := ⟨w.heap.size, 6, none⟩) (by simp; omega)).trans (by go_simp)
  have c7 : w1.cell? ⟨w.heap.size, 7, none⟩ = some (.int .i64 0) := (hb.cell (p := ⟨w.heap.size, 7, none⟩) (by simp; omega)).trans (by go_simp)
  go_wp2_with fail
  all_goals first | (exfalso; have := hn.out; simp_all; done) | skip
  all_goals refine bodyPost_ret (v := .tuple #[Ins.val Ins.zero, .int .i64 20]) (by simp only [results, Try.results14, Ins.val, Ins.cells, Ins.zero]; go_simp) rfl ⟨rfl, ?_⟩
  all_goals ((repeat with_reducible refine Below.setCell ?_ (by simp) _); refine below_call ?_ hb; repeat (first | with_reducible exact Below.refl _ _ | with_reducible refine Below.setCell ?_ (by simp) _ | with_reducible refine below_drewN ?_ _ | with_reducible refine Below.alloc ?_ (by simp) _))

set_option maxHeartbeats 1000000 in
theorem risc_decode_3f_yes (x : Int) (V : Bool) (w : World) (hx : 0 ≤ x) (hx' : x < 4294967296) (h30 : x / 1073741824 = 3) (hU : (x / 536870912 % 2 == 1) = false) (hV : (x / 268435456 % 2 == 1) = V) 
    (HE : RowKit.Hid (∀ W, Calls Try.prog 45 #[Ins.val ⟨3, false, V, Get x 24 4, 0, x % 16, 0, 0⟩] W fun q w' => q = .returned (.tuple #[.int .u32 x, .int .i64 0]) ∧ Below W.heap.size W w')) :
    Calls Try.prog 14 #[.int .u32 x] w fun q w' => q = .returned (.tuple #[Ins.val ⟨3, false, V, Get x 24 4, 0, x % 16, 0, 0⟩, .int .i64 0]) ∧ Below w.heap.size w w' := by
  have a1 := get_bd x 24 4 hx hx'
  have a2 := get_bd x 20 4 hx hx'
  have a3 := get_bd x 16 4 hx hx'
  have e1 := extend_bd x 20
  have e2 := extend_bd x 24
  have n1 := and_1 (x / 536870912) (by omega) (by omega)
  have n2 := and_1 (x / 268435456) (by omega) (by omega)
  have n3 := and_15 x hx hx'
  have n4 : IntKind.u16.wrap x = x % 65536 := by simp [IntKind.wrap, IntKind.bits, IntKind.signed]
  go_enter Try.func14, Try.ntmps14
  go_wp2_with fail
  refine (bits_get x 24 4 _ hx hx' (by omega) (by omega) (by omega) (by omega)).mono ?_
  rintro e w' ⟨rfl, d0, rfl⟩
  go_wp2_with fail
  refine (HE.out _).mono ?_
  rintro e w1 ⟨rfl, hb⟩
  obtain ⟨hc, hf⟩ := bcell hb
  have hz := hb.size
  simp at hz
  have c0 : w1.cell? ⟨w.heap.size, 0, none⟩ = some (.int .i64 0) := (hb.cell (p := ⟨w.heap.size, 0, none⟩) (by simp; omega)).trans (by go_simp)
  have c1 : w1.cell? ⟨w.heap.size, 1, none⟩ = some (.bool false) := (hb.cell (p := ⟨w.heap.size, 1, none⟩) (by simp; omega)).trans (by go_simp)
  have c2 : w1.cell? ⟨w.heap.size, 2, none⟩ = some (.bool false) := (hb.cell (p := ⟨w.heap.size, 2, none⟩) (by simp; omega)).trans (by go_simp)
  have c3 : w1.cell? ⟨w.heap.size, 3, none⟩ = some (.int .i64 0) := (hb.cell (p := ⟨w.heap.size, 3, none⟩) (by simp; omega)).trans (by go_simp)
  have c4 : w1.cell? ⟨w.heap.size, 4, none⟩ = some (.int .i64 0) := (hb.cell (p := ⟨w.heap.size, 4, none⟩) (by simp; omega)).trans (by go_simp)
  have c5 : w1.cell? ⟨w.heap.size, 5, none⟩ = some (.int .i64 0) := (hb.cell (p := ⟨w.heap.size, 5, none⟩) (by simp; omega)).trans (by go_simp)
  have c6 : w1.cell? ⟨w.heap.size, 6, none⟩ = some (.int .i64 0) := (hb.cell (p := ⟨w.heap.size, 6, none⟩) (by simp; omega)).trans (by go_simp)
  have c7 : w1.cell? ⟨w.heap.size, 7, none⟩ = some (.int .i64 0) := (hb.cell (p := ⟨w.heap.size, 7, none⟩) (by simp; omega)).trans (by go_simp)
  go_wp2_with fail
  refine bodyPost_ret (v := .tuple #[Ins.val ⟨3, false, V, Get x 24 4, 0, x % 16, 0, 0⟩, .int .i64 0]) (by simp only [results, Try.results14, Ins.val, Ins.cells, Ins.zero]; go_simp) rfl ⟨rfl, ?_⟩
  ((repeat with_reducible refine Below.setCell ?_ (by simp) _); refine below_call ?_ hb; repeat (first | with_reducible exact Below.refl _ _ | with_reducible refine Below.setCell ?_ (by simp) _ | with_reducible refine below_drewN ?_ _ | with_reducible refine Below.alloc ?_ (by simp) _))

set_option maxHeartbeats 1000000 in
theorem risc_decode_3f_no (x : Int) (V : Bool) (w : World) (hx : 0 ≤ x) (hx' : x < 4294967296) (h30 : x / 1073741824 = 3) (hU : (x / 536870912 % 2 == 1) = false) (hV : (x / 268435456 % 2 == 1) = V) (err r : Int) (hn : RowKit.Hid (err ≠ 0 ∨ r ≠ x)) 
    (HE : RowKit.Hid (∀ W, Calls Try.prog 45 #[Ins.val ⟨3, false, V, Get x 24 4, 0, x % 16, 0, 0⟩] W fun q w' => q = .returned (.tuple #[.int .u32 r, .int .i64 err]) ∧ Below W.heap.size W w')) :
    Calls Try.prog 14 #[.int .u32 x] w fun q w' => q = .returned (.tuple #[Ins.val Ins.zero, .int .i64 20]) ∧ Below w.heap.size w w' := by
  have a1 := get_bd x 24 4 hx hx'
  have a2 := get_bd x 20 4 hx hx'
  have a3 := get_bd x 16 4 hx hx'
  have e1 := extend_bd x 20
  have e2 := extend_bd x 24
  have n1 := and_1 (x / 536870912) (by omega) (by omega)
  have n2 := and_1 (x / 268435456) (by omega) (by omega)
  have n3 := and_15 x hx hx'
  have n4 : IntKind.u16.wrap x = x % 65536 := by simp [IntKind.wrap, IntKind.bits, IntKind.signed]
  go_enter Try.func14, Try.ntmps14
  go_wp2_with fail
  refine (bits_get x 24 4 _ hx hx' (by omega) (by omega) (by omega) (by omega)).mono ?_
  rintro e w' ⟨rfl, d0, rfl⟩
  go_wp2_with fail
  refine (HE.out _).mono ?_
  rintro e w1 ⟨rfl, hb⟩
  obtain ⟨hc, hf⟩ := bcell hb
  have hz := hb.size
  simp at hz
  have c0 : w1.cell? ⟨w.heap.size, 0, none⟩ = some (.int .i64 0) := (hb.cell (p := ⟨w.heap.size, 0, none⟩) (by simp; omega)).trans (by go_simp)
  have c1 : w1.cell? ⟨w.heap.size, 1, none⟩ = some (.bool false) := (hb.cell (p := ⟨w.heap.size, 1, none⟩) (by simp; omega)).trans (by go_simp)
  have c2 : w1.cell? ⟨w.heap.size, 2, none⟩ = some (.bool false) := (hb.cell (p := ⟨w.heap.size, 2, none⟩) (by simp; omega)).trans (by go_simp)
  have c3 : w1.cell? ⟨w.heap.size, 3, none⟩ = some (.int .i64 0) := (hb.cell (p := ⟨w.heap.size, 3, none⟩) (by simp; omega)).trans (by go_simp)
  have c4 : w1.cell? ⟨w.heap.size, 4, none⟩ = some (.int .i64 0) := (hb.cell (p := ⟨w.heap.size, 4, none⟩) (by simp; omega)).trans (by go_simp)
  have c5 : w1.cell? ⟨w.heap.size, 5, none⟩ = some (.int .i64 0) := (hb.cell (p := ⟨w.heap.size, 5, none⟩) (by simp; omega)).trans (by go_simp)
  have c6 : w1.cell? ⟨w.heap.size, 6, none⟩ = some (.int .i64 0) := (hb.cell (p := ⟨w.heap.size, 6, none⟩) (by simp; omega)).trans (by go_simp)
  have c7 : w1.cell? ⟨w.heap.size, 7, none⟩ = some (.int .i64 0) := (hb.cell (p := ⟨w.heap.size, 7, none⟩) (by simp; omega)).trans (by go_simp)
  go_wp2_with fail
  all_goals first | (exfalso; have := hn.out; simp_all; done) | skip
  all_goals refine bodyPost_ret (v := .tuple #[Ins.val Ins.zero, .int .i64 20]) (by simp only [results, Try.results14, Ins.val, Ins.cells, Ins.zero]; go_simp) rfl ⟨rfl, ?_⟩
  all_goals ((repeat with_reducible refine Below.setCell ?_ (by simp) _); refine below_call ?_ hb; repeat (first | with_reducible exact Below.refl _ _ | with_reducible refine Below.setCell ?_ (by simp) _ | with_reducible refine below_drewN ?_ _ | with_reducible refine Below.alloc ?_ (by simp) _))

end Go.Proofs.Ytlihcdhcljljoaa
