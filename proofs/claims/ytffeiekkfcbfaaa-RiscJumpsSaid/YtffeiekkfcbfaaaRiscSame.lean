/-
  The reference's comparison of two instructions that are alike, and the small inputs of the statements of the package risc.
-/
import Derived.Test.YtffeiekkfcbfaaaRiscDecA
import Derived.Test.YtffeiekkfcbfaaaRiscRefDecA
import Derived.Deep.RegionHeld3
namespace Go.Proofs.Ytffeiekkfcbfaaa
set_option linter.unusedVariables false
set_option linter.unusedSimpArgs false
open Go.RowKit Bw

set_option maxHeartbeats 1000000 in
theorem ref02_same (x : Ins) (w : World) :
    Calls Try.prog 22 #[x.val, x.val] w fun e w' => e = .returned (.bool true) ∧ Below w.heap.size w w' := by
  obtain ⟨form, u, v, a, b, c, op, im⟩ := x
  have hl := (show w.heap.size < w.heap.size + 1 + 1 by omega)
  simp only [Ins.val, Ins.cells]
  go_enter Try.func22, Try.ntmps22
  go_wp2_with fail
  go_ret
  exact ⟨rfl, ((Below.refl _ _).alloc (Nat.le_refl _) _).alloc (by simp) _⟩

/-- A block of eight cells, a struct's, stays while others are made. -/
theorem kept8 {B : Nat} {w w' w'' : World} {b : Nat} {v0 v1 v2 v3 v4 v5 v6 v7 : Value}
    (h : Below B w w' ∧ B ≤ w'.heap.size ∧ b < w'.heap.size ∧ w'.cell? ⟨b, 0, none⟩ = some v0 ∧ w'.cell? ⟨b, 1, none⟩ = some v1 ∧ w'.cell? ⟨b, 2, none⟩ = some v2 ∧ w'.cell? ⟨b, 3, none⟩ = some v3 ∧ w'.cell? ⟨b, 4, none⟩ = some v4 ∧ w'.cell? ⟨b, 5, none⟩ = some v5 ∧ w'.cell? ⟨b, 6, none⟩ = some v6 ∧ w'.cell? ⟨b, 7, none⟩ = some v7)
    (hb : Below w'.heap.size w' w'') :
    Below B w w'' ∧ B ≤ w''.heap.size ∧ b < w''.heap.size ∧ w''.cell? ⟨b, 0, none⟩ = some v0 ∧ w''.cell? ⟨b, 1, none⟩ = some v1 ∧ w''.cell? ⟨b, 2, none⟩ = some v2 ∧ w''.cell? ⟨b, 3, none⟩ = some v3 ∧ w''.cell? ⟨b, 4, none⟩ = some v4 ∧ w''.cell? ⟨b, 5, none⟩ = some v5 ∧ w''.cell? ⟨b, 6, none⟩ = some v6 ∧ w''.cell? ⟨b, 7, none⟩ = some v7 := by
  obtain ⟨h0, h1, h2, c0, c1, c2, c3, c4, c5, c6, c7⟩ := h
  exact ⟨h0.trans (hb.mono h1), Nat.le_trans h1 hb.size, Nat.lt_of_lt_of_le h2 hb.size, (hb.cell h2).trans c0, (hb.cell h2).trans c1, (hb.cell h2).trans c2, (hb.cell h2).trans c3, (hb.cell h2).trans c4, (hb.cell h2).trans c5, (hb.cell h2).trans c6, (hb.cell h2).trans c7⟩

theorem new8 (w : World) (v0 v1 v2 v3 v4 v5 v6 v7 : Value) (T : TypeId) :
    Below w.heap.size w (w.alloc (.cells #[v0, v1, v2, v3, v4, v5, v6, v7] T)) ∧ w.heap.size ≤ (w.alloc (.cells #[v0, v1, v2, v3, v4, v5, v6, v7] T)).heap.size ∧ w.heap.size < (w.alloc (.cells #[v0, v1, v2, v3, v4, v5, v6, v7] T)).heap.size ∧ (w.alloc (.cells #[v0, v1, v2, v3, v4, v5, v6, v7] T)).cell? ⟨w.heap.size, 0, none⟩ = some v0 ∧ (w.alloc (.cells #[v0, v1, v2, v3, v4, v5, v6, v7] T)).cell? ⟨w.heap.size, 1, none⟩ = some v1 ∧ (w.alloc (.cells #[v0, v1, v2, v3, v4, v5, v6, v7] T)).cell? ⟨w.heap.size, 2, none⟩ = some v2 ∧ (w.alloc (.cells #[v0, v1, v2, v3, v4, v5, v6, v7] T)).cell? ⟨w.heap.size, 3, none⟩ = some v3 ∧ (w.alloc (.cells #[v0, v1, v2, v3, v4, v5, v6, v7] T)).cell? ⟨w.heap.size, 4, none⟩ = some v4 ∧ (w.alloc (.cells #[v0, v1, v2, v3, v4, v5, v6, v7] T)).cell? ⟨w.heap.size, 5, none⟩ = some v5 ∧ (w.alloc (.cells #[v0, v1, v2, v3, v4, v5, v6, v7] T)).cell? ⟨w.heap.size, 6, none⟩ = some v6 ∧ (w.alloc (.cells #[v0, v1, v2, v3, v4, v5, v6, v7] T)).cell? ⟨w.heap.size, 7, none⟩ = some v7 := by
  refine ⟨(Below.refl _ _).alloc (Nat.le_refl _) _, by simp, by simp, ?_, ?_, ?_, ?_, ?_, ?_, ?_, ?_⟩ <;> go_simp

set_option maxHeartbeats 1000000 in
theorem law02_wakes (w : World) : Calls Try.prog 19 #[] w fun e w' => e = .returned (.bool true) ∧ Below w.heap.size w w' := by
  have f1 : Ins.fits ⟨0, false, false, 1, 2, 3, 8, 0⟩ := by simp [Ins.fits]
  have f2 : Ins.fits ⟨3, true, true, 7, 0, 0, 0, -1⟩ := by simp [Ins.fits]
  have e1 : Ins.E ⟨0, false, false, 1, 2, 3, 8, 0⟩ = 19398659 := by decide +kernel
  have e2 : Ins.eerr ⟨0, false, false, 1, 2, 3, 8, 0⟩ = 0 := by decide +kernel
  have e3 : Ins.E ⟨3, true, true, 7, 0, 0, 0, -1⟩ = 4160749567 := by decide +kernel
  have e4 : Ins.eerr ⟨3, true, true, 7, 0, 0, 0, -1⟩ = 0 := by decide +kernel
  have e5 : Ins.derr 786432 = 20 := by decide +kernel
  have e6 : Ins.dec 786432 = Ins.zero := by decide +kernel
  have E1 := fun W => Lib.hid (risc_encode_any ⟨0, false, false, 1, 2, 3, 8, 0⟩ W f1)
  rw [e1, e2] at E1
  have E2 := fun W => Lib.hid (risc_encode_any ⟨3, true, true, 7, 0, 0, 0, -1⟩ W f2)
  rw [e3, e4] at E2
  have D := fun W => Lib.hid (risc_decode 786432 W (by omega) (by omega))
  rw [e5, e6] at D
  clear e1 e2 e3 e4 e5 e6 f1 f2
  simp only [Ins.val, Ins.cells, Ins.zero] at *
  go_enter Try.func19, Try.ntmps19
  go_wp2_with fail
  refine (E1 _).out.mono ?_
  rintro e w1 ⟨rfl, hb1⟩
  go_wp2_with fail
  refine (E2 _).out.mono ?_
  rintro e w2 ⟨rfl, hb2⟩
  go_wp2_with fail
  refine (D _).out.mono ?_
  rintro e w3 ⟨rfl, hb3⟩
  go_wp2_with fail
  go_ret
  exact ⟨rfl, (below_call (below_call hb1 hb2) hb3).alloc (Nat.le_trans hb1.size (Nat.le_trans hb2.size hb3.size)) _⟩

end Go.Proofs.Ytffeiekkfcbfaaa
