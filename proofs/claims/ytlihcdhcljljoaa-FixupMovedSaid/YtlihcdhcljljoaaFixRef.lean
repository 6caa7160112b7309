/-
  The links of chains: the document's Link and Parts, walked.
-/
import Derived.Test.YtlihcdhcljljoaaFix
namespace Go.Proofs.Ytlihcdhcljljoaa
set_option linter.unusedVariables false
set_option linter.unusedSimpArgs false
open Go.RowKit Bw

theorem Fx.put28 (r : Int) (h : 0 ≤ r ∧ r < 16) : Put 0 28 4 r = r * 268435456 := by
  show (0 : Int) - 0 / 268435456 % 16 * 268435456 + r % 16 * 268435456 = _
  omega
theorem Fx.put26 (r s : Int) (h : 0 ≤ r ∧ r < 16) (h1 : 0 ≤ s ∧ s < 4) : Put (r * 268435456) 26 2 s = r * 268435456 + s * 67108864 := by
  show (r * 268435456) - (r * 268435456) / 67108864 % 4 * 67108864 + s % 4 * 67108864 = _
  omega
theorem Fx.put20 (r s m : Int) (h : 0 ≤ r ∧ r < 16) (h1 : 0 ≤ s ∧ s < 4) (h2 : 0 ≤ m ∧ m < 64) : Put (r * 268435456 + s * 67108864) 20 6 m = r * 268435456 + s * 67108864 + m * 1048576 := by
  show (r * 268435456 + s * 67108864) - (r * 268435456 + s * 67108864) / 1048576 % 64 * 1048576 + m % 64 * 1048576 = _
  omega
theorem Fx.put0 (r s m b : Int) (h : 0 ≤ r ∧ r < 16) (h1 : 0 ≤ s ∧ s < 4) (h2 : 0 ≤ m ∧ m < 64) (h3 : 0 ≤ b ∧ b < 16384) : Put (r * 268435456 + s * 67108864 + m * 1048576) 0 14 b = r * 268435456 + s * 67108864 + m * 1048576 + b := by
  show (r * 268435456 + s * 67108864 + m * 1048576) - (r * 268435456 + s * 67108864 + m * 1048576) / 1 % 16384 * 1 + b % 16384 * 1 = _
  omega

theorem fx_drewN {B : Nat} {a w : World} (h : Below B a w) (n : Nat) : Below B a (w.drewN n) := ⟨h.os, h.tape, h.output, h.size, h.block⟩

set_option maxHeartbeats 1000000 in
theorem ref22_link (r s m b : Int) (w : World) (r0 : -9223372036854775808 ≤ r) (r1 : r ≤ 9223372036854775807) (s0 : -9223372036854775808 ≤ s) (s1 : s ≤ 9223372036854775807) (m0 : -9223372036854775808 ≤ m) (m1 : m ≤ 9223372036854775807) (b0 : -9223372036854775808 ≤ b) (b1 : b ≤ 9223372036854775807) :
    Calls Try.prog 16 #[.agg #[.int .i64 r, .int .i64 s, .int .i64 m, .int .i64 b]] w fun e w' => e = .returned (.tuple #[.int .u32 (Fx.link r s m b), .int .i64 (Fx.linkErr r s m b)]) ∧ Below w.heap.size w w' := by
  have B0 : Below w.heap.size w (w.alloc (.cells #[.int .i64 r, .int .i64 s, .int .i64 m, .int .i64 b] 42)) := (Below.refl _ _).alloc (Nat.le_refl _) _
  by_cases h : (0 ≤ r ∧ r < 16) ∧ (0 ≤ s ∧ s < 4) ∧ (0 ≤ m ∧ m < 64) ∧ (0 ≤ b ∧ b < 16384)
  · obtain ⟨h0, h1, h2, h3⟩ := h
    have hok : RowKit.Hid (Fx.okLink r s m b = true) := Lib.hid ((Fx.okLink_iff r s m b).2 ⟨h0, h1, h2, h3⟩)
    have P1 := fun W => Lib.hid (ref01_put 0 28 4 r W (by omega) (by omega) (by omega) (by omega) (by omega) (by omega) (by omega) (by omega))
    have P2 := fun W => Lib.hid (ref01_put (r * 268435456) 26 2 s W (by omega) (by omega) (by omega) (by omega) (by omega) (by omega) (by omega) (by omega))
    have P3 := fun W => Lib.hid (ref01_put (r * 268435456 + s * 67108864) 20 6 m W (by omega) (by omega) (by omega) (by omega) (by omega) (by omega) (by omega) (by omega))
    have P4 := fun W => Lib.hid (ref01_put (r * 268435456 + s * 67108864 + m * 1048576) 0 14 b W (by omega) (by omega) (by omega) (by omega) (by omega) (by omega) (by omega) (by omega))
    rw [Fx.put28 r h0] at P1
    rw [Fx.put26 r s h0 h1] at P2
    rw [Fx.put20 r s m h0 h1 h2] at P3
    rw [Fx.put0 r s m b h0 h1 h2 h3] at P4
    obtain ⟨h00, h01⟩ := h0
    obtain ⟨h10, h11⟩ := h1
    obtain ⟨h20, h21⟩ := h2
    obtain ⟨h30, h31⟩ := h3
    go_enter Try.func16, Try.ntmps16
    go_wp2_with fail
    refine (P1 _).out.mono ?_
    rintro e w1 ⟨rfl, k, rfl⟩
    go_wp2_with fail
    refine (P2 _).out.mono ?_
    rintro e w1 ⟨rfl, k, rfl⟩
    go_wp2_with fail
    refine (P3 _).out.mono ?_
    rintro e w1 ⟨rfl, k, rfl⟩
    go_wp2_with fail
    refine (P4 _).out.mono ?_
    rintro e w1 ⟨rfl, k, rfl⟩
    go_wp2_with fail
    go_ret2
    refine ⟨link_yes hok.out, ?_⟩
    repeat (first | exact B0 | refine fx_drewN ?_ _)
  · have hn := Lib.hid h
    have h9 : r < 0 ∨ 15 < r ∨ s < 0 ∨ 3 < s ∨ m < 0 ∨ 63 < m ∨ b < 0 ∨ 16383 < b := by omega
    clear h
    rcases h9 with h | h | h | h | h | h | h | h <;> (go_enter Try.func16, Try.ntmps16; go_wp2_with fail; all_goals (go_ret2; exact ⟨link_ret hn.out, B0⟩))

theorem ref22_parts (w0 : Int) (w : World) (h0 : 0 ≤ w0) (h1 : w0 < 4294967296) :
    Calls Try.prog 18 #[.int .u32 w0] w fun e w' => e = .returned (.tuple #[.agg #[.int .i64 (Fx.reg w0), .int .i64 (Fx.sort w0), .int .i64 (Fx.mod w0), .int .i64 (Fx.back w0)], .bool (Fx.isLink w0)]) ∧ Below w.heap.size w w' := by
  have G1 := fun W => Lib.hid (ref01_get w0 14 6 W h0 h1 (by decide) (by decide) (by decide) (by decide))
  have G5 := fun W => Lib.hid (ref01_get w0 28 4 W h0 h1 (by decide) (by decide) (by decide) (by decide))
  have G2 := fun W => Lib.hid (ref01_get w0 26 2 W h0 h1 (by decide) (by decide) (by decide) (by decide))
  have G3 := fun W => Lib.hid (ref01_get w0 20 6 W h0 h1 (by decide) (by decide) (by decide) (by decide))
  have G4 := fun W => Lib.hid (ref01_get w0 0 14 W h0 h1 (by decide) (by decide) (by decide) (by decide))
  rw [Fx.get14] at G1
  rw [Fx.get28 w0 ⟨h0, h1⟩] at G5
  rw [Fx.get26] at G2
  rw [Fx.get20] at G3
  rw [Fx.get0] at G4
  unfold Fx.reg Fx.sort Fx.mod Fx.back
  cases hl : Fx.isLink w0
  · have e1 : ((w0 / 16384 % 64) != 0) = true := by simpa [Fx.isLink, bne] using hl
    clear hl
    generalize w0 / 16384 % 64 = q at *
    go_enter Try.func18, Try.ntmps18
    go_wp2_with fail
    refine (G1 _).out.mono ?_
    rintro e w1 ⟨rfl, k, rfl⟩
    go_wp2_with fail
    refine bodyPost_ret (by simp only [results, Try.results18]; go_simp; rfl) rfl ⟨?_, ?_⟩
    · simp
    · (repeat (first | with_reducible exact Below.refl _ _ | with_reducible refine Below.setCell ?_ (by simp) _ | with_reducible refine Below.alloc ?_ (by first | (simp; done) | (simp; omega)) _ | with_reducible refine Below.drew ?_ | with_reducible refine fx_drewN ?_ _))
  · have e1 : (w0 / 16384 % 64) = 0 := by simpa [Fx.isLink] using hl
    clear hl
    go_enter Try.func18, Try.ntmps18
    go_wp2_with fail
    refine (G1 _).out.mono ?_
    rintro e w1 ⟨rfl, k1, rfl⟩
    go_wp2_with fail
    refine (G5 _).out.mono ?_
    rintro e w1 ⟨rfl, k2, rfl⟩
    go_wp2_with fail
    refine (G2 _).out.mono ?_
    rintro e w1 ⟨rfl, k3, rfl⟩
    go_wp2_with fail
    refine (G3 _).out.mono ?_
    rintro e w1 ⟨rfl, k4, rfl⟩
    go_wp2_with fail
    refine (G4 _).out.mono ?_
    rintro e w1 ⟨rfl, k5, rfl⟩
    go_wp2_with fail
    refine bodyPost_ret (by simp only [results, Try.results18]; go_simp; rfl) rfl ⟨?_, ?_⟩
    · simp
    · (repeat (first | with_reducible exact Below.refl _ _ | with_reducible refine Below.setCell ?_ (by simp) _ | with_reducible refine Below.alloc ?_ (by first | (simp; done) | (simp; omega)) _ | with_reducible refine Below.drew ?_ | with_reducible refine fx_drewN ?_ _))

end Go.Proofs.Ytlihcdhcljljoaa
