/-
  The links of chains: the program's Link and Parts and the document's, walked.
-/
import Derived.Test.YtlihcdhcljljoaaBits
import Derived.Test.YtlihcdhcljljoaaBitsRef
import Derived.Test.YtlihcdhcljljoaaFixLaw
import Derived.Test.YtlihcdhcljljoaaRow
namespace Go.Proofs.Ytlihcdhcljljoaa
set_option linter.unusedVariables false
set_option linter.unusedSimpArgs false
open Go.RowKit Bw

theorem kept_drewN {S : Nat → Prop} (w : World) (k : Nat) : Kept S w (w.drewN k) := (Kept.refl S w).drewN k
theorem get_kept (x lo n : Int) (w : World) (hx : 0 ≤ x) (hx' : x < 4294967296) (hl : -9223372036854775808 ≤ lo) (hl' : lo ≤ 9223372036854775807) (hn : -9223372036854775808 ≤ n) (hn' : n ≤ 9223372036854775807) :
    Calls Try.prog 43 #[.int .u32 x, .int .i64 lo, .int .i64 n] w fun e w' => e = .returned (.int .u32 (Get x lo n)) ∧ Kept (fun _ => True) w w' :=
  (bits_get x lo n w hx hx' hl hl' hn hn').mono fun e w' h => ⟨h.1, by obtain ⟨k, rfl⟩ := h.2; exact kept_drewN w k⟩

theorem fix_parts (w0 : Int) (w : World) (h0 : 0 ≤ w0) (h1 : w0 < 4294967296) :
    Calls Try.prog 17 #[.int .u32 w0] w fun e w' => e = .returned (.tuple #[.int .i64 (Fx.reg w0), .int .i64 (Fx.sort w0), .int .i64 (Fx.mod w0), .int .i64 (Fx.back w0), .bool (Fx.isLink w0)]) ∧ Kept (fun _ => True) w w' := by
  have G1 := fun W => Lib.hid (get_kept w0 14 6 W h0 h1 (by decide) (by decide) (by decide) (by decide))
  have G2 := fun W => Lib.hid (get_kept w0 26 2 W h0 h1 (by decide) (by decide) (by decide) (by decide))
  have G3 := fun W => Lib.hid (get_kept w0 20 6 W h0 h1 (by decide) (by decide) (by decide) (by decide))
  have G4 := fun W => Lib.hid (get_kept w0 0 14 W h0 h1 (by decide) (by decide) (by decide) (by decide))
  rw [Fx.get14] at G1
  rw [Fx.get26] at G2
  rw [Fx.get20] at G3
  rw [Fx.get0] at G4
  unfold Fx.reg Fx.sort Fx.mod Fx.back
  cases hl : Fx.isLink w0
  · have e1 : ((w0 / 16384 % 64) != 0) = true := by simpa [Fx.isLink, bne] using hl
    clear hl
    generalize w0 / 16384 % 64 = q at *
    go_enter Try.func17, Try.ntmps17
    go_wp2_with fail
    refine (G1 _).out.mono ?_
    rintro e w1 ⟨rfl, k1⟩
    go_wp2_with fail
    refine bodyPost_ret (by simp only [results, Try.results17]; go_simp; rfl) rfl ⟨?_, k1⟩
    simp
  · have e1 : (w0 / 16384 % 64) = 0 := by simpa [Fx.isLink] using hl
    clear hl
    go_enter Try.func17, Try.ntmps17
    go_wp2_with fail
    refine (G1 _).out.mono ?_
    rintro e w1 ⟨rfl, k1⟩
    go_wp2_with fail
    refine (G2 _).out.mono ?_
    rintro e w2 ⟨rfl, k2⟩
    go_wp2_with fail
    refine (G3 _).out.mono ?_
    rintro e w3 ⟨rfl, k3⟩
    go_wp2_with fail
    refine (G4 _).out.mono ?_
    rintro e w4 ⟨rfl, k4⟩
    go_wp2_with fail
    refine bodyPost_ret (by simp only [results, Try.results17]; go_simp; rfl) rfl ⟨?_, ((k1.trans k2).trans k3).trans k4⟩
    simp

theorem link_ret {r s m b : Int} (h : ¬ ((0 ≤ r ∧ r < 16) ∧ (0 ≤ s ∧ s < 4) ∧ (0 ≤ m ∧ m < 64) ∧ (0 ≤ b ∧ b < 16384))) :
    Ending.returned (.tuple #[.int .u32 0, .int .i64 220]) = Ending.returned (.tuple #[.int .u32 (Fx.link r s m b), .int .i64 (Fx.linkErr r s m b)]) := by rw [Fx.link_no r s m b h, Fx.linkErr_no r s m b h]
theorem link_yes {r s m b : Int} (h : Fx.okLink r s m b = true) :
    Ending.returned (.tuple #[.int .u32 (r * 268435456 + s * 67108864 + m * 1048576 + b), .int .i64 0]) = Ending.returned (.tuple #[.int .u32 (Fx.link r s m b), .int .i64 (Fx.linkErr r s m b)]) := by rw [Fx.link, Fx.linkErr, if_pos h, if_pos h]

set_option maxHeartbeats 1000000 in
theorem fix_link (r s m b : Int) (w : World) (r0 : -9223372036854775808 ≤ r) (r1 : r ≤ 9223372036854775807) (s0 : -9223372036854775808 ≤ s) (s1 : s ≤ 9223372036854775807) (m0 : -9223372036854775808 ≤ m) (m1 : m ≤ 9223372036854775807) (b0 : -9223372036854775808 ≤ b) (b1 : b ≤ 9223372036854775807) :
    Calls Try.prog 15 #[.int .i64 r, .int .i64 s, .int .i64 m, .int .i64 b] w fun e w' => e = .returned (.tuple #[.int .u32 (Fx.link r s m b), .int .i64 (Fx.linkErr r s m b)]) ∧ Below w.heap.size w w' := by
  have L0 : Blk (w.alloc (.cells #[.int .i64 16, .int .i64 4, .int .i64 64, .int .i64 16384] 3)) w.heap.size 3 #[.int .i64 16, .int .i64 4, .int .i64 64, .int .i64 16384] := Blk.new w _ _
  have L0 := Lib.hid L0
  have B0 : Below w.heap.size w (w.alloc (.cells #[.int .i64 16, .int .i64 4, .int .i64 64, .int .i64 16384] 3)) := (Below.refl _ _).alloc (Nat.le_refl _) _
  go_enter Try.func15, Try.ntmps15
  go_wp2_with fail
  go_loopw [15] (fun i wr => ∃ k : Nat, i = .int .i64 k ∧ k ≤ 4 ∧ (0 < k → 0 ≤ r ∧ r < 16) ∧ (1 < k → 0 ≤ s ∧ s < 4) ∧ (2 < k → 0 ≤ m ∧ m < 64) ∧ (3 < k → 0 ≤ b ∧ b < 16384) ∧ Blk wr w.heap.size 3 #[.int .i64 16, .int .i64 4, .int .i64 64, .int .i64 16384] ∧ Below w.heap.size w wr) (fun i _ => 4 - (intOf i).toNat)
  case atStart => exact ⟨0, rfl, by omega, by omega, by omega, by omega, by omega, L0.out, B0⟩
  case round =>
    clear L0 B0
    obtain ⟨k, rfl, hk, q0, q1, q2, q3, L, B⟩ := hrel
    have q0 := Lib.hid q0
    have q1 := Lib.hid q1
    have q2 := Lib.hid q2
    have q3 := Lib.hid q3
    have c0 := L.cell 0
    have c1 := L.cell 1
    have c2 := L.cell 2
    have c3 := L.cell 3
    simp only [List.getElem?_toArray, List.getElem?_cons_zero, List.getElem?_cons_succ] at c0 c1 c2 c3
    have L := Lib.hid L
    have h5 : k = 0 ∨ k = 1 ∨ k = 2 ∨ k = 3 ∨ k = 4 := by omega
    rcases h5 with rfl | rfl | rfl | rfl | rfl
    · by_cases lo : r < 0
      · go_wp2_with fail
        go_ret2
        exact ⟨link_ret (fun h => by omega), B.alloc B.size _⟩
      by_cases hi : 16 ≤ r
      · go_wp2_with fail
        go_ret2
        exact ⟨link_ret (fun h => by omega), B.alloc B.size _⟩
      have lo : 0 ≤ r := by omega
      have hi : r < 16 := by omega
      go_wp2_with fail
      exact ⟨⟨1, rfl, by omega, fun _ => ⟨by omega, by omega⟩, fun h => absurd h (by omega), fun h => absurd h (by omega), fun h => absurd h (by omega), L.out.alloc _, B.alloc B.size _⟩, by simp [intOf]⟩
    · by_cases lo : s < 0
      · go_wp2_with fail
        go_ret2
        exact ⟨link_ret (fun h => by omega), B.alloc B.size _⟩
      by_cases hi : 4 ≤ s
      · go_wp2_with fail
        go_ret2
        exact ⟨link_ret (fun h => by omega), B.alloc B.size _⟩
      have lo : 0 ≤ s := by omega
      have hi : s < 4 := by omega
      go_wp2_with fail
      exact ⟨⟨2, rfl, by omega, fun _ => q0.out (by omega), fun _ => ⟨by omega, by omega⟩, fun h => absurd h (by omega), fun h => absurd h (by omega), L.out.alloc _, B.alloc B.size _⟩, by simp [intOf]⟩
    · by_cases lo : m < 0
      · go_wp2_with fail
        go_ret2
        exact ⟨link_ret (fun h => by omega), B.alloc B.size _⟩
      by_cases hi : 64 ≤ m
      · go_wp2_with fail
        go_ret2
        exact ⟨link_ret (fun h => by omega), B.alloc B.size _⟩
      have lo : 0 ≤ m := by omega
      have hi : m < 64 := by omega
      go_wp2_with fail
      exact ⟨⟨3, rfl, by omega, fun _ => q0.out (by omega), fun _ => q1.out (by omega), fun _ => ⟨by omega, by omega⟩, fun h => absurd h (by omega), L.out.alloc _, B.alloc B.size _⟩, by simp [intOf]⟩
    · by_cases lo : b < 0
      · go_wp2_with fail
        go_ret2
        exact ⟨link_ret (fun h => by omega), B.alloc B.size _⟩
      by_cases hi : 16384 ≤ b
      · go_wp2_with fail
        go_ret2
        exact ⟨link_ret (fun h => by omega), B.alloc B.size _⟩
      have lo : 0 ≤ b := by omega
      have hi : b < 16384 := by omega
      go_wp2_with fail
      exact ⟨⟨4, rfl, by omega, fun _ => q0.out (by omega), fun _ => q1.out (by omega), fun _ => q2.out (by omega), fun _ => ⟨by omega, by omega⟩, L.out.alloc _, B.alloc B.size _⟩, by simp [intOf]⟩
    · have h0 := q0.out (by omega)
      have h1 := q1.out (by omega)
      have h2 := q2.out (by omega)
      have h3 := q3.out (by omega)
      have hj := Fx.joined r s m b h0 h1 h2 h3
      have hok : RowKit.Hid (Fx.okLink r s m b = true) := Lib.hid ((Fx.okLink_iff r s m b).2 ⟨h0, h1, h2, h3⟩)
      obtain ⟨h00, h01⟩ := h0
      obtain ⟨h10, h11⟩ := h1
      obtain ⟨h20, h21⟩ := h2
      obtain ⟨h30, h31⟩ := h3
      go_wp2_with fail
      go_ret2
      exact ⟨link_yes hok.out, B⟩

end Go.Proofs.Ytlihcdhcljljoaa
