/-
  What risc.Good and risc.Encode compute, for every instruction.
-/
import Derived.Test.YtlihcdhcljljoaaRiscGood0
import Derived.Test.YtlihcdhcljljoaaRiscGood1
import Derived.Test.YtlihcdhcljljoaaRiscGood2
import Derived.Test.YtlihcdhcljljoaaRiscGood3
namespace Go.Proofs.Ytlihcdhcljljoaa
set_option linter.unusedVariables false
set_option linter.unusedSimpArgs false
open Go.RowKit Bw

set_option maxHeartbeats 1000000 in
theorem risc_good_other (x : Ins) (w : World) (hx : x.fits) (h0 : (x.form == 0) = false) (h1 : (x.form == 1) = false) (h2 : (x.form == 2) = false) (h3 : (x.form == 3) = false) :
    Calls Try.prog 55 #[x.val] w fun e w' => e = .returned (.bool x.good) ∧ Below w.heap.size w w' := by
  obtain ⟨form, u, v, a, b, c, op, im⟩ := x
  obtain ⟨f1, f2, a1, a2, b1, b2, c1, c2, o1, o2, i1, i2⟩ := hx
  simp only at *
  have HG := Lib.hid (show Ins.good ⟨form, u, v, a, b, c, op, im⟩ = false by simp_all [Ins.good])
  simp only [Ins.val, Ins.cells]
  go_enter Try.func55, Try.ntmps55
  go_wp2_with fail
  refine (risc_half a 4 _ a1 a2 (by omega) (by omega)).mono ?_
  rintro e w' ⟨rfl, rfl⟩
  go_wp2_with fail
  all_goals go_ret
  all_goals refine ⟨ret_bool HG.out.symm, ?_⟩
  all_goals (repeat (first | exact Below.refl _ _ | apply Below.drew | refine Below.alloc ?_ (by simp) _))

theorem risc_good (x : Ins) (w : World) (hx : x.fits) :
    Calls Try.prog 55 #[x.val] w fun e w' => e = .returned (.bool x.good) ∧ Below w.heap.size w w' := by
  by_cases h0 : x.form = 0
  · obtain ⟨form, u, v, a, b, c, op, im⟩ := x
    obtain ⟨f1, f2, a1, a2, b1, b2, c1, c2, o1, o2, i1, i2⟩ := hx
    simp only at h0
    subst h0
    cases u <;> cases v
    · exact risc_good_0ff a b c op im w a1 a2 b1 b2 c1 c2 o1 o2 i1 i2
    · exact risc_good_0ft a b c op im w a1 a2 b1 b2 c1 c2 o1 o2 i1 i2
    · exact risc_good_0tf a b c op im w a1 a2 b1 b2 c1 c2 o1 o2 i1 i2
    · exact risc_good_0tt a b c op im w a1 a2 b1 b2 c1 c2 o1 o2 i1 i2
  by_cases h1 : x.form = 1
  · obtain ⟨form, u, v, a, b, c, op, im⟩ := x
    obtain ⟨f1, f2, a1, a2, b1, b2, c1, c2, o1, o2, i1, i2⟩ := hx
    simp only at h1
    subst h1
    cases u <;> cases v
    · exact risc_good_1ff a b c op im w a1 a2 b1 b2 c1 c2 o1 o2 i1 i2
    · exact risc_good_1ft a b c op im w a1 a2 b1 b2 c1 c2 o1 o2 i1 i2
    · exact risc_good_1tf a b c op im w a1 a2 b1 b2 c1 c2 o1 o2 i1 i2
    · exact risc_good_1tt a b c op im w a1 a2 b1 b2 c1 c2 o1 o2 i1 i2
  by_cases h2 : x.form = 2
  · obtain ⟨form, u, v, a, b, c, op, im⟩ := x
    obtain ⟨f1, f2, a1, a2, b1, b2, c1, c2, o1, o2, i1, i2⟩ := hx
    simp only at h2
    subst h2
    cases u <;> cases v
    · exact risc_good_2ff a b c op im w a1 a2 b1 b2 c1 c2 o1 o2 i1 i2
    · exact risc_good_2ft a b c op im w a1 a2 b1 b2 c1 c2 o1 o2 i1 i2
    · exact risc_good_2tf a b c op im w a1 a2 b1 b2 c1 c2 o1 o2 i1 i2
    · exact risc_good_2tt a b c op im w a1 a2 b1 b2 c1 c2 o1 o2 i1 i2
  by_cases h3 : x.form = 3
  · obtain ⟨form, u, v, a, b, c, op, im⟩ := x
    obtain ⟨f1, f2, a1, a2, b1, b2, c1, c2, o1, o2, i1, i2⟩ := hx
    simp only at h3
    subst h3
    cases u <;> cases v
    · exact risc_good_3ff a b c op im w a1 a2 b1 b2 c1 c2 o1 o2 i1 i2
    · exact risc_good_3ft a b c op im w a1 a2 b1 b2 c1 c2 o1 o2 i1 i2
    · exact risc_good_3tf a b c op im w a1 a2 b1 b2 c1 c2 o1 o2 i1 i2
    · exact risc_good_3tt a b c op im w a1 a2 b1 b2 c1 c2 o1 o2 i1 i2
  exact risc_good_other x w hx (by simpa using h0) (by simpa using h1) (by simpa using h2) (by simpa using h3)

theorem risc_bit (b : Bool) (n : Int) (w : World) (hn : 0 ≤ n) (hn' : n ≤ 31) :
    Calls Try.prog 56 #[.bool b, .int .i64 n] w fun e w' => e = .returned (.int .u32 (Ins.one b n.toNat)) ∧ w = w' := by
  have h1 : (2 : Int) ^ n.toNat % 4294967296 = 2 ^ n.toNat := by
    have h2 := pow_pos n.toNat
    have h3 : (2 : Int) ^ n.toNat ≤ 2 ^ 31 := pow_mono (by omega)
    exact Int.emod_eq_of_lt (by omega) (by omega)
  have H := Lib.hid h1
  clear h1
  cases b
  all_goals go_enter Try.func56, Try.ntmps56
  all_goals go_wp2
  all_goals go_ret
  · exact ⟨rfl, rfl⟩
  · exact ⟨ret_int (by rw [Ins.one, if_pos rfl]; exact H.out), rfl⟩

/-- Two results, a word and an error's number. -/
theorem ret_two {k1 k2 : IntKind} {a b c d : Int} (h : a = b) (h' : c = d) : Ending.returned (.tuple #[.int k1 a, .int k2 c]) = .returned (.tuple #[.int k1 b, .int k2 d]) := by rw [h, h']

theorem below_drewN {B : Nat} {a w : World} (h : Below B a w) (n : Nat) : Below B a (w.drewN n) := ⟨h.os, h.tape, h.output, h.size, h.block⟩
theorem below_call {w w1 w2 : World} (h : Below w.heap.size w w1) (hb : Below w1.heap.size w1 w2) : Below w.heap.size w w2 := h.trans (hb.mono h.size)

theorem risc_encode_none (x : Ins) (w : World) (hx : x.fits) (hg : x.good = false) :
    Calls Try.prog 45 #[x.val] w fun e w' => e = .returned (.tuple #[.int .u32 0, .int .i64 20]) ∧ Below w.heap.size w w' := by
  have HG := fun W => (risc_good x W hx)
  rw [hg] at HG
  obtain ⟨form, u, v, a, b, c, op, im⟩ := x
  simp only [Ins.val, Ins.cells] at *
  have H := fun W => Lib.hid (HG W)
  clear HG hx hg
  go_enter Try.func45, Try.ntmps45
  go_wp2_with fail
  refine (H _).out.mono ?_
  rintro e w' ⟨rfl, hb⟩
  go_wp2_with fail
  go_ret2
  exact ⟨rfl, below_call ((Below.refl _ _).alloc (Nat.le_refl _) _) hb⟩

set_option maxHeartbeats 1000000 in
theorem risc_encode_0 (u v : Bool) (a b c op im : Int) (w : World) (hx : Ins.fits ⟨0, u, v, a, b, c, op, im⟩) (hg : Ins.good ⟨0, u, v, a, b, c, op, im⟩ = true) :
    Calls Try.prog 45 #[Ins.val ⟨0, u, v, a, b, c, op, im⟩] w fun e w' => e = .returned (.tuple #[.int .u32 (Ins.enc ⟨0, u, v, a, b, c, op, im⟩), .int .i64 0]) ∧ Below w.heap.size w w' := by
  have HG := fun W => (risc_good ⟨0, u, v, a, b, c, op, im⟩ W hx)
  rw [hg] at HG
  have hr := Ins.good_range _ hg
  have HE := Lib.hid (enc_val_0 u v a b c op im hg)
  simp only at hr
  obtain ⟨-, -, r1, r2, r3, r4, r5, r6, r7, r8⟩ := hr
  obtain ⟨-, -, -, -, -, -, -, -, -, -, i1, i2⟩ := hx
  simp only at i1 i2
  have hI := Ins.good_im0 u v a b c op im hg
  simp only [Ins.val, Ins.cells] at *
  have H := fun W => Lib.hid (HG W)
  clear HG hg
  go_enter Try.func45, Try.ntmps45
  go_wp2_with fail
  refine (H _).out.mono ?_
  rintro e w' ⟨rfl, hb⟩
  obtain ⟨hc, hf⟩ := bcell hb
  go_wp2_with fail
  go_quiet ((go_at_call 56; exact quiet_eq (risc_bit _ _ _ (by omega) (by omega))))
  go_wp2_with fail
  go_ret2
  exact ⟨ret_two HE.out rfl, below_drewN (below_call ((Below.refl _ _).alloc (Nat.le_refl _) _) hb) _⟩

set_option maxHeartbeats 1000000 in
theorem risc_encode_1 (u v : Bool) (a b c op im : Int) (w : World) (hx : Ins.fits ⟨1, u, v, a, b, c, op, im⟩) (hg : Ins.good ⟨1, u, v, a, b, c, op, im⟩ = true) :
    Calls Try.prog 45 #[Ins.val ⟨1, u, v, a, b, c, op, im⟩] w fun e w' => e = .returned (.tuple #[.int .u32 (Ins.enc ⟨1, u, v, a, b, c, op, im⟩), .int .i64 0]) ∧ Below w.heap.size w w' := by
  have HG := fun W => (risc_good ⟨1, u, v, a, b, c, op, im⟩ W hx)
  rw [hg] at HG
  have hr := Ins.good_range _ hg
  have HE := Lib.hid (enc_val_1 u v a b c op im hg)
  simp only at hr
  obtain ⟨-, -, r1, r2, r3, r4, r5, r6, r7, r8⟩ := hr
  obtain ⟨-, -, -, -, -, -, -, -, -, -, i1, i2⟩ := hx
  simp only at i1 i2
  have hI := Ins.good_im1 u v a b c op im hg
  simp only [Ins.val, Ins.cells] at *
  have H := fun W => Lib.hid (HG W)
  clear HG hg
  go_enter Try.func45, Try.ntmps45
  go_wp2_with fail
  refine (H _).out.mono ?_
  rintro e w' ⟨rfl, hb⟩
  obtain ⟨hc, hf⟩ := bcell hb
  go_wp2_with fail
  go_quiet ((go_at_call 56; exact quiet_eq (risc_bit _ _ _ (by omega) (by omega))))
  go_wp2_with fail
  go_ret2
  exact ⟨ret_two HE.out rfl, below_drewN (below_call ((Below.refl _ _).alloc (Nat.le_refl _) _) hb) _⟩

set_option maxHeartbeats 1000000 in
theorem risc_encode_2 (u v : Bool) (a b c op im : Int) (w : World) (hx : Ins.fits ⟨2, u, v, a, b, c, op, im⟩) (hg : Ins.good ⟨2, u, v, a, b, c, op, im⟩ = true) :
    Calls Try.prog 45 #[Ins.val ⟨2, u, v, a, b, c, op, im⟩] w fun e w' => e = .returned (.tuple #[.int .u32 (Ins.enc ⟨2, u, v, a, b, c, op, im⟩), .int .i64 0]) ∧ Below w.heap.size w w' := by
  have HG := fun W => (risc_good ⟨2, u, v, a, b, c, op, im⟩ W hx)
  rw [hg] at HG
  have hr := Ins.good_range _ hg
  have HE := Lib.hid (enc_val_2 u v a b c op im hg)
  simp only at hr
  obtain ⟨-, -, r1, r2, r3, r4, r5, r6, r7, r8⟩ := hr
  obtain ⟨-, -, -, -, -, -, -, -, -, -, i1, i2⟩ := hx
  simp only at i1 i2
  have hI := Ins.good_im2 u v a b c op im hg
  simp only [Ins.val, Ins.cells] at *
  have H := fun W => Lib.hid (HG W)
  clear HG hg
  go_enter Try.func45, Try.ntmps45
  go_wp2_with fail
  refine (H _).out.mono ?_
  rintro e w' ⟨rfl, hb⟩
  obtain ⟨hc, hf⟩ := bcell hb
  go_wp2_with fail
  go_quiet ((go_at_call 56; exact quiet_eq (risc_bit _ _ _ (by omega) (by omega))))
  go_wp2_with fail
  go_ret2
  exact ⟨ret_two HE.out rfl, below_drewN (below_call ((Below.refl _ _).alloc (Nat.le_refl _) _) hb) _⟩

set_option maxHeartbeats 1000000 in
theorem risc_encode_3 (u v : Bool) (a b c op im : Int) (w : World) (hx : Ins.fits ⟨3, u, v, a, b, c, op, im⟩) (hg : Ins.good ⟨3, u, v, a, b, c, op, im⟩ = true) :
    Calls Try.prog 45 #[Ins.val ⟨3, u, v, a, b, c, op, im⟩] w fun e w' => e = .returned (.tuple #[.int .u32 (Ins.enc ⟨3, u, v, a, b, c, op, im⟩), .int .i64 0]) ∧ Below w.heap.size w w' := by
  have HG := fun W => (risc_good ⟨3, u, v, a, b, c, op, im⟩ W hx)
  rw [hg] at HG
  have hr := Ins.good_range _ hg
  have HE := Lib.hid (enc_val_3 u v a b c op im hg)
  simp only at hr
  obtain ⟨-, -, r1, r2, r3, r4, r5, r6, r7, r8⟩ := hr
  obtain ⟨-, -, -, -, -, -, -, -, -, -, i1, i2⟩ := hx
  simp only at i1 i2
  have hI := Ins.good_im3 u v a b c op im hg
  simp only [Ins.val, Ins.cells] at *
  have H := fun W => Lib.hid (HG W)
  clear HG hg
  go_enter Try.func45, Try.ntmps45
  go_wp2_with fail
  refine (H _).out.mono ?_
  rintro e w' ⟨rfl, hb⟩
  obtain ⟨hc, hf⟩ := bcell hb
  go_wp2_with fail
  go_quiet ((go_at_call 56; exact quiet_eq (risc_bit _ _ _ (by omega) (by omega))))
  go_wp2_with fail
  go_ret2
  exact ⟨ret_two HE.out rfl, below_drewN (below_call ((Below.refl _ _).alloc (Nat.le_refl _) _) hb) _⟩

theorem risc_encode (x : Ins) (w : World) (hx : x.fits) (hg : x.good = true) :
    Calls Try.prog 45 #[x.val] w fun e w' => e = .returned (.tuple #[.int .u32 x.enc, .int .i64 0]) ∧ Below w.heap.size w w' := by
  have hr := Ins.good_range _ hg
  obtain ⟨form, u, v, a, b, c, op, im⟩ := x
  simp only at hr
  have h4 : form = 0 ∨ form = 1 ∨ form = 2 ∨ form = 3 := by omega
  rcases h4 with rfl | rfl | rfl | rfl
  · exact risc_encode_0 u v a b c op im w hx hg
  · exact risc_encode_1 u v a b c op im w hx hg
  · exact risc_encode_2 u v a b c op im w hx hg
  · exact risc_encode_3 u v a b c op im w hx hg

end Go.Proofs.Ytlihcdhcljljoaa
