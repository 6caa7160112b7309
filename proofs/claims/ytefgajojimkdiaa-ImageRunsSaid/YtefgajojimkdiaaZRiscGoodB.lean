/-
  What risc.Good answers: at form 2.
-/
import Derived.Test.YtefgajojimkdiaaZBits
namespace Go.Proofs.Ytefgajojimkdiaa
set_option linter.unusedVariables false
set_option linter.unusedSimpArgs false
open Go.RowKit Bw

set_option maxHeartbeats 4000000 in
theorem risc_good_2tt (a b c op im : Int) (w : World) (ha : -9223372036854775808 ≤ a) (ha' : a ≤ 9223372036854775807) (hb : -9223372036854775808 ≤ b) (hb' : b ≤ 9223372036854775807) (hc : -9223372036854775808 ≤ c) (hc' : c ≤ 9223372036854775807) (hop : -9223372036854775808 ≤ op) (hop' : op ≤ 9223372036854775807) (him : -9223372036854775808 ≤ im) (him' : im ≤ 9223372036854775807) :
    Calls Try.prog 53 #[Ins.val ⟨2, true, true, a, b, c, op, im⟩] w fun e w' => e = .returned (.bool (Ins.good ⟨2, true, true, a, b, c, op, im⟩)) ∧ Below w.heap.size w w' := by
  simp only [Ins.val, Ins.cells]
  go_enter Try.func53, Try.ntmps53
  go_wp2_with (first | (go_at_call 71; refine (risc_half _ _ _ (by omega) (by omega) (by omega) (by omega)).mono ?_; rintro e w' ⟨rfl, rfl⟩) | (go_at_call 72; refine (bits_fits _ _ _ (by omega) (by omega)).mono ?_; rintro e w' ⟨rfl, rfl⟩))
  all_goals go_region
  all_goals go_wp2_with (first | (go_at_call 71; refine (risc_half _ _ _ (by omega) (by omega) (by omega) (by omega)).mono ?_; rintro e w' ⟨rfl, rfl⟩) | (go_at_call 72; refine (bits_fits _ _ _ (by omega) (by omega)).mono ?_; rintro e w' ⟨rfl, rfl⟩))
  all_goals go_ret
  all_goals refine ⟨ret_bool ?_, ?_⟩
  all_goals first | (repeat (first | exact Below.refl _ _ | apply Below.drew | refine Below.alloc ?_ (by simp) _)) | skip
  all_goals simp_all [Ins.good, Ins.inb, Ins.uop, half4, half16, fits20, fits24]
  all_goals first | omega | (rw [Bool.eq_iff_iff]; simp; omega)

set_option maxHeartbeats 4000000 in
theorem risc_good_2tf (a b c op im : Int) (w : World) (ha : -9223372036854775808 ≤ a) (ha' : a ≤ 9223372036854775807) (hb : -9223372036854775808 ≤ b) (hb' : b ≤ 9223372036854775807) (hc : -9223372036854775808 ≤ c) (hc' : c ≤ 9223372036854775807) (hop : -9223372036854775808 ≤ op) (hop' : op ≤ 9223372036854775807) (him : -9223372036854775808 ≤ im) (him' : im ≤ 9223372036854775807) :
    Calls Try.prog 53 #[Ins.val ⟨2, true, false, a, b, c, op, im⟩] w fun e w' => e = .returned (.bool (Ins.good ⟨2, true, false, a, b, c, op, im⟩)) ∧ Below w.heap.size w w' := by
  simp only [Ins.val, Ins.cells]
  go_enter Try.func53, Try.ntmps53
  go_wp2_with (first | (go_at_call 71; refine (risc_half _ _ _ (by omega) (by omega) (by omega) (by omega)).mono ?_; rintro e w' ⟨rfl, rfl⟩) | (go_at_call 72; refine (bits_fits _ _ _ (by omega) (by omega)).mono ?_; rintro e w' ⟨rfl, rfl⟩))
  all_goals go_region
  all_goals go_wp2_with (first | (go_at_call 71; refine (risc_half _ _ _ (by omega) (by omega) (by omega) (by omega)).mono ?_; rintro e w' ⟨rfl, rfl⟩) | (go_at_call 72; refine (bits_fits _ _ _ (by omega) (by omega)).mono ?_; rintro e w' ⟨rfl, rfl⟩))
  all_goals go_ret
  all_goals refine ⟨ret_bool ?_, ?_⟩
  all_goals first | (repeat (first | exact Below.refl _ _ | apply Below.drew | refine Below.alloc ?_ (by simp) _)) | skip
  all_goals simp_all [Ins.good, Ins.inb, Ins.uop, half4, half16, fits20, fits24]
  all_goals first | omega | (rw [Bool.eq_iff_iff]; simp; omega)

set_option maxHeartbeats 4000000 in
theorem risc_good_2ft (a b c op im : Int) (w : World) (ha : -9223372036854775808 ≤ a) (ha' : a ≤ 9223372036854775807) (hb : -9223372036854775808 ≤ b) (hb' : b ≤ 9223372036854775807) (hc : -9223372036854775808 ≤ c) (hc' : c ≤ 9223372036854775807) (hop : -9223372036854775808 ≤ op) (hop' : op ≤ 9223372036854775807) (him : -9223372036854775808 ≤ im) (him' : im ≤ 9223372036854775807) :
    Calls Try.prog 53 #[Ins.val ⟨2, false, true, a, b, c, op, im⟩] w fun e w' => e = .returned (.bool (Ins.good ⟨2, false, true, a, b, c, op, im⟩)) ∧ Below w.heap.size w w' := by
  simp only [Ins.val, Ins.cells]
  go_enter Try.func53, Try.ntmps53
  go_wp2_with (first | (go_at_call 71; refine (risc_half _ _ _ (by omega) (by omega) (by omega) (by omega)).mono ?_; rintro e w' ⟨rfl, rfl⟩) | (go_at_call 72; refine (bits_fits _ _ _ (by omega) (by omega)).mono ?_; rintro e w' ⟨rfl, rfl⟩))
  all_goals go_region
  all_goals go_wp2_with (first | (go_at_call 71; refine (risc_half _ _ _ (by omega) (by omega) (by omega) (by omega)).mono ?_; rintro e w' ⟨rfl, rfl⟩) | (go_at_call 72; refine (bits_fits _ _ _ (by omega) (by omega)).mono ?_; rintro e w' ⟨rfl, rfl⟩))
  all_goals go_ret
  all_goals refine ⟨ret_bool ?_, ?_⟩
  all_goals first | (repeat (first | exact Below.refl _ _ | apply Below.drew | refine Below.alloc ?_ (by simp) _)) | skip
  all_goals simp_all [Ins.good, Ins.inb, Ins.uop, half4, half16, fits20, fits24]
  all_goals first | omega | (rw [Bool.eq_iff_iff]; simp; omega)

set_option maxHeartbeats 4000000 in
theorem risc_good_2ff (a b c op im : Int) (w : World) (ha : -9223372036854775808 ≤ a) (ha' : a ≤ 9223372036854775807) (hb : -9223372036854775808 ≤ b) (hb' : b ≤ 9223372036854775807) (hc : -9223372036854775808 ≤ c) (hc' : c ≤ 9223372036854775807) (hop : -9223372036854775808 ≤ op) (hop' : op ≤ 9223372036854775807) (him : -9223372036854775808 ≤ im) (him' : im ≤ 9223372036854775807) :
    Calls Try.prog 53 #[Ins.val ⟨2, false, false, a, b, c, op, im⟩] w fun e w' => e = .returned (.bool (Ins.good ⟨2, false, false, a, b, c, op, im⟩)) ∧ Below w.heap.size w w' := by
  simp only [Ins.val, Ins.cells]
  go_enter Try.func53, Try.ntmps53
  go_wp2_with (first | (go_at_call 71; refine (risc_half _ _ _ (by omega) (by omega) (by omega) (by omega)).mono ?_; rintro e w' ⟨rfl, rfl⟩) | (go_at_call 72; refine (bits_fits _ _ _ (by omega) (by omega)).mono ?_; rintro e w' ⟨rfl, rfl⟩))
  all_goals go_region
  all_goals go_wp2_with (first | (go_at_call 71; refine (risc_half _ _ _ (by omega) (by omega) (by omega) (by omega)).mono ?_; rintro e w' ⟨rfl, rfl⟩) | (go_at_call 72; refine (bits_fits _ _ _ (by omega) (by omega)).mono ?_; rintro e w' ⟨rfl, rfl⟩))
  all_goals go_ret
  all_goals refine ⟨ret_bool ?_, ?_⟩
  all_goals first | (repeat (first | exact Below.refl _ _ | apply Below.drew | refine Below.alloc ?_ (by simp) _)) | skip
  all_goals simp_all [Ins.good, Ins.inb, Ins.uop, half4, half16, fits20, fits24]
  all_goals first | omega | (rw [Bool.eq_iff_iff]; simp; omega)

end Go.Proofs.Ytefgajojimkdiaa

/-
  What risc.Good answers: at form 3.
-/
namespace Go.Proofs.Ytefgajojimkdiaa
set_option linter.unusedVariables false
set_option linter.unusedSimpArgs false
open Go.RowKit Bw

set_option maxHeartbeats 4000000 in
theorem risc_good_3tt (a b c op im : Int) (w : World) (ha : -9223372036854775808 ≤ a) (ha' : a ≤ 9223372036854775807) (hb : -9223372036854775808 ≤ b) (hb' : b ≤ 9223372036854775807) (hc : -9223372036854775808 ≤ c) (hc' : c ≤ 9223372036854775807) (hop : -9223372036854775808 ≤ op) (hop' : op ≤ 9223372036854775807) (him : -9223372036854775808 ≤ im) (him' : im ≤ 9223372036854775807) :
    Calls Try.prog 53 #[Ins.val ⟨3, true, true, a, b, c, op, im⟩] w fun e w' => e = .returned (.bool (Ins.good ⟨3, true, true, a, b, c, op, im⟩)) ∧ Below w.heap.size w w' := by
  simp only [Ins.val, Ins.cells]
  go_enter Try.func53, Try.ntmps53
  go_wp2_with (first | (go_at_call 71; refine (risc_half _ _ _ (by omega) (by omega) (by omega) (by omega)).mono ?_; rintro e w' ⟨rfl, rfl⟩) | (go_at_call 72; refine (bits_fits _ _ _ (by omega) (by omega)).mono ?_; rintro e w' ⟨rfl, rfl⟩))
  all_goals go_ret
  all_goals refine ⟨ret_bool ?_, ?_⟩
  all_goals first | (repeat (first | exact Below.refl _ _ | apply Below.drew | refine Below.alloc ?_ (by simp) _)) | skip
  all_goals simp_all [Ins.good, Ins.inb, Ins.uop, half4, half16, fits20, fits24]
  all_goals first | omega | (rw [Bool.eq_iff_iff]; simp; omega)

set_option maxHeartbeats 4000000 in
theorem risc_good_3tf (a b c op im : Int) (w : World) (ha : -9223372036854775808 ≤ a) (ha' : a ≤ 9223372036854775807) (hb : -9223372036854775808 ≤ b) (hb' : b ≤ 9223372036854775807) (hc : -9223372036854775808 ≤ c) (hc' : c ≤ 9223372036854775807) (hop : -9223372036854775808 ≤ op) (hop' : op ≤ 9223372036854775807) (him : -9223372036854775808 ≤ im) (him' : im ≤ 9223372036854775807) :
    Calls Try.prog 53 #[Ins.val ⟨3, true, false, a, b, c, op, im⟩] w fun e w' => e = .returned (.bool (Ins.good ⟨3, true, false, a, b, c, op, im⟩)) ∧ Below w.heap.size w w' := by
  simp only [Ins.val, Ins.cells]
  go_enter Try.func53, Try.ntmps53
  go_wp2_with (first | (go_at_call 71; refine (risc_half _ _ _ (by omega) (by omega) (by omega) (by omega)).mono ?_; rintro e w' ⟨rfl, rfl⟩) | (go_at_call 72; refine (bits_fits _ _ _ (by omega) (by omega)).mono ?_; rintro e w' ⟨rfl, rfl⟩))
  all_goals go_ret
  all_goals refine ⟨ret_bool ?_, ?_⟩
  all_goals first | (repeat (first | exact Below.refl _ _ | apply Below.drew | refine Below.alloc ?_ (by simp) _)) | skip
  all_goals simp_all [Ins.good, Ins.inb, Ins.uop, half4, half16, fits20, fits24]
  all_goals first | omega | (rw [Bool.eq_iff_iff]; simp; omega)

set_option maxHeartbeats 4000000 in
theorem risc_good_3ft (a b c op im : Int) (w : World) (ha : -9223372036854775808 ≤ a) (ha' : a ≤ 9223372036854775807) (hb : -9223372036854775808 ≤ b) (hb' : b ≤ 9223372036854775807) (hc : -9223372036854775808 ≤ c) (hc' : c ≤ 9223372036854775807) (hop : -9223372036854775808 ≤ op) (hop' : op ≤ 9223372036854775807) (him : -9223372036854775808 ≤ im) (him' : im ≤ 9223372036854775807) :
    Calls Try.prog 53 #[Ins.val ⟨3, false, true, a, b, c, op, im⟩] w fun e w' => e = .returned (.bool (Ins.good ⟨3, false, true, a, b, c, op, im⟩)) ∧ Below w.heap.size w w' := by
  simp only [Ins.val, Ins.cells]
  go_enter Try.func53, Try.ntmps53
  go_wp2_with (first | (go_at_call 71; refine (risc_half _ _ _ (by omega) (by omega) (by omega) (by omega)).mono ?_; rintro e w' ⟨rfl, rfl⟩) | (go_at_call 72; refine (bits_fits _ _ _ (by omega) (by omega)).mono ?_; rintro e w' ⟨rfl, rfl⟩))
  all_goals go_ret
  all_goals refine ⟨ret_bool ?_, ?_⟩
  all_goals first | (repeat (first | exact Below.refl _ _ | apply Below.drew | refine Below.alloc ?_ (by simp) _)) | skip
  all_goals simp_all [Ins.good, Ins.inb, Ins.uop, half4, half16, fits20, fits24]
  all_goals first | omega | (rw [Bool.eq_iff_iff]; simp; omega)

set_option maxHeartbeats 4000000 in
theorem risc_good_3ff (a b c op im : Int) (w : World) (ha : -9223372036854775808 ≤ a) (ha' : a ≤ 9223372036854775807) (hb : -9223372036854775808 ≤ b) (hb' : b ≤ 9223372036854775807) (hc : -9223372036854775808 ≤ c) (hc' : c ≤ 9223372036854775807) (hop : -9223372036854775808 ≤ op) (hop' : op ≤ 9223372036854775807) (him : -9223372036854775808 ≤ im) (him' : im ≤ 9223372036854775807) :
    Calls Try.prog 53 #[Ins.val ⟨3, false, false, a, b, c, op, im⟩] w fun e w' => e = .returned (.bool (Ins.good ⟨3, false, false, a, b, c, op, im⟩)) ∧ Below w.heap.size w w' := by
  simp only [Ins.val, Ins.cells]
  go_enter Try.func53, Try.ntmps53
  go_wp2_with (first | (go_at_call 71; refine (risc_half _ _ _ (by omega) (by omega) (by omega) (by omega)).mono ?_; rintro e w' ⟨rfl, rfl⟩) | (go_at_call 72; refine (bits_fits _ _ _ (by omega) (by omega)).mono ?_; rintro e w' ⟨rfl, rfl⟩))
  all_goals go_ret
  all_goals refine ⟨ret_bool ?_, ?_⟩
  all_goals first | (repeat (first | exact Below.refl _ _ | apply Below.drew | refine Below.alloc ?_ (by simp) _)) | skip
  all_goals simp_all [Ins.good, Ins.inb, Ins.uop, half4, half16, fits20, fits24]
  all_goals first | omega | (rw [Bool.eq_iff_iff]; simp; omega)

end Go.Proofs.Ytefgajojimkdiaa
