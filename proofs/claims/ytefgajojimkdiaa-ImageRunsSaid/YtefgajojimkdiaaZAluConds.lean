/-
  What the conditions answer.
-/
import Derived.Test.YtefgajojimkdiaaZBits
namespace Go.Proofs.Ytefgajojimkdiaa
set_option linter.unusedVariables false
set_option linter.unusedSimpArgs false
open Go.RowKit Bw

theorem ret_b {a b : Bool} (h : a = b) : Ending.returned (.bool a) = .returned (.bool b) := by rw [h]

set_option maxHeartbeats 1000000 in
theorem alu_holds_0 (f : Fl) (w : World) :
    Calls Try.prog 79 #[.int .i64 0, f.val] w fun e w' => e = .returned (.bool (Alu.holds 0 f)) ∧ Below w.heap.size w w' := by
  obtain ⟨fn, fz, fc, fv⟩ := f
  simp only [Fl.val, Fl.cells]
  go_enter Try.func79, Try.ntmps79
  go_wp2
  all_goals go_ret
  all_goals refine ⟨ret_b ?_, ?_⟩
  all_goals first | (repeat (first | with_reducible exact Below.refl _ _ | with_reducible apply Below.drew | with_reducible refine Below.setCell ?_ (by simp) _ | with_reducible refine Below.alloc ?_ (by first | (simp; done) | (simp; omega)) _)) | skip
  all_goals first | (simp_all [Alu.holds, Alu.base]; done) | (cases fn <;> cases fz <;> cases fc <;> cases fv <;> simp_all [Alu.holds, Alu.base])

set_option maxHeartbeats 1000000 in
theorem alu_holds_1 (f : Fl) (w : World) :
    Calls Try.prog 79 #[.int .i64 1, f.val] w fun e w' => e = .returned (.bool (Alu.holds 1 f)) ∧ Below w.heap.size w w' := by
  obtain ⟨fn, fz, fc, fv⟩ := f
  simp only [Fl.val, Fl.cells]
  go_enter Try.func79, Try.ntmps79
  go_wp2
  all_goals go_ret
  all_goals refine ⟨ret_b ?_, ?_⟩
  all_goals first | (repeat (first | with_reducible exact Below.refl _ _ | with_reducible apply Below.drew | with_reducible refine Below.setCell ?_ (by simp) _ | with_reducible refine Below.alloc ?_ (by first | (simp; done) | (simp; omega)) _)) | skip
  all_goals first | (simp_all [Alu.holds, Alu.base]; done) | (cases fn <;> cases fz <;> cases fc <;> cases fv <;> simp_all [Alu.holds, Alu.base])

set_option maxHeartbeats 1000000 in
theorem alu_holds_2 (f : Fl) (w : World) :
    Calls Try.prog 79 #[.int .i64 2, f.val] w fun e w' => e = .returned (.bool (Alu.holds 2 f)) ∧ Below w.heap.size w w' := by
  obtain ⟨fn, fz, fc, fv⟩ := f
  simp only [Fl.val, Fl.cells]
  go_enter Try.func79, Try.ntmps79
  go_wp2
  all_goals go_ret
  all_goals refine ⟨ret_b ?_, ?_⟩
  all_goals first | (repeat (first | with_reducible exact Below.refl _ _ | with_reducible apply Below.drew | with_reducible refine Below.setCell ?_ (by simp) _ | with_reducible refine Below.alloc ?_ (by first | (simp; done) | (simp; omega)) _)) | skip
  all_goals first | (simp_all [Alu.holds, Alu.base]; done) | (cases fn <;> cases fz <;> cases fc <;> cases fv <;> simp_all [Alu.holds, Alu.base])

set_option maxHeartbeats 1000000 in
theorem alu_holds_3 (f : Fl) (w : World) :
    Calls Try.prog 79 #[.int .i64 3, f.val] w fun e w' => e = .returned (.bool (Alu.holds 3 f)) ∧ Below w.heap.size w w' := by
  obtain ⟨fn, fz, fc, fv⟩ := f
  simp only [Fl.val, Fl.cells]
  go_enter Try.func79, Try.ntmps79
  go_wp2
  all_goals go_ret
  all_goals refine ⟨ret_b ?_, ?_⟩
  all_goals first | (repeat (first | with_reducible exact Below.refl _ _ | with_reducible apply Below.drew | with_reducible refine Below.setCell ?_ (by simp) _ | with_reducible refine Below.alloc ?_ (by first | (simp; done) | (simp; omega)) _)) | skip
  all_goals first | (simp_all [Alu.holds, Alu.base]; done) | (cases fn <;> cases fz <;> cases fc <;> cases fv <;> simp_all [Alu.holds, Alu.base])

set_option maxHeartbeats 1000000 in
theorem alu_holds_4 (f : Fl) (w : World) :
    Calls Try.prog 79 #[.int .i64 4, f.val] w fun e w' => e = .returned (.bool (Alu.holds 4 f)) ∧ Below w.heap.size w w' := by
  obtain ⟨fn, fz, fc, fv⟩ := f
  simp only [Fl.val, Fl.cells]
  go_enter Try.func79, Try.ntmps79
  go_wp2
  all_goals go_ret
  all_goals refine ⟨ret_b ?_, ?_⟩
  all_goals first | (repeat (first | with_reducible exact Below.refl _ _ | with_reducible apply Below.drew | with_reducible refine Below.setCell ?_ (by simp) _ | with_reducible refine Below.alloc ?_ (by first | (simp; done) | (simp; omega)) _)) | skip
  all_goals first | (simp_all [Alu.holds, Alu.base]; done) | (cases fn <;> cases fz <;> cases fc <;> cases fv <;> simp_all [Alu.holds, Alu.base])

set_option maxHeartbeats 1000000 in
theorem alu_holds_5 (f : Fl) (w : World) :
    Calls Try.prog 79 #[.int .i64 5, f.val] w fun e w' => e = .returned (.bool (Alu.holds 5 f)) ∧ Below w.heap.size w w' := by
  obtain ⟨fn, fz, fc, fv⟩ := f
  simp only [Fl.val, Fl.cells]
  go_enter Try.func79, Try.ntmps79
  go_wp2
  all_goals go_ret
  all_goals refine ⟨ret_b ?_, ?_⟩
  all_goals first | (repeat (first | with_reducible exact Below.refl _ _ | with_reducible apply Below.drew | with_reducible refine Below.setCell ?_ (by simp) _ | with_reducible refine Below.alloc ?_ (by first | (simp; done) | (simp; omega)) _)) | skip
  all_goals first | (simp_all [Alu.holds, Alu.base]; done) | (cases fn <;> cases fz <;> cases fc <;> cases fv <;> simp_all [Alu.holds, Alu.base])

set_option maxHeartbeats 1000000 in
theorem alu_holds_6 (f : Fl) (w : World) :
    Calls Try.prog 79 #[.int .i64 6, f.val] w fun e w' => e = .returned (.bool (Alu.holds 6 f)) ∧ Below w.heap.size w w' := by
  obtain ⟨fn, fz, fc, fv⟩ := f
  simp only [Fl.val, Fl.cells]
  go_enter Try.func79, Try.ntmps79
  go_wp2
  all_goals go_ret
  all_goals refine ⟨ret_b ?_, ?_⟩
  all_goals first | (repeat (first | with_reducible exact Below.refl _ _ | with_reducible apply Below.drew | with_reducible refine Below.setCell ?_ (by simp) _ | with_reducible refine Below.alloc ?_ (by first | (simp; done) | (simp; omega)) _)) | skip
  all_goals first | (simp_all [Alu.holds, Alu.base]; done) | (cases fn <;> cases fz <;> cases fc <;> cases fv <;> simp_all [Alu.holds, Alu.base])

set_option maxHeartbeats 1000000 in
theorem alu_holds_7 (f : Fl) (w : World) :
    Calls Try.prog 79 #[.int .i64 7, f.val] w fun e w' => e = .returned (.bool (Alu.holds 7 f)) ∧ Below w.heap.size w w' := by
  obtain ⟨fn, fz, fc, fv⟩ := f
  simp only [Fl.val, Fl.cells]
  go_enter Try.func79, Try.ntmps79
  go_wp2
  all_goals go_ret
  all_goals refine ⟨ret_b ?_, ?_⟩
  all_goals first | (repeat (first | with_reducible exact Below.refl _ _ | with_reducible apply Below.drew | with_reducible refine Below.setCell ?_ (by simp) _ | with_reducible refine Below.alloc ?_ (by first | (simp; done) | (simp; omega)) _)) | skip
  all_goals first | (simp_all [Alu.holds, Alu.base]; done) | (cases fn <;> cases fz <;> cases fc <;> cases fv <;> simp_all [Alu.holds, Alu.base])

set_option maxHeartbeats 1000000 in
theorem alu_holds_8 (f : Fl) (w : World) :
    Calls Try.prog 79 #[.int .i64 8, f.val] w fun e w' => e = .returned (.bool (Alu.holds 8 f)) ∧ Below w.heap.size w w' := by
  obtain ⟨fn, fz, fc, fv⟩ := f
  simp only [Fl.val, Fl.cells]
  go_enter Try.func79, Try.ntmps79
  go_wp2
  all_goals go_ret
  all_goals refine ⟨ret_b ?_, ?_⟩
  all_goals first | (repeat (first | with_reducible exact Below.refl _ _ | with_reducible apply Below.drew | with_reducible refine Below.setCell ?_ (by simp) _ | with_reducible refine Below.alloc ?_ (by first | (simp; done) | (simp; omega)) _)) | skip
  all_goals first | (simp_all [Alu.holds, Alu.base]; done) | (cases fn <;> cases fz <;> cases fc <;> cases fv <;> simp_all [Alu.holds, Alu.base])

set_option maxHeartbeats 1000000 in
theorem alu_holds_9 (f : Fl) (w : World) :
    Calls Try.prog 79 #[.int .i64 9, f.val] w fun e w' => e = .returned (.bool (Alu.holds 9 f)) ∧ Below w.heap.size w w' := by
  obtain ⟨fn, fz, fc, fv⟩ := f
  simp only [Fl.val, Fl.cells]
  go_enter Try.func79, Try.ntmps79
  go_wp2
  all_goals go_ret
  all_goals refine ⟨ret_b ?_, ?_⟩
  all_goals first | (repeat (first | with_reducible exact Below.refl _ _ | with_reducible apply Below.drew | with_reducible refine Below.setCell ?_ (by simp) _ | with_reducible refine Below.alloc ?_ (by first | (simp; done) | (simp; omega)) _)) | skip
  all_goals first | (simp_all [Alu.holds, Alu.base]; done) | (cases fn <;> cases fz <;> cases fc <;> cases fv <;> simp_all [Alu.holds, Alu.base])

set_option maxHeartbeats 1000000 in
theorem alu_holds_10 (f : Fl) (w : World) :
    Calls Try.prog 79 #[.int .i64 10, f.val] w fun e w' => e = .returned (.bool (Alu.holds 10 f)) ∧ Below w.heap.size w w' := by
  obtain ⟨fn, fz, fc, fv⟩ := f
  simp only [Fl.val, Fl.cells]
  go_enter Try.func79, Try.ntmps79
  go_wp2
  all_goals go_ret
  all_goals refine ⟨ret_b ?_, ?_⟩
  all_goals first | (repeat (first | with_reducible exact Below.refl _ _ | with_reducible apply Below.drew | with_reducible refine Below.setCell ?_ (by simp) _ | with_reducible refine Below.alloc ?_ (by first | (simp; done) | (simp; omega)) _)) | skip
  all_goals first | (simp_all [Alu.holds, Alu.base]; done) | (cases fn <;> cases fz <;> cases fc <;> cases fv <;> simp_all [Alu.holds, Alu.base])

set_option maxHeartbeats 1000000 in
theorem alu_holds_11 (f : Fl) (w : World) :
    Calls Try.prog 79 #[.int .i64 11, f.val] w fun e w' => e = .returned (.bool (Alu.holds 11 f)) ∧ Below w.heap.size w w' := by
  obtain ⟨fn, fz, fc, fv⟩ := f
  simp only [Fl.val, Fl.cells]
  go_enter Try.func79, Try.ntmps79
  go_wp2
  all_goals go_ret
  all_goals refine ⟨ret_b ?_, ?_⟩
  all_goals first | (repeat (first | with_reducible exact Below.refl _ _ | with_reducible apply Below.drew | with_reducible refine Below.setCell ?_ (by simp) _ | with_reducible refine Below.alloc ?_ (by first | (simp; done) | (simp; omega)) _)) | skip
  all_goals first | (simp_all [Alu.holds, Alu.base]; done) | (cases fn <;> cases fz <;> cases fc <;> cases fv <;> simp_all [Alu.holds, Alu.base])

set_option maxHeartbeats 1000000 in
theorem alu_holds_12 (f : Fl) (w : World) :
    Calls Try.prog 79 #[.int .i64 12, f.val] w fun e w' => e = .returned (.bool (Alu.holds 12 f)) ∧ Below w.heap.size w w' := by
  obtain ⟨fn, fz, fc, fv⟩ := f
  simp only [Fl.val, Fl.cells]
  go_enter Try.func79, Try.ntmps79
  go_wp2
  all_goals go_ret
  all_goals refine ⟨ret_b ?_, ?_⟩
  all_goals first | (repeat (first | with_reducible exact Below.refl _ _ | with_reducible apply Below.drew | with_reducible refine Below.setCell ?_ (by simp) _ | with_reducible refine Below.alloc ?_ (by first | (simp; done) | (simp; omega)) _)) | skip
  all_goals first | (simp_all [Alu.holds, Alu.base]; done) | (cases fn <;> cases fz <;> cases fc <;> cases fv <;> simp_all [Alu.holds, Alu.base])

set_option maxHeartbeats 1000000 in
theorem alu_holds_13 (f : Fl) (w : World) :
    Calls Try.prog 79 #[.int .i64 13, f.val] w fun e w' => e = .returned (.bool (Alu.holds 13 f)) ∧ Below w.heap.size w w' := by
  obtain ⟨fn, fz, fc, fv⟩ := f
  simp only [Fl.val, Fl.cells]
  go_enter Try.func79, Try.ntmps79
  go_wp2
  all_goals go_ret
  all_goals refine ⟨ret_b ?_, ?_⟩
  all_goals first | (repeat (first | with_reducible exact Below.refl _ _ | with_reducible apply Below.drew | with_reducible refine Below.setCell ?_ (by simp) _ | with_reducible refine Below.alloc ?_ (by first | (simp; done) | (simp; omega)) _)) | skip
  all_goals first | (simp_all [Alu.holds, Alu.base]; done) | (cases fn <;> cases fz <;> cases fc <;> cases fv <;> simp_all [Alu.holds, Alu.base])

set_option maxHeartbeats 1000000 in
theorem alu_holds_14 (f : Fl) (w : World) :
    Calls Try.prog 79 #[.int .i64 14, f.val] w fun e w' => e = .returned (.bool (Alu.holds 14 f)) ∧ Below w.heap.size w w' := by
  obtain ⟨fn, fz, fc, fv⟩ := f
  simp only [Fl.val, Fl.cells]
  go_enter Try.func79, Try.ntmps79
  go_wp2
  all_goals go_ret
  all_goals refine ⟨ret_b ?_, ?_⟩
  all_goals first | (repeat (first | with_reducible exact Below.refl _ _ | with_reducible apply Below.drew | with_reducible refine Below.setCell ?_ (by simp) _ | with_reducible refine Below.alloc ?_ (by first | (simp; done) | (simp; omega)) _)) | skip
  all_goals first | (simp_all [Alu.holds, Alu.base]; done) | (cases fn <;> cases fz <;> cases fc <;> cases fv <;> simp_all [Alu.holds, Alu.base])

set_option maxHeartbeats 1000000 in
theorem alu_holds_15 (f : Fl) (w : World) :
    Calls Try.prog 79 #[.int .i64 15, f.val] w fun e w' => e = .returned (.bool (Alu.holds 15 f)) ∧ Below w.heap.size w w' := by
  obtain ⟨fn, fz, fc, fv⟩ := f
  simp only [Fl.val, Fl.cells]
  go_enter Try.func79, Try.ntmps79
  go_wp2
  all_goals go_ret
  all_goals refine ⟨ret_b ?_, ?_⟩
  all_goals first | (repeat (first | with_reducible exact Below.refl _ _ | with_reducible apply Below.drew | with_reducible refine Below.setCell ?_ (by simp) _ | with_reducible refine Below.alloc ?_ (by first | (simp; done) | (simp; omega)) _)) | skip
  all_goals first | (simp_all [Alu.holds, Alu.base]; done) | (cases fn <;> cases fz <;> cases fc <;> cases fv <;> simp_all [Alu.holds, Alu.base])

set_option maxHeartbeats 1000000 in
theorem alu_holds_out (c : Int) (f : Fl) (w : World) (h : c < 0 ∨ 15 < c) (h1 : -9223372036854775808 ≤ c) (h2 : c ≤ 9223372036854775807) :
    Calls Try.prog 79 #[.int .i64 c, f.val] w fun e w' => e = .returned (.bool (Alu.holds c f)) ∧ Below w.heap.size w w' := by
  obtain ⟨fn, fz, fc, fv⟩ := f
  simp only [Fl.val, Fl.cells]
  rcases h with h | h
  all_goals go_enter Try.func79, Try.ntmps79
  all_goals go_wp2
  all_goals go_ret
  all_goals refine ⟨ret_b ?_, ?_⟩
  all_goals first | (repeat (first | with_reducible exact Below.refl _ _ | with_reducible apply Below.drew | with_reducible refine Below.setCell ?_ (by simp) _ | with_reducible refine Below.alloc ?_ (by first | (simp; done) | (simp; omega)) _)) | skip
  all_goals first | exact (Alu.holds_out c _ (by omega)).symm | (rw [Alu.holds_out c _ (by omega)]; first | rfl | (simp_all; done) | (simp; done) | (simp; omega))

theorem alu_holds (c : Int) (f : Fl) (w : World) (h1 : -9223372036854775808 ≤ c) (h2 : c ≤ 9223372036854775807) :
    Calls Try.prog 79 #[.int .i64 c, f.val] w fun e w' => e = .returned (.bool (Alu.holds c f)) ∧ Below w.heap.size w w' := by
  by_cases h : c < 0 ∨ 15 < c
  · exact alu_holds_out c f w h h1 h2
  · have h16 : c = 0 ∨ c = 1 ∨ c = 2 ∨ c = 3 ∨ c = 4 ∨ c = 5 ∨ c = 6 ∨ c = 7 ∨ c = 8 ∨ c = 9 ∨ c = 10 ∨ c = 11 ∨ c = 12 ∨ c = 13 ∨ c = 14 ∨ c = 15 := by omega
    rcases h16 with rfl | rfl | rfl | rfl | rfl | rfl | rfl | rfl | rfl | rfl | rfl | rfl | rfl | rfl | rfl | rfl
    · exact alu_holds_0 f w
    · exact alu_holds_1 f w
    · exact alu_holds_2 f w
    · exact alu_holds_3 f w
    · exact alu_holds_4 f w
    · exact alu_holds_5 f w
    · exact alu_holds_6 f w
    · exact alu_holds_7 f w
    · exact alu_holds_8 f w
    · exact alu_holds_9 f w
    · exact alu_holds_10 f w
    · exact alu_holds_11 f w
    · exact alu_holds_12 f w
    · exact alu_holds_13 f w
    · exact alu_holds_14 f w
    · exact alu_holds_15 f w

set_option maxHeartbeats 1000000 in
theorem ref03_holds_0 (f : Fl) (w : World) :
    Calls Try.prog 88 #[.int .i64 0, f.val] w fun e w' => e = .returned (.bool (Alu.holds 0 f)) ∧ Below w.heap.size w w' := by
  obtain ⟨fn, fz, fc, fv⟩ := f
  simp only [Fl.val, Fl.cells]
  go_enter Try.func88, Try.ntmps88
  go_wp2
  all_goals go_ret
  all_goals refine ⟨ret_b ?_, ?_⟩
  all_goals first | (repeat (first | with_reducible exact Below.refl _ _ | with_reducible apply Below.drew | with_reducible refine Below.setCell ?_ (by simp) _ | with_reducible refine Below.alloc ?_ (by first | (simp; done) | (simp; omega)) _)) | skip
  all_goals first | (simp_all [Alu.holds, Alu.base]; done) | (cases fn <;> cases fz <;> cases fc <;> cases fv <;> simp_all [Alu.holds, Alu.base])

set_option maxHeartbeats 1000000 in
theorem ref03_holds_1 (f : Fl) (w : World) :
    Calls Try.prog 88 #[.int .i64 1, f.val] w fun e w' => e = .returned (.bool (Alu.holds 1 f)) ∧ Below w.heap.size w w' := by
  obtain ⟨fn, fz, fc, fv⟩ := f
  simp only [Fl.val, Fl.cells]
  go_enter Try.func88, Try.ntmps88
  go_wp2
  all_goals go_ret
  all_goals refine ⟨ret_b ?_, ?_⟩
  all_goals first | (repeat (first | with_reducible exact Below.refl _ _ | with_reducible apply Below.drew | with_reducible refine Below.setCell ?_ (by simp) _ | with_reducible refine Below.alloc ?_ (by first | (simp; done) | (simp; omega)) _)) | skip
  all_goals first | (simp_all [Alu.holds, Alu.base]; done) | (cases fn <;> cases fz <;> cases fc <;> cases fv <;> simp_all [Alu.holds, Alu.base])

set_option maxHeartbeats 1000000 in
theorem ref03_holds_2 (f : Fl) (w : World) :
    Calls Try.prog 88 #[.int .i64 2, f.val] w fun e w' => e = .returned (.bool (Alu.holds 2 f)) ∧ Below w.heap.size w w' := by
  obtain ⟨fn, fz, fc, fv⟩ := f
  simp only [Fl.val, Fl.cells]
  go_enter Try.func88, Try.ntmps88
  go_wp2
  all_goals go_ret
  all_goals refine ⟨ret_b ?_, ?_⟩
  all_goals first | (repeat (first | with_reducible exact Below.refl _ _ | with_reducible apply Below.drew | with_reducible refine Below.setCell ?_ (by simp) _ | with_reducible refine Below.alloc ?_ (by first | (simp; done) | (simp; omega)) _)) | skip
  all_goals first | (simp_all [Alu.holds, Alu.base]; done) | (cases fn <;> cases fz <;> cases fc <;> cases fv <;> simp_all [Alu.holds, Alu.base])

set_option maxHeartbeats 1000000 in
theorem ref03_holds_3 (f : Fl) (w : World) :
    Calls Try.prog 88 #[.int .i64 3, f.val] w fun e w' => e = .returned (.bool (Alu.holds 3 f)) ∧ Below w.heap.size w w' := by
  obtain ⟨fn, fz, fc, fv⟩ := f
  simp only [Fl.val, Fl.cells]
  go_enter Try.func88, Try.ntmps88
  go_wp2
  all_goals go_ret
  all_goals refine ⟨ret_b ?_, ?_⟩
  all_goals first | (repeat (first | with_reducible exact Below.refl _ _ | with_reducible apply Below.drew | with_reducible refine Below.setCell ?_ (by simp) _ | with_reducible refine Below.alloc ?_ (by first | (simp; done) | (simp; omega)) _)) | skip
  all_goals first | (simp_all [Alu.holds, Alu.base]; done) | (cases fn <;> cases fz <;> cases fc <;> cases fv <;> simp_all [Alu.holds, Alu.base])

set_option maxHeartbeats 1000000 in
theorem ref03_holds_4 (f : Fl) (w : World) :
    Calls Try.prog 88 #[.int .i64 4, f.val] w fun e w' => e = .returned (.bool (Alu.holds 4 f)) ∧ Below w.heap.size w w' := by
  obtain ⟨fn, fz, fc, fv⟩ := f
  simp only [Fl.val, Fl.cells]
  go_enter Try.func88, Try.ntmps88
  go_wp2
  all_goals go_ret
  all_goals refine ⟨ret_b ?_, ?_⟩
  all_goals first | (repeat (first | with_reducible exact Below.refl _ _ | with_reducible apply Below.drew | with_reducible refine Below.setCell ?_ (by simp) _ | with_reducible refine Below.alloc ?_ (by first | (simp; done) | (simp; omega)) _)) | skip
  all_goals first | (simp_all [Alu.holds, Alu.base]; done) | (cases fn <;> cases fz <;> cases fc <;> cases fv <;> simp_all [Alu.holds, Alu.base])

set_option maxHeartbeats 1000000 in
theorem ref03_holds_5 (f : Fl) (w : World) :
    Calls Try.prog 88 #[.int .i64 5, f.val] w fun e w' => e = .returned (.bool (Alu.holds 5 f)) ∧ Below w.heap.size w w' := by
  obtain ⟨fn, fz, fc, fv⟩ := f
  simp only [Fl.val, Fl.cells]
  go_enter Try.func88, Try.ntmps88
  go_wp2
  all_goals go_ret
  all_goals refine ⟨ret_b ?_, ?_⟩
  all_goals first | (repeat (first | with_reducible exact Below.refl _ _ | with_reducible apply Below.drew | with_reducible refine Below.setCell ?_ (by simp) _ | with_reducible refine Below.alloc ?_ (by first | (simp; done) | (simp; omega)) _)) | skip
  all_goals first | (simp_all [Alu.holds, Alu.base]; done) | (cases fn <;> cases fz <;> cases fc <;> cases fv <;> simp_all [Alu.holds, Alu.base])

set_option maxHeartbeats 1000000 in
theorem ref03_holds_6 (f : Fl) (w : World) :
    Calls Try.prog 88 #[.int .i64 6, f.val] w fun e w' => e = .returned (.bool (Alu.holds 6 f)) ∧ Below w.heap.size w w' := by
  obtain ⟨fn, fz, fc, fv⟩ := f
  simp only [Fl.val, Fl.cells]
  go_enter Try.func88, Try.ntmps88
  go_wp2
  all_goals go_ret
  all_goals refine ⟨ret_b ?_, ?_⟩
  all_goals first | (repeat (first | with_reducible exact Below.refl _ _ | with_reducible apply Below.drew | with_reducible refine Below.setCell ?_ (by simp) _ | with_reducible refine Below.alloc ?_ (by first | (simp; done) | (simp; omega)) _)) | skip
  all_goals first | (simp_all [Alu.holds, Alu.base]; done) | (cases fn <;> cases fz <;> cases fc <;> cases fv <;> simp_all [Alu.holds, Alu.base])

set_option maxHeartbeats 1000000 in
theorem ref03_holds_7 (f : Fl) (w : World) :
    Calls Try.prog 88 #[.int .i64 7, f.val] w fun e w' => e = .returned (.bool (Alu.holds 7 f)) ∧ Below w.heap.size w w' := by
  obtain ⟨fn, fz, fc, fv⟩ := f
  simp only [Fl.val, Fl.cells]
  go_enter Try.func88, Try.ntmps88
  go_wp2
  all_goals go_ret
  all_goals refine ⟨ret_b ?_, ?_⟩
  all_goals first | (repeat (first | with_reducible exact Below.refl _ _ | with_reducible apply Below.drew | with_reducible refine Below.setCell ?_ (by simp) _ | with_reducible refine Below.alloc ?_ (by first | (simp; done) | (simp; omega)) _)) | skip
  all_goals first | (simp_all [Alu.holds, Alu.base]; done) | (cases fn <;> cases fz <;> cases fc <;> cases fv <;> simp_all [Alu.holds, Alu.base])

set_option maxHeartbeats 1000000 in
theorem ref03_holds_8 (f : Fl) (w : World) :
    Calls Try.prog 88 #[.int .i64 8, f.val] w fun e w' => e = .returned (.bool (Alu.holds 8 f)) ∧ Below w.heap.size w w' := by
  obtain ⟨fn, fz, fc, fv⟩ := f
  simp only [Fl.val, Fl.cells]
  go_enter Try.func88, Try.ntmps88
  go_wp2
  all_goals go_ret
  all_goals refine ⟨ret_b ?_, ?_⟩
  all_goals first | (repeat (first | with_reducible exact Below.refl _ _ | with_reducible apply Below.drew | with_reducible refine Below.setCell ?_ (by simp) _ | with_reducible refine Below.alloc ?_ (by first | (simp; done) | (simp; omega)) _)) | skip
  all_goals first | (simp_all [Alu.holds, Alu.base]; done) | (cases fn <;> cases fz <;> cases fc <;> cases fv <;> simp_all [Alu.holds, Alu.base])

set_option maxHeartbeats 1000000 in
theorem ref03_holds_9 (f : Fl) (w : World) :
    Calls Try.prog 88 #[.int .i64 9, f.val] w fun e w' => e = .returned (.bool (Alu.holds 9 f)) ∧ Below w.heap.size w w' := by
  obtain ⟨fn, fz, fc, fv⟩ := f
  simp only [Fl.val, Fl.cells]
  go_enter Try.func88, Try.ntmps88
  go_wp2
  all_goals go_ret
  all_goals refine ⟨ret_b ?_, ?_⟩
  all_goals first | (repeat (first | with_reducible exact Below.refl _ _ | with_reducible apply Below.drew | with_reducible refine Below.setCell ?_ (by simp) _ | with_reducible refine Below.alloc ?_ (by first | (simp; done) | (simp; omega)) _)) | skip
  all_goals first | (simp_all [Alu.holds, Alu.base]; done) | (cases fn <;> cases fz <;> cases fc <;> cases fv <;> simp_all [Alu.holds, Alu.base])

set_option maxHeartbeats 1000000 in
theorem ref03_holds_10 (f : Fl) (w : World) :
    Calls Try.prog 88 #[.int .i64 10, f.val] w fun e w' => e = .returned (.bool (Alu.holds 10 f)) ∧ Below w.heap.size w w' := by
  obtain ⟨fn, fz, fc, fv⟩ := f
  simp only [Fl.val, Fl.cells]
  go_enter Try.func88, Try.ntmps88
  go_wp2
  all_goals go_ret
  all_goals refine ⟨ret_b ?_, ?_⟩
  all_goals first | (repeat (first | with_reducible exact Below.refl _ _ | with_reducible apply Below.drew | with_reducible refine Below.setCell ?_ (by simp) _ | with_reducible refine Below.alloc ?_ (by first | (simp; done) | (simp; omega)) _)) | skip
  all_goals first | (simp_all [Alu.holds, Alu.base]; done) | (cases fn <;> cases fz <;> cases fc <;> cases fv <;> simp_all [Alu.holds, Alu.base])

set_option maxHeartbeats 1000000 in
theorem ref03_holds_11 (f : Fl) (w : World) :
    Calls Try.prog 88 #[.int .i64 11, f.val] w fun e w' => e = .returned (.bool (Alu.holds 11 f)) ∧ Below w.heap.size w w' := by
  obtain ⟨fn, fz, fc, fv⟩ := f
  simp only [Fl.val, Fl.cells]
  go_enter Try.func88, Try.ntmps88
  go_wp2
  all_goals go_ret
  all_goals refine ⟨ret_b ?_, ?_⟩
  all_goals first | (repeat (first | with_reducible exact Below.refl _ _ | with_reducible apply Below.drew | with_reducible refine Below.setCell ?_ (by simp) _ | with_reducible refine Below.alloc ?_ (by first | (simp; done) | (simp; omega)) _)) | skip
  all_goals first | (simp_all [Alu.holds, Alu.base]; done) | (cases fn <;> cases fz <;> cases fc <;> cases fv <;> simp_all [Alu.holds, Alu.base])

set_option maxHeartbeats 1000000 in
theorem ref03_holds_12 (f : Fl) (w : World) :
    Calls Try.prog 88 #[.int .i64 12, f.val] w fun e w' => e = .returned (.bool (Alu.holds 12 f)) ∧ Below w.heap.size w w' := by
  obtain ⟨fn, fz, fc, fv⟩ := f
  simp only [Fl.val, Fl.cells]
  go_enter Try.func88, Try.ntmps88
  go_wp2
  all_goals go_ret
  all_goals refine ⟨ret_b ?_, ?_⟩
  all_goals first | (repeat (first | with_reducible exact Below.refl _ _ | with_reducible apply Below.drew | with_reducible refine Below.setCell ?_ (by simp) _ | with_reducible refine Below.alloc ?_ (by first | (simp; done) | (simp; omega)) _)) | skip
  all_goals first | (simp_all [Alu.holds, Alu.base]; done) | (cases fn <;> cases fz <;> cases fc <;> cases fv <;> simp_all [Alu.holds, Alu.base])

set_option maxHeartbeats 1000000 in
theorem ref03_holds_13 (f : Fl) (w : World) :
    Calls Try.prog 88 #[.int .i64 13, f.val] w fun e w' => e = .returned (.bool (Alu.holds 13 f)) ∧ Below w.heap.size w w' := by
  obtain ⟨fn, fz, fc, fv⟩ := f
  simp only [Fl.val, Fl.cells]
  go_enter Try.func88, Try.ntmps88
  go_wp2
  all_goals go_ret
  all_goals refine ⟨ret_b ?_, ?_⟩
  all_goals first | (repeat (first | with_reducible exact Below.refl _ _ | with_reducible apply Below.drew | with_reducible refine Below.setCell ?_ (by simp) _ | with_reducible refine Below.alloc ?_ (by first | (simp; done) | (simp; omega)) _)) | skip
  all_goals first | (simp_all [Alu.holds, Alu.base]; done) | (cases fn <;> cases fz <;> cases fc <;> cases fv <;> simp_all [Alu.holds, Alu.base])

set_option maxHeartbeats 1000000 in
theorem ref03_holds_14 (f : Fl) (w : World) :
    Calls Try.prog 88 #[.int .i64 14, f.val] w fun e w' => e = .returned (.bool (Alu.holds 14 f)) ∧ Below w.heap.size w w' := by
  obtain ⟨fn, fz, fc, fv⟩ := f
  simp only [Fl.val, Fl.cells]
  go_enter Try.func88, Try.ntmps88
  go_wp2
  all_goals go_ret
  all_goals refine ⟨ret_b ?_, ?_⟩
  all_goals first | (repeat (first | with_reducible exact Below.refl _ _ | with_reducible apply Below.drew | with_reducible refine Below.setCell ?_ (by simp) _ | with_reducible refine Below.alloc ?_ (by first | (simp; done) | (simp; omega)) _)) | skip
  all_goals first | (simp_all [Alu.holds, Alu.base]; done) | (cases fn <;> cases fz <;> cases fc <;> cases fv <;> simp_all [Alu.holds, Alu.base])

set_option maxHeartbeats 1000000 in
theorem ref03_holds_15 (f : Fl) (w : World) :
    Calls Try.prog 88 #[.int .i64 15, f.val] w fun e w' => e = .returned (.bool (Alu.holds 15 f)) ∧ Below w.heap.size w w' := by
  obtain ⟨fn, fz, fc, fv⟩ := f
  simp only [Fl.val, Fl.cells]
  go_enter Try.func88, Try.ntmps88
  go_wp2
  all_goals go_ret
  all_goals refine ⟨ret_b ?_, ?_⟩
  all_goals first | (repeat (first | with_reducible exact Below.refl _ _ | with_reducible apply Below.drew | with_reducible refine Below.setCell ?_ (by simp) _ | with_reducible refine Below.alloc ?_ (by first | (simp; done) | (simp; omega)) _)) | skip
  all_goals first | (simp_all [Alu.holds, Alu.base]; done) | (cases fn <;> cases fz <;> cases fc <;> cases fv <;> simp_all [Alu.holds, Alu.base])

set_option maxHeartbeats 1000000 in
theorem ref03_holds_out (c : Int) (f : Fl) (w : World) (h : c < 0 ∨ 15 < c) (h1 : -9223372036854775808 ≤ c) (h2 : c ≤ 9223372036854775807) :
    Calls Try.prog 88 #[.int .i64 c, f.val] w fun e w' => e = .returned (.bool (Alu.holds c f)) ∧ Below w.heap.size w w' := by
  obtain ⟨fn, fz, fc, fv⟩ := f
  simp only [Fl.val, Fl.cells]
  rcases h with h | h
  all_goals go_enter Try.func88, Try.ntmps88
  all_goals go_wp2
  all_goals go_ret
  all_goals refine ⟨ret_b ?_, ?_⟩
  all_goals first | (repeat (first | with_reducible exact Below.refl _ _ | with_reducible apply Below.drew | with_reducible refine Below.setCell ?_ (by simp) _ | with_reducible refine Below.alloc ?_ (by first | (simp; done) | (simp; omega)) _)) | skip
  all_goals first | exact (Alu.holds_out c _ (by omega)).symm | (rw [Alu.holds_out c _ (by omega)]; first | rfl | (simp_all; done) | (simp; done) | (simp; omega))

theorem ref03_holds (c : Int) (f : Fl) (w : World) (h1 : -9223372036854775808 ≤ c) (h2 : c ≤ 9223372036854775807) :
    Calls Try.prog 88 #[.int .i64 c, f.val] w fun e w' => e = .returned (.bool (Alu.holds c f)) ∧ Below w.heap.size w w' := by
  by_cases h : c < 0 ∨ 15 < c
  · exact ref03_holds_out c f w h h1 h2
  · have h16 : c = 0 ∨ c = 1 ∨ c = 2 ∨ c = 3 ∨ c = 4 ∨ c = 5 ∨ c = 6 ∨ c = 7 ∨ c = 8 ∨ c = 9 ∨ c = 10 ∨ c = 11 ∨ c = 12 ∨ c = 13 ∨ c = 14 ∨ c = 15 := by omega
    rcases h16 with rfl | rfl | rfl | rfl | rfl | rfl | rfl | rfl | rfl | rfl | rfl | rfl | rfl | rfl | rfl | rfl
    · exact ref03_holds_0 f w
    · exact ref03_holds_1 f w
    · exact ref03_holds_2 f w
    · exact ref03_holds_3 f w
    · exact ref03_holds_4 f w
    · exact ref03_holds_5 f w
    · exact ref03_holds_6 f w
    · exact ref03_holds_7 f w
    · exact ref03_holds_8 f w
    · exact ref03_holds_9 f w
    · exact ref03_holds_10 f w
    · exact ref03_holds_11 f w
    · exact ref03_holds_12 f w
    · exact ref03_holds_13 f w
    · exact ref03_holds_14 f w
    · exact ref03_holds_15 f w

end Go.Proofs.Ytefgajojimkdiaa
