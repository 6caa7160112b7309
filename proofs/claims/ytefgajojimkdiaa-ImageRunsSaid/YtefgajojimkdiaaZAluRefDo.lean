/-
  What the reference's Do tells: the operations, part 1.
-/
import Derived.Test.YtefgajojimkdiaaZBits
namespace Go.Proofs.Ytefgajojimkdiaa
set_option linter.unusedVariables false
set_option linter.unusedSimpArgs false
open Go.RowKit Bw

set_option maxRecDepth 100000 in
set_option maxHeartbeats 2000000 in
theorem ref03_do_0 (b n h : Int) (fn fz fc fv : Bool) (w : World) (hb : 0 ≤ b) (hb' : b < 4294967296) (hn : 0 ≤ n) (hn' : n < 4294967296) (hh : 0 ≤ h) (hh' : h < 4294967296) :
    Calls Try.prog 85 #[.int .i64 0, .bool false, .int .u32 b, .int .u32 n, .int .u32 h, Fl.val ⟨fn, fz, fc, fv⟩] w fun e w' =>
      e = .returned (Alu.told (Alu.R 0 false b n h ⟨fn, fz, fc, fv⟩) (Alu.H 0 false b n h) (Alu.F 0 false b n h ⟨fn, fz, fc, fv⟩) true) ∧ Below w.heap.size w w' := by
  have hbb := wrap32_bd b
  have hbn := wrap32_bd n
  have hm := mul_bd _ _ hbb hbn
  have hu := mulU_bd b n ⟨hb, hb'⟩ ⟨hn, hn'⟩
  simp only [Fl.val, Fl.cells]
  go_enter Try.func85, Try.ntmps85
  go_wp2_with fail
  refine (ref01_signed b _ hb hb').mono ?_
  rintro e w' ⟨rfl, rfl⟩
  go_wp2_with fail
  refine (ref01_signed n _ hn hn').mono ?_
  rintro e w' ⟨rfl, rfl⟩
  go_wp2_with fail
  all_goals refine bodyPost_ret (by simp only [results, Try.results85]; go_simp; rfl) rfl ⟨?_, ?_⟩
  all_goals first | (refine congrArg Ending.returned ?_; exact told_ret (by first | rfl | (simp [Alu.R, Alu.carry, Alu.prod]; done)) (by first | (simp [Alu.H, Alu.prod]; done) | (simp [Alu.H, Alu.prod]; omega)) rfl rfl (by first | (simp [Alu.F, Alu.C, Alu.carry]; done) | (rw [Bool.eq_iff_iff]; simp [Alu.F, Alu.C, Alu.carry]; omega)) (by simp [Alu.F, Alu.V, Alu.carry, fits_out])) | skip
  all_goals (repeat (first | with_reducible exact Below.refl _ _ | with_reducible apply Below.drew | with_reducible refine Below.setCell ?_ (by simp) _ | with_reducible refine Below.alloc ?_ (by first | (simp; done) | (simp; omega)) _))

set_option maxRecDepth 100000 in
set_option maxHeartbeats 2000000 in
theorem ref03_do_0un (b n h : Int) (fn fz fv : Bool) (w : World) (hb : 0 ≤ b) (hb' : b < 4294967296) (hn : 0 ≤ n) (hn' : n < 4294967296) (hh : 0 ≤ h) (hh' : h < 4294967296) :
    Calls Try.prog 85 #[.int .i64 0, .bool true, .int .u32 b, .int .u32 n, .int .u32 h, Fl.val ⟨fn, fz, false, fv⟩] w fun e w' =>
      e = .returned (Alu.told (Alu.R 0 true b n h ⟨fn, fz, false, fv⟩) (Alu.H 0 true b n h) (Alu.F 0 true b n h ⟨fn, fz, false, fv⟩) true) ∧ Below w.heap.size w w' := by
  have hbb := wrap32_bd b
  have hbn := wrap32_bd n
  have hm := mul_bd _ _ hbb hbn
  have hu := mulU_bd b n ⟨hb, hb'⟩ ⟨hn, hn'⟩
  simp only [Fl.val, Fl.cells]
  go_enter Try.func85, Try.ntmps85
  go_wp2_with fail
  refine (ref01_signed b _ hb hb').mono ?_
  rintro e w' ⟨rfl, rfl⟩
  go_wp2_with fail
  refine (ref01_signed n _ hn hn').mono ?_
  rintro e w' ⟨rfl, rfl⟩
  go_wp2_with fail
  all_goals refine bodyPost_ret (by simp only [results, Try.results85]; go_simp; rfl) rfl ⟨?_, ?_⟩
  all_goals first | (refine congrArg Ending.returned ?_; exact told_ret (by first | rfl | (simp [Alu.R, Alu.carry, Alu.prod]; done)) (by first | (simp [Alu.H, Alu.prod]; done) | (simp [Alu.H, Alu.prod]; omega)) rfl rfl (by first | (simp [Alu.F, Alu.C, Alu.carry]; done) | (rw [Bool.eq_iff_iff]; simp [Alu.F, Alu.C, Alu.carry]; omega)) (by simp [Alu.F, Alu.V, Alu.carry, fits_out])) | skip
  all_goals (repeat (first | with_reducible exact Below.refl _ _ | with_reducible apply Below.drew | with_reducible refine Below.setCell ?_ (by simp) _ | with_reducible refine Below.alloc ?_ (by first | (simp; done) | (simp; omega)) _))

set_option maxRecDepth 100000 in
set_option maxHeartbeats 2000000 in
theorem ref03_do_0uc (b n h : Int) (fn fz fv : Bool) (w : World) (hb : 0 ≤ b) (hb' : b < 4294967296) (hn : 0 ≤ n) (hn' : n < 4294967296) (hh : 0 ≤ h) (hh' : h < 4294967296) :
    Calls Try.prog 85 #[.int .i64 0, .bool true, .int .u32 b, .int .u32 n, .int .u32 h, Fl.val ⟨fn, fz, true, fv⟩] w fun e w' =>
      e = .returned (Alu.told (Alu.R 0 true b n h ⟨fn, fz, true, fv⟩) (Alu.H 0 true b n h) (Alu.F 0 true b n h ⟨fn, fz, true, fv⟩) true) ∧ Below w.heap.size w w' := by
  have hbb := wrap32_bd b
  have hbn := wrap32_bd n
  have hm := mul_bd _ _ hbb hbn
  have hu := mulU_bd b n ⟨hb, hb'⟩ ⟨hn, hn'⟩
  simp only [Fl.val, Fl.cells]
  go_enter Try.func85, Try.ntmps85
  go_wp2_with fail
  refine (ref01_signed b _ hb hb').mono ?_
  rintro e w' ⟨rfl, rfl⟩
  go_wp2_with fail
  refine (ref01_signed n _ hn hn').mono ?_
  rintro e w' ⟨rfl, rfl⟩
  go_wp2_with fail
  all_goals refine bodyPost_ret (by simp only [results, Try.results85]; go_simp; rfl) rfl ⟨?_, ?_⟩
  all_goals first | (refine congrArg Ending.returned ?_; exact told_ret (by first | rfl | (simp [Alu.R, Alu.carry, Alu.prod]; done)) (by first | (simp [Alu.H, Alu.prod]; done) | (simp [Alu.H, Alu.prod]; omega)) rfl rfl (by first | (simp [Alu.F, Alu.C, Alu.carry]; done) | (rw [Bool.eq_iff_iff]; simp [Alu.F, Alu.C, Alu.carry]; omega)) (by simp [Alu.F, Alu.V, Alu.carry, fits_out])) | skip
  all_goals (repeat (first | with_reducible exact Below.refl _ _ | with_reducible apply Below.drew | with_reducible refine Below.setCell ?_ (by simp) _ | with_reducible refine Below.alloc ?_ (by first | (simp; done) | (simp; omega)) _))

set_option maxRecDepth 100000 in
set_option maxHeartbeats 2000000 in
theorem ref03_do_1 (b n h : Int) (fn fz fc fv : Bool) (w : World) (hb : 0 ≤ b) (hb' : b < 4294967296) (hn : 0 ≤ n) (hn' : n < 4294967296) (hh : 0 ≤ h) (hh' : h < 4294967296) :
    Calls Try.prog 85 #[.int .i64 1, .bool false, .int .u32 b, .int .u32 n, .int .u32 h, Fl.val ⟨fn, fz, fc, fv⟩] w fun e w' =>
      e = .returned (Alu.told (Alu.R 1 false b n h ⟨fn, fz, fc, fv⟩) (Alu.H 1 false b n h) (Alu.F 1 false b n h ⟨fn, fz, fc, fv⟩) true) ∧ Below w.heap.size w w' := by
  have hbb := wrap32_bd b
  have hbn := wrap32_bd n
  have hm := mul_bd _ _ hbb hbn
  have hu := mulU_bd b n ⟨hb, hb'⟩ ⟨hn, hn'⟩
  simp only [Fl.val, Fl.cells]
  go_enter Try.func85, Try.ntmps85
  go_wp2_with fail
  refine (ref01_signed b _ hb hb').mono ?_
  rintro e w' ⟨rfl, rfl⟩
  go_wp2_with fail
  refine (ref01_signed n _ hn hn').mono ?_
  rintro e w' ⟨rfl, rfl⟩
  go_wp2_with fail
  refine (ref01_lsl b n _ hb hb' hn hn').mono ?_
  rintro e w' ⟨rfl, rfl⟩
  go_wp2_with fail
  all_goals refine bodyPost_ret (by simp only [results, Try.results85]; go_simp; rfl) rfl ⟨?_, ?_⟩
  all_goals first | (refine congrArg Ending.returned ?_; exact told_ret (by first | rfl | (simp [Alu.R, Alu.carry, Alu.prod]; done)) (by first | (simp [Alu.H, Alu.prod]; done) | (simp [Alu.H, Alu.prod]; omega)) rfl rfl (by first | (simp [Alu.F, Alu.C, Alu.carry]; done) | (rw [Bool.eq_iff_iff]; simp [Alu.F, Alu.C, Alu.carry]; omega)) (by simp [Alu.F, Alu.V, Alu.carry, fits_out])) | skip
  all_goals (repeat (first | with_reducible exact Below.refl _ _ | with_reducible apply Below.drew | with_reducible refine Below.setCell ?_ (by simp) _ | with_reducible refine Below.alloc ?_ (by first | (simp; done) | (simp; omega)) _))

set_option maxRecDepth 100000 in
set_option maxHeartbeats 2000000 in
theorem ref03_do_2 (b n h : Int) (fn fz fc fv : Bool) (w : World) (hb : 0 ≤ b) (hb' : b < 4294967296) (hn : 0 ≤ n) (hn' : n < 4294967296) (hh : 0 ≤ h) (hh' : h < 4294967296) :
    Calls Try.prog 85 #[.int .i64 2, .bool false, .int .u32 b, .int .u32 n, .int .u32 h, Fl.val ⟨fn, fz, fc, fv⟩] w fun e w' =>
      e = .returned (Alu.told (Alu.R 2 false b n h ⟨fn, fz, fc, fv⟩) (Alu.H 2 false b n h) (Alu.F 2 false b n h ⟨fn, fz, fc, fv⟩) true) ∧ Below w.heap.size w w' := by
  have hbb := wrap32_bd b
  have hbn := wrap32_bd n
  have hm := mul_bd _ _ hbb hbn
  have hu := mulU_bd b n ⟨hb, hb'⟩ ⟨hn, hn'⟩
  simp only [Fl.val, Fl.cells]
  go_enter Try.func85, Try.ntmps85
  go_wp2_with fail
  refine (ref01_signed b _ hb hb').mono ?_
  rintro e w' ⟨rfl, rfl⟩
  go_wp2_with fail
  refine (ref01_signed n _ hn hn').mono ?_
  rintro e w' ⟨rfl, rfl⟩
  go_wp2_with fail
  refine (ref01_asr b n _ hb hb' hn hn').mono ?_
  rintro e w' ⟨rfl, rfl⟩
  go_wp2_with fail
  all_goals refine bodyPost_ret (by simp only [results, Try.results85]; go_simp; rfl) rfl ⟨?_, ?_⟩
  all_goals first | (refine congrArg Ending.returned ?_; exact told_ret (by first | rfl | (simp [Alu.R, Alu.carry, Alu.prod]; done)) (by first | (simp [Alu.H, Alu.prod]; done) | (simp [Alu.H, Alu.prod]; omega)) rfl rfl (by first | (simp [Alu.F, Alu.C, Alu.carry]; done) | (rw [Bool.eq_iff_iff]; simp [Alu.F, Alu.C, Alu.carry]; omega)) (by simp [Alu.F, Alu.V, Alu.carry, fits_out])) | skip
  all_goals (repeat (first | with_reducible exact Below.refl _ _ | with_reducible apply Below.drew | with_reducible refine Below.setCell ?_ (by simp) _ | with_reducible refine Below.alloc ?_ (by first | (simp; done) | (simp; omega)) _))

set_option maxRecDepth 100000 in
set_option maxHeartbeats 2000000 in
theorem ref03_do_3 (b n h : Int) (fn fz fc fv : Bool) (w : World) (hb : 0 ≤ b) (hb' : b < 4294967296) (hn : 0 ≤ n) (hn' : n < 4294967296) (hh : 0 ≤ h) (hh' : h < 4294967296) :
    Calls Try.prog 85 #[.int .i64 3, .bool false, .int .u32 b, .int .u32 n, .int .u32 h, Fl.val ⟨fn, fz, fc, fv⟩] w fun e w' =>
      e = .returned (Alu.told (Alu.R 3 false b n h ⟨fn, fz, fc, fv⟩) (Alu.H 3 false b n h) (Alu.F 3 false b n h ⟨fn, fz, fc, fv⟩) true) ∧ Below w.heap.size w w' := by
  have hbb := wrap32_bd b
  have hbn := wrap32_bd n
  have hm := mul_bd _ _ hbb hbn
  have hu := mulU_bd b n ⟨hb, hb'⟩ ⟨hn, hn'⟩
  simp only [Fl.val, Fl.cells]
  go_enter Try.func85, Try.ntmps85
  go_wp2_with fail
  refine (ref01_signed b _ hb hb').mono ?_
  rintro e w' ⟨rfl, rfl⟩
  go_wp2_with fail
  refine (ref01_signed n _ hn hn').mono ?_
  rintro e w' ⟨rfl, rfl⟩
  go_wp2_with fail
  refine (ref01_ror b n _ hb hb' hn hn').mono ?_
  rintro e w' ⟨rfl, rfl⟩
  go_wp2_with fail
  all_goals refine bodyPost_ret (by simp only [results, Try.results85]; go_simp; rfl) rfl ⟨?_, ?_⟩
  all_goals first | (refine congrArg Ending.returned ?_; exact told_ret (by first | rfl | (simp [Alu.R, Alu.carry, Alu.prod]; done)) (by first | (simp [Alu.H, Alu.prod]; done) | (simp [Alu.H, Alu.prod]; omega)) rfl rfl (by first | (simp [Alu.F, Alu.C, Alu.carry]; done) | (rw [Bool.eq_iff_iff]; simp [Alu.F, Alu.C, Alu.carry]; omega)) (by simp [Alu.F, Alu.V, Alu.carry, fits_out])) | skip
  all_goals (repeat (first | with_reducible exact Below.refl _ _ | with_reducible apply Below.drew | with_reducible refine Below.setCell ?_ (by simp) _ | with_reducible refine Below.alloc ?_ (by first | (simp; done) | (simp; omega)) _))

end Go.Proofs.Ytefgajojimkdiaa

/-
  What the reference's Do tells: the operations, part 2.
-/
namespace Go.Proofs.Ytefgajojimkdiaa
set_option linter.unusedVariables false
set_option linter.unusedSimpArgs false
open Go.RowKit Bw

set_option maxRecDepth 100000 in
set_option maxHeartbeats 2000000 in
theorem ref03_do_4 (b n h : Int) (fn fz fc fv : Bool) (w : World) (hb : 0 ≤ b) (hb' : b < 4294967296) (hn : 0 ≤ n) (hn' : n < 4294967296) (hh : 0 ≤ h) (hh' : h < 4294967296) :
    Calls Try.prog 85 #[.int .i64 4, .bool false, .int .u32 b, .int .u32 n, .int .u32 h, Fl.val ⟨fn, fz, fc, fv⟩] w fun e w' =>
      e = .returned (Alu.told (Alu.R 4 false b n h ⟨fn, fz, fc, fv⟩) (Alu.H 4 false b n h) (Alu.F 4 false b n h ⟨fn, fz, fc, fv⟩) true) ∧ Below w.heap.size w w' := by
  have hbb := wrap32_bd b
  have hbn := wrap32_bd n
  have hm := mul_bd _ _ hbb hbn
  have hu := mulU_bd b n ⟨hb, hb'⟩ ⟨hn, hn'⟩
  simp only [Fl.val, Fl.cells]
  go_enter Try.func85, Try.ntmps85
  go_wp2_with fail
  refine (ref01_signed b _ hb hb').mono ?_
  rintro e w' ⟨rfl, rfl⟩
  go_wp2_with fail
  refine (ref01_signed n _ hn hn').mono ?_
  rintro e w' ⟨rfl, rfl⟩
  go_wp2_with fail
  all_goals refine bodyPost_ret (by simp only [results, Try.results85]; go_simp; rfl) rfl ⟨?_, ?_⟩
  all_goals first | (refine congrArg Ending.returned ?_; exact told_ret (by first | rfl | (simp [Alu.R, Alu.carry, Alu.prod]; done)) (by first | (simp [Alu.H, Alu.prod]; done) | (simp [Alu.H, Alu.prod]; omega)) rfl rfl (by first | (simp [Alu.F, Alu.C, Alu.carry]; done) | (rw [Bool.eq_iff_iff]; simp [Alu.F, Alu.C, Alu.carry]; omega)) (by simp [Alu.F, Alu.V, Alu.carry, fits_out])) | skip
  all_goals (repeat (first | with_reducible exact Below.refl _ _ | with_reducible apply Below.drew | with_reducible refine Below.setCell ?_ (by simp) _ | with_reducible refine Below.alloc ?_ (by first | (simp; done) | (simp; omega)) _))

set_option maxRecDepth 100000 in
set_option maxHeartbeats 2000000 in
theorem ref03_do_5 (b n h : Int) (fn fz fc fv : Bool) (w : World) (hb : 0 ≤ b) (hb' : b < 4294967296) (hn : 0 ≤ n) (hn' : n < 4294967296) (hh : 0 ≤ h) (hh' : h < 4294967296) :
    Calls Try.prog 85 #[.int .i64 5, .bool false, .int .u32 b, .int .u32 n, .int .u32 h, Fl.val ⟨fn, fz, fc, fv⟩] w fun e w' =>
      e = .returned (Alu.told (Alu.R 5 false b n h ⟨fn, fz, fc, fv⟩) (Alu.H 5 false b n h) (Alu.F 5 false b n h ⟨fn, fz, fc, fv⟩) true) ∧ Below w.heap.size w w' := by
  have hbb := wrap32_bd b
  have hbn := wrap32_bd n
  have hm := mul_bd _ _ hbb hbn
  have hu := mulU_bd b n ⟨hb, hb'⟩ ⟨hn, hn'⟩
  simp only [Fl.val, Fl.cells]
  go_enter Try.func85, Try.ntmps85
  go_wp2_with fail
  refine (ref01_signed b _ hb hb').mono ?_
  rintro e w' ⟨rfl, rfl⟩
  go_wp2_with fail
  refine (ref01_signed n _ hn hn').mono ?_
  rintro e w' ⟨rfl, rfl⟩
  go_wp2_with fail
  all_goals refine bodyPost_ret (by simp only [results, Try.results85]; go_simp; rfl) rfl ⟨?_, ?_⟩
  all_goals first | (refine congrArg Ending.returned ?_; exact told_ret (by first | rfl | (simp [Alu.R, Alu.carry, Alu.prod]; done)) (by first | (simp [Alu.H, Alu.prod]; done) | (simp [Alu.H, Alu.prod]; omega)) rfl rfl (by first | (simp [Alu.F, Alu.C, Alu.carry]; done) | (rw [Bool.eq_iff_iff]; simp [Alu.F, Alu.C, Alu.carry]; omega)) (by simp [Alu.F, Alu.V, Alu.carry, fits_out])) | skip
  all_goals (repeat (first | with_reducible exact Below.refl _ _ | with_reducible apply Below.drew | with_reducible refine Below.setCell ?_ (by simp) _ | with_reducible refine Below.alloc ?_ (by first | (simp; done) | (simp; omega)) _))

set_option maxRecDepth 100000 in
set_option maxHeartbeats 2000000 in
theorem ref03_do_6 (b n h : Int) (fn fz fc fv : Bool) (w : World) (hb : 0 ≤ b) (hb' : b < 4294967296) (hn : 0 ≤ n) (hn' : n < 4294967296) (hh : 0 ≤ h) (hh' : h < 4294967296) :
    Calls Try.prog 85 #[.int .i64 6, .bool false, .int .u32 b, .int .u32 n, .int .u32 h, Fl.val ⟨fn, fz, fc, fv⟩] w fun e w' =>
      e = .returned (Alu.told (Alu.R 6 false b n h ⟨fn, fz, fc, fv⟩) (Alu.H 6 false b n h) (Alu.F 6 false b n h ⟨fn, fz, fc, fv⟩) true) ∧ Below w.heap.size w w' := by
  have hbb := wrap32_bd b
  have hbn := wrap32_bd n
  have hm := mul_bd _ _ hbb hbn
  have hu := mulU_bd b n ⟨hb, hb'⟩ ⟨hn, hn'⟩
  simp only [Fl.val, Fl.cells]
  go_enter Try.func85, Try.ntmps85
  go_wp2_with fail
  refine (ref01_signed b _ hb hb').mono ?_
  rintro e w' ⟨rfl, rfl⟩
  go_wp2_with fail
  refine (ref01_signed n _ hn hn').mono ?_
  rintro e w' ⟨rfl, rfl⟩
  go_wp2_with fail
  all_goals refine bodyPost_ret (by simp only [results, Try.results85]; go_simp; rfl) rfl ⟨?_, ?_⟩
  all_goals first | (refine congrArg Ending.returned ?_; exact told_ret (by first | rfl | (simp [Alu.R, Alu.carry, Alu.prod]; done)) (by first | (simp [Alu.H, Alu.prod]; done) | (simp [Alu.H, Alu.prod]; omega)) rfl rfl (by first | (simp [Alu.F, Alu.C, Alu.carry]; done) | (rw [Bool.eq_iff_iff]; simp [Alu.F, Alu.C, Alu.carry]; omega)) (by simp [Alu.F, Alu.V, Alu.carry, fits_out])) | skip
  all_goals (repeat (first | with_reducible exact Below.refl _ _ | with_reducible apply Below.drew | with_reducible refine Below.setCell ?_ (by simp) _ | with_reducible refine Below.alloc ?_ (by first | (simp; done) | (simp; omega)) _))

set_option maxRecDepth 100000 in
set_option maxHeartbeats 2000000 in
theorem ref03_do_7 (b n h : Int) (fn fz fc fv : Bool) (w : World) (hb : 0 ≤ b) (hb' : b < 4294967296) (hn : 0 ≤ n) (hn' : n < 4294967296) (hh : 0 ≤ h) (hh' : h < 4294967296) :
    Calls Try.prog 85 #[.int .i64 7, .bool false, .int .u32 b, .int .u32 n, .int .u32 h, Fl.val ⟨fn, fz, fc, fv⟩] w fun e w' =>
      e = .returned (Alu.told (Alu.R 7 false b n h ⟨fn, fz, fc, fv⟩) (Alu.H 7 false b n h) (Alu.F 7 false b n h ⟨fn, fz, fc, fv⟩) true) ∧ Below w.heap.size w w' := by
  have hbb := wrap32_bd b
  have hbn := wrap32_bd n
  have hm := mul_bd _ _ hbb hbn
  have hu := mulU_bd b n ⟨hb, hb'⟩ ⟨hn, hn'⟩
  simp only [Fl.val, Fl.cells]
  go_enter Try.func85, Try.ntmps85
  go_wp2_with fail
  refine (ref01_signed b _ hb hb').mono ?_
  rintro e w' ⟨rfl, rfl⟩
  go_wp2_with fail
  refine (ref01_signed n _ hn hn').mono ?_
  rintro e w' ⟨rfl, rfl⟩
  go_wp2_with fail
  all_goals refine bodyPost_ret (by simp only [results, Try.results85]; go_simp; rfl) rfl ⟨?_, ?_⟩
  all_goals first | (refine congrArg Ending.returned ?_; exact told_ret (by first | rfl | (simp [Alu.R, Alu.carry, Alu.prod]; done)) (by first | (simp [Alu.H, Alu.prod]; done) | (simp [Alu.H, Alu.prod]; omega)) rfl rfl (by first | (simp [Alu.F, Alu.C, Alu.carry]; done) | (rw [Bool.eq_iff_iff]; simp [Alu.F, Alu.C, Alu.carry]; omega)) (by simp [Alu.F, Alu.V, Alu.carry, fits_out])) | skip
  all_goals (repeat (first | with_reducible exact Below.refl _ _ | with_reducible apply Below.drew | with_reducible refine Below.setCell ?_ (by simp) _ | with_reducible refine Below.alloc ?_ (by first | (simp; done) | (simp; omega)) _))

end Go.Proofs.Ytefgajojimkdiaa

/-
  What the reference's Do tells: the operations, part 3.
-/
namespace Go.Proofs.Ytefgajojimkdiaa
set_option linter.unusedVariables false
set_option linter.unusedSimpArgs false
open Go.RowKit Bw

set_option maxRecDepth 100000 in
set_option maxHeartbeats 2000000 in
theorem ref03_do_8 (b n h : Int) (fn fz fc fv : Bool) (w : World) (hb : 0 ≤ b) (hb' : b < 4294967296) (hn : 0 ≤ n) (hn' : n < 4294967296) (hh : 0 ≤ h) (hh' : h < 4294967296) :
    Calls Try.prog 85 #[.int .i64 8, .bool false, .int .u32 b, .int .u32 n, .int .u32 h, Fl.val ⟨fn, fz, fc, fv⟩] w fun e w' =>
      e = .returned (Alu.told (Alu.R 8 false b n h ⟨fn, fz, fc, fv⟩) (Alu.H 8 false b n h) (Alu.F 8 false b n h ⟨fn, fz, fc, fv⟩) true) ∧ Below w.heap.size w w' := by
  have hbb := wrap32_bd b
  have hbn := wrap32_bd n
  have hm := mul_bd _ _ hbb hbn
  have hu := mulU_bd b n ⟨hb, hb'⟩ ⟨hn, hn'⟩
  simp only [Fl.val, Fl.cells]
  go_enter Try.func85, Try.ntmps85
  go_wp2_with fail
  refine (ref01_signed b _ hb hb').mono ?_
  rintro e w' ⟨rfl, rfl⟩
  go_wp2_with fail
  refine (ref01_signed n _ hn hn').mono ?_
  rintro e w' ⟨rfl, rfl⟩
  go_wp2_with fail
  refine (ref03_carry false ⟨fn, fz, fc, fv⟩ _).mono ?_
  rintro e w' ⟨rfl, rfl⟩
  rw [show Alu.carry false ⟨fn, fz, fc, fv⟩ = 0 from rfl]
  go_wp2_with fail
  refine (ref01_word _ _ (by omega) (by omega)).mono ?_
  rintro e w' ⟨rfl, rfl⟩
  go_wp2_with fail
  refine (ref03_carry false ⟨fn, fz, fc, fv⟩ _).mono ?_
  rintro e w' ⟨rfl, rfl⟩
  rw [show Alu.carry false ⟨fn, fz, fc, fv⟩ = 0 from rfl]
  go_wp2_with fail
  refine (ref01_fits _ 32 _ (by omega) (by omega)).mono ?_
  rintro e w' ⟨rfl, rfl⟩
  go_wp2_with fail
  all_goals refine bodyPost_ret (by simp only [results, Try.results85]; go_simp; rfl) rfl ⟨?_, ?_⟩
  all_goals first | (refine congrArg Ending.returned ?_; exact told_ret (by first | rfl | (simp [Alu.R, Alu.carry, Alu.prod]; done)) (by first | (simp [Alu.H, Alu.prod]; done) | (simp [Alu.H, Alu.prod]; omega)) rfl rfl (by first | (simp [Alu.F, Alu.C, Alu.carry]; done) | (rw [Bool.eq_iff_iff]; simp [Alu.F, Alu.C, Alu.carry]; omega)) (by simp [Alu.F, Alu.V, Alu.carry, fits_out])) | skip
  all_goals (repeat (first | with_reducible exact Below.refl _ _ | with_reducible apply Below.drew | with_reducible refine Below.setCell ?_ (by simp) _ | with_reducible refine Below.alloc ?_ (by first | (simp; done) | (simp; omega)) _))

set_option maxRecDepth 100000 in
set_option maxHeartbeats 2000000 in
theorem ref03_do_8un (b n h : Int) (fn fz fv : Bool) (w : World) (hb : 0 ≤ b) (hb' : b < 4294967296) (hn : 0 ≤ n) (hn' : n < 4294967296) (hh : 0 ≤ h) (hh' : h < 4294967296) :
    Calls Try.prog 85 #[.int .i64 8, .bool true, .int .u32 b, .int .u32 n, .int .u32 h, Fl.val ⟨fn, fz, false, fv⟩] w fun e w' =>
      e = .returned (Alu.told (Alu.R 8 true b n h ⟨fn, fz, false, fv⟩) (Alu.H 8 true b n h) (Alu.F 8 true b n h ⟨fn, fz, false, fv⟩) true) ∧ Below w.heap.size w w' := by
  have hbb := wrap32_bd b
  have hbn := wrap32_bd n
  have hm := mul_bd _ _ hbb hbn
  have hu := mulU_bd b n ⟨hb, hb'⟩ ⟨hn, hn'⟩
  simp only [Fl.val, Fl.cells]
  go_enter Try.func85, Try.ntmps85
  go_wp2_with fail
  refine (ref01_signed b _ hb hb').mono ?_
  rintro e w' ⟨rfl, rfl⟩
  go_wp2_with fail
  refine (ref01_signed n _ hn hn').mono ?_
  rintro e w' ⟨rfl, rfl⟩
  go_wp2_with fail
  refine (ref03_carry true ⟨fn, fz, false, fv⟩ _).mono ?_
  rintro e w' ⟨rfl, rfl⟩
  rw [show Alu.carry true ⟨fn, fz, false, fv⟩ = 0 from rfl]
  go_wp2_with fail
  refine (ref01_word _ _ (by omega) (by omega)).mono ?_
  rintro e w' ⟨rfl, rfl⟩
  go_wp2_with fail
  refine (ref03_carry true ⟨fn, fz, false, fv⟩ _).mono ?_
  rintro e w' ⟨rfl, rfl⟩
  rw [show Alu.carry true ⟨fn, fz, false, fv⟩ = 0 from rfl]
  go_wp2_with fail
  refine (ref01_fits _ 32 _ (by omega) (by omega)).mono ?_
  rintro e w' ⟨rfl, rfl⟩
  go_wp2_with fail
  all_goals refine bodyPost_ret (by simp only [results, Try.results85]; go_simp; rfl) rfl ⟨?_, ?_⟩
  all_goals first | (refine congrArg Ending.returned ?_; exact told_ret (by first | rfl | (simp [Alu.R, Alu.carry, Alu.prod]; done)) (by first | (simp [Alu.H, Alu.prod]; done) | (simp [Alu.H, Alu.prod]; omega)) rfl rfl (by first | (simp [Alu.F, Alu.C, Alu.carry]; done) | (rw [Bool.eq_iff_iff]; simp [Alu.F, Alu.C, Alu.carry]; omega)) (by simp [Alu.F, Alu.V, Alu.carry, fits_out])) | skip
  all_goals (repeat (first | with_reducible exact Below.refl _ _ | with_reducible apply Below.drew | with_reducible refine Below.setCell ?_ (by simp) _ | with_reducible refine Below.alloc ?_ (by first | (simp; done) | (simp; omega)) _))

set_option maxRecDepth 100000 in
set_option maxHeartbeats 2000000 in
theorem ref03_do_8uc (b n h : Int) (fn fz fv : Bool) (w : World) (hb : 0 ≤ b) (hb' : b < 4294967296) (hn : 0 ≤ n) (hn' : n < 4294967296) (hh : 0 ≤ h) (hh' : h < 4294967296) :
    Calls Try.prog 85 #[.int .i64 8, .bool true, .int .u32 b, .int .u32 n, .int .u32 h, Fl.val ⟨fn, fz, true, fv⟩] w fun e w' =>
      e = .returned (Alu.told (Alu.R 8 true b n h ⟨fn, fz, true, fv⟩) (Alu.H 8 true b n h) (Alu.F 8 true b n h ⟨fn, fz, true, fv⟩) true) ∧ Below w.heap.size w w' := by
  have hbb := wrap32_bd b
  have hbn := wrap32_bd n
  have hm := mul_bd _ _ hbb hbn
  have hu := mulU_bd b n ⟨hb, hb'⟩ ⟨hn, hn'⟩
  simp only [Fl.val, Fl.cells]
  go_enter Try.func85, Try.ntmps85
  go_wp2_with fail
  refine (ref01_signed b _ hb hb').mono ?_
  rintro e w' ⟨rfl, rfl⟩
  go_wp2_with fail
  refine (ref01_signed n _ hn hn').mono ?_
  rintro e w' ⟨rfl, rfl⟩
  go_wp2_with fail
  refine (ref03_carry true ⟨fn, fz, true, fv⟩ _).mono ?_
  rintro e w' ⟨rfl, rfl⟩
  rw [show Alu.carry true ⟨fn, fz, true, fv⟩ = 1 from rfl]
  go_wp2_with fail
  refine (ref01_word _ _ (by omega) (by omega)).mono ?_
  rintro e w' ⟨rfl, rfl⟩
  go_wp2_with fail
  refine (ref03_carry true ⟨fn, fz, true, fv⟩ _).mono ?_
  rintro e w' ⟨rfl, rfl⟩
  rw [show Alu.carry true ⟨fn, fz, true, fv⟩ = 1 from rfl]
  go_wp2_with fail
  refine (ref01_fits _ 32 _ (by omega) (by omega)).mono ?_
  rintro e w' ⟨rfl, rfl⟩
  go_wp2_with fail
  all_goals refine bodyPost_ret (by simp only [results, Try.results85]; go_simp; rfl) rfl ⟨?_, ?_⟩
  all_goals first | (refine congrArg Ending.returned ?_; exact told_ret (by first | rfl | (simp [Alu.R, Alu.carry, Alu.prod]; done)) (by first | (simp [Alu.H, Alu.prod]; done) | (simp [Alu.H, Alu.prod]; omega)) rfl rfl (by first | (simp [Alu.F, Alu.C, Alu.carry]; done) | (rw [Bool.eq_iff_iff]; simp [Alu.F, Alu.C, Alu.carry]; omega)) (by simp [Alu.F, Alu.V, Alu.carry, fits_out])) | skip
  all_goals (repeat (first | with_reducible exact Below.refl _ _ | with_reducible apply Below.drew | with_reducible refine Below.setCell ?_ (by simp) _ | with_reducible refine Below.alloc ?_ (by first | (simp; done) | (simp; omega)) _))

set_option maxRecDepth 100000 in
set_option maxHeartbeats 2000000 in
theorem ref03_do_9 (b n h : Int) (fn fz fc fv : Bool) (w : World) (hb : 0 ≤ b) (hb' : b < 4294967296) (hn : 0 ≤ n) (hn' : n < 4294967296) (hh : 0 ≤ h) (hh' : h < 4294967296) :
    Calls Try.prog 85 #[.int .i64 9, .bool false, .int .u32 b, .int .u32 n, .int .u32 h, Fl.val ⟨fn, fz, fc, fv⟩] w fun e w' =>
      e = .returned (Alu.told (Alu.R 9 false b n h ⟨fn, fz, fc, fv⟩) (Alu.H 9 false b n h) (Alu.F 9 false b n h ⟨fn, fz, fc, fv⟩) true) ∧ Below w.heap.size w w' := by
  have hbb := wrap32_bd b
  have hbn := wrap32_bd n
  have hm := mul_bd _ _ hbb hbn
  have hu := mulU_bd b n ⟨hb, hb'⟩ ⟨hn, hn'⟩
  simp only [Fl.val, Fl.cells]
  go_enter Try.func85, Try.ntmps85
  go_wp2_with fail
  refine (ref01_signed b _ hb hb').mono ?_
  rintro e w' ⟨rfl, rfl⟩
  go_wp2_with fail
  refine (ref01_signed n _ hn hn').mono ?_
  rintro e w' ⟨rfl, rfl⟩
  go_wp2_with fail
  refine (ref03_carry false ⟨fn, fz, fc, fv⟩ _).mono ?_
  rintro e w' ⟨rfl, rfl⟩
  rw [show Alu.carry false ⟨fn, fz, fc, fv⟩ = 0 from rfl]
  go_wp2_with fail
  refine (ref01_word _ _ (by omega) (by omega)).mono ?_
  rintro e w' ⟨rfl, rfl⟩
  go_wp2_with fail
  refine (ref03_carry false ⟨fn, fz, fc, fv⟩ _).mono ?_
  rintro e w' ⟨rfl, rfl⟩
  rw [show Alu.carry false ⟨fn, fz, fc, fv⟩ = 0 from rfl]
  go_wp2_with fail
  refine (ref01_fits _ 32 _ (by omega) (by omega)).mono ?_
  rintro e w' ⟨rfl, rfl⟩
  go_wp2_with fail
  all_goals refine bodyPost_ret (by simp only [results, Try.results85]; go_simp; rfl) rfl ⟨?_, ?_⟩
  all_goals first | (refine congrArg Ending.returned ?_; exact told_ret (by first | rfl | (simp [Alu.R, Alu.carry, Alu.prod]; done)) (by first | (simp [Alu.H, Alu.prod]; done) | (simp [Alu.H, Alu.prod]; omega)) rfl rfl (by first | (simp [Alu.F, Alu.C, Alu.carry]; done) | (rw [Bool.eq_iff_iff]; simp [Alu.F, Alu.C, Alu.carry]; omega)) (by simp [Alu.F, Alu.V, Alu.carry, fits_out])) | skip
  all_goals (repeat (first | with_reducible exact Below.refl _ _ | with_reducible apply Below.drew | with_reducible refine Below.setCell ?_ (by simp) _ | with_reducible refine Below.alloc ?_ (by first | (simp; done) | (simp; omega)) _))

end Go.Proofs.Ytefgajojimkdiaa

/-
  What the reference's Do tells: the operations, part 4.
-/
namespace Go.Proofs.Ytefgajojimkdiaa
set_option linter.unusedVariables false
set_option linter.unusedSimpArgs false
open Go.RowKit Bw

set_option maxRecDepth 100000 in
set_option maxHeartbeats 2000000 in
theorem ref03_do_9un (b n h : Int) (fn fz fv : Bool) (w : World) (hb : 0 ≤ b) (hb' : b < 4294967296) (hn : 0 ≤ n) (hn' : n < 4294967296) (hh : 0 ≤ h) (hh' : h < 4294967296) :
    Calls Try.prog 85 #[.int .i64 9, .bool true, .int .u32 b, .int .u32 n, .int .u32 h, Fl.val ⟨fn, fz, false, fv⟩] w fun e w' =>
      e = .returned (Alu.told (Alu.R 9 true b n h ⟨fn, fz, false, fv⟩) (Alu.H 9 true b n h) (Alu.F 9 true b n h ⟨fn, fz, false, fv⟩) true) ∧ Below w.heap.size w w' := by
  have hbb := wrap32_bd b
  have hbn := wrap32_bd n
  have hm := mul_bd _ _ hbb hbn
  have hu := mulU_bd b n ⟨hb, hb'⟩ ⟨hn, hn'⟩
  simp only [Fl.val, Fl.cells]
  go_enter Try.func85, Try.ntmps85
  go_wp2_with fail
  refine (ref01_signed b _ hb hb').mono ?_
  rintro e w' ⟨rfl, rfl⟩
  go_wp2_with fail
  refine (ref01_signed n _ hn hn').mono ?_
  rintro e w' ⟨rfl, rfl⟩
  go_wp2_with fail
  refine (ref03_carry true ⟨fn, fz, false, fv⟩ _).mono ?_
  rintro e w' ⟨rfl, rfl⟩
  rw [show Alu.carry true ⟨fn, fz, false, fv⟩ = 0 from rfl]
  go_wp2_with fail
  refine (ref01_word _ _ (by omega) (by omega)).mono ?_
  rintro e w' ⟨rfl, rfl⟩
  go_wp2_with fail
  refine (ref03_carry true ⟨fn, fz, false, fv⟩ _).mono ?_
  rintro e w' ⟨rfl, rfl⟩
  rw [show Alu.carry true ⟨fn, fz, false, fv⟩ = 0 from rfl]
  go_wp2_with fail
  refine (ref01_fits _ 32 _ (by omega) (by omega)).mono ?_
  rintro e w' ⟨rfl, rfl⟩
  go_wp2_with fail
  all_goals refine bodyPost_ret (by simp only [results, Try.results85]; go_simp; rfl) rfl ⟨?_, ?_⟩
  all_goals first | (refine congrArg Ending.returned ?_; exact told_ret (by first | rfl | (simp [Alu.R, Alu.carry, Alu.prod]; done)) (by first | (simp [Alu.H, Alu.prod]; done) | (simp [Alu.H, Alu.prod]; omega)) rfl rfl (by first | (simp [Alu.F, Alu.C, Alu.carry]; done) | (rw [Bool.eq_iff_iff]; simp [Alu.F, Alu.C, Alu.carry]; omega)) (by simp [Alu.F, Alu.V, Alu.carry, fits_out])) | skip
  all_goals (repeat (first | with_reducible exact Below.refl _ _ | with_reducible apply Below.drew | with_reducible refine Below.setCell ?_ (by simp) _ | with_reducible refine Below.alloc ?_ (by first | (simp; done) | (simp; omega)) _))

set_option maxRecDepth 100000 in
set_option maxHeartbeats 2000000 in
theorem ref03_do_9uc (b n h : Int) (fn fz fv : Bool) (w : World) (hb : 0 ≤ b) (hb' : b < 4294967296) (hn : 0 ≤ n) (hn' : n < 4294967296) (hh : 0 ≤ h) (hh' : h < 4294967296) :
    Calls Try.prog 85 #[.int .i64 9, .bool true, .int .u32 b, .int .u32 n, .int .u32 h, Fl.val ⟨fn, fz, true, fv⟩] w fun e w' =>
      e = .returned (Alu.told (Alu.R 9 true b n h ⟨fn, fz, true, fv⟩) (Alu.H 9 true b n h) (Alu.F 9 true b n h ⟨fn, fz, true, fv⟩) true) ∧ Below w.heap.size w w' := by
  have hbb := wrap32_bd b
  have hbn := wrap32_bd n
  have hm := mul_bd _ _ hbb hbn
  have hu := mulU_bd b n ⟨hb, hb'⟩ ⟨hn, hn'⟩
  simp only [Fl.val, Fl.cells]
  go_enter Try.func85, Try.ntmps85
  go_wp2_with fail
  refine (ref01_signed b _ hb hb').mono ?_
  rintro e w' ⟨rfl, rfl⟩
  go_wp2_with fail
  refine (ref01_signed n _ hn hn').mono ?_
  rintro e w' ⟨rfl, rfl⟩
  go_wp2_with fail
  refine (ref03_carry true ⟨fn, fz, true, fv⟩ _).mono ?_
  rintro e w' ⟨rfl, rfl⟩
  rw [show Alu.carry true ⟨fn, fz, true, fv⟩ = 1 from rfl]
  go_wp2_with fail
  refine (ref01_word _ _ (by omega) (by omega)).mono ?_
  rintro e w' ⟨rfl, rfl⟩
  go_wp2_with fail
  refine (ref03_carry true ⟨fn, fz, true, fv⟩ _).mono ?_
  rintro e w' ⟨rfl, rfl⟩
  rw [show Alu.carry true ⟨fn, fz, true, fv⟩ = 1 from rfl]
  go_wp2_with fail
  refine (ref01_fits _ 32 _ (by omega) (by omega)).mono ?_
  rintro e w' ⟨rfl, rfl⟩
  go_wp2_with fail
  all_goals refine bodyPost_ret (by simp only [results, Try.results85]; go_simp; rfl) rfl ⟨?_, ?_⟩
  all_goals first | (refine congrArg Ending.returned ?_; exact told_ret (by first | rfl | (simp [Alu.R, Alu.carry, Alu.prod]; done)) (by first | (simp [Alu.H, Alu.prod]; done) | (simp [Alu.H, Alu.prod]; omega)) rfl rfl (by first | (simp [Alu.F, Alu.C, Alu.carry]; done) | (rw [Bool.eq_iff_iff]; simp [Alu.F, Alu.C, Alu.carry]; omega)) (by simp [Alu.F, Alu.V, Alu.carry, fits_out])) | skip
  all_goals (repeat (first | with_reducible exact Below.refl _ _ | with_reducible apply Below.drew | with_reducible refine Below.setCell ?_ (by simp) _ | with_reducible refine Below.alloc ?_ (by first | (simp; done) | (simp; omega)) _))

set_option maxRecDepth 100000 in
set_option maxHeartbeats 2000000 in
theorem ref03_do_10 (b n h : Int) (fn fz fc fv : Bool) (w : World) (hb : 0 ≤ b) (hb' : b < 4294967296) (hn : 0 ≤ n) (hn' : n < 4294967296) (hh : 0 ≤ h) (hh' : h < 4294967296) :
    Calls Try.prog 85 #[.int .i64 10, .bool false, .int .u32 b, .int .u32 n, .int .u32 h, Fl.val ⟨fn, fz, fc, fv⟩] w fun e w' =>
      e = .returned (Alu.told (Alu.R 10 false b n h ⟨fn, fz, fc, fv⟩) (Alu.H 10 false b n h) (Alu.F 10 false b n h ⟨fn, fz, fc, fv⟩) true) ∧ Below w.heap.size w w' := by
  have hbb := wrap32_bd b
  have hbn := wrap32_bd n
  have hm := mul_bd _ _ hbb hbn
  have hu := mulU_bd b n ⟨hb, hb'⟩ ⟨hn, hn'⟩
  simp only [Fl.val, Fl.cells]
  go_enter Try.func85, Try.ntmps85
  go_wp2_with fail
  refine (ref01_signed b _ hb hb').mono ?_
  rintro e w' ⟨rfl, rfl⟩
  go_wp2_with fail
  refine (ref01_signed n _ hn hn').mono ?_
  rintro e w' ⟨rfl, rfl⟩
  go_wp2_with fail
  refine (ref01_word _ _ (by omega) (by omega)).mono ?_
  rintro e w' ⟨rfl, rfl⟩
  go_wp2_with fail
  refine (ref03_floor _ 4294967296 _ (by omega) (by omega) (by omega) (by omega)).mono ?_
  rintro e w' ⟨rfl, rfl⟩
  go_wp2_with fail
  refine (ref01_word _ _ (by omega) (by omega)).mono ?_
  rintro e w' ⟨rfl, rfl⟩
  go_wp2_with fail
  all_goals refine bodyPost_ret (by simp only [results, Try.results85]; go_simp; rfl) rfl ⟨?_, ?_⟩
  all_goals first | (refine congrArg Ending.returned ?_; exact told_ret (by first | rfl | (simp [Alu.R, Alu.carry, Alu.prod]; done)) (by first | (simp [Alu.H, Alu.prod]; done) | (simp [Alu.H, Alu.prod]; omega)) rfl rfl (by first | (simp [Alu.F, Alu.C, Alu.carry]; done) | (rw [Bool.eq_iff_iff]; simp [Alu.F, Alu.C, Alu.carry]; omega)) (by simp [Alu.F, Alu.V, Alu.carry, fits_out])) | skip
  all_goals (repeat (first | with_reducible exact Below.refl _ _ | with_reducible apply Below.drew | with_reducible refine Below.setCell ?_ (by simp) _ | with_reducible refine Below.alloc ?_ (by first | (simp; done) | (simp; omega)) _))

set_option maxRecDepth 100000 in
set_option maxHeartbeats 2000000 in
theorem ref03_do_10un (b n h : Int) (fn fz fv : Bool) (w : World) (hb : 0 ≤ b) (hb' : b < 4294967296) (hn : 0 ≤ n) (hn' : n < 4294967296) (hh : 0 ≤ h) (hh' : h < 4294967296) :
    Calls Try.prog 85 #[.int .i64 10, .bool true, .int .u32 b, .int .u32 n, .int .u32 h, Fl.val ⟨fn, fz, false, fv⟩] w fun e w' =>
      e = .returned (Alu.told (Alu.R 10 true b n h ⟨fn, fz, false, fv⟩) (Alu.H 10 true b n h) (Alu.F 10 true b n h ⟨fn, fz, false, fv⟩) true) ∧ Below w.heap.size w w' := by
  have hbb := wrap32_bd b
  have hbn := wrap32_bd n
  have hm := mul_bd _ _ hbb hbn
  have hu := mulU_bd b n ⟨hb, hb'⟩ ⟨hn, hn'⟩
  simp only [Fl.val, Fl.cells]
  go_enter Try.func85, Try.ntmps85
  go_wp2_with fail
  refine (ref01_signed b _ hb hb').mono ?_
  rintro e w' ⟨rfl, rfl⟩
  go_wp2_with fail
  refine (ref01_signed n _ hn hn').mono ?_
  rintro e w' ⟨rfl, rfl⟩
  go_wp2_with fail
  all_goals refine bodyPost_ret (by simp only [results, Try.results85]; go_simp; rfl) rfl ⟨?_, ?_⟩
  all_goals first | (refine congrArg Ending.returned ?_; exact told_ret (by first | rfl | (simp [Alu.R, Alu.carry, Alu.prod]; done)) (by first | (simp [Alu.H, Alu.prod]; done) | (simp [Alu.H, Alu.prod]; omega)) rfl rfl (by first | (simp [Alu.F, Alu.C, Alu.carry]; done) | (rw [Bool.eq_iff_iff]; simp [Alu.F, Alu.C, Alu.carry]; omega)) (by simp [Alu.F, Alu.V, Alu.carry, fits_out])) | skip
  all_goals (repeat (first | with_reducible exact Below.refl _ _ | with_reducible apply Below.drew | with_reducible refine Below.setCell ?_ (by simp) _ | with_reducible refine Below.alloc ?_ (by first | (simp; done) | (simp; omega)) _))

set_option maxRecDepth 100000 in
set_option maxHeartbeats 2000000 in
theorem ref03_do_10uc (b n h : Int) (fn fz fv : Bool) (w : World) (hb : 0 ≤ b) (hb' : b < 4294967296) (hn : 0 ≤ n) (hn' : n < 4294967296) (hh : 0 ≤ h) (hh' : h < 4294967296) :
    Calls Try.prog 85 #[.int .i64 10, .bool true, .int .u32 b, .int .u32 n, .int .u32 h, Fl.val ⟨fn, fz, true, fv⟩] w fun e w' =>
      e = .returned (Alu.told (Alu.R 10 true b n h ⟨fn, fz, true, fv⟩) (Alu.H 10 true b n h) (Alu.F 10 true b n h ⟨fn, fz, true, fv⟩) true) ∧ Below w.heap.size w w' := by
  have hbb := wrap32_bd b
  have hbn := wrap32_bd n
  have hm := mul_bd _ _ hbb hbn
  have hu := mulU_bd b n ⟨hb, hb'⟩ ⟨hn, hn'⟩
  simp only [Fl.val, Fl.cells]
  go_enter Try.func85, Try.ntmps85
  go_wp2_with fail
  refine (ref01_signed b _ hb hb').mono ?_
  rintro e w' ⟨rfl, rfl⟩
  go_wp2_with fail
  refine (ref01_signed n _ hn hn').mono ?_
  rintro e w' ⟨rfl, rfl⟩
  go_wp2_with fail
  all_goals refine bodyPost_ret (by simp only [results, Try.results85]; go_simp; rfl) rfl ⟨?_, ?_⟩
  all_goals first | (refine congrArg Ending.returned ?_; exact told_ret (by first | rfl | (simp [Alu.R, Alu.carry, Alu.prod]; done)) (by first | (simp [Alu.H, Alu.prod]; done) | (simp [Alu.H, Alu.prod]; omega)) rfl rfl (by first | (simp [Alu.F, Alu.C, Alu.carry]; done) | (rw [Bool.eq_iff_iff]; simp [Alu.F, Alu.C, Alu.carry]; omega)) (by simp [Alu.F, Alu.V, Alu.carry, fits_out])) | skip
  all_goals (repeat (first | with_reducible exact Below.refl _ _ | with_reducible apply Below.drew | with_reducible refine Below.setCell ?_ (by simp) _ | with_reducible refine Below.alloc ?_ (by first | (simp; done) | (simp; omega)) _))

set_option maxRecDepth 100000 in
set_option maxHeartbeats 2000000 in
theorem ref03_do_11p (b n h : Int) (fn fz fc fv : Bool) (w : World) (hb : 0 ≤ b) (hb' : b < 4294967296) (hn : 0 ≤ n) (hn' : n < 4294967296) (hh : 0 ≤ h) (hh' : h < 4294967296) (h0 : 0 < wrap32 n) :
    Calls Try.prog 85 #[.int .i64 11, .bool false, .int .u32 b, .int .u32 n, .int .u32 h, Fl.val ⟨fn, fz, fc, fv⟩] w fun e w' =>
      e = .returned (Alu.told (Alu.R 11 false b n h ⟨fn, fz, fc, fv⟩) (Alu.H 11 false b n h) (Alu.F 11 false b n h ⟨fn, fz, fc, fv⟩) true) ∧ Below w.heap.size w w' := by
  have hbb := wrap32_bd b
  have hbn := wrap32_bd n
  have hm := mul_bd _ _ hbb hbn
  have hu := mulU_bd b n ⟨hb, hb'⟩ ⟨hn, hn'⟩
  have t1 := ediv_bd _ _ hbb h0
  have t2 := div_bds _ _ hbb h0 hbn.2
  simp only [Fl.val, Fl.cells]
  go_enter Try.func85, Try.ntmps85
  go_wp2_with fail
  refine (ref01_signed b _ hb hb').mono ?_
  rintro e w' ⟨rfl, rfl⟩
  go_wp2_with fail
  refine (ref01_signed n _ hn hn').mono ?_
  rintro e w' ⟨rfl, rfl⟩
  go_wp2_with fail
  refine (ref03_floor _ _ _ h0 (by omega) (by omega) (by omega)).mono ?_
  rintro e w' ⟨rfl, rfl⟩
  go_wp2_with fail
  refine (ref01_word _ _ (by omega) (by omega)).mono ?_
  rintro e w' ⟨rfl, rfl⟩
  go_wp2_with fail
  refine (ref01_word _ _ (by omega) (by omega)).mono ?_
  rintro e w' ⟨rfl, rfl⟩
  go_wp2_with fail
  all_goals refine bodyPost_ret (by simp only [results, Try.results85]; go_simp; rfl) rfl ⟨?_, ?_⟩
  all_goals first | (refine congrArg Ending.returned ?_; exact told_ret (Alu.R11_pos _ _ _ _ _ h0) (Alu.H11_pos false b n h h0) rfl rfl (by first | (simp [Alu.F, Alu.C, Alu.carry]; done) | (rw [Bool.eq_iff_iff]; simp [Alu.F, Alu.C, Alu.carry]; omega)) (by simp [Alu.F, Alu.V, Alu.carry, fits_out])) | skip
  all_goals (repeat (first | with_reducible exact Below.refl _ _ | with_reducible apply Below.drew | with_reducible refine Below.setCell ?_ (by simp) _ | with_reducible refine Below.alloc ?_ (by first | (simp; done) | (simp; omega)) _))

set_option maxRecDepth 100000 in
set_option maxHeartbeats 2000000 in
theorem ref03_do_11n (b n h : Int) (fn fz fc fv : Bool) (w : World) (hb : 0 ≤ b) (hb' : b < 4294967296) (hn : 0 ≤ n) (hn' : n < 4294967296) (hh : 0 ≤ h) (hh' : h < 4294967296) (h0 : wrap32 n ≤ 0) :
    Calls Try.prog 85 #[.int .i64 11, .bool false, .int .u32 b, .int .u32 n, .int .u32 h, Fl.val ⟨fn, fz, fc, fv⟩] w fun e w' =>
      e = .returned (Alu.told (Alu.R 11 false b n h ⟨fn, fz, fc, fv⟩) (Alu.H 11 false b n h) (Alu.F 11 false b n h ⟨fn, fz, fc, fv⟩) true) ∧ Below w.heap.size w w' := by
  have hbb := wrap32_bd b
  have hbn := wrap32_bd n
  have hm := mul_bd _ _ hbb hbn
  have hu := mulU_bd b n ⟨hb, hb'⟩ ⟨hn, hn'⟩
  simp only [Fl.val, Fl.cells]
  go_enter Try.func85, Try.ntmps85
  go_wp2_with fail
  refine (ref01_signed b _ hb hb').mono ?_
  rintro e w' ⟨rfl, rfl⟩
  go_wp2_with fail
  refine (ref01_signed n _ hn hn').mono ?_
  rintro e w' ⟨rfl, rfl⟩
  go_wp2_with fail
  all_goals refine bodyPost_ret (by simp only [results, Try.results85]; go_simp; rfl) rfl ⟨?_, ?_⟩
  all_goals first | (refine congrArg Ending.returned ?_; exact told_ret (r := 0) (Alu.R11_neg _ _ _ _ _ (by omega)) (Alu.H11_neg false b n h (by omega)) rfl rfl (by first | (simp [Alu.F, Alu.C, Alu.carry]; done) | (rw [Bool.eq_iff_iff]; simp [Alu.F, Alu.C, Alu.carry]; omega)) (by simp [Alu.F, Alu.V, Alu.carry, fits_out])) | skip
  all_goals (repeat (first | with_reducible exact Below.refl _ _ | with_reducible apply Below.drew | with_reducible refine Below.setCell ?_ (by simp) _ | with_reducible refine Below.alloc ?_ (by first | (simp; done) | (simp; omega)) _))

end Go.Proofs.Ytefgajojimkdiaa
