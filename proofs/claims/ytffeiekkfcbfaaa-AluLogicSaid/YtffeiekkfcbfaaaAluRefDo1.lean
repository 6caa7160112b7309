/-
  What the reference's Do tells: the operations, part 2.
-/
import Derived.Test.YtffeiekkfcbfaaaAluRef
namespace Go.Proofs.Ytffeiekkfcbfaaa
set_option linter.unusedVariables false
set_option linter.unusedSimpArgs false
open Go.RowKit Bw

set_option maxRecDepth 100000 in
set_option maxHeartbeats 2000000 in
theorem ref03_do_4 (b n h : Int) (fn fz fc fv : Bool) (w : World) (hb : 0 ≤ b) (hb' : b < 4294967296) (hn : 0 ≤ n) (hn' : n < 4294967296) (hh : 0 ≤ h) (hh' : h < 4294967296) :
    Calls Try.prog 24 #[.int .i64 4, .bool false, .int .u32 b, .int .u32 n, .int .u32 h, Fl.val ⟨fn, fz, fc, fv⟩] w fun e w' =>
      e = .returned (Alu.told (Alu.R 4 false b n h ⟨fn, fz, fc, fv⟩) (Alu.H 4 false b n h) (Alu.F 4 false b n h ⟨fn, fz, fc, fv⟩) true) ∧ Below w.heap.size w w' := by
  have hbb := wrap32_bd b
  have hbn := wrap32_bd n
  have hm := mul_bd _ _ hbb hbn
  have hu := mulU_bd b n ⟨hb, hb'⟩ ⟨hn, hn'⟩
  simp only [Fl.val, Fl.cells]
  go_enter Try.func24, Try.ntmps24
  go_wp2_with fail
  refine (ref01_signed b _ hb hb').mono ?_
  rintro e w' ⟨rfl, rfl⟩
  go_wp2_with fail
  refine (ref01_signed n _ hn hn').mono ?_
  rintro e w' ⟨rfl, rfl⟩
  go_wp2_with fail
  all_goals refine bodyPost_ret (by simp only [results, Try.results24]; go_simp; rfl) rfl ⟨?_, ?_⟩
  all_goals first | (refine congrArg Ending.returned ?_; exact told_ret (by first | rfl | (simp [Alu.R, Alu.carry, Alu.prod]; done)) (by first | (simp [Alu.H, Alu.prod]; done) | (simp [Alu.H, Alu.prod]; omega)) rfl rfl (by first | (simp [Alu.F, Alu.C, Alu.carry]; done) | (rw [Bool.eq_iff_iff]; simp [Alu.F, Alu.C, Alu.carry]; omega)) (by simp [Alu.F, Alu.V, Alu.carry, fits_out])) | skip
  all_goals (repeat (first | with_reducible exact Below.refl _ _ | with_reducible apply Below.drew | with_reducible refine Below.setCell ?_ (by simp) _ | with_reducible refine Below.alloc ?_ (by first | (simp; done) | (simp; omega)) _))

set_option maxRecDepth 100000 in
set_option maxHeartbeats 2000000 in
theorem ref03_do_5 (b n h : Int) (fn fz fc fv : Bool) (w : World) (hb : 0 ≤ b) (hb' : b < 4294967296) (hn : 0 ≤ n) (hn' : n < 4294967296) (hh : 0 ≤ h) (hh' : h < 4294967296) :
    Calls Try.prog 24 #[.int .i64 5, .bool false, .int .u32 b, .int .u32 n, .int .u32 h, Fl.val ⟨fn, fz, fc, fv⟩] w fun e w' =>
      e = .returned (Alu.told (Alu.R 5 false b n h ⟨fn, fz, fc, fv⟩) (Alu.H 5 false b n h) (Alu.F 5 false b n h ⟨fn, fz, fc, fv⟩) true) ∧ Below w.heap.size w w' := by
  have hbb := wrap32_bd b
  have hbn := wrap32_bd n
  have hm := mul_bd _ _ hbb hbn
  have hu := mulU_bd b n ⟨hb, hb'⟩ ⟨hn, hn'⟩
  simp only [Fl.val, Fl.cells]
  go_enter Try.func24, Try.ntmps24
  go_wp2_with fail
  refine (ref01_signed b _ hb hb').mono ?_
  rintro e w' ⟨rfl, rfl⟩
  go_wp2_with fail
  refine (ref01_signed n _ hn hn').mono ?_
  rintro e w' ⟨rfl, rfl⟩
  go_wp2_with fail
  all_goals refine bodyPost_ret (by simp only [results, Try.results24]; go_simp; rfl) rfl ⟨?_, ?_⟩
  all_goals first | (refine congrArg Ending.returned ?_; exact told_ret (by first | rfl | (simp [Alu.R, Alu.carry, Alu.prod]; done)) (by first | (simp [Alu.H, Alu.prod]; done) | (simp [Alu.H, Alu.prod]; omega)) rfl rfl (by first | (simp [Alu.F, Alu.C, Alu.carry]; done) | (rw [Bool.eq_iff_iff]; simp [Alu.F, Alu.C, Alu.carry]; omega)) (by simp [Alu.F, Alu.V, Alu.carry, fits_out])) | skip
  all_goals (repeat (first | with_reducible exact Below.refl _ _ | with_reducible apply Below.drew | with_reducible refine Below.setCell ?_ (by simp) _ | with_reducible refine Below.alloc ?_ (by first | (simp; done) | (simp; omega)) _))

set_option maxRecDepth 100000 in
set_option maxHeartbeats 2000000 in
theorem ref03_do_6 (b n h : Int) (fn fz fc fv : Bool) (w : World) (hb : 0 ≤ b) (hb' : b < 4294967296) (hn : 0 ≤ n) (hn' : n < 4294967296) (hh : 0 ≤ h) (hh' : h < 4294967296) :
    Calls Try.prog 24 #[.int .i64 6, .bool false, .int .u32 b, .int .u32 n, .int .u32 h, Fl.val ⟨fn, fz, fc, fv⟩] w fun e w' =>
      e = .returned (Alu.told (Alu.R 6 false b n h ⟨fn, fz, fc, fv⟩) (Alu.H 6 false b n h) (Alu.F 6 false b n h ⟨fn, fz, fc, fv⟩) true) ∧ Below w.heap.size w w' := by
  have hbb := wrap32_bd b
  have hbn := wrap32_bd n
  have hm := mul_bd _ _ hbb hbn
  have hu := mulU_bd b n ⟨hb, hb'⟩ ⟨hn, hn'⟩
  simp only [Fl.val, Fl.cells]
  go_enter Try.func24, Try.ntmps24
  go_wp2_with fail
  refine (ref01_signed b _ hb hb').mono ?_
  rintro e w' ⟨rfl, rfl⟩
  go_wp2_with fail
  refine (ref01_signed n _ hn hn').mono ?_
  rintro e w' ⟨rfl, rfl⟩
  go_wp2_with fail
  all_goals refine bodyPost_ret (by simp only [results, Try.results24]; go_simp; rfl) rfl ⟨?_, ?_⟩
  all_goals first | (refine congrArg Ending.returned ?_; exact told_ret (by first | rfl | (simp [Alu.R, Alu.carry, Alu.prod]; done)) (by first | (simp [Alu.H, Alu.prod]; done) | (simp [Alu.H, Alu.prod]; omega)) rfl rfl (by first | (simp [Alu.F, Alu.C, Alu.carry]; done) | (rw [Bool.eq_iff_iff]; simp [Alu.F, Alu.C, Alu.carry]; omega)) (by simp [Alu.F, Alu.V, Alu.carry, fits_out])) | skip
  all_goals (repeat (first | with_reducible exact Below.refl _ _ | with_reducible apply Below.drew | with_reducible refine Below.setCell ?_ (by simp) _ | with_reducible refine Below.alloc ?_ (by first | (simp; done) | (simp; omega)) _))

set_option maxRecDepth 100000 in
set_option maxHeartbeats 2000000 in
theorem ref03_do_7 (b n h : Int) (fn fz fc fv : Bool) (w : World) (hb : 0 ≤ b) (hb' : b < 4294967296) (hn : 0 ≤ n) (hn' : n < 4294967296) (hh : 0 ≤ h) (hh' : h < 4294967296) :
    Calls Try.prog 24 #[.int .i64 7, .bool false, .int .u32 b, .int .u32 n, .int .u32 h, Fl.val ⟨fn, fz, fc, fv⟩] w fun e w' =>
      e = .returned (Alu.told (Alu.R 7 false b n h ⟨fn, fz, fc, fv⟩) (Alu.H 7 false b n h) (Alu.F 7 false b n h ⟨fn, fz, fc, fv⟩) true) ∧ Below w.heap.size w w' := by
  have hbb := wrap32_bd b
  have hbn := wrap32_bd n
  have hm := mul_bd _ _ hbb hbn
  have hu := mulU_bd b n ⟨hb, hb'⟩ ⟨hn, hn'⟩
  simp only [Fl.val, Fl.cells]
  go_enter Try.func24, Try.ntmps24
  go_wp2_with fail
  refine (ref01_signed b _ hb hb').mono ?_
  rintro e w' ⟨rfl, rfl⟩
  go_wp2_with fail
  refine (ref01_signed n _ hn hn').mono ?_
  rintro e w' ⟨rfl, rfl⟩
  go_wp2_with fail
  all_goals refine bodyPost_ret (by simp only [results, Try.results24]; go_simp; rfl) rfl ⟨?_, ?_⟩
  all_goals first | (refine congrArg Ending.returned ?_; exact told_ret (by first | rfl | (simp [Alu.R, Alu.carry, Alu.prod]; done)) (by first | (simp [Alu.H, Alu.prod]; done) | (simp [Alu.H, Alu.prod]; omega)) rfl rfl (by first | (simp [Alu.F, Alu.C, Alu.carry]; done) | (rw [Bool.eq_iff_iff]; simp [Alu.F, Alu.C, Alu.carry]; omega)) (by simp [Alu.F, Alu.V, Alu.carry, fits_out])) | skip
  all_goals (repeat (first | with_reducible exact Below.refl _ _ | with_reducible apply Below.drew | with_reducible refine Below.setCell ?_ (by simp) _ | with_reducible refine Below.alloc ?_ (by first | (simp; done) | (simp; omega)) _))

end Go.Proofs.Ytffeiekkfcbfaaa
