/-
  The statements AluWide and AluLogic: their walks, out of the contracts.
-/
import Derived.Test.YtffeiekkfcbfaaaAluWalks
import Derived.Test.YtffeiekkfcbfaaaAluLaw2
import Derived.Test.YtffeiekkfcbfaaaAluLaw3
namespace Go.Proofs.Ytffeiekkfcbfaaa
set_option linter.unusedVariables false
set_option linter.unusedSimpArgs false
open Go.RowKit Bw

set_option maxRecDepth 100000 in
set_option maxHeartbeats 4000000 in
theorem law03_wide (op : Int) (u : Bool) (b n h : Int) (f : Fl) (w : World) (hb : 0 ≤ b) (hb' : b < 4294967296) (hn : 0 ≤ n) (hn' : n < 4294967296) (hh : 0 ≤ h) (hh' : h < 4294967296) :
    Calls Try.prog 13 #[Alu.ask op u b n h f] w fun e w' => e = .returned (.bool true) ∧ Below w.heap.size w w' := by
  have D1 := fun W => Lib.hid (alu_do_yes 10 true b n h f W hb hb' hn hn' hh hh' rfl)
  have D2 := fun W => Lib.hid (alu_do_yes 10 false b n h f W hb hb' hn hn' hh hh' rfl)
  have D3 := fun W => Lib.hid (alu_do_yes 8 false b n h f W hb hb' hn hn' hh hh' rfl)
  have D4 := fun W => Lib.hid (alu_do_yes 8 true h b h (Alu.F 8 false b n h f) W hh hh' hb hb' hh hh' rfl)
  have ra := Alu.R_bd 8 false b n h f hb hb' hn hn' hh hh'
  have rd := Alu.R_bd 8 true h b h (Alu.F 8 false b n h f) hh hh' hb hb' hh hh'
  have D5 := fun W => Lib.hid (alu_do_yes 9 false (Alu.R 8 false b n h f) n h (Alu.F 8 false b n h f) W ra.1 ra.2 hn hn' hh hh' rfl)
  have D6 := fun W => Lib.hid (alu_do_yes 9 true (Alu.R 8 true h b h (Alu.F 8 false b n h f)) b h (Alu.F 9 false (Alu.R 8 false b n h f) n h (Alu.F 8 false b n h f)) W rd.1 rd.2 hb hb' hh hh' rfl)
  obtain ⟨g1, g2, g3⟩ := Alu.wide_add b n h f ⟨hb, hb'⟩ ⟨hn, hn'⟩ ⟨hh, hh'⟩
  rw [g2] at D5
  rw [g3] at D6
  have l1 := Alu.R_bd 10 true b n h f hb hb' hn hn' hh hh'
  have l2 := Alu.H_bd 10 true b n h hb hb' hh hh'
  have l3 := Alu.R_bd 10 false b n h f hb hb' hn hn' hh hh'
  have l4 := Alu.H_bd 10 false b n h hb hb' hh hh'
  have u1 := Alu.wide_mulU b n h f ⟨hb, hb'⟩ ⟨hn, hn'⟩
  have u2 := Alu.wide_mulS b n h f
  have u3 := mulU_bd b n ⟨hb, hb'⟩ ⟨hn, hn'⟩
  have u4 := mul_bd _ _ (wrap32_bd b) (wrap32_bd n)
  generalize Alu.F 9 true (Alu.R 8 true h b h (Alu.F 8 false b n h f)) b h (Alu.F 9 false (Alu.R 8 false b n h f) n h (Alu.F 8 false b n h f)) = f6 at *
  generalize Alu.H 9 true (Alu.R 8 true h b h (Alu.F 8 false b n h f)) b h = h6 at *
  generalize Alu.F 9 false (Alu.R 8 false b n h f) n h (Alu.F 8 false b n h f) = f5 at *
  generalize Alu.H 9 false (Alu.R 8 false b n h f) n h = h5 at *
  generalize Alu.F 8 true h b h (Alu.F 8 false b n h f) = f4 at *
  generalize Alu.H 8 true h b h = h4 at *
  generalize Alu.R 8 true h b h (Alu.F 8 false b n h f) = r4 at *
  generalize Alu.F 8 false b n h f = f3 at *
  generalize Alu.H 8 false b n h = h3 at *
  generalize Alu.R 8 false b n h f = r3 at *
  generalize Alu.F 10 false b n h f = f2 at *
  generalize Alu.H 10 false b n h = h2 at *
  generalize Alu.R 10 false b n h f = r2 at *
  generalize Alu.F 10 true b n h f = f1 at *
  generalize Alu.H 10 true b n h = h1 at *
  generalize Alu.R 10 true b n h f = r1 at *
  simp only [Fl.val, Fl.cells, Alu.ask] at *
  obtain ⟨fn, fz, fc, fv⟩ := f
  have u1 := Lib.hid u1
  have u2 := Lib.hid u2
  have u4 := Lib.hid u4
  have g1 := Lib.hid g1
  clear g2 g3
  have e1 : bits .or .u64 (h1 * 4294967296) r1 = b * n := by rw [join64 h1 r1 l2.1 l2.2 l1.1 l1.2]; exact u1.out
  have e2 : (wrap64 (bits .or .u64 (h2 * 4294967296) r2) != wrap64 (wrap64 (wrap32 b) * wrap64 (wrap32 n))) = false := by
    rw [join64 h2 r2 l4.1 l4.2 l3.1 l3.2, u2.out]
    have w1 := wrap32_bd b
    have w2 := wrap32_bd n
    rw [show wrap64 (wrap32 b) = wrap32 b by unfold wrap64; omega, show wrap64 (wrap32 n) = wrap32 n by unfold wrap64; omega]
    have w3 := u4.out
    rw [show wrap64 (wrap32 b * wrap32 n) = wrap32 b * wrap32 n by unfold wrap64; omega]
    simp
  have e3 : bits .or .u64 (r4 * 4294967296) r3 = IntKind.u64.wrap (bits .or .u64 (h * 4294967296) b + bits .or .u64 (b * 4294967296) n) := by
    rw [join64 r4 r3 rd.1 rd.2 ra.1 ra.2, join64 h b hh hh' hb hb', join64 b n hb hb' hn hn', wrapU64_emod]; exact g1.out
  clear u4 u2 u1
  go_enter Try.func13, Try.ntmps13
  go_wp2_with fail
  go_region
  go_wp2_with fail
  refine (D1 _).out.mono ?_
  rintro e w1 ⟨rfl, hb1⟩
  obtain ⟨hc1, hf1⟩ := bcell hb1
  have hz1 : w.heap.size + 1 < w1.heap.size := by have := hb1.size; simp at this; omega
  have hz0 : w.heap.size < w.heap.size + 1 + 1 := by omega
  have hz0' : w.heap.size < w1.heap.size := by omega
  go_wp2_with fail
  refine (D2 _).out.mono ?_
  rintro e w2 ⟨rfl, hb2⟩
  obtain ⟨hc2, hf2⟩ := bcell hb2
  have hz2 : w.heap.size + 1 < w2.heap.size := by have := hb2.size; simp at this; omega
  go_wp2_with fail
  refine (D3 _).out.mono ?_
  rintro e w3 ⟨rfl, hb3⟩
  go_wp2_with fail
  refine (D4 _).out.mono ?_
  rintro e w4 ⟨rfl, hb4⟩
  obtain ⟨hc4, hf4⟩ := bcell hb4
  have hz4 : w3.heap.size < w4.heap.size := by have := hb4.size; simp at this; omega
  go_wp2_with fail
  refine (D5 _).out.mono ?_
  rintro e w5 ⟨rfl, hb5⟩
  go_wp2_with fail
  refine (D6 _).out.mono ?_
  rintro e w6 ⟨rfl, hb6⟩
  go_wp2_with fail
  refine (law03_wakes _).mono ?_
  rintro e w9 ⟨rfl, hb9⟩
  go_wp2_with fail
  go_ret
  refine ⟨rfl, chainA_left ?_⟩
  (repeat (first | with_reducible exact chainA_start _ | with_reducible refine chainA_call ?_ (by assumption) | with_reducible refine chainA_alloc ?_ _ | with_reducible refine chainA_drew ?_ | with_reducible refine chainA_drewN ?_ _))

set_option maxRecDepth 100000 in
set_option maxHeartbeats 4000000 in
theorem law03_logic (op : Int) (u : Bool) (b n h : Int) (f : Fl) (w : World) (hb : 0 ≤ b) (hb' : b < 4294967296) (hn : 0 ≤ n) (hn' : n < 4294967296) (hh : 0 ≤ h) (hh' : h < 4294967296) :
    Calls Try.prog 14 #[Alu.ask op u b n h f] w fun e w' => e = .returned (.bool true) ∧ Below w.heap.size w w' := by
  have D1 := fun W => Lib.hid (alu_do_yes 4 false b n h f W hb hb' hn hn' hh hh' rfl)
  have D2 := fun W => Lib.hid (alu_do_yes 6 false b n h f W hb hb' hn hn' hh hh' rfl)
  have D3 := fun W => Lib.hid (alu_do_yes 7 false b n h f W hb hb' hn hn' hh hh' rfl)
  have D4 := fun W => Lib.hid (alu_do_yes 5 false b n h f W hb hb' hn hn' hh hh' rfl)
  have D5 := fun W => Lib.hid (alu_do_yes 1 false b n h f W hb hb' hn hn' hh hh' rfl)
  have D6 := fun W => Lib.hid (alu_do_yes 1 false b (n % 32) h f W hb hb' (by omega) (by omega) hh hh' rfl)
  have D7 := fun W => Lib.hid (alu_do_yes 3 false b n h f W hb hb' hn hn' hh hh' rfl)
  have D8 := fun W => Lib.hid (alu_do_yes 2 false b n h f W hb hb' hn hn' hh hh' rfl)
  obtain ⟨g1, g2, g3⟩ := Alu.logic b n h f hb hb' hn hn'
  obtain ⟨s1, s2, s3⟩ := Alu.shifts b n h f hb hb' hn hn'
  have r5b := Alu.R_bd 5 false b n h f hb hb' hn hn' hh hh'
  have f5 : Alu.F 5 false b n h f = ⟨decide (wrap32 (Alu.R 5 false b n h f) < 0), Alu.R 5 false b n h f == 0, f.c, f.v⟩ := by
    simp only [Alu.F, Alu.C, Alu.V]
    refine congr (congr (congr (congrArg Fl.mk ?_) ?_) ?_) ?_
    · rw [decide_eq_decide]; unfold wrap32; omega
    · rfl
    · simp
    · simp
  have h5 : Alu.H 5 false b n h = h := by simp [Alu.H]
  rw [s1] at D6
  rw [h5, f5] at D4
  clear f5 h5 s1
  generalize Alu.F 4 false b n h f = q1 at *
  generalize Alu.F 6 false b n h f = q2 at *
  generalize Alu.F 7 false b n h f = q3 at *
  generalize Alu.F 1 false b n h f = q5 at *
  generalize Alu.F 1 false b (n % 32) h f = q6 at *
  generalize Alu.F 3 false b n h f = q7 at *
  generalize Alu.F 2 false b n h f = q8 at *
  generalize Alu.H 4 false b n h = h1 at *
  generalize Alu.H 6 false b n h = h2 at *
  generalize Alu.H 7 false b n h = h3 at *
  generalize Alu.H 1 false b n h = h5 at *
  generalize Alu.H 1 false b (n % 32) h = h6 at *
  generalize Alu.H 3 false b n h = h7 at *
  generalize Alu.H 2 false b n h = h8 at *
  generalize Alu.R 4 false b n h f = r1 at *
  generalize Alu.R 6 false b n h f = r2 at *
  generalize Alu.R 7 false b n h f = r3 at *
  generalize Alu.R 5 false b n h f = r4 at *
  generalize Alu.R 1 false b n h f = r5 at *
  generalize Alu.R 3 false b n h f = r7 at *
  generalize Alu.R 2 false b n h f = r8 at *
  simp only [Fl.val, Fl.cells, Alu.ask] at *
  obtain ⟨fn, fz, fc, fv⟩ := f
  go_enter Try.func14, Try.ntmps14
  go_wp2_with fail
  refine (D1 _).out.mono ?_
  rintro e w1 ⟨rfl, hb1⟩
  obtain ⟨hc1, hf1⟩ := bcell hb1
  have hz1 : w.heap.size < w1.heap.size := by have := hb1.size; simp at this; omega
  go_wp2_with fail
  refine (D2 _).out.mono ?_
  rintro e w2 ⟨rfl, hb2⟩
  obtain ⟨hc2, hf2⟩ := bcell hb2
  have hz2 : w.heap.size < w2.heap.size := by have := hb2.size; simp at this; omega
  go_wp2_with fail
  refine (D3 _).out.mono ?_
  rintro e w3 ⟨rfl, hb3⟩
  obtain ⟨hc3, hf3⟩ := bcell hb3
  have hz3 : w.heap.size < w3.heap.size := by have := hb3.size; simp at this; omega
  go_wp2_with fail
  refine (D4 _).out.mono ?_
  rintro e w4 ⟨rfl, hb4⟩
  obtain ⟨hc4, hf4⟩ := bcell hb4
  have hz4 : w.heap.size < w4.heap.size := by have := hb4.size; simp at this; omega
  go_wp2_with fail
  refine (D5 _).out.mono ?_
  rintro e w5 ⟨rfl, hb5⟩
  obtain ⟨hc5, hf5⟩ := bcell hb5
  have hz5 : w.heap.size < w5.heap.size := by have := hb5.size; simp at this; omega
  have hy5 : w4.heap.size < w5.heap.size := by have := hb5.size; simp at this; omega
  go_wp2_with fail
  refine (D6 _).out.mono ?_
  rintro e w6 ⟨rfl, hb6⟩
  obtain ⟨hc6, hf6⟩ := bcell hb6
  have hz6 : w.heap.size < w6.heap.size := by have := hb6.size; simp at this; omega
  have hy6 : w4.heap.size < w6.heap.size := by have := hb6.size; simp at this; omega
  go_wp2_with fail
  refine (D7 _).out.mono ?_
  rintro e w7 ⟨rfl, hb7⟩
  obtain ⟨hc7, hf7⟩ := bcell hb7
  have hz7 : w.heap.size < w7.heap.size := by have := hb7.size; simp at this; omega
  have hy7 : w4.heap.size < w7.heap.size := by have := hb7.size; simp at this; omega
  go_wp2_with fail
  refine (D8 _).out.mono ?_
  rintro e w8 ⟨rfl, hb8⟩
  obtain ⟨hc8, hf8⟩ := bcell hb8
  have hz8 : w.heap.size < w8.heap.size := by have := hb8.size; simp at this; omega
  have hy8 : w4.heap.size < w8.heap.size := by have := hb8.size; simp at this; omega
  go_wp2_with fail
  refine (law03_wakes _).mono ?_
  rintro e w9 ⟨rfl, hb9⟩
  go_wp2_with fail
  go_ret
  refine ⟨rfl, chainA_left ?_⟩
  (repeat (first | with_reducible exact chainA_start _ | with_reducible refine chainA_call ?_ (by assumption) | with_reducible refine chainA_alloc ?_ _ | with_reducible refine chainA_drew ?_ | with_reducible refine chainA_drewN ?_ _))

end Go.Proofs.Ytffeiekkfcbfaaa
