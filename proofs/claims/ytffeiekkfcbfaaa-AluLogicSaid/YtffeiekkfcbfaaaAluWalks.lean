/-
  The statements of the package alu: each law's own walk, out of the contracts.
-/
import Derived.Test.YtffeiekkfcbfaaaAluAll
import Derived.Test.YtffeiekkfcbfaaaAluConds
namespace Go.Proofs.Ytffeiekkfcbfaaa
set_option linter.unusedVariables false
set_option linter.unusedSimpArgs false
open Go.RowKit Bw

theorem chainA_alloc {B : Nat} {w w1 : World} (h : Below B w w1 ∧ B ≤ w1.heap.size) (o : Obj) : Below B w (w1.alloc o) ∧ B ≤ (w1.alloc o).heap.size := ⟨h.1.alloc h.2 o, by have := h.2; simp; omega⟩
theorem chainA_call {B : Nat} {w w1 w2 : World} (h : Below B w w1 ∧ B ≤ w1.heap.size) (hb : Below w1.heap.size w1 w2) : Below B w w2 ∧ B ≤ w2.heap.size := ⟨h.1.trans (hb.mono h.2), Nat.le_trans h.2 hb.size⟩
theorem chainA_drew {B : Nat} {w w1 : World} (h : Below B w w1 ∧ B ≤ w1.heap.size) : Below B w w1.drew ∧ B ≤ w1.drew.heap.size := ⟨h.1.drew, h.2⟩
theorem chainA_drewN {B : Nat} {w w1 : World} (h : Below B w w1 ∧ B ≤ w1.heap.size) (k : Nat) : Below B w (w1.drewN k) ∧ B ≤ (w1.drewN k).heap.size := ⟨below_drewN0 h.1 k, by simpa using h.2⟩
theorem chainA_left {B : Nat} {w w1 : World} (h : Below B w w1 ∧ B ≤ w1.heap.size) : Below B w w1 := h.1
theorem chainA_start (w : World) : Below w.heap.size w w ∧ w.heap.size ≤ w.heap.size := ⟨Below.refl _ _, Nat.le_refl _⟩

theorem law03_same (f : Fl) (w : World) :
    Calls Try.prog 25 #[f.val, f.val] w fun e w' => e = .returned (.bool true) ∧ Below w.heap.size w w' := by
  obtain ⟨fn, fz, fc, fv⟩ := f
  have hl := (show w.heap.size < w.heap.size + 1 + 1 by omega)
  simp only [Fl.val, Fl.cells]
  go_enter Try.func25, Try.ntmps25
  go_wp2_with fail
  go_ret
  exact ⟨rfl, (chainA_alloc (chainA_alloc (chainA_start w) _) _).1⟩

set_option maxHeartbeats 1000000 in
theorem law03_wakes (w : World) : Calls Try.prog 26 #[] w fun e w' => e = .returned (.bool true) ∧ Below w.heap.size w w' := by
  have D1 := fun W => Lib.hid (alu_do_yes 11 false 4294967289 2 0 Fl.zero W (by omega) (by omega) (by omega) (by omega) (by omega) (by omega) rfl)
  rw [show Alu.R 11 false 4294967289 2 0 Fl.zero = 4294967292 by decide +kernel, show Alu.H 11 false 4294967289 2 0 = 1 by decide +kernel, show Alu.F 11 false 4294967289 2 0 Fl.zero = ⟨true, false, false, false⟩ by decide +kernel] at D1
  have D2 := fun W => Lib.hid (alu_do_yes 9 false 0 1 0 Fl.zero W (by omega) (by omega) (by omega) (by omega) (by omega) (by omega) rfl)
  rw [show Alu.R 9 false 0 1 0 Fl.zero = 4294967295 by decide +kernel, show Alu.H 9 false 0 1 0 = 0 by decide +kernel, show Alu.F 9 false 0 1 0 Fl.zero = ⟨true, false, true, false⟩ by decide +kernel] at D2
  have H1 := fun W => Lib.hid (alu_holds 5 ⟨true, false, true, false⟩ W (by omega) (by omega))
  rw [show Alu.holds 5 ⟨true, false, true, false⟩ = true by decide +kernel] at H1
  simp only [Fl.val, Fl.cells, Fl.zero] at *
  go_enter Try.func26, Try.ntmps26
  go_wp2_with fail
  refine (D1 _).out.mono ?_
  rintro e w1 ⟨rfl, hb1⟩
  go_wp2_with fail
  refine (D2 _).out.mono ?_
  rintro e w2 ⟨rfl, hb2⟩
  go_wp2_with fail
  refine (H1 _).out.mono ?_
  rintro e w3 ⟨rfl, hb3⟩
  go_wp2_with fail
  go_ret
  exact ⟨rfl, (chainA_call (chainA_alloc (chainA_call (chainA_alloc (chainA_call (chainA_start w) hb1) _) hb2) _) hb3).1⟩

set_option maxHeartbeats 2000000 in
theorem law03_holds (c : Int) (f : Fl) (w : World) (h1 : -9223372036854775808 ≤ c) (h2 : c ≤ 9223372036854775807) :
    Calls Try.prog 10 #[.int .i64 c, f.val] w fun e w' => e = .returned (.bool true) ∧ Below w.heap.size w w' := by
  have H1 := fun W => Lib.hid (alu_holds c f W h1 h2)
  have H2 := fun W => Lib.hid (ref03_holds c f W h1 h2)
  by_cases hc : 0 ≤ c ∧ c ≤ 7
  · obtain ⟨hc1, hc2⟩ := hc
    have H3 := fun W => Lib.hid (alu_holds (c + 8) f W (by omega) (by omega))
    have hn := Alu.holds_opposite c f hc1 hc2
    generalize Alu.holds c f = b at *
    rw [hn] at H3
    clear hn
    obtain ⟨fn, fz, fc, fv⟩ := f
    simp only [Fl.val, Fl.cells] at *
    go_enter Try.func10, Try.ntmps10
    go_wp2_with fail
    refine (H1 _).out.mono ?_
    rintro e w1 ⟨rfl, hb1⟩
    obtain ⟨hc1', hf1⟩ := bcell hb1
    have hz1 : w.heap.size < w1.heap.size := by have := hb1.size; simp at this; omega
    go_wp2_with fail
    refine (H2 _).out.mono ?_
    rintro e w2 ⟨rfl, hb2⟩
    obtain ⟨hc2', hf2⟩ := bcell hb2
    have hz2 : w.heap.size < w2.heap.size := by have := hb2.size; omega
    go_wp2_with fail
    refine (H3 _).out.mono ?_
    rintro e w3 ⟨rfl, hb3⟩
    go_wp2_with fail
    refine (law03_wakes _).mono ?_
    rintro e w4 ⟨rfl, hb4⟩
    go_wp2_with fail
    go_ret
    exact ⟨rfl, (chainA_call (chainA_call (chainA_call (chainA_call (chainA_alloc (chainA_start w) _) hb1) hb2) hb3) hb4).1⟩
  · generalize Alu.holds c f = b at *
    obtain ⟨fn, fz, fc, fv⟩ := f
    simp only [Fl.val, Fl.cells] at *
    have hc' : c < 0 ∨ 7 < c := by omega
    clear hc
    rcases hc' with hc' | hc'
    all_goals
      go_enter Try.func10, Try.ntmps10
      go_wp2_with fail
      refine (H1 _).out.mono ?_
      rintro e w1 ⟨rfl, hb1⟩
      obtain ⟨hc1', hf1⟩ := bcell hb1
      have hz1 : w.heap.size < w1.heap.size := by have := hb1.size; simp at this; omega
      go_wp2_with fail
      refine (H2 _).out.mono ?_
      rintro e w2 ⟨rfl, hb2⟩
      go_wp2_with fail
      refine (law03_wakes _).mono ?_
      rintro e w4 ⟨rfl, hb4⟩
      go_wp2_with fail
      go_ret
      exact ⟨rfl, (chainA_call (chainA_call (chainA_call (chainA_alloc (chainA_start w) _) hb1) hb2) hb4).1⟩

set_option maxHeartbeats 2000000 in
theorem law03_does_yes (op : Int) (u : Bool) (b n h : Int) (f : Fl) (w : World) (hb : 0 ≤ b) (hb' : b < 4294967296) (hn : 0 ≤ n) (hn' : n < 4294967296) (hh : 0 ≤ h) (hh' : h < 4294967296) (o1 : -9223372036854775808 ≤ op) (o2 : op ≤ 9223372036854775807) (hok : Alu.okOp op u = true) :
    Calls Try.prog 9 #[Alu.ask op u b n h f] w fun e w' => e = .returned (.bool true) ∧ Below w.heap.size w w' := by
  have D1 := fun W => Lib.hid (alu_do_yes op u b n h f W hb hb' hn hn' hh hh' hok)
  have D2 := fun W => Lib.hid (ref03_do_yes op u b n h f W hb hb' hn hn' hh hh' hok)
  have S1 := fun W => Lib.hid (law03_same (Alu.F op u b n h f) W)
  generalize Alu.R op u b n h f = r at *
  generalize Alu.H op u b n h = hh1 at *
  generalize Alu.F op u b n h f = g at *
  obtain ⟨gn, gz, gc, gv⟩ := g
  obtain ⟨fn, fz, fc, fv⟩ := f
  clear hok
  simp only [Fl.val, Fl.cells, Fl.zero, Alu.told, Alu.ask] at *
  go_enter Try.func9, Try.ntmps9
  go_wp2_with fail
  refine (D1 _).out.mono ?_
  rintro e w1 ⟨rfl, hb1⟩
  obtain ⟨hc1, hf1⟩ := bcell hb1
  have hz1 : w.heap.size < w1.heap.size := by have := hb1.size; simp at this; omega
  have hz1' : w.heap.size < w1.heap.size + 1 := by omega
  go_wp2_with fail
  refine (D2 _).out.mono ?_
  rintro e w2 ⟨rfl, hb2⟩
  obtain ⟨hc2, hf2⟩ := bcell hb2
  have hz2 : w1.heap.size < w2.heap.size := by have := hb2.size; simp at this; omega
  have hz2' : w1.heap.size < w2.heap.size + 1 := by omega
  go_wp2_with fail
  refine (S1 _).out.mono ?_
  rintro e w3 ⟨rfl, hb3⟩
  obtain ⟨hc3, hf3⟩ := bcell hb3
  have hz3 : w2.heap.size < w3.heap.size := by have := hb3.size; simp at this; omega
  go_wp2_with fail
  refine (law03_wakes _).mono ?_
  rintro e w4 ⟨rfl, hb4⟩
  go_wp2_with fail
  go_ret
  exact ⟨rfl, (chainA_call (chainA_call (chainA_alloc (chainA_call (chainA_alloc (chainA_call (chainA_alloc (chainA_start w) _) hb1) _) hb2) _) hb3) hb4).1⟩

set_option maxHeartbeats 2000000 in
theorem law03_does_no (op : Int) (u : Bool) (b n h : Int) (f : Fl) (w : World) (hb : 0 ≤ b) (hb' : b < 4294967296) (hn : 0 ≤ n) (hn' : n < 4294967296) (hh : 0 ≤ h) (hh' : h < 4294967296) (o1 : -9223372036854775808 ≤ op) (o2 : op ≤ 9223372036854775807) (hok : Alu.okOp op u = false) :
    Calls Try.prog 9 #[Alu.ask op u b n h f] w fun e w' => e = .returned (.bool true) ∧ Below w.heap.size w w' := by
  have D1 := fun W => Lib.hid (alu_do_no op u b n h f W hb hb' hn hn' hh hh' hok o1 o2)
  have D2 := fun W => Lib.hid (ref03_do_no op u b n h f W hb hb' hn hn' hh hh' hok o1 o2)
  have S1 := fun W => Lib.hid (law03_same Fl.zero W)
  obtain ⟨fn, fz, fc, fv⟩ := f
  clear hok
  simp only [Fl.val, Fl.cells, Fl.zero, Alu.told, Alu.ask] at *
  go_enter Try.func9, Try.ntmps9
  go_wp2_with fail
  refine (D1 _).out.mono ?_
  rintro e w1 ⟨rfl, hb1⟩
  obtain ⟨hc1, hf1⟩ := bcell hb1
  have hz1 : w.heap.size < w1.heap.size := by have := hb1.size; simp at this; omega
  have hz1' : w.heap.size < w1.heap.size + 1 := by omega
  go_wp2_with fail
  refine (D2 _).out.mono ?_
  rintro e w2 ⟨rfl, hb2⟩
  obtain ⟨hc2, hf2⟩ := bcell hb2
  have hz2 : w1.heap.size < w2.heap.size := by have := hb2.size; simp at this; omega
  have hz2' : w1.heap.size < w2.heap.size + 1 := by omega
  go_wp2_with fail
  refine (S1 _).out.mono ?_
  rintro e w3 ⟨rfl, hb3⟩
  obtain ⟨hc3, hf3⟩ := bcell hb3
  have hz3 : w2.heap.size < w3.heap.size := by have := hb3.size; simp at this; omega
  go_wp2_with fail
  refine (law03_wakes _).mono ?_
  rintro e w4 ⟨rfl, hb4⟩
  go_wp2_with fail
  go_ret
  exact ⟨rfl, (chainA_call (chainA_call (chainA_alloc (chainA_call (chainA_alloc (chainA_call (chainA_alloc (chainA_start w) _) hb1) _) hb2) _) hb3) hb4).1⟩

theorem law03_does (op : Int) (u : Bool) (b n h : Int) (f : Fl) (w : World) (hb : 0 ≤ b) (hb' : b < 4294967296) (hn : 0 ≤ n) (hn' : n < 4294967296) (hh : 0 ≤ h) (hh' : h < 4294967296) (o1 : -9223372036854775808 ≤ op) (o2 : op ≤ 9223372036854775807) :
    Calls Try.prog 9 #[Alu.ask op u b n h f] w fun e w' => e = .returned (.bool true) ∧ Below w.heap.size w w' := by
  cases hok : Alu.okOp op u
  · exact law03_does_no op u b n h f w hb hb' hn hn' hh hh' o1 o2 hok
  · exact law03_does_yes op u b n h f w hb hb' hn hn' hh hh' o1 o2 hok

set_option maxHeartbeats 2000000 in
theorem law03_compares (op : Int) (u : Bool) (b n h : Int) (f : Fl) (w : World) (hb : 0 ≤ b) (hb' : b < 4294967296) (hn : 0 ≤ n) (hn' : n < 4294967296) (hh : 0 ≤ h) (hh' : h < 4294967296) :
    Calls Try.prog 11 #[Alu.ask op u b n h f] w fun e w' => e = .returned (.bool true) ∧ Below w.heap.size w w' := by
  have D1 := fun W => Lib.hid (alu_do_yes 9 false b n h f W hb hb' hn hn' hh hh' rfl)
  obtain ⟨q5, q2, q1, q6, q4, q14⟩ := Alu.cmp b n h f hb hb' hn hn'
  have H5 := fun W => Lib.hid (alu_holds 5 (Alu.F 9 false b n h f) W (by omega) (by omega))
  rw [q5] at H5
  have H2 := fun W => Lib.hid (alu_holds 2 (Alu.F 9 false b n h f) W (by omega) (by omega))
  rw [q2] at H2
  have H1 := fun W => Lib.hid (alu_holds 1 (Alu.F 9 false b n h f) W (by omega) (by omega))
  rw [q1] at H1
  have H6 := fun W => Lib.hid (alu_holds 6 (Alu.F 9 false b n h f) W (by omega) (by omega))
  rw [q6] at H6
  have H4 := fun W => Lib.hid (alu_holds 4 (Alu.F 9 false b n h f) W (by omega) (by omega))
  rw [q4] at H4
  have H14 := fun W => Lib.hid (alu_holds 14 (Alu.F 9 false b n h f) W (by omega) (by omega))
  rw [q14] at H14
  clear q5 q2 q1 q6 q4 q14
  generalize Alu.R 9 false b n h f = r at *
  generalize Alu.H 9 false b n h = hh1 at *
  generalize Alu.F 9 false b n h f = g at *
  obtain ⟨gn, gz, gc, gv⟩ := g
  obtain ⟨fn, fz, fc, fv⟩ := f
  simp only [Fl.val, Fl.cells, Alu.ask] at *
  go_enter Try.func11, Try.ntmps11
  go_wp2_with fail
  go_region
  go_wp2_with fail
  refine (D1 _).out.mono ?_
  rintro e w0 ⟨rfl, hb0⟩
  go_wp2_with fail
  refine (H5 _).out.mono ?_
  rintro e w1 ⟨rfl, hb1⟩
  obtain ⟨hc1, hf1⟩ := bcell hb1
  have hz1 : w0.heap.size < w1.heap.size := by have := hb1.size; simp at this; omega
  go_wp2_with fail
  refine (H2 _).out.mono ?_
  rintro e w2 ⟨rfl, hb2⟩
  obtain ⟨hc2, hf2⟩ := bcell hb2
  have hz2 : w0.heap.size < w2.heap.size := by have := hb2.size; omega
  go_wp2_with fail
  refine (H1 _).out.mono ?_
  rintro e w3 ⟨rfl, hb3⟩
  obtain ⟨hc3, hf3⟩ := bcell hb3
  have hz3 : w0.heap.size < w3.heap.size := by have := hb3.size; omega
  go_wp2_with fail
  refine (H6 _).out.mono ?_
  rintro e w4 ⟨rfl, hb4⟩
  obtain ⟨hc4, hf4⟩ := bcell hb4
  have hz4 : w0.heap.size < w4.heap.size := by have := hb4.size; omega
  go_wp2_with fail
  refine (H4 _).out.mono ?_
  rintro e w5 ⟨rfl, hb5⟩
  obtain ⟨hc5, hf5⟩ := bcell hb5
  have hz5 : w0.heap.size < w5.heap.size := by have := hb5.size; omega
  go_wp2_with fail
  refine (H14 _).out.mono ?_
  rintro e w6 ⟨rfl, hb6⟩
  obtain ⟨hc6, hf6⟩ := bcell hb6
  have hz6 : w0.heap.size < w6.heap.size := by have := hb6.size; omega
  go_wp2_with fail
  refine (law03_wakes _).mono ?_
  rintro e w9 ⟨rfl, hb9⟩
  go_wp2_with fail
  go_ret
  refine ⟨rfl, chainA_left ?_⟩
  (repeat (first | with_reducible exact chainA_start _ | with_reducible refine chainA_call ?_ (by assumption) | with_reducible refine chainA_alloc ?_ _ | with_reducible refine chainA_drew ?_ | with_reducible refine chainA_drewN ?_ _))

set_option maxHeartbeats 2000000 in
theorem law03_divides (b n : Int) (f : Fl) (w : World) (hb : 0 ≤ b) (hb' : b < 4294967296) (hn : 0 ≤ n) (hn' : n < 4294967296) :
    Calls Try.prog 12 #[.int .u32 b, .int .u32 n, f.val] w fun e w' => e = .returned (.bool true) ∧ Below w.heap.size w w' := by
  have D1 := fun W => Lib.hid (alu_do_yes 11 false b n 7 f W hb hb' hn hn' (by omega) (by omega) rfl)
  have rb := Alu.R_bd 11 false b n 7 f hb hb' hn hn' (by omega) (by omega)
  have xb := Alu.H_bd 11 false b n 7 hb hb' (by omega) (by omega)
  by_cases h0 : 0 < wrap32 n
  · obtain ⟨g1, g2, g3⟩ := Alu.div_facts b n f hb hb' hn hn' h0
    have D2 := fun W => Lib.hid (alu_do_yes 10 false (Alu.R 11 false b n 7 f) n 0 f W rb.1 rb.2 hn hn' (by omega) (by omega) rfl)
    generalize Alu.F 10 false (Alu.R 11 false b n 7 f) n 0 f = g' at *
    generalize Alu.R 10 false (Alu.R 11 false b n 7 f) n 0 f = r' at *
    generalize Alu.H 10 false (Alu.R 11 false b n 7 f) n 0 = h' at *
    generalize Alu.F 11 false b n 7 f = g at *
    generalize Alu.R 11 false b n 7 f = r at *
    generalize Alu.H 11 false b n 7 = x at *
    obtain ⟨fn, fz, fc, fv⟩ := f
    simp only [Fl.val, Fl.cells] at *
    go_enter Try.func12, Try.ntmps12
    go_wp2_with fail
    refine (D1 _).out.mono ?_
    rintro e w1 ⟨rfl, hb1⟩
    obtain ⟨hc1, hf1⟩ := bcell hb1
    have hz1 : w.heap.size < w1.heap.size := by have := hb1.size; simp at this; omega
    go_wp2_with fail
    refine (D2 _).out.mono ?_
    rintro e w2 ⟨rfl, hb2⟩
    go_wp2_with fail
    refine (law03_wakes _).mono ?_
    rintro e w9 ⟨rfl, hb9⟩
    go_wp2_with fail
    go_ret
    refine ⟨rfl, chainA_left ?_⟩
    (repeat (first | with_reducible exact chainA_start _ | with_reducible refine chainA_call ?_ (by assumption) | with_reducible refine chainA_alloc ?_ _ | with_reducible refine chainA_drew ?_ | with_reducible refine chainA_drewN ?_ _))
  · have q1 : Alu.R 11 false b n 7 f = 0 := (Alu.R11_neg _ _ _ _ _ h0).symm
    have q2 : Alu.H 11 false b n 7 = b := (Alu.H11_neg _ _ _ _ h0).symm
    rw [q1, q2] at D1
    clear q1 q2 rb xb
    have h0' : wrap32 n ≤ 0 := by omega
    generalize Alu.F 11 false b n 7 f = g at *
    obtain ⟨fn, fz, fc, fv⟩ := f
    simp only [Fl.val, Fl.cells] at *
    go_enter Try.func12, Try.ntmps12
    go_wp2_with fail
    refine (D1 _).out.mono ?_
    rintro e w1 ⟨rfl, hb1⟩
    go_wp2_with fail
    refine (law03_wakes _).mono ?_
    rintro e w9 ⟨rfl, hb9⟩
    go_wp2_with fail
    go_ret
    refine ⟨rfl, chainA_left ?_⟩
    (repeat (first | with_reducible exact chainA_start _ | with_reducible refine chainA_call ?_ (by assumption) | with_reducible refine chainA_alloc ?_ _ | with_reducible refine chainA_drew ?_ | with_reducible refine chainA_drewN ?_ _))

end Go.Proofs.Ytffeiekkfcbfaaa
