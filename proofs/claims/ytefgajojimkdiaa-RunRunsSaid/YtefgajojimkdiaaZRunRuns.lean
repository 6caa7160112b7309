/-
  The statement RunRuns: its walk, out of the contracts. (Printed by gen_runruns.py.)
-/
import Derived.Test.YtefgajojimkdiaaZQKit
import Derived.Test.YtefgajojimkdiaaZQRun
import Derived.Test.YtefgajojimkdiaaZRunKit
import Derived.Test.YtefgajojimkdiaaZKeep
namespace Go.Proofs.Ytefgajojimkdiaa
set_option linter.unusedVariables false
set_option linter.unusedSimpArgs false
open Go.RowKit Bw

/-- What a run of an image comes to, by the program and by the document. -/
theorem runs_any (n : Int) (l : List Int) (st : Int) (s : ByteArray) (hu : ∀ x ∈ l, Mc.W32 x) (hs : s.size ≤ 9223372036854775807) : ∃ (a0 a1 : Int) (t : ByteArray) (a3 a4 er : Int),
    (∀ vW vM W, Row .u32 W vW l → Calls Try.prog 32 #[.agg #[vW, .int .i64 st, vM], .string s, .int .i64 n] W fun e w' => e = .returned (.tuple #[.agg #[.int .i64 a0, .int .i64 a1, .string t, .int .i64 a3, .int .i64 a4], .int .i64 er]) ∧ Below W.heap.size W w') ∧
    (∀ vW vM W, Row .u32 W vW l → Calls Try.prog 33 #[.agg #[vW, .int .i64 st, vM], .string s, .int .i64 n] W fun e w' => e = .returned (.tuple #[.agg #[.int .i64 a0, .int .i64 a1, .string t, .int .i64 a3, .int .i64 a4], .int .i64 er]) ∧ Below W.heap.size W w') := by
  by_cases h0 : Mc.noStart l st s = 0
  · by_cases hn : n < 0 ∨ 4194304 < n
    · exact ⟨0, 0, ⟨#[]⟩, 0, 0, 1, fun vW vM W hW => run_run_bad n l st s vW vM W hW hu h0 hn, fun vW vM W hW => q27_run_bad n l st s vW vM W hW hu h0 hn⟩
    · obtain ⟨k, rfl⟩ := Int.eq_ofNat_of_zero_le (by omega : 0 ≤ n)
      have h1 := fun vW vM W hW => run_run k l st s vW vM W hW hu h0 (by omega)
      have h2 := fun vW vM W hW => q27_run qsteps_all k l st s vW vM W hW hu h0 (by omega)
      simp only [oc_form] at h1 h2
      exact ⟨_, _, _, _, _, _, h1, h2⟩
  · exact ⟨0, 0, ⟨#[]⟩, 0, 0, _, fun vW vM W hW => run_run_none n l st s vW vM W hW h0 hs, fun vW vM W hW => q27_run_none n l st s vW vM W hW h0 hs⟩

set_option maxRecDepth 100000 in
set_option maxHeartbeats 8000000 in
theorem law27_runs (n : Int) (l : List Int) (st : Int) (nm : Nat) (D C : Nat → Int) (s : ByteArray) (vW vM : Value) (w : World) (h : Row .u32 w vW l) (hM : MRow w vM nm D C) (hu : ∀ x ∈ l, Mc.W32 x) (hs : s.size ≤ 9223372036854775807) :
    Calls Try.prog 10 #[.agg #[vW, .int .i64 st, vM], .string s, .int .i64 n] w fun e w' => e = .returned (.bool true) ∧ Below w.heap.size w w' := by
  have LG := fun W hW hM => Lib.hid (law27_large l nm D C st vW vM W hW hM)
  have B0 : Below w.heap.size w (w.alloc (.cells #[vW, .int .i64 st, vM] 68)) := (Below.refl _ _).alloc (Nat.le_refl _) _
  have R0 := Lib.hid (And.intro h (h.below B0))
  have M0 := Lib.hid (And.intro hM (hM.below B0))
  have B0 := Lib.hid B0
  clear h hM
  by_cases hL : bigImage l.length nm = true
  · rw [hL] at LG
    go_enter Try.func10, Try.ntmps10
    go_wp2_with (first | (go_at_call 30; refine (LG _ R0.out.2 M0.out.2).out.mono ?_; rintro e w1 ⟨rfl, hb1⟩) | (go_at_call 31; refine (law27_wakes _).mono ?_; rintro e w9 ⟨rfl, hb9⟩))
    go_ret
    have B1 := B0.out.trans (hb1.mono B0.out.size)
    exact ⟨rfl, B1.trans (hb9.mono B1.size)⟩
  have hL := Bool.eq_false_iff.2 hL
  rw [hL] at LG
  have hl2 : RowKit.Hid (l.length ≤ 1000000) := Lib.hid (by
    have := of_decide_eq_false hL
    omega)
  clear hL
  by_cases hs5 : (5000 : Int) < s.size
  · go_enter Try.func10, Try.ntmps10
    go_wp2_with (first | (go_at_call 30; refine (LG _ R0.out.2 M0.out.2).out.mono ?_; rintro e w1 ⟨rfl, hb1⟩) | (go_at_call 31; refine (law27_wakes _).mono ?_; rintro e w9 ⟨rfl, hb9⟩))
    go_ret
    have B1 := B0.out.trans (hb1.mono B0.out.size)
    exact ⟨rfl, B1.trans (hb9.mono B1.size)⟩
  by_cases hf1 : 20000 < n ∧ n ≤ 4194304
  · obtain ⟨hf2, hf3⟩ := hf1
    go_enter Try.func10, Try.ntmps10
    go_wp2_with (first | (go_at_call 30; refine (LG _ R0.out.2 M0.out.2).out.mono ?_; rintro e w1 ⟨rfl, hb1⟩) | (go_at_call 31; refine (law27_wakes _).mono ?_; rintro e w9 ⟨rfl, hb9⟩))
    go_ret
    have B1 := B0.out.trans (hb1.mono B0.out.size)
    exact ⟨rfl, B1.trans (hb9.mono B1.size)⟩
  obtain ⟨a0, a1, t, a3, a4, er, RP, RQ⟩ := runs_any n l st s hu hs
  have RP := fun vW vM W hW => Lib.hid (RP vW vM W hW)
  have RQ := fun vW vM W hW => Lib.hid (RQ vW vM W hW)
  have hf : ¬ 20000 < n ∨ 20000 < n ∧ ¬ n ≤ 4194304 := by omega
  have KW := fun v u W hv hu => Lib.hid (keep_words v u l l W hv hu)
  rw [decide_eq_true rfl] at KW
  clear hu hf1
  obtain ⟨_, A, cw, hvW, _⟩ := R0.out.1
  subst hvW
  obtain ⟨_, A2, cm, hvM, _⟩ := M0.out.1
  subst hvM
  rcases hf with hf | ⟨hf, hf3⟩
  · go_enter Try.func10, Try.ntmps10
    go_wp2_with fail
    refine (LG _ R0.out.2 M0.out.2).out.mono ?_
    rintro e w1 ⟨rfl, hb1⟩
    have B1 := B0.out.trans (hb1.mono B0.out.size)
    have R1 := R0.out.1.below B1
    have I1 := (Blk.new w 68 #[.slice A l.length cw, .int .i64 st, .slice A2 nm cm]).below hb1 (by simp)
    have B1 := Lib.hid B1
    have c0 := I1.cell 0
    have c1 := I1.cell 1
    have c2 := I1.cell 2
    simp only [List.getElem?_toArray, List.getElem?_cons_zero, List.getElem?_cons_succ] at c0 c1 c2
    have z1 := I1.lt
    have I1 := Lib.hid I1
    have R1 := Lib.hid R1
    clear hb1
    go_wp2_with (at_builtin; refine wpList_clone_at (w1.alloc (.cells #[.slice A l.length cw, .int .i64 st, .slice A2 nm cm] 68)) rfl (.tmp 29) (.tmp 31) 32 43 rfl .u32 4 Try.underlying32 clone_u32 (by omega) l _ _ (by simp) rfl rfl (R1.out.below ((Below.refl _ _).alloc (Nat.le_refl _) _)) hl2.out ?_; intro g c w2 ho2 hb2 hg2 hg2b; have J2 := (Blk.new w1 68 #[.slice A l.length cw, .int .i64 st, .slice A2 nm cm]).below hb2 (by simp); have j0 := J2.cell 0; have j1 := J2.cell 1; have j2 := J2.cell 2; have f0 := J2.frozen 0; simp only [List.getElem?_toArray, List.getElem?_cons_zero, List.getElem?_cons_succ] at j0 j1 j2)
    have I2 := (I1.out.alloc (.cells #[.slice A l.length cw, .int .i64 st, .slice A2 nm cm] 68)).below hb2 (by simp; omega)
    have B2 := (B1.out.alloc B1.out.size (.cells #[.slice A l.length cw, .int .i64 st, .slice A2 nm cm] 68)).trans (hb2.mono (by have := B1.out.size; simp; omega))
    have B3 := B2.setCell (p := ⟨w1.heap.size, 0, none⟩) B1.out.size (.slice (some ⟨g, 0, none⟩) l.length c)
    have J3 := J2.set_ 0 (.slice (some ⟨g, 0, none⟩) l.length c)
    have I3 := I2.far (p := ⟨w1.heap.size, 0, none⟩) (Nat.ne_of_lt z1) (.slice (some ⟨g, 0, none⟩) l.length c)
    have hgj0 : g ≠ w1.heap.size := by simp at hg2; omega
    have N3 := row_of_own (own_kept ho2 (Kept.cell_ w2 w1.heap.size 0 (.slice (some ⟨g, 0, none⟩) l.length c)) (by intro b hb; injection hb with hb; rw [← hb]; exact hgj0))
    have R3 := R0.out.1.below B3
    clear I1 R1 B1 z1 c0 c1 c2 ho2 hb2 hg2 hg2b j0 j1 j2 f0 I2 B2 J2
    generalize hW3 : w2.setCell ⟨w1.heap.size, 0, none⟩ (.slice (some ⟨g, 0, none⟩) l.length c) = W3 at *
    clear hW3
    generalize hgj : w1.heap.size = gj at *
    clear hgj hgj0
    refine (RP _ _ _ N3).out.mono ?_
    rintro e w4 ⟨rfl, hb4⟩
    have I4 := I3.below hb4 I3.lt
    have J4 := J3.below hb4 J3.lt
    have B4 := B3.trans (hb4.mono B3.size)
    have N4 := N3.below hb4
    have R4 := R3.below hb4
    have BO4 := Blk.new w4 28 #[.int .i64 a0, .int .i64 a1, .string t, .int .i64 a3, .int .i64 a4]
    have A4 : Below w4.heap.size w4 (w4.alloc (.cells #[.int .i64 a0, .int .i64 a1, .string t, .int .i64 a3, .int .i64 a4] 28)) := (Below.refl _ _).alloc (Nat.le_refl _) _
    have R5 := Lib.hid (R4.below A4)
    have N5 := Lib.hid (N4.below A4)
    have I5 := I4.alloc (.cells #[.int .i64 a0, .int .i64 a1, .string t, .int .i64 a3, .int .i64 a4] 28)
    have J5 := Lib.hid (J4.alloc (.cells #[.int .i64 a0, .int .i64 a1, .string t, .int .i64 a3, .int .i64 a4] 28))
    have B5 := Lib.hid (B4.trans (A4.mono B4.size))
    clear hb4 I3 J3 B3 N3 R3 I4 J4 B4 N4 R4 A4
    have c0 := I5.cell 0
    have c1 := I5.cell 1
    have c2 := I5.cell 2
    simp only [List.getElem?_toArray, List.getElem?_cons_zero, List.getElem?_cons_succ] at c0 c1 c2
    have I5 := Lib.hid I5
    have BO4 := Lib.hid BO4
    go_wp2_with fail
    generalize hW5 : w4.alloc (.cells #[.int .i64 a0, .int .i64 a1, .string t, .int .i64 a3, .int .i64 a4] 28) = W5 at *
    clear hW5
    generalize hgo : w4.heap.size = go at *
    clear hgo
    refine (RQ _ _ _ R5.out).out.mono ?_
    rintro e w6 ⟨rfl, hb6⟩
    have I6 := I5.out.below hb6 I5.out.lt
    have J6 := J5.out.below hb6 J5.out.lt
    have O6 := BO4.out.below hb6 BO4.out.lt
    have B6 := Lib.hid (B5.out.trans (hb6.mono B5.out.size))
    have R6 := Lib.hid (R5.out.below hb6)
    have N6 := Lib.hid (N5.out.below hb6)
    clear c0 c1 c2 hb6 I5 J5 BO4 B5 R5 N5
    have o0 := O6.cell 0
    have o1 := O6.cell 1
    have o2 := O6.cell 2
    have o3 := O6.cell 3
    have o4 := O6.cell 4
    have i0 := I6.cell 0
    have j0 := J6.cell 0
    simp only [List.setIfInBounds_toArray, List.set_cons_zero, List.getElem?_toArray, List.getElem?_cons_zero, List.getElem?_cons_succ] at o0 o1 o2 o3 o4 i0 j0
    have zo := O6.lt
    have zi := I6.lt
    have zj := J6.lt
    have I6 := Lib.hid I6
    have J6 := Lib.hid J6
    clear O6
    have A6 : Below w6.heap.size w6 (w6.alloc (.cells #[.int .i64 a0, .int .i64 a1, .string t, .int .i64 a3, .int .i64 a4] 28)) := (Below.refl _ _).alloc (Nat.le_refl _) _
    have A6 := Lib.hid A6
    go_wp2_with (first | (go_at_call 27; refine (ref05_same _ _ _ _ _ _).mono ?_; rintro e w7 ⟨rfl, hb7⟩; have D7 := A6.out.trans (hb7.mono A6.out.size); have I7 := I6.out.below D7 zi; have J7 := J6.out.below D7 zj; have i0 := I7.cell 0; have j0 := J7.cell 0; simp only [List.setIfInBounds_toArray, List.set_cons_zero, List.getElem?_toArray, List.getElem?_cons_zero, List.getElem?_cons_succ] at i0 j0) | (go_at_call 25; refine (KW _ _ _ (N6.out.below D7) (R6.out.below D7)).out.mono ?_; rintro e w8 ⟨rfl, hb8⟩) | (go_at_call 31; refine (law27_wakes _).mono ?_; rintro e w9 ⟨rfl, hb9⟩))
    go_ret
    have B7 := B6.out.trans (D7.mono B6.out.size)
    have B8 := B7.trans (hb8.to_below (B := w.heap.size) (fun _ _ => trivial))
    exact ⟨rfl, B8.trans (hb9.mono B8.size)⟩
  · go_enter Try.func10, Try.ntmps10
    go_wp2_with fail
    refine (LG _ R0.out.2 M0.out.2).out.mono ?_
    rintro e w1 ⟨rfl, hb1⟩
    have B1 := B0.out.trans (hb1.mono B0.out.size)
    have R1 := R0.out.1.below B1
    have I1 := (Blk.new w 68 #[.slice A l.length cw, .int .i64 st, .slice A2 nm cm]).below hb1 (by simp)
    have B1 := Lib.hid B1
    have c0 := I1.cell 0
    have c1 := I1.cell 1
    have c2 := I1.cell 2
    simp only [List.getElem?_toArray, List.getElem?_cons_zero, List.getElem?_cons_succ] at c0 c1 c2
    have z1 := I1.lt
    have I1 := Lib.hid I1
    have R1 := Lib.hid R1
    clear hb1
    go_wp2_with (at_builtin; refine wpList_clone_at (w1.alloc (.cells #[.slice A l.length cw, .int .i64 st, .slice A2 nm cm] 68)) rfl (.tmp 29) (.tmp 31) 32 43 rfl .u32 4 Try.underlying32 clone_u32 (by omega) l _ _ (by simp) rfl rfl (R1.out.below ((Below.refl _ _).alloc (Nat.le_refl _) _)) hl2.out ?_; intro g c w2 ho2 hb2 hg2 hg2b; have J2 := (Blk.new w1 68 #[.slice A l.length cw, .int .i64 st, .slice A2 nm cm]).below hb2 (by simp); have j0 := J2.cell 0; have j1 := J2.cell 1; have j2 := J2.cell 2; have f0 := J2.frozen 0; simp only [List.getElem?_toArray, List.getElem?_cons_zero, List.getElem?_cons_succ] at j0 j1 j2)
    have I2 := (I1.out.alloc (.cells #[.slice A l.length cw, .int .i64 st, .slice A2 nm cm] 68)).below hb2 (by simp; omega)
    have B2 := (B1.out.alloc B1.out.size (.cells #[.slice A l.length cw, .int .i64 st, .slice A2 nm cm] 68)).trans (hb2.mono (by have := B1.out.size; simp; omega))
    have B3 := B2.setCell (p := ⟨w1.heap.size, 0, none⟩) B1.out.size (.slice (some ⟨g, 0, none⟩) l.length c)
    have J3 := J2.set_ 0 (.slice (some ⟨g, 0, none⟩) l.length c)
    have I3 := I2.far (p := ⟨w1.heap.size, 0, none⟩) (Nat.ne_of_lt z1) (.slice (some ⟨g, 0, none⟩) l.length c)
    have hgj0 : g ≠ w1.heap.size := by simp at hg2; omega
    have N3 := row_of_own (own_kept ho2 (Kept.cell_ w2 w1.heap.size 0 (.slice (some ⟨g, 0, none⟩) l.length c)) (by intro b hb; injection hb with hb; rw [← hb]; exact hgj0))
    have R3 := R0.out.1.below B3
    clear I1 R1 B1 z1 c0 c1 c2 ho2 hb2 hg2 hg2b j0 j1 j2 f0 I2 B2 J2
    generalize hW3 : w2.setCell ⟨w1.heap.size, 0, none⟩ (.slice (some ⟨g, 0, none⟩) l.length c) = W3 at *
    clear hW3
    generalize hgj : w1.heap.size = gj at *
    clear hgj hgj0
    refine (RP _ _ _ N3).out.mono ?_
    rintro e w4 ⟨rfl, hb4⟩
    have I4 := I3.below hb4 I3.lt
    have J4 := J3.below hb4 J3.lt
    have B4 := B3.trans (hb4.mono B3.size)
    have N4 := N3.below hb4
    have R4 := R3.below hb4
    have BO4 := Blk.new w4 28 #[.int .i64 a0, .int .i64 a1, .string t, .int .i64 a3, .int .i64 a4]
    have A4 : Below w4.heap.size w4 (w4.alloc (.cells #[.int .i64 a0, .int .i64 a1, .string t, .int .i64 a3, .int .i64 a4] 28)) := (Below.refl _ _).alloc (Nat.le_refl _) _
    have R5 := Lib.hid (R4.below A4)
    have N5 := Lib.hid (N4.below A4)
    have I5 := I4.alloc (.cells #[.int .i64 a0, .int .i64 a1, .string t, .int .i64 a3, .int .i64 a4] 28)
    have J5 := Lib.hid (J4.alloc (.cells #[.int .i64 a0, .int .i64 a1, .string t, .int .i64 a3, .int .i64 a4] 28))
    have B5 := Lib.hid (B4.trans (A4.mono B4.size))
    clear hb4 I3 J3 B3 N3 R3 I4 J4 B4 N4 R4 A4
    have c0 := I5.cell 0
    have c1 := I5.cell 1
    have c2 := I5.cell 2
    simp only [List.getElem?_toArray, List.getElem?_cons_zero, List.getElem?_cons_succ] at c0 c1 c2
    have I5 := Lib.hid I5
    have BO4 := Lib.hid BO4
    go_wp2_with fail
    generalize hW5 : w4.alloc (.cells #[.int .i64 a0, .int .i64 a1, .string t, .int .i64 a3, .int .i64 a4] 28) = W5 at *
    clear hW5
    generalize hgo : w4.heap.size = go at *
    clear hgo
    refine (RQ _ _ _ R5.out).out.mono ?_
    rintro e w6 ⟨rfl, hb6⟩
    have I6 := I5.out.below hb6 I5.out.lt
    have J6 := J5.out.below hb6 J5.out.lt
    have O6 := BO4.out.below hb6 BO4.out.lt
    have B6 := Lib.hid (B5.out.trans (hb6.mono B5.out.size))
    have R6 := Lib.hid (R5.out.below hb6)
    have N6 := Lib.hid (N5.out.below hb6)
    clear c0 c1 c2 hb6 I5 J5 BO4 B5 R5 N5
    have o0 := O6.cell 0
    have o1 := O6.cell 1
    have o2 := O6.cell 2
    have o3 := O6.cell 3
    have o4 := O6.cell 4
    have i0 := I6.cell 0
    have j0 := J6.cell 0
    simp only [List.setIfInBounds_toArray, List.set_cons_zero, List.getElem?_toArray, List.getElem?_cons_zero, List.getElem?_cons_succ] at o0 o1 o2 o3 o4 i0 j0
    have zo := O6.lt
    have zi := I6.lt
    have zj := J6.lt
    have I6 := Lib.hid I6
    have J6 := Lib.hid J6
    clear O6
    have A6 : Below w6.heap.size w6 (w6.alloc (.cells #[.int .i64 a0, .int .i64 a1, .string t, .int .i64 a3, .int .i64 a4] 28)) := (Below.refl _ _).alloc (Nat.le_refl _) _
    have A6 := Lib.hid A6
    go_wp2_with (first | (go_at_call 27; refine (ref05_same _ _ _ _ _ _).mono ?_; rintro e w7 ⟨rfl, hb7⟩; have D7 := A6.out.trans (hb7.mono A6.out.size); have I7 := I6.out.below D7 zi; have J7 := J6.out.below D7 zj; have i0 := I7.cell 0; have j0 := J7.cell 0; simp only [List.setIfInBounds_toArray, List.set_cons_zero, List.getElem?_toArray, List.getElem?_cons_zero, List.getElem?_cons_succ] at i0 j0) | (go_at_call 25; refine (KW _ _ _ (N6.out.below D7) (R6.out.below D7)).out.mono ?_; rintro e w8 ⟨rfl, hb8⟩) | (go_at_call 31; refine (law27_wakes _).mono ?_; rintro e w9 ⟨rfl, hb9⟩))
    go_ret
    have B7 := B6.out.trans (D7.mono B6.out.size)
    have B8 := B7.trans (hb8.to_below (B := w.heap.size) (fun _ _ => trivial))
    exact ⟨rfl, B8.trans (hb9.mono B8.size)⟩

end Go.Proofs.Ytefgajojimkdiaa
