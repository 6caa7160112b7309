/-
  The statement RunAgain: its walk, out of the contracts. (Printed by gen_runagain.py.)
-/
import Derived.Test.YtefgajojimkdiaaZRunKit
import Derived.Deep.RegionHeld3
namespace Go.Proofs.Ytefgajojimkdiaa
set_option linter.unusedVariables false
set_option linter.unusedSimpArgs false
open Go.RowKit Bw

/-- What the region with cpu.New keeps: an image's cells. -/
def ImS (W : World) (g : Nat) (vW : Value) (st : Int) (w' : World) : Prop := Below W.heap.size W w' ∧ w'.cell? ⟨g, 0, none⟩ = some vW ∧ w'.cell? ⟨g, 1, none⟩ = some (.int .i64 st)
theorem ims_drew {W : World} {g : Nat} {vW : Value} {st : Int} (c0 : W.cell? ⟨g, 0, none⟩ = some vW) (c1 : W.cell? ⟨g, 1, none⟩ = some (.int .i64 st)) : ImS W g vW st W.drew := ⟨(Below.refl _ _).drew, c0, c1⟩
theorem ims_call {W w1 w2 : World} {g : Nat} {vW : Value} {st : Int} (hb : Below w1.heap.size w1 w2) (hg : g < W.heap.size) (h : ImS W g vW st w1) : ImS W g vW st w2 := by
  obtain ⟨h1, h2, h3⟩ := h
  have hg1 := Nat.lt_of_lt_of_le hg h1.size
  exact ⟨h1.trans (hb.mono h1.size), (hb.cell (p := ⟨g, 0, none⟩) hg1).trans h2, (hb.cell (p := ⟨g, 1, none⟩) hg1).trans h3⟩
theorem ims_alloc {W w1 : World} {g : Nat} {vW : Value} {st : Int} (o : Obj) (hg : g < W.heap.size) (h : ImS W g vW st w1) : ImS W g vW st (w1.alloc o) := ims_call ((Below.refl _ _).alloc (Nat.le_refl _) o) hg h

set_option maxRecDepth 100000 in
set_option maxHeartbeats 8000000 in
theorem law27_again (a b : Int) (l : List Int) (st : Int) (n : Nat) (D C : Nat → Int) (s : ByteArray) (vW vM : Value) (w : World) (h : Row .u32 w vW l) (hM : MRow w vM n D C) (hu : ∀ x ∈ l, Mc.W32 x) (hs : s.size ≤ 9223372036854775807)
    (a0 : -9223372036854775808 ≤ a) (a1 : a ≤ 9223372036854775807) (b0 : -9223372036854775808 ≤ b) (b1 : b ≤ 9223372036854775807) :
    Calls Try.prog 11 #[.agg #[vW, .int .i64 st, vM], .string s, .agg #[.int .i64 a, .int .i64 b]] w fun e w' => e = .returned (.bool true) ∧ Below w.heap.size w w' := by
  have LG := fun W hW hM => Lib.hid (law27_large l n D C st vW vM W hW hM)
  have B0 : Below w.heap.size w ((w.alloc (.cells #[vW, .int .i64 st, vM] 68)).alloc (.cells #[.int .i64 a, .int .i64 b] 33)) := ((Below.refl _ _).alloc (Nat.le_refl _) _).alloc (by simp) _
  have R0 := Lib.hid (And.intro h (h.below B0.drew))
  have M0 := Lib.hid (And.intro hM (hM.below B0.drew))
  have I0 : Blk ((w.alloc (.cells #[vW, .int .i64 st, vM] 68)).alloc (.cells #[.int .i64 a, .int .i64 b] 33)) w.heap.size 68 #[vW, .int .i64 st, vM] := (Blk.new w 68 _).alloc _
  have c0 := I0.cell 0
  have c1 := I0.cell 1
  have c2 := I0.cell 2
  simp only [List.getElem?_toArray, List.getElem?_cons_zero, List.getElem?_cons_succ] at c0 c1 c2
  have J0 : Blk ((w.alloc (.cells #[vW, .int .i64 st, vM] 68)).alloc (.cells #[.int .i64 a, .int .i64 b] 33)) (w.heap.size + 1) 33 #[.int .i64 a, .int .i64 b] := by
    have := Blk.new (w.alloc (.cells #[vW, .int .i64 st, vM] 68)) 33 #[.int .i64 a, .int .i64 b]
    rwa [show (w.alloc (.cells #[vW, .int .i64 st, vM] 68)).heap.size = w.heap.size + 1 by simp] at this
  have d0 := J0.cell 0
  have d1 := J0.cell 1
  simp only [List.getElem?_toArray, List.getElem?_cons_zero, List.getElem?_cons_succ] at d0 d1
  have I0 := Lib.hid I0
  have B0 := Lib.hid B0
  have hu := Lib.hid hu
  clear J0 h hM
  by_cases hL : bigImage l.length n = true
  · rw [hL] at LG
    go_enter Try.func11, Try.ntmps11
    go_wp2_with fail
    generalize hW : (w.alloc (.cells #[vW, .int .i64 st, vM] 68)).alloc (.cells #[.int .i64 a, .int .i64 b] 33) = W at *
    clear hW
    (refine region_drew 5 (by kernel_rfl) (by kernel_rfl) ?_; simp only [List.take_succ_cons, List.take_zero, List.drop_succ_cons, List.drop_zero]; (repeat still_step))
    refine wpStill_nil ?_
    go_wp2_with (first | (go_at_call 30; refine (LG _ R0.out.2 M0.out.2).out.mono ?_; rintro e w1 ⟨rfl, hb1⟩))
    have B1 := Lib.hid (B0.out.drew.trans (hb1.mono B0.out.size))
    go_wp2_with (go_at_call 31; refine (law27_wakes _).mono ?_; rintro e w9 ⟨rfl, hb9⟩)
    go_ret
    exact ⟨rfl, B1.out.trans (hb9.mono B1.out.size)⟩
  have hL := Bool.eq_false_iff.2 hL
  rw [hL] at LG
  have hl2 : RowKit.Hid (l.length ≤ 1000000) := Lib.hid (by
    have := of_decide_eq_false hL
    omega)
  clear hL
  by_cases hs4 : (4000 : Int) < s.size
  · go_enter Try.func11, Try.ntmps11
    go_wp2_with fail
    generalize hW : (w.alloc (.cells #[vW, .int .i64 st, vM] 68)).alloc (.cells #[.int .i64 a, .int .i64 b] 33) = W at *
    clear hW
    (refine region_drew 5 (by kernel_rfl) (by kernel_rfl) ?_; simp only [List.take_succ_cons, List.take_zero, List.drop_succ_cons, List.drop_zero]; (repeat still_step))
    refine wpStill_nil ?_
    go_wp2_with (first | (go_at_call 30; refine (LG _ R0.out.2 M0.out.2).out.mono ?_; rintro e w1 ⟨rfl, hb1⟩))
    have B1 := Lib.hid (B0.out.drew.trans (hb1.mono B0.out.size))
    go_wp2_with (go_at_call 31; refine (law27_wakes _).mono ?_; rintro e w9 ⟨rfl, hb9⟩)
    go_ret
    exact ⟨rfl, B1.out.trans (hb9.mono B1.out.size)⟩
  by_cases ha0 : a < 0
  · go_enter Try.func11, Try.ntmps11
    go_wp2_with fail
    generalize hW : (w.alloc (.cells #[vW, .int .i64 st, vM] 68)).alloc (.cells #[.int .i64 a, .int .i64 b] 33) = W at *
    clear hW
    (refine region_drew 5 (by kernel_rfl) (by kernel_rfl) ?_; simp only [List.take_succ_cons, List.take_zero, List.drop_succ_cons, List.drop_zero]; (repeat still_step))
    refine wpStill_nil ?_
    go_wp2_with (first | (go_at_call 30; refine (LG _ R0.out.2 M0.out.2).out.mono ?_; rintro e w1 ⟨rfl, hb1⟩))
    have B1 := Lib.hid (B0.out.drew.trans (hb1.mono B0.out.size))
    go_wp2_with (go_at_call 31; refine (law27_wakes _).mono ?_; rintro e w9 ⟨rfl, hb9⟩)
    go_ret
    exact ⟨rfl, B1.out.trans (hb9.mono B1.out.size)⟩
  by_cases hbz : b < 0
  · go_enter Try.func11, Try.ntmps11
    go_wp2_with fail
    generalize hW : (w.alloc (.cells #[vW, .int .i64 st, vM] 68)).alloc (.cells #[.int .i64 a, .int .i64 b] 33) = W at *
    clear hW
    (refine region_drew 5 (by kernel_rfl) (by kernel_rfl) ?_; simp only [List.take_succ_cons, List.take_zero, List.drop_succ_cons, List.drop_zero]; (repeat still_step))
    refine wpStill_nil ?_
    go_wp2_with (first | (go_at_call 30; refine (LG _ R0.out.2 M0.out.2).out.mono ?_; rintro e w1 ⟨rfl, hb1⟩))
    have B1 := Lib.hid (B0.out.drew.trans (hb1.mono B0.out.size))
    go_wp2_with (go_at_call 31; refine (law27_wakes _).mono ?_; rintro e w9 ⟨rfl, hb9⟩)
    go_ret
    exact ⟨rfl, B1.out.trans (hb9.mono B1.out.size)⟩
  by_cases ha3 : 3000 < a
  · go_enter Try.func11, Try.ntmps11
    go_wp2_with fail
    generalize hW : (w.alloc (.cells #[vW, .int .i64 st, vM] 68)).alloc (.cells #[.int .i64 a, .int .i64 b] 33) = W at *
    clear hW
    (refine region_drew 5 (by kernel_rfl) (by kernel_rfl) ?_; simp only [List.take_succ_cons, List.take_zero, List.drop_succ_cons, List.drop_zero]; (repeat still_step))
    refine wpStill_nil ?_
    go_wp2_with (first | (go_at_call 30; refine (LG _ R0.out.2 M0.out.2).out.mono ?_; rintro e w1 ⟨rfl, hb1⟩))
    have B1 := Lib.hid (B0.out.drew.trans (hb1.mono B0.out.size))
    go_wp2_with (go_at_call 31; refine (law27_wakes _).mono ?_; rintro e w9 ⟨rfl, hb9⟩)
    go_ret
    exact ⟨rfl, B1.out.trans (hb9.mono B1.out.size)⟩
  by_cases hbb : 3000 < b
  · go_enter Try.func11, Try.ntmps11
    go_wp2_with fail
    generalize hW : (w.alloc (.cells #[vW, .int .i64 st, vM] 68)).alloc (.cells #[.int .i64 a, .int .i64 b] 33) = W at *
    clear hW
    (refine region_drew 5 (by kernel_rfl) (by kernel_rfl) ?_; simp only [List.take_succ_cons, List.take_zero, List.drop_succ_cons, List.drop_zero]; (repeat still_step))
    refine wpStill_nil ?_
    go_wp2_with (first | (go_at_call 30; refine (LG _ R0.out.2 M0.out.2).out.mono ?_; rintro e w1 ⟨rfl, hb1⟩))
    have B1 := Lib.hid (B0.out.drew.trans (hb1.mono B0.out.size))
    go_wp2_with (go_at_call 31; refine (law27_wakes _).mono ?_; rintro e w9 ⟨rfl, hb9⟩)
    go_ret
    exact ⟨rfl, B1.out.trans (hb9.mono B1.out.size)⟩
  obtain ⟨A, rfl⟩ := Int.eq_ofNat_of_zero_le (by omega : 0 ≤ a)
  obtain ⟨B, rfl⟩ := Int.eq_ofNat_of_zero_le (by omega : 0 ≤ b)
  have hABw : IntKind.i64.wrap ((A : Int) + (B : Int)) = ((A + B : Nat) : Int) := by rw [IntKind.wrap_i64]; omega
  by_cases hns : Mc.noStart l st s = 0
  · have hcs := cpu_start_any l st s hns
    obtain ⟨X0, hX0⟩ : ∃ X0, Mc.start l st s = X0 := ⟨_, rfl⟩
    have RU := fun W hW => run_run (A + B) l st s vW vM W hW hu.out hns (by omega)
    have CN := fun v W hW => Lib.hid (cpu_new l st s v W hW hu.out hcs.1 hcs.2.1 hcs.2.2.1 hcs.2.2.2)
    simp only [oc_form, MadeCpu] at RU CN
    rw [hX0] at RU CN
    clear hX0 hcs hns
    have ea := Mc.run_add X0 A B
    have hst1 := Mc.steps_le X0 A
    have hst2 := Mc.steps_le (X0.run A) B
    have hss : IntKind.i64.wrap (((X0.steps A : Nat) : Int) + (((X0.run A).steps B : Nat) : Int)) = ((X0.steps (A + B) : Nat) : Int) := by rw [IntKind.wrap_i64, ea.2]; omega
    have RC1 := fun N p mp ap W hm h1 hp ha => Lib.hid (cpu_run_n N A p mp ap (.slice none 0 0) X0 W hm (by omega) h1 hp ha (own_nil _))
    have RC2 := fun N p mp ap ov W hm h1 hp ha ho => Lib.hid (cpu_run_n N B p mp ap ov (X0.run A) W hm (by omega) h1 hp ha ho)
    simp only [oc_form] at RC1 RC2
    rw [ea.1] at RU
    have RU1 := fun W hW => Lib.hid (RU W hW)
    have RU2 := RU1
    have sLe : ((X0.steps A : Nat) : Int) + ((X0.run A).steps B : Nat) ≤ 6000 := by omega
    clear RU ea hst1 hst2
    generalize X0.steps (A + B) = n1 at *
    generalize X0.steps A = k1 at *
    generalize X0.run A = X1 at *
    generalize X1.steps B = k2 at *
    obtain ⟨X2, hX2⟩ : ∃ X2, X1.run B = X2 := ⟨_, rfl⟩
    rw [hX2] at RC2 RU1 RU2
    clear hX2
    go_enter Try.func11, Try.ntmps11
    go_wp2_with fail
    generalize hW : (w.alloc (.cells #[vW, .int .i64 st, vM] 68)).alloc (.cells #[.int .i64 A, .int .i64 B] 33) = W at *
    clear hW
    (refine region_drew 5 (by kernel_rfl) (by kernel_rfl) ?_; simp only [List.take_succ_cons, List.take_zero, List.drop_succ_cons, List.drop_zero]; (repeat still_step))
    refine wpStill_nil ?_
    go_wp2_with (first | (go_at_call 30; refine (LG _ R0.out.2 M0.out.2).out.mono ?_; rintro e w1 ⟨rfl, hb1⟩; have I1 := Lib.hid (I0.out.drew.below hb1 I0.out.lt); clear c0 c1 c2 d0 d1; have c0 := I1.out.cell 0; have c1 := I1.out.cell 1; have c2 := I1.out.cell 2; simp only [List.getElem?_toArray, List.getElem?_cons_zero, List.getElem?_cons_succ] at c0 c1 c2))
    have B1 := Lib.hid (B0.out.drew.trans (hb1.mono B0.out.size))
    have R1 := Lib.hid (R0.out.1.below B1.out)
    have hI1 := I1.out.lt
    clear hb1
    refine (RU1 _ R1.out).out.mono ?_
    rintro e w2 ⟨rfl, hb2⟩
    have I2 := I1.out.below hb2 hI1
    have B2 := B1.out.trans (hb2.mono B1.out.size)
    have B2 := B2.alloc B2.size (.cells #[.int .i64 X2.endv, .int .i64 X2.trap, .string (strOfNums X2.out), .int .i64 n1, .int .i64 X2.read] 28)
    have BO := Blk.new w2 28 #[.int .i64 X2.endv, .int .i64 X2.trap, .string (strOfNums X2.out), .int .i64 n1, .int .i64 X2.read]
    have R2 := Lib.hid (R0.out.1.below B2)
    have B2 := Lib.hid B2
    clear hb2 I1 B1 R1 c0 c1 c2 hI1
    have c0 := I2.cell 0
    have c1 := I2.cell 1
    have c2 := I2.cell 2
    simp only [List.getElem?_toArray, List.getElem?_cons_zero, List.getElem?_cons_succ] at c0 c1 c2
    have zI2 := I2.lt
    have I2 := Lib.hid I2
    have I2w := Lib.hid (I2.out.alloc (.cells #[.int .i64 X2.endv, .int .i64 X2.trap, .string (strOfNums X2.out), .int .i64 n1, .int .i64 X2.read] 28))
    go_wp2_with fail
    generalize hW2 : w2.alloc (.cells #[.int .i64 X2.endv, .int .i64 X2.trap, .string (strOfNums X2.out), .int .i64 n1, .int .i64 X2.read] 28) = W2 at *
    clear hW2
    have zO := BO.lt
    have BO := Lib.hid BO
    refine (RU2 _ R2.out).out.mono ?_
    rintro e w3 ⟨rfl, hb3⟩
    have BO3 := BO.out.below hb3 zO
    have I3 := I2w.out.below hb3 I2w.out.lt
    have B3 := B2.out.trans (hb3.mono B2.out.size)
    have I3b := Lib.hid (I3.alloc (.cells #[.int .i64 X2.endv, .int .i64 X2.trap, .string (strOfNums X2.out), .int .i64 n1, .int .i64 X2.read] 28))
    have BO3b := Lib.hid (BO3.alloc (.cells #[.int .i64 X2.endv, .int .i64 X2.trap, .string (strOfNums X2.out), .int .i64 n1, .int .i64 X2.read] 28))
    have B3b := Lib.hid (B3.alloc B3.size (.cells #[.int .i64 X2.endv, .int .i64 X2.trap, .string (strOfNums X2.out), .int .i64 n1, .int .i64 X2.read] 28))
    have o0 := BO3.cell 0
    have o1 := BO3.cell 1
    have o2 := BO3.cell 2
    have o3 := BO3.cell 3
    have o4 := BO3.cell 4
    simp only [List.getElem?_toArray, List.getElem?_cons_zero, List.getElem?_cons_succ] at o0 o1 o2 o3 o4
    have zO3 := BO3.lt
    clear BO3 hb3 BO I2 I2w B2 c0 c1 c2 zO zI2 I3 B3
    go_wp2_with (go_at_call 27; refine (ref05_same _ _ _ _ _ _).mono ?_; rintro e w4 ⟨rfl, hb4⟩)
    have I4 := Lib.hid (I3b.out.below hb4 I3b.out.lt)
    have BO4 := Lib.hid (BO3b.out.below hb4 BO3b.out.lt)
    have B4 := Lib.hid (B3b.out.trans (hb4.mono B3b.out.size))
    have R4 := Lib.hid (R0.out.1.below B4.out)
    clear hb4 I3b BO3b B3b o0 o1 o2 o3 o4 zO3
    have c0 := I4.out.cell 0
    have c1 := I4.out.cell 1
    simp only [List.getElem?_toArray, List.getElem?_cons_zero, List.getElem?_cons_succ] at c0 c1
    have hg4 := I4.out.lt
    have c0d := ims_drew c0 c1
    go_region_held3 (fun w' => Below w4.heap.size w4 w' ∧ w'.cell? ⟨w.heap.size, 0, none⟩ = some vW ∧ w'.cell? ⟨w.heap.size, 1, none⟩ = some (.int .i64 st))
      (first | exact c0d | exact ims_alloc _ hg4 (by assumption) | exact ims_call hb6 hg4 (by assumption) | exact ims_call hb5 hg4 c0d)
      (first
        | (refine step_clone w4.drew rfl (.tmp 75) (.tmp 77) 32 43 rfl .u32 4 Try.underlying32 clone_u32 (by omega) l _ w4.heap.size rfl rfl rfl R4.out hl2.out ?_; intro g5 c5 w5 ho5 hb5 _ _)
        | (go_at_call 18; refine (CN _ _ (row_of_own ho5)).out.mono ?_; rintro e w6 ⟨p1, mp1, ap1, rfl, hp1, hmp1, hap1, hM1, hb6⟩))
    have S6 := ims_call hb6 hg4 (ims_call hb5 hg4 c0d)
    have B6 := Lib.hid (B4.out.trans (S6.1.mono B4.out.size))
    have B5 := Lib.hid (B4.out.trans ((ims_call hb5 hg4 c0d).1.mono B4.out.size))
    have BO6 := Lib.hid (BO4.out.below S6.1 BO4.out.lt)
    have P1 := Lib.hid (And.intro (Nat.le_trans B5.out.size hp1) (Nat.le_trans B5.out.size hap1))
    have hM1 := Lib.hid hM1
    clear S6 hb5 hb6 ho5 B5 BO4 I4 R4 B4 c0 c1 hp1 hmp1 hap1 hg4 c0d
    go_wp2_with fail
    refine (RC1 w.heap.size p1 mp1 ap1 w6 hM1.out B6.out.size P1.out.1 P1.out.2).out.mono ?_
    rintro e w7 ⟨rfl, ov7, M7, K7, B67, O7⟩
    have BO7 := BO6.out.kept K7 (Others.blk hM1.out BO6.out (by decide) (by decide) (by decide))
    have B7 := B6.out.trans B67
    have BA := Lib.hid (Blk.new w7 28 #[.int .i64 X1.endv, .int .i64 X1.trap, .string (strOfNums X1.out), .int .i64 k1, .int .i64 X1.read])
    have M7b := Lib.hid (M7.alloc (.cells #[.int .i64 X1.endv, .int .i64 X1.trap, .string (strOfNums X1.out), .int .i64 k1, .int .i64 X1.read] 28))
    have BO7b := Lib.hid (BO7.alloc (.cells #[.int .i64 X1.endv, .int .i64 X1.trap, .string (strOfNums X1.out), .int .i64 k1, .int .i64 X1.read] 28))
    have B7b := Lib.hid (B7.alloc B7.size (.cells #[.int .i64 X1.endv, .int .i64 X1.trap, .string (strOfNums X1.out), .int .i64 k1, .int .i64 X1.read] 28))
    have O7 := Lib.hid O7
    clear M7 K7 B67 BO7 B7 hM1 BO6 B6
    go_wp2_with fail
    generalize hW7 : w7.alloc (.cells #[.int .i64 X1.endv, .int .i64 X1.trap, .string (strOfNums X1.out), .int .i64 k1, .int .i64 X1.read] 28) = W7 at *
    clear hW7
    refine (RC2 w.heap.size p1 mp1 ap1 ov7 W7 M7b.out B7b.out.size P1.out.1 P1.out.2 O7.out).out.mono ?_
    rintro e w8 ⟨rfl, ov8, M8, K8, B78, O8⟩
    have BO8 := BO7b.out.kept K8 (Others.blk M7b.out BO7b.out (by decide) (by decide) (by decide))
    have BA8 := BA.out.kept K8 (Others.blk M7b.out BA.out (by decide) (by decide) (by decide))
    have B8 := B7b.out.trans B78
    have B8 := fun o => Lib.hid (B8.alloc B8.size o)
    have o0 := BO8.cell 0
    have o2 := BO8.cell 2
    have o3 := BO8.cell 3
    have a3 := BA8.cell 3
    simp only [List.getElem?_toArray, List.getElem?_cons_zero, List.getElem?_cons_succ] at o0 o2 o3 a3
    have zo := BO8.lt
    have za := BA8.lt
    clear M8 K8 B78 O8 BO8 BA8 M7b BO7b BA B7b
    go_wp2_with (go_at_call 31; refine (law27_wakes _).mono ?_; rintro e w10 ⟨rfl, hb10⟩)
    go_ret
    exact ⟨rfl, (B8 _).out.trans (hb10.mono (B8 _).out.size)⟩
  · have RN := fun (k : Int) W hW => Lib.hid (run_run_none k l st s vW vM W hW hns hs)
    have CNN := fun v W hW => Lib.hid (cpu_new_none l st s v W hW hns hs)
    generalize Mc.noStart l st s = er at *
    have hns' : (er == 0) = false := by rw [beq_eq_false_iff_ne]; exact hns
    go_enter Try.func11, Try.ntmps11
    go_wp2_with fail
    generalize hW : (w.alloc (.cells #[vW, .int .i64 st, vM] 68)).alloc (.cells #[.int .i64 A, .int .i64 B] 33) = W at *
    clear hW
    (refine region_drew 5 (by kernel_rfl) (by kernel_rfl) ?_; simp only [List.take_succ_cons, List.take_zero, List.drop_succ_cons, List.drop_zero]; (repeat still_step))
    refine wpStill_nil ?_
    go_wp2_with (first | (go_at_call 30; refine (LG _ R0.out.2 M0.out.2).out.mono ?_; rintro e w1 ⟨rfl, hb1⟩; have I1 := Lib.hid (I0.out.drew.below hb1 I0.out.lt); clear c0 c1 c2 d0 d1; have c0 := I1.out.cell 0; have c1 := I1.out.cell 1; have c2 := I1.out.cell 2; simp only [List.getElem?_toArray, List.getElem?_cons_zero, List.getElem?_cons_succ] at c0 c1 c2))
    have B1 := Lib.hid (B0.out.drew.trans (hb1.mono B0.out.size))
    have R1 := Lib.hid (R0.out.1.below B1.out)
    have hI1 := I1.out.lt
    clear hb1
    refine (RN _ _ R1.out).out.mono ?_
    rintro e w2 ⟨rfl, hb2⟩
    have I2 := I1.out.below hb2 hI1
    have B2 := B1.out.trans (hb2.mono B1.out.size)
    have B2 := B2.alloc B2.size (.cells #[.int .i64 0, .int .i64 0, .string ⟨#[]⟩, .int .i64 0, .int .i64 0] 28)
    have BO := Blk.new w2 28 #[.int .i64 0, .int .i64 0, .string ⟨#[]⟩, .int .i64 0, .int .i64 0]
    have R2 := Lib.hid (R0.out.1.below B2)
    have B2 := Lib.hid B2
    clear hb2 I1 B1 R1 c0 c1 c2 hI1
    have c0 := I2.cell 0
    have c1 := I2.cell 1
    have c2 := I2.cell 2
    simp only [List.getElem?_toArray, List.getElem?_cons_zero, List.getElem?_cons_succ] at c0 c1 c2
    have zI2 := I2.lt
    have I2 := Lib.hid I2
    have I2w := Lib.hid (I2.out.alloc (.cells #[.int .i64 0, .int .i64 0, .string ⟨#[]⟩, .int .i64 0, .int .i64 0] 28))
    go_wp2_with fail
    generalize hW2 : w2.alloc (.cells #[.int .i64 0, .int .i64 0, .string ⟨#[]⟩, .int .i64 0, .int .i64 0] 28) = W2 at *
    clear hW2
    have zO := BO.lt
    have BO := Lib.hid BO
    refine (RN _ _ R2.out).out.mono ?_
    rintro e w3 ⟨rfl, hb3⟩
    have BO3 := BO.out.below hb3 zO
    have I3 := I2w.out.below hb3 I2w.out.lt
    have B3 := B2.out.trans (hb3.mono B2.out.size)
    have I3b := Lib.hid (I3.alloc (.cells #[.int .i64 0, .int .i64 0, .string ⟨#[]⟩, .int .i64 0, .int .i64 0] 28))
    have BO3b := Lib.hid (BO3.alloc (.cells #[.int .i64 0, .int .i64 0, .string ⟨#[]⟩, .int .i64 0, .int .i64 0] 28))
    have B3b := Lib.hid (B3.alloc B3.size (.cells #[.int .i64 0, .int .i64 0, .string ⟨#[]⟩, .int .i64 0, .int .i64 0] 28))
    have o0 := BO3.cell 0
    have o1 := BO3.cell 1
    have o2 := BO3.cell 2
    have o3 := BO3.cell 3
    have o4 := BO3.cell 4
    simp only [List.getElem?_toArray, List.getElem?_cons_zero, List.getElem?_cons_succ] at o0 o1 o2 o3 o4
    have zO3 := BO3.lt
    clear BO3 hb3 BO I2 I2w B2 c0 c1 c2 zO zI2 I3 B3
    go_wp2_with (go_at_call 27; refine (ref05_same _ _ _ _ _ _).mono ?_; rintro e w4 ⟨rfl, hb4⟩)
    have I4 := Lib.hid (I3b.out.below hb4 I3b.out.lt)
    have BO4 := Lib.hid (BO3b.out.below hb4 BO3b.out.lt)
    have B4 := Lib.hid (B3b.out.trans (hb4.mono B3b.out.size))
    have R4 := Lib.hid (R0.out.1.below B4.out)
    clear hb4 I3b BO3b B3b o0 o1 o2 o3 o4 zO3
    have c0 := I4.out.cell 0
    have c1 := I4.out.cell 1
    simp only [List.getElem?_toArray, List.getElem?_cons_zero, List.getElem?_cons_succ] at c0 c1
    have hg4 := I4.out.lt
    have c0d := ims_drew c0 c1
    go_region_held3 (fun w' => Below w4.heap.size w4 w' ∧ w'.cell? ⟨w.heap.size, 0, none⟩ = some vW ∧ w'.cell? ⟨w.heap.size, 1, none⟩ = some (.int .i64 st))
      (first | exact c0d | exact ims_alloc _ hg4 (by assumption) | exact ims_call hb6 hg4 (by assumption) | exact ims_call hb5 hg4 c0d)
      (first
        | (refine step_clone w4.drew rfl (.tmp 75) (.tmp 77) 32 43 rfl .u32 4 Try.underlying32 clone_u32 (by omega) l _ w4.heap.size rfl rfl rfl R4.out hl2.out ?_; intro g5 c5 w5 ho5 hb5 _ _)
        | (go_at_call 18; refine (CNN _ _ (row_of_own ho5)).out.mono ?_; rintro e w6 ⟨rfl, hb6⟩))
    have S6 := ims_call hb6 hg4 (ims_call hb5 hg4 c0d)
    have B6 := Lib.hid (B4.out.trans (S6.1.mono B4.out.size))
    have B5 := Lib.hid (B4.out.trans ((ims_call hb5 hg4 c0d).1.mono B4.out.size))
    have BO6 := Lib.hid (BO4.out.below S6.1 BO4.out.lt)
    go_wp2_with (go_at_call 31; refine (law27_wakes _).mono ?_; rintro e w10 ⟨rfl, hb10⟩)
    go_ret
    exact ⟨rfl, B6.out.trans (hb10.mono B6.out.size)⟩

end Go.Proofs.Ytefgajojimkdiaa
