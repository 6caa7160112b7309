/-
  The statement CpuPieces: its walk, out of the contracts. (Printed by gen_pieces.py.)
-/
import Derived.Test.YtefgajojimkdiaaZCpuKit
namespace Go.Proofs.Ytefgajojimkdiaa
set_option linter.unusedVariables false
set_option linter.unusedSimpArgs false
open Go.RowKit Bw

set_option maxRecDepth 100000 in
set_option maxHeartbeats 8000000 in
theorem law05_pieces (a b : Int) (l : List Int) (s : ByteArray) (v : Value) (w : World) (h : Row .u32 w v l) (hu : ∀ x ∈ l, Mc.W32 x) (hs : s.size ≤ 9223372036854775807)
    (a0 : -9223372036854775808 ≤ a) (a1 : a ≤ 9223372036854775807) (b0 : -9223372036854775808 ≤ b) (b1 : b ≤ 9223372036854775807) :
    Calls Try.prog 4 #[v, .string s, .agg #[.int .i64 a, .int .i64 b]] w fun e w' => e = .returned (.bool true) ∧ Below w.heap.size w w' := by
  have h' := Lib.hid h
  have LG := fun W hW => Lib.hid (law05_large l v W hW)
  have B0 : Below w.heap.size w (w.alloc (.cells #[.int .i64 a, .int .i64 b] 33)) := (Below.refl _ _).alloc (Nat.le_refl _) _
  have hu := Lib.hid hu
  clear h
  by_cases hL : decide (3000 < l.length ∧ l.length ≤ 65536 ∨ 70000 < l.length) = true
  · rw [hL] at LG
    go_enter Try.func4, Try.ntmps4
    go_wp2_with fail
    (refine region_drew 5 (by kernel_rfl) (by kernel_rfl) ?_; simp only [List.take_succ_cons, List.take_zero, List.drop_succ_cons, List.drop_zero]; (repeat still_step))
    refine wpStill_nil ?_
    go_wp2_with (first | (go_at_call 17; refine (LG _ (h'.out.below B0.drew)).out.mono ?_; rintro e w1 ⟨rfl, rfl⟩) | (go_at_call 15; refine (law05_wakes _).mono ?_; rintro e w9 ⟨rfl, hb9⟩))
    go_ret
    exact ⟨rfl, B0.drew.trans (hb9.mono B0.size)⟩
  have hL := Bool.eq_false_iff.2 hL
  rw [hL] at LG
  have hl2 : l.length ≤ 1000000 := by
    have := of_decide_eq_false hL
    omega
  clear hL
  by_cases hs4 : (4000 : Int) < s.size
  · go_enter Try.func4, Try.ntmps4
    go_wp2_with fail
    (refine region_drew 5 (by kernel_rfl) (by kernel_rfl) ?_; simp only [List.take_succ_cons, List.take_zero, List.drop_succ_cons, List.drop_zero]; (repeat still_step))
    refine wpStill_nil ?_
    go_wp2_with (first | (go_at_call 17; refine (LG _ (h'.out.below B0.drew)).out.mono ?_; rintro e w1 ⟨rfl, rfl⟩) | (go_at_call 15; refine (law05_wakes _).mono ?_; rintro e w9 ⟨rfl, hb9⟩))
    go_ret
    exact ⟨rfl, B0.drew.trans (hb9.mono B0.size)⟩
  by_cases ha0 : a < 0
  · go_enter Try.func4, Try.ntmps4
    go_wp2_with fail
    (refine region_drew 5 (by kernel_rfl) (by kernel_rfl) ?_; simp only [List.take_succ_cons, List.take_zero, List.drop_succ_cons, List.drop_zero]; (repeat still_step))
    refine wpStill_nil ?_
    go_wp2_with (first | (go_at_call 17; refine (LG _ (h'.out.below B0.drew)).out.mono ?_; rintro e w1 ⟨rfl, rfl⟩) | (go_at_call 15; refine (law05_wakes _).mono ?_; rintro e w9 ⟨rfl, hb9⟩))
    go_ret
    exact ⟨rfl, B0.drew.trans (hb9.mono B0.size)⟩
  by_cases hbz : b < 0
  · go_enter Try.func4, Try.ntmps4
    go_wp2_with fail
    (refine region_drew 5 (by kernel_rfl) (by kernel_rfl) ?_; simp only [List.take_succ_cons, List.take_zero, List.drop_succ_cons, List.drop_zero]; (repeat still_step))
    refine wpStill_nil ?_
    go_wp2_with (first | (go_at_call 17; refine (LG _ (h'.out.below B0.drew)).out.mono ?_; rintro e w1 ⟨rfl, rfl⟩) | (go_at_call 15; refine (law05_wakes _).mono ?_; rintro e w9 ⟨rfl, hb9⟩))
    go_ret
    exact ⟨rfl, B0.drew.trans (hb9.mono B0.size)⟩
  by_cases ha2 : 20000 < a
  · go_enter Try.func4, Try.ntmps4
    go_wp2_with fail
    (refine region_drew 5 (by kernel_rfl) (by kernel_rfl) ?_; simp only [List.take_succ_cons, List.take_zero, List.drop_succ_cons, List.drop_zero]; (repeat still_step))
    refine wpStill_nil ?_
    go_wp2_with (first | (go_at_call 17; refine (LG _ (h'.out.below B0.drew)).out.mono ?_; rintro e w1 ⟨rfl, rfl⟩) | (go_at_call 15; refine (law05_wakes _).mono ?_; rintro e w9 ⟨rfl, hb9⟩))
    go_ret
    exact ⟨rfl, B0.drew.trans (hb9.mono B0.size)⟩
  by_cases hbb : 20000 < b
  · go_enter Try.func4, Try.ntmps4
    go_wp2_with fail
    (refine region_drew 5 (by kernel_rfl) (by kernel_rfl) ?_; simp only [List.take_succ_cons, List.take_zero, List.drop_succ_cons, List.drop_zero]; (repeat still_step))
    refine wpStill_nil ?_
    go_wp2_with (first | (go_at_call 17; refine (LG _ (h'.out.below B0.drew)).out.mono ?_; rintro e w1 ⟨rfl, rfl⟩) | (go_at_call 15; refine (law05_wakes _).mono ?_; rintro e w9 ⟨rfl, hb9⟩))
    go_ret
    exact ⟨rfl, B0.drew.trans (hb9.mono B0.size)⟩
  have hs5 : s.size ≤ 4096 := by omega
  have hsi : (s.size : Int) ≤ 4000 := by omega
  obtain ⟨A, rfl⟩ := Int.eq_ofNat_of_zero_le (by omega : 0 ≤ a)
  obtain ⟨B, rfl⟩ := Int.eq_ofNat_of_zero_le (by omega : 0 ≤ b)
  have hl2 := Lib.hid hl2
  have hs5 := Lib.hid hs5
  by_cases hmany : 65536 < l.length
  · have NS : Mc.noStart l 0 s = 3 := by rw [Mc.noStart, if_pos hmany]
    have hsz : s.size ≤ 9223372036854775807 := hs
    have NS := Lib.hid NS
    clear hmany
    go_enter Try.func4, Try.ntmps4
    go_wp2_with fail
    (refine region_drew 5 (by kernel_rfl) (by kernel_rfl) ?_; simp only [List.take_succ_cons, List.take_zero, List.drop_succ_cons, List.drop_zero]; (repeat still_step))
    refine wpStill_nil ?_
    go_wp2_with (first | (go_at_call 17; refine (LG _ (h'.out.below B0.drew)).out.mono ?_; rintro e w1 ⟨rfl, rfl⟩) | (at_builtin; refine wpList_clone_at (w.alloc (.cells #[.int .i64 A, .int .i64 B] 33)).drew rfl (.tmp 48) (.tmp 49) 32 43 rfl .u32 4 Try.underlying32 clone_u32 (by omega) l _ _ (by simp) rfl rfl (h'.out.below B0.drew) hl2.out ?_; intro g1 c1 w2 ho2 hb2 hg2 hg2b))
    have B2 := Lib.hid (B0.drew.trans (hb2.mono B0.drew.size))
    refine (cpu_new_none l 0 s _ w2 (row_of_own ho2) (by rw [NS.out]; decide) hs).mono ?_
    rintro e w3 ⟨rfl, hb3⟩
    rw [NS.out]
    have B3 := Lib.hid (B2.out.trans (hb3.mono B2.out.size))
    have R3 := Lib.hid (h'.out.below B3.out)
    clear hb2 hb3 ho2 B2
    go_wp2_with (at_builtin; refine wpList_clone_at w3 rfl (.tmp 56) (.tmp 57) 32 43 rfl .u32 4 Try.underlying32 clone_u32 (by omega) l _ _ (by simp) rfl rfl R3.out hl2.out ?_; intro g4 c4 w4 ho4 hb4 hg4 hg4b)
    have B4 := Lib.hid (B3.out.trans (hb4.mono B3.out.size))
    refine (cpu_new_none l 0 s _ w4 (row_of_own ho4) (by rw [NS.out]; decide) hs).mono ?_
    rintro e w5 ⟨rfl, hb5⟩
    rw [NS.out]
    have B5 := Lib.hid (B4.out.trans (hb5.mono B4.out.size))
    clear hb4 hb5 ho4 B4 R3 B3
    go_wp2_with (go_at_call 15; refine (law05_wakes _).mono ?_; rintro e w9 ⟨rfl, hb9⟩)
    go_ret
    exact ⟨rfl, B5.out.trans (hb9.mono B5.out.size)⟩
  have hl5 : l.length ≤ 65536 := by omega
  have hl5 := Lib.hid hl5
  clear hmany
  go_enter Try.func4, Try.ntmps4
  go_wp2_with fail
  (refine region_drew 5 (by kernel_rfl) (by kernel_rfl) ?_; simp only [List.take_succ_cons, List.take_zero, List.drop_succ_cons, List.drop_zero]; (repeat still_step))
  refine wpStill_nil ?_
  go_wp2_with (first | (go_at_call 17; refine (LG _ (h'.out.below B0.drew)).out.mono ?_; rintro e w1 ⟨rfl, rfl⟩) | (at_builtin; refine wpList_clone_at (w.alloc (.cells #[.int .i64 A, .int .i64 B] 33)).drew rfl (.tmp 48) (.tmp 49) 32 43 rfl .u32 4 Try.underlying32 clone_u32 (by omega) l _ _ (by simp) rfl rfl (h'.out.below B0.drew) hl2.out ?_; intro g1 c1 w2 ho2 hb2 hg2 hg2b))
  have B2 := Lib.hid (B0.drew.trans (hb2.mono B0.drew.size))
  refine (cpu_new l 0 s _ w2 (row_of_own ho2) hu.out hl5.out hs5.out (by decide) (by omega)).mono ?_
  rintro e w3 ⟨p1, mp1, ap1, rfl, hp1, hmp1, hap1, hM1, hb3⟩
  have P1 := Lib.hid (And.intro (Nat.le_trans B2.out.size hp1) (Nat.le_trans B2.out.size hap1))
  have B3 := Lib.hid (B2.out.trans (hb3.mono B2.out.size))
  have R3 := Lib.hid (h'.out.below B3.out)
  have hM1 := Lib.hid hM1
  clear hb2 hb3 ho2 B2 hp1 hmp1 hap1
  go_wp2_with (at_builtin; refine wpList_clone_at w3 rfl (.tmp 56) (.tmp 57) 32 43 rfl .u32 4 Try.underlying32 clone_u32 (by omega) l _ _ (by simp) rfl rfl R3.out hl2.out ?_; intro g4 c4 w4 ho4 hb4 hg4 hg4b)
  have B4 := Lib.hid (B3.out.trans (hb4.mono B3.out.size))
  refine (cpu_new l 0 s _ w4 (row_of_own ho4) hu.out hl5.out hs5.out (by decide) (by omega)).mono ?_
  rintro e w5 ⟨p2, mp2, ap2, rfl, hp2, hmp2, hap2, hM2, hb5⟩
  have hM14 := hM1.out.below hb4
  have P2 := Lib.hid (And.intro (Nat.le_trans B4.out.size hp2) (Nat.le_trans B4.out.size hap2))
  have hne : p2 ≠ p1 ∧ ap2 ≠ ap1 := ⟨fun e => by have := hM14.blk.lt; omega, fun e => by have := hM14.mem.2.lt; omega⟩
  have hne := Lib.hid hne
  have M1 := Lib.hid (hM14.below hb5)
  have M2 := Lib.hid hM2
  have B5 := Lib.hid (B4.out.trans (hb5.mono B4.out.size))
  clear hb4 hb5 ho4 B4 R3 B3 hp2 hmp2 hap2 hM14 hM2 hM1 hu hl5 hs5 LG
  obtain ⟨X0, hX0⟩ : ∃ X0, Mc.start l 0 s = X0 := ⟨_, rfl⟩
  rw [hX0] at M1 M2
  clear hX0
  have ea := Mc.run_add X0 A B
  have hst1 := Mc.steps_le X0 A
  have hst2 := Mc.steps_le (X0.run A) B
  have hbg := Lib.hid (begins_goes (Mc.goes_run (X0.run A) B))
  have hend := fun h => endv_stays (X0.run A) B h
  have hAB : IntKind.i64.wrap ((A : Int) + (B : Int)) = ((A + B : Nat) : Int) := by rw [IntKind.wrap_i64]; omega
  have hA4 : (A : Int) ≤ 4194304 := by omega
  have hB4 : (B : Int) ≤ 4194304 := by omega
  have hAB4 : ((A + B : Nat) : Int) ≤ 4194304 := by omega
  have s1A : ((X0.steps A : Nat) : Int) ≤ (A : Int) := by omega
  have hss : IntKind.i64.wrap (((X0.steps A : Nat) : Int) + (((X0.run A).steps B : Nat) : Int)) = ((X0.steps (A + B) : Nat) : Int) := by rw [IntKind.wrap_i64, ea.2]; omega
  have RU1 := fun W hm h1 => Lib.hid (cpu_run_n w.heap.size A p1 mp1 ap1 (.slice none 0 0) X0 W hm hA4 h1 P1.out.1 P1.out.2 (own_nil _))
  have RU2 := fun ov W hm h1 ho => Lib.hid (cpu_run_n w.heap.size B p1 mp1 ap1 ov (X0.run A) W hm hB4 h1 P1.out.1 P1.out.2 ho)
  have RU3 := fun W hm h1 => Lib.hid (cpu_run_n w.heap.size (A + B) p2 mp2 ap2 (.slice none 0 0) X0 W hm hAB4 h1 P2.out.1 P2.out.2 (own_nil _))
  simp only [oc_form] at RU1 RU2 RU3
  rw [ea.1] at RU3
  have hst0 : X0.steps (A + B) = X0.steps A + (X0.run A).steps B := ea.2
  clear ea hst1 hst2
  have hendh := Lib.hid hend
  clear hend
  generalize X0.run A = X1 at *
  generalize X0.steps A = n1 at *
  generalize X0.steps (A + B) = n3 at *
  generalize X1.steps B = n2 at *
  have hst0h := Lib.hid hst0
  clear hst0
  go_wp2_with fail
  refine (RU1 w5 M1.out B5.out.size).out.mono ?_
  rintro e w6 ⟨rfl, ov6, M1a, K6, B56, O6⟩
  have M2a := Others.mach M1.out M2.out hne.out.1 hne.out.2 K6
  have B6 := B5.out.trans (B56.mono (Nat.le_refl _))
  have BO := Lib.hid (Blk.new w6 28 #[.int .i64 X1.endv, .int .i64 X1.trap, .string (strOfNums X1.out), .int .i64 n1, .int .i64 X1.read])
  have M1b := Lib.hid (M1a.alloc (.cells #[.int .i64 X1.endv, .int .i64 X1.trap, .string (strOfNums X1.out), .int .i64 n1, .int .i64 X1.read] 28))
  have M2b := Lib.hid (M2a.alloc (.cells #[.int .i64 X1.endv, .int .i64 X1.trap, .string (strOfNums X1.out), .int .i64 n1, .int .i64 X1.read] 28))
  have B6b := Lib.hid (B6.alloc B6.size (.cells #[.int .i64 X1.endv, .int .i64 X1.trap, .string (strOfNums X1.out), .int .i64 n1, .int .i64 X1.read] 28))
  have O6 := Lib.hid O6
  have hO1 : X1.out.length ≤ 4096 := M1a.ok.ol
  clear M1a M2a K6 B56 B6 RU1 M1 M2 B5
  go_wp2_with fail
  generalize hW6 : w6.alloc (.cells #[.int .i64 X1.endv, .int .i64 X1.trap, .string (strOfNums X1.out), .int .i64 n1, .int .i64 X1.read] 28) = W6 at *
  clear hW6
  refine (RU2 ov6 W6 M1b.out B6b.out.size O6.out).out.mono ?_
  rintro e w7 ⟨rfl, ov7, M1c, K7, B67, O7⟩
  have M2c := Others.mach M1b.out M2b.out hne.out.1 hne.out.2 K7
  have BO7 := BO.out.kept K7 (Others.blk M1b.out BO.out (by decide) (by decide) (by decide))
  have B7 := B6b.out.trans (B67.mono (Nat.le_refl _))
  obtain ⟨X2, hX2⟩ : ∃ X2, X1.run B = X2 := ⟨_, rfl⟩
  rw [hX2] at M1c hbg hendh RU3
  rw [hX2]
  clear hX2 RU2
  have BP := Lib.hid (Blk.new w7 28 #[.int .i64 X2.endv, .int .i64 X2.trap, .string (strOfNums X2.out), .int .i64 n2, .int .i64 X2.read])
  have BO7 := Lib.hid (BO7.alloc (.cells #[.int .i64 X2.endv, .int .i64 X2.trap, .string (strOfNums X2.out), .int .i64 n2, .int .i64 X2.read] 28))
  have M1d := Lib.hid (M1c.alloc (.cells #[.int .i64 X2.endv, .int .i64 X2.trap, .string (strOfNums X2.out), .int .i64 n2, .int .i64 X2.read] 28))
  have M2d := Lib.hid (M2c.alloc (.cells #[.int .i64 X2.endv, .int .i64 X2.trap, .string (strOfNums X2.out), .int .i64 n2, .int .i64 X2.read] 28))
  have B7b := Lib.hid (B7.alloc B7.size (.cells #[.int .i64 X2.endv, .int .i64 X2.trap, .string (strOfNums X2.out), .int .i64 n2, .int .i64 X2.read] 28))
  clear M1c M2c K7 B67 B7 M1b M2b B6b BO O7
  go_wp2_with fail
  generalize hW7 : w7.alloc (.cells #[.int .i64 X2.endv, .int .i64 X2.trap, .string (strOfNums X2.out), .int .i64 n2, .int .i64 X2.read] 28) = W7 at *
  clear hW7
  refine (RU3 W7 M2d.out B7b.out.size).out.mono ?_
  rintro e w8 ⟨rfl, ov8, M2e, K8, B78, O8⟩
  have BO8 := BO7.out.kept K8 (Others.blk M2d.out BO7.out (by decide) (by decide) (by decide))
  have BP8 := BP.out.kept K8 (Others.blk M2d.out BP.out (by decide) (by decide) (by decide))
  have BM8 := Others.cells M2d.out M1d.out.blk hne.out.1.symm K8
  have pc1 : w8.cell? ⟨p1, 21, none⟩ = some (.int .i64 X2.pc) := (BM8.cell 21).trans (mcells_tail M1d.out.ok mp1 ov7 5)
  have pc2 : w8.cell? ⟨p2, 21, none⟩ = some (.int .i64 X2.pc) := M2e.pc_
  have z1 : p1 < w8.heap.size := BM8.lt
  have z2 : p2 < w8.heap.size := M2e.blk.lt
  have B8 := B7b.out.trans (B78.mono (Nat.le_refl _))
  have B8b := fun o => Lib.hid (B8.alloc B8.size o)
  have o0 := BO8.cell 0
  have o2 := BO8.cell 2
  have o3 := BO8.cell 3
  have q0 := BP8.cell 0
  have q1 := BP8.cell 1
  have q2 := BP8.cell 2
  have q3 := BP8.cell 3
  have q4 := BP8.cell 4
  simp only [List.getElem?_toArray, List.getElem?_cons_zero, List.getElem?_cons_succ] at o0 o2 o3 q0 q1 q2 q3 q4
  have zo := BO8.lt
  have zp := BP8.lt
  have hO2 : X2.out.length ≤ 4096 := M2e.ok.ol
  clear BO8 BP8 BM8 M2e K8 B78 O8 M1d M2d BO7 BP B7b B8 RU3
  have pc1' : ∀ o, (w8.alloc o).cell? ⟨p1, 21, none⟩ = some (.int .i64 X2.pc) := fun o => (World.cell?_alloc_lt w8 _ _ z1).trans pc1
  have pc2' : ∀ o, (w8.alloc o).cell? ⟨p2, 21, none⟩ = some (.int .i64 X2.pc) := fun o => (World.cell?_alloc_lt w8 _ _ z2).trans pc2
  have PC1 := fun o => Lib.hid (cpu_pc_cell p1 X2.pc (w8.alloc o) (pc1' o))
  have PC2 := fun o => Lib.hid (cpu_pc_cell p2 X2.pc (w8.alloc o) (pc2' o))
  have BG := fun W => Lib.hid (keep_begins (strOfNums X2.out) (strOfNums X1.out) W (by rw [strOfNums_size]; omega) (by rw [strOfNums_size]; omega))
  rw [hbg.out] at BG
  clear pc1 pc2 pc1' pc2' z1 z2 hO1 hO2 hbg
  by_cases hE : X1.endv = 3
  · clear hendh
    go_wp2_with (first | (go_at_call 20; (first | refine (PC1 _).out.mono ?_ | refine (PC2 _).out.mono ?_); rintro e w9 ⟨rfl, rfl⟩) | (go_at_call 21; refine (BG _).out.mono ?_; rintro e w9 ⟨rfl, rfl⟩) | (go_at_call 15; refine (law05_wakes _).mono ?_; rintro e w10 ⟨rfl, hb10⟩))
    go_ret
    exact ⟨rfl, (B8b _).out.trans (hb10.mono (B8b _).out.size)⟩
  · obtain ⟨rfl, rfl⟩ := hendh.out hE
    have hn3 : n3 = n1 := by have := hst0h.out; omega
    subst hn3
    have q3' : w8.cell? ⟨w7.heap.size, 3, none⟩ = some (.int .i64 0) := q3
    clear hendh hst0h hss q3
    have hE' : (X2.endv == 3) = false := by rw [beq_eq_false_iff_ne]; exact hE
    go_wp2_with (first | (go_at_call 20; (first | refine (PC1 _).out.mono ?_ | refine (PC2 _).out.mono ?_); rintro e w9 ⟨rfl, rfl⟩) | (go_at_call 21; refine (BG _).out.mono ?_; rintro e w9 ⟨rfl, rfl⟩) | (go_at_call 15; refine (law05_wakes _).mono ?_; rintro e w10 ⟨rfl, hb10⟩))
    go_ret
    exact ⟨rfl, (B8b _).out.trans (hb10.mono (B8b _).out.size)⟩

end Go.Proofs.Ytefgajojimkdiaa
