/-
  The statement CpuLoads: its walk, out of the contracts.
-/
import Derived.Test.YtefgajojimkdiaaZPlayed
namespace Go.Proofs.Ytefgajojimkdiaa
set_option linter.unusedVariables false
set_option linter.unusedSimpArgs false
open Go.RowKit Bw

theorem loads_fl (x : Int) (h : Mc.W32 x) : (wrap32 x < 0 ∧ (x == 0) = false ∧ loadsF x = bits .or .u32 0 2147483648) ∨ (¬ wrap32 x < 0 ∧ (x == 0) = true ∧ loadsF x = bits .or .u32 0 1073741824) ∨ (¬ wrap32 x < 0 ∧ (x == 0) = false ∧ loadsF x = 0) := by
  unfold Mc.W32 at h
  by_cases h0 : x = 0
  · subst h0; exact Or.inr (Or.inl (by decide +kernel))
  · have h3 : (x == 0) = false := by rw [beq_eq_false_iff_ne]; exact h0
    by_cases h1 : (2147483648 : Int) ≤ x
    · have h2 : wrap32 x < 0 := by unfold wrap32; omega
      refine Or.inl ⟨h2, h3, ?_⟩
      simp only [loadsF, if_pos h1, if_neg h0]; decide +kernel
    · have h2 : ¬ wrap32 x < 0 := by unfold wrap32; omega
      refine Or.inr (Or.inr ⟨h2, h3, ?_⟩)
      simp only [loadsF, if_neg h1, if_neg h0]; rfl

set_option maxRecDepth 100000 in
set_option maxHeartbeats 4000000 in
theorem law05_loads (x reg : Int) (w : World) (hx0 : 0 ≤ x) (hx1 : x ≤ 4294967295) (hr0 : -9223372036854775808 ≤ reg) (hr1 : reg ≤ 9223372036854775807) :
    Calls Try.prog 5 #[.int .u32 x, .int .i64 reg] w fun e w' => e = .returned (.bool true) ∧ Below w.heap.size w w' := by
  obtain ⟨K, hK, hKl⟩ : ∃ K : Nat, wrap64 ((IntKind.u64.wrap reg).tmod 16) = (K : Int) ∧ K < 16 := by
    have e1 : IntKind.u64.wrap reg = reg % 18446744073709551616 := wrapU64_emod reg
    have h0 : 0 ≤ IntKind.u64.wrap reg := by rw [e1]; omega
    rw [Int.tmod_eq_emod_of_nonneg h0]
    refine ⟨(IntKind.u64.wrap reg % 16).toNat, ?_, by omega⟩
    rw [show wrap64 (IntKind.u64.wrap reg % 16) = IntKind.u64.wrap reg % 16 by unfold wrap64; omega]
    omega
  have hw : Mc.W32 x := ⟨hx0, by omega⟩
  obtain ⟨l1, l2, l3, l4⟩ := loads_law x K hw ⟨by omega, by omega⟩
  have hbits : bits .and .u32 x 65535 = x % 65536 := by
    obtain ⟨X, rfl⟩ := Int.eq_ofNat_of_zero_le hx0
    rw [show (65535 : Int) = ((2 ^ 16 - 1 : Nat) : Int) by decide, u32_and_nat X (2 ^ 16 - 1) (by omega) (by decide), Nat.and_two_pow_sub_one_eq_mod]
    omega
  go_enter Try.func5, Try.ntmps5
  go_wp2_with fail
  generalize hW : w.alloc _ = W
  have I0 : InsAt W w.heap.size (loadsIns x K) := by rw [← hW]; exact insAt_blk w _ _ _ rfl
  have B0 : Below w.heap.size w W := by rw [← hW]; exact (Below.refl _ _).alloc (Nat.le_refl _) _
  clear hW
  have B0 := Lib.hid B0
  have PL := Lib.hid (law05_played (loadsIns x K) w.heap.size 3 ⟨#[]⟩ 3 W I0 (loads_good x K hw ⟨by omega, by omega⟩) (by simp [loadsIns]) (by decide) (by decide))
  refine PL.out.mono ?_
  rintro e w1 ⟨p, mp, ap, ov, rfl, hM, hb⟩
  obtain ⟨T0, S0, R0, hoc⟩ : ∃ T0 S0 R0, ((Mc.start (playW (loadsIns x K)) 0 ⟨#[]⟩).run 3).oc ((Mc.start (playW (loadsIns x K)) 0 ⟨#[]⟩).steps 3) = .agg #[.int .i64 3, .int .i64 T0, .string S0, .int .i64 ((Mc.start (playW (loadsIns x K)) 0 ⟨#[]⟩).steps 3 : Nat), .int .i64 R0] := by
    have : ((Mc.start (playW (loadsIns x K)) 0 ⟨#[]⟩).run 3).en = 0 := l1
    exact ⟨((Mc.start (playW (loadsIns x K)) 0 ⟨#[]⟩).run 3).trap, strOfNums ((Mc.start (playW (loadsIns x K)) 0 ⟨#[]⟩).run 3).out, ((Mc.start (playW (loadsIns x K)) 0 ⟨#[]⟩).run 3).read, by rw [Mc.oc, if_pos this]⟩
  rw [hoc]
  clear hoc
  generalize ((Mc.start (playW (loadsIns x K)) 0 ⟨#[]⟩).steps 3 : Int) = ST at *
  have hb := Lib.hid hb
  obtain ⟨M, hMe⟩ : ∃ M, (Mc.start (playW (loadsIns x K)) 0 ⟨#[]⟩).run 3 = M := ⟨_, rfl⟩
  rw [loadsM, hMe] at l1 l2 l3 l4
  rw [hMe] at hM
  clear PL I0 hMe
  have M1 := hM.alloc (.cells #[.int .i64 3, .int .i64 T0, .string S0, .int .i64 ST, .int .i64 R0] 28)
  have b1 := B0.out.trans (hb.out.mono B0.out.size)
  have b2 := Lib.hid (b1.alloc b1.size (.cells #[.int .i64 3, .int .i64 T0, .string S0, .int .i64 ST, .int .i64 R0] 28))
  have M1 := Lib.hid M1
  obtain ⟨B, hB⟩ : ∃ B : Nat, ((K : Int) + 1) % 16 = B := ⟨(((K : Int) + 1) % 16).toNat, by omega⟩
  rw [hB, Int.toNat_natCast] at l4
  rw [Int.toNat_natCast] at l3
  have hBl : B < 16 := by omega
  have hK' : (K : Int) < 16 := by omega
  rcases loads_fl x hw with ⟨n1, n2, n3⟩ | ⟨n1, n2, n3⟩ | ⟨n1, n2, n3⟩
  all_goals
    rw [n3] at l4
    have n3 := Lib.hid n3
    have l3 := Lib.hid l3
    have l4 := Lib.hid l4
    have l2 := Lib.hid l2
    go_wp2_with fail
    refine (cpu_reg p mp ap K ov M _ M1.out hKl).mono ?_
    rintro e w2 ⟨rfl, rfl⟩
    rw [l3.out]
    go_wp2_with fail
    refine (cpu_reg p mp ap B ov M _ M1.out hBl).mono ?_
    rintro e w2 ⟨rfl, rfl⟩
    rw [l4.out]
    go_wp2_with fail
    refine (cpu_pc p mp ap ov M _ M1.out).mono ?_
    rintro e w2 ⟨rfl, rfl⟩
    rw [l2.out]
    go_wp2_with fail
    refine (law05_wakes _).mono ?_
    rintro e w3 ⟨rfl, hb3⟩
    have hb3 := Lib.hid hb3
    go_wp2_with fail
    go_ret
    exact ⟨rfl, b2.out.trans (hb3.out.mono b2.out.size)⟩

end Go.Proofs.Ytefgajojimkdiaa
