/-
  The document's machine, walked: the instructions of registers that lay a word's upper half, or the flags.
-/
import Derived.Test.YtefgajojimkdiaaZQMem
import Derived.Test.YtefgajojimkdiaaZQRgA
import Derived.Test.YtefgajojimkdiaaZQRgB
import Derived.Test.YtefgajojimkdiaaZCpuKit
namespace Go.Proofs.Ytefgajojimkdiaa
set_option linter.unusedVariables false
set_option linter.unusedSimpArgs false
open Go.RowKit Bw

set_option maxRecDepth 100000 in
set_option maxHeartbeats 1000000 in
theorem q_reg_hi (S : Nat → Prop) (A B C : Nat) (im : Int) (v : Bool) (p mp ap c : Nat) (ov : Value) (st : Int) (m : Mc) (w : World) (h : QMach w p mp ap c ov st m) (hA : A < 16) (hB : B < 16) (hC : C < 16) (hi0 : 0 ≤ im) (hi1 : im < 65536) (hF : Free S p ap ov) (hS : ∀ k, S k → k < w.heap.size) :
    Calls Try.prog 62 #[.pointer (some ⟨p, 0, none⟩), .agg #[.int .i64 1, .bool true, .bool v, .int .i64 A, .int .i64 B, .int .i64 C, .int .i64 0, .int .i64 im]] w fun e w' =>
      e = .returned (.tuple #[]) ∧ QStored S p mp ap c st (m.sets A (im * 65536)) w w' := by
  have x8 := xcells w 1 im true v A B C 0 24
  simp only at x8
  obtain ⟨x0, x1, x2, x3, x4, x5, x6, x7⟩ := x8
  have h1 := Lib.hid (h.alloc (.cells #[.int .i64 1, .bool true, .bool v, .int .i64 A, .int .i64 B, .int .i64 C, .int .i64 0, .int .i64 im] 24))
  have K1 : Kept S w (w.alloc (.cells #[.int .i64 1, .bool true, .bool v, .int .i64 A, .int .i64 B, .int .i64 C, .int .i64 0, .int .i64 im] 24)) := (Kept.refl S w).alloc hS _
  have hA' : (A : Int) < 16 := by omega
  have hC' : (C : Int) < 16 := by omega
  have w32 : im % 4294967296 = im := by omega
  have hW32 : Mc.W32 (im * 65536) := by unfold Mc.W32; omega
  have hW32 := Lib.hid hW32
  have K1 := Lib.hid K1
  have hF := Lib.hid hF
  have hS := Lib.hid hS
  clear h
  go_enter Try.func62, Try.ntmps62
  go_wp2_with fail
  generalize hW : w.alloc (.cells #[.int .i64 1, .bool true, .bool v, .int .i64 A, .int .i64 B, .int .i64 C, .int .i64 0, .int .i64 im] 24) = W at *
  clear hW
  have rC := h1.out.reg C hC
  (refine region_drew 7 (by kernel_rfl) (by kernel_rfl) ?_; simp only [List.take_succ_cons, List.take_zero, List.drop_succ_cons, List.drop_zero]; (repeat still_step))
  refine wpStill_nil ?_
  generalize hW' : W.drew = W' at *
  have h2 : RowKit.Hid (QMach W' p mp ap c ov st m) := Lib.hid (hW' ▸ h1.out.drew)
  have K2 : RowKit.Hid (Kept S w W') := Lib.hid (hW' ▸ K1.out.drew)
  have y0 : W'.cell? ⟨w.heap.size, 0, none⟩ = some (.int .i64 1) := hW' ▸ x0
  have y1 : W'.cell? ⟨w.heap.size, 1, none⟩ = some (.bool true) := hW' ▸ x1
  have y2 : W'.cell? ⟨w.heap.size, 2, none⟩ = some (.bool v) := hW' ▸ x2
  have y3 : W'.cell? ⟨w.heap.size, 3, none⟩ = some (.int .i64 A) := hW' ▸ x3
  have y6 : W'.cell? ⟨w.heap.size, 6, none⟩ = some (.int .i64 0) := hW' ▸ x6
  have y7 : W'.cell? ⟨w.heap.size, 7, none⟩ = some (.int .i64 im) := hW' ▸ x7
  clear hW' x0 x1 x2 x3 x4 x5 x6 x7 h1 K1 rC
  cases v
  all_goals
    go_wp2_with fail
    refine (q_set A _ p mp ap c ov st m _ h2.out hA hW32.out).mono ?_
    rintro e w3 ⟨rfl, hM3, hK3⟩
    have hM3 := Lib.hid hM3
    have hK3 := Lib.hid hK3
    go_wp2_with fail
    refine bodyPost_ret (results_none rfl _ _ _) rfl ?_
    exact ⟨rfl, QStored.of hM3.out (K2.out.trans (kept_ne hK3.out hF.out.1)) hF.out hS.out⟩

/-- The flags' bits up to the k-th. -/
def qpacks (f : Fl) (k : Nat) : Int := (if 0 < k ∧ f.n = true then 2147483648 else 0) + (if 1 < k ∧ f.z = true then 1073741824 else 0) + (if 2 < k ∧ f.c = true then 536870912 else 0) + (if 3 < k ∧ f.v = true then 268435456 else 0)
theorem qpacks_end (f : Fl) : qpacks f 4 = Mc.packed f := by
  obtain ⟨n, z, c, v⟩ := f
  cases n <;> cases z <;> cases c <;> cases v <;> decide
theorem qbelow_drewN {B : Nat} {a w : World} (h : Below B a w) (k : Nat) : Below B a (w.drewN k) := ⟨h.os, h.tape, h.output, h.size, h.block⟩

set_option maxRecDepth 100000 in
set_option maxHeartbeats 1000000 in
theorem q_reg_fl (S : Nat → Prop) (A B C : Nat) (im : Int) (p mp ap c : Nat) (ov : Value) (st : Int) (m : Mc) (w : World) (h : QMach w p mp ap c ov st m) (hA : A < 16) (hB : B < 16) (hC : C < 16) (hi0 : 0 ≤ im) (hi1 : im < 65536) (hF : Free S p ap ov) (hS : ∀ k, S k → k < w.heap.size) :
    Calls Try.prog 62 #[.pointer (some ⟨p, 0, none⟩), .agg #[.int .i64 0, .bool true, .bool true, .int .i64 A, .int .i64 B, .int .i64 C, .int .i64 0, .int .i64 im]] w fun e w' =>
      e = .returned (.tuple #[]) ∧ QStored S p mp ap c st (m.sets A (Mc.packed m.f)) w w' := by
  have x8 := xcells w 0 im true true A B C 0 24
  simp only at x8
  obtain ⟨x0, x1, x2, x3, x4, x5, x6, x7⟩ := x8
  have h1 := Lib.hid (h.alloc (.cells #[.int .i64 0, .bool true, .bool true, .int .i64 A, .int .i64 B, .int .i64 C, .int .i64 0, .int .i64 im] 24))
  have K1 : Kept S w (w.alloc (.cells #[.int .i64 0, .bool true, .bool true, .int .i64 A, .int .i64 B, .int .i64 C, .int .i64 0, .int .i64 im] 24)) := (Kept.refl S w).alloc hS _
  have z1 : w.heap.size < (w.alloc (.cells #[.int .i64 0, .bool true, .bool true, .int .i64 A, .int .i64 B, .int .i64 C, .int .i64 0, .int .i64 im] 24)).heap.size := by simp
  have hA' : (A : Int) < 16 := by omega
  have hC' : (C : Int) < 16 := by omega
  have w32 : im % 4294967296 = im := by omega
  have hW32 := Lib.hid (Mc.packed_bd m.f)
  have K1 := Lib.hid K1
  have hF := Lib.hid hF
  have hS := Lib.hid hS
  clear h
  go_enter Try.func62, Try.ntmps62
  go_wp2_with fail
  generalize hW : w.alloc (.cells #[.int .i64 0, .bool true, .bool true, .int .i64 A, .int .i64 B, .int .i64 C, .int .i64 0, .int .i64 im] 24) = W at *
  clear hW
  have rC := h1.out.reg C hC
  (refine region_drew 7 (by kernel_rfl) (by kernel_rfl) ?_; simp only [List.take_succ_cons, List.take_zero, List.drop_succ_cons, List.drop_zero]; (repeat still_step))
  refine wpStill_nil ?_
  generalize hW' : W.drew = W' at *
  have h2 : RowKit.Hid (QMach W' p mp ap c ov st m) := Lib.hid (hW' ▸ h1.out.drew)
  have K2 : RowKit.Hid (Kept S w W') := Lib.hid (hW' ▸ K1.out.drew)
  have z2 : w.heap.size < W'.heap.size := hW' ▸ z1
  have y0 : W'.cell? ⟨w.heap.size, 0, none⟩ = some (.int .i64 0) := hW' ▸ x0
  have y1 : W'.cell? ⟨w.heap.size, 1, none⟩ = some (.bool true) := hW' ▸ x1
  have y2 : W'.cell? ⟨w.heap.size, 2, none⟩ = some (.bool true) := hW' ▸ x2
  have y3 : W'.cell? ⟨w.heap.size, 3, none⟩ = some (.int .i64 A) := hW' ▸ x3
  have y6 : W'.cell? ⟨w.heap.size, 6, none⟩ = some (.int .i64 0) := hW' ▸ x6
  have y7 : W'.cell? ⟨w.heap.size, 7, none⟩ = some (.int .i64 im) := hW' ▸ x7
  clear hW' x0 x1 x2 x3 x4 x5 x6 x7 h1 K1 rC z1
  have c17 := h2.out.fn
  have c18 := h2.out.fz
  have c19 := h2.out.fc
  have c20 := h2.out.fv
  obtain ⟨f, hf⟩ : ∃ f, m.f = f := ⟨_, rfl⟩
  rw [hf] at c17 c18 c19 c20
  have hf := Lib.hid hf
  obtain ⟨fn, fz, fc, fv⟩ := f
  simp only at c17 c18 c19 c20
  go_wp2_with fail
  (refine region_drew 20 (by kernel_rfl) (by kernel_rfl) ?_; simp only [List.take_succ_cons, List.take_zero, List.drop_succ_cons, List.drop_zero]; (repeat still_step))
  refine wpStill_nil ?_
  go_wp2_with fail
  generalize hWb : (W'.alloc (.cells #[.bool fn, .bool fz, .bool fc, .bool fv] 4)).drew = Wb
  have S2 : ∀ k, S k → k < W'.heap.size := fun k hk => Nat.lt_of_lt_of_le (hS.out k hk) K2.out.size
  have h3 : RowKit.Hid (QMach Wb p mp ap c ov st m) := Lib.hid (hWb ▸ (h2.out.alloc _).drew)
  have K3 : RowKit.Hid (Kept S w Wb) := Lib.hid (hWb ▸ (K2.out.alloc S2 _).drew)
  have E3 : Blk Wb W'.heap.size 4 #[.bool fn, .bool fz, .bool fc, .bool fv] := hWb ▸ Blk.new W' 4 _
  have Y3 : Wb.cell? ⟨w.heap.size, 3, none⟩ = some (.int .i64 A) := by
    rw [← hWb]
    exact (World.cell?_alloc_lt W' _ _ z2).trans y3
  have zb : w.heap.size < Wb.heap.size := by have := E3.lt; omega
  clear hWb y0 y1 y2 y3 y6 y7 c17 c18 c19 c20 h2 K2
  have E3 := Lib.hid E3
  have S2 := Lib.hid S2
  have Y3 := Lib.hid Y3
  go_loopw [5, 7] (fun v i wr => ∃ k : Nat, i = .int .i64 k ∧ k ≤ 4 ∧ v = .int .u32 (qpacks ⟨fn, fz, fc, fv⟩ k) ∧ Below Wb.heap.size Wb wr) (fun _ i _ => 4 - (intOf i).toNat)
  case atStart => exact ⟨0, rfl, by omega, by simp [qpacks], Below.refl _ _⟩
  case round =>
    obtain ⟨k, rfl, hk, rfl, hb⟩ := hrel
    have E4 := E3.out.below hb E3.out.lt
    have e0 := E4.cell 0
    have e1 := E4.cell 1
    have e2 := E4.cell 2
    have e3 := E4.cell 3
    simp only [List.getElem?_toArray, List.getElem?_cons_zero, List.getElem?_cons_succ] at e0 e1 e2 e3
    have y3 := (hb.cell (p := ⟨w.heap.size, 3, none⟩) zb).trans Y3.out
    have hb := Lib.hid hb
    clear E4
    have h5 : k = 0 ∨ k = 1 ∨ k = 2 ∨ k = 3 ∨ k = 4 := by omega
    rcases h5 with rfl | rfl | rfl | rfl | rfl
    · cases fn <;> (go_wp2_with (go_at_call 50; refine (ref01_put _ _ _ _ _ (by simp [qpacks]) (by simp [qpacks]) (by omega) (by omega) (by omega) (by omega) (by omega) (by omega)).mono ?_; rintro e w4 ⟨rfl, k4, hk4⟩; subst hk4); refine ⟨⟨1, rfl, by omega, by cases fz <;> cases fc <;> cases fv <;> exact congrArg (Value.int .u32) (by decide +kernel), by first | exact hb.out | exact qbelow_drewN hb.out _⟩, by simp [intOf]⟩)
    · cases fz <;> (go_wp2_with (go_at_call 50; refine (ref01_put _ _ _ _ _ (by cases fn <;> simp [qpacks]) (by cases fn <;> simp [qpacks]) (by omega) (by omega) (by omega) (by omega) (by omega) (by omega)).mono ?_; rintro e w4 ⟨rfl, k4, hk4⟩; subst hk4); refine ⟨⟨2, rfl, by omega, by cases fn <;> cases fc <;> cases fv <;> exact congrArg (Value.int .u32) (by decide +kernel), by first | exact hb.out | exact qbelow_drewN hb.out _⟩, by simp [intOf]⟩)
    · cases fc <;> (go_wp2_with (go_at_call 50; refine (ref01_put _ _ _ _ _ (by cases fn <;> cases fz <;> simp [qpacks]) (by cases fn <;> cases fz <;> simp [qpacks]) (by omega) (by omega) (by omega) (by omega) (by omega) (by omega)).mono ?_; rintro e w4 ⟨rfl, k4, hk4⟩; subst hk4); refine ⟨⟨3, rfl, by omega, by cases fn <;> cases fz <;> cases fv <;> exact congrArg (Value.int .u32) (by decide +kernel), by first | exact hb.out | exact qbelow_drewN hb.out _⟩, by simp [intOf]⟩)
    · cases fv <;> (go_wp2_with (go_at_call 50; refine (ref01_put _ _ _ _ _ (by cases fn <;> cases fz <;> cases fc <;> simp [qpacks]) (by cases fn <;> cases fz <;> cases fc <;> simp [qpacks]) (by omega) (by omega) (by omega) (by omega) (by omega) (by omega)).mono ?_; rintro e w4 ⟨rfl, k4, hk4⟩; subst hk4); refine ⟨⟨4, rfl, by omega, by cases fn <;> cases fz <;> cases fc <;> exact congrArg (Value.int .u32) (by decide +kernel), by first | exact hb.out | exact qbelow_drewN hb.out _⟩, by simp [intOf]⟩)
    · rw [qpacks_end]
      go_wp2_with fail
      have hWp : Mc.W32 (Mc.packed ⟨fn, fz, fc, fv⟩) := Mc.packed_bd _
      refine (q_set A _ p mp ap c ov st m _ (h3.out.below hb.out) hA hWp).mono ?_
      rintro e w3 ⟨rfl, hM3, hK3⟩
      have hM3 := Lib.hid hM3
      have hK3 := Lib.hid hK3
      go_wp2_with fail
      refine bodyPost_ret (results_none rfl _ _ _) rfl ?_
      rw [hf.out]
      have K4 := K3.out.below hb.out (fun k hk => Nat.lt_of_lt_of_le (hS.out k hk) K3.out.size)
      exact ⟨rfl, QStored.of hM3.out (K4.trans (kept_ne hK3.out hF.out.1)) hF.out hS.out⟩

end Go.Proofs.Ytefgajojimkdiaa

/-
  The document's instructions: joined contracts.
-/
namespace Go.Proofs.Ytefgajojimkdiaa
set_option linter.unusedVariables false
set_option linter.unusedSimpArgs false
open Go.RowKit Bw

theorem q_register (S : Nat → Prop) (x : Ins) (hx : x.good = true) (hf : x.form = 0 ∨ x.form = 1) (p mp ap d : Nat) (ov : Value) (st : Int) (m : Mc) (w : World) (h : QMach w p mp ap d ov st m) (hF : Free S p ap ov) (hS : ∀ k, S k → k < w.heap.size) :
    Calls Try.prog 62 #[.pointer (some ⟨p, 0, none⟩), x.val] w fun e w' => e = .returned (.tuple #[]) ∧ QStored S p mp ap d st (m.reckons x) w w' := by
  obtain ⟨form, u, v, a, b, c, op, im⟩ := x
  have hr := Ins.good_range _ hx
  have hc := Ins.good_ci _ _ _ _ _ _ _ _ hx
  have hu := good_u _ _ _ _ _ _ _ _ hx hf
  simp only at hf hr
  obtain ⟨A, rfl⟩ := Int.eq_ofNat_of_zero_le hr.2.2.1
  obtain ⟨B, rfl⟩ := Int.eq_ofNat_of_zero_le hr.2.2.2.2.1
  obtain ⟨C, rfl⟩ := Int.eq_ofNat_of_zero_le hr.2.2.2.2.2.2.1
  have hA : A < 16 := by omega
  have hB : B < 16 := by omega
  have hC : C < 16 := by omega
  rcases hf with rfl | rfl
  · obtain rfl := hc.1 rfl
    cases v
    · have e : m.reckons ⟨0, u, false, (A : Int), (B : Int), (C : Int), op, 0⟩ = { m with r := m.r.set A (Alu.R op u (m.r.getD B 0) (m.r.getD C 0) m.h m.f), h := Alu.H op u (m.r.getD B 0) (m.r.getD C 0) m.h, f := Alu.F op u (m.r.getD B 0) (m.r.getD C 0) m.h m.f } := by
        simp [Mc.reckons, Mc.reg, Mc.opnd]
      rw [e]
      exact q_reg_0 S A B C op 0 u p mp ap d ov st m w h hA hB hC hu.1 trivial hF hS
    · obtain ⟨rfl, rfl⟩ := hu.2 rfl rfl
      have e : m.reckons ⟨0, true, true, (A : Int), (B : Int), (C : Int), 0, 0⟩ = m.sets A (Mc.packed m.f) := by
        simp [Mc.reckons]
      rw [e]
      exact q_reg_fl S A B C 0 p mp ap d ov st m w h hA hB hC (by decide) (by decide) hF hS
  · have hi := Ins.good_im1 _ _ _ _ _ _ _ hx
    have hc0 : C = 0 := by have := hc.2.1 rfl; omega
    subst hc0
    by_cases he : op = 0 ∧ u = true
    · obtain ⟨rfl, rfl⟩ := he
      have e : m.reckons ⟨1, true, v, (A : Int), (B : Int), ((0 : Nat) : Int), 0, im⟩ = m.sets A (im * 65536) := by
        have : im * 65536 % 4294967296 = im * 65536 := by omega
        simp [Mc.reckons, this]
      rw [e]
      exact q_reg_hi S A B 0 im v p mp ap d ov st m w h hA hB (by decide) hi.1 hi.2 hF hS
    · have he' : op ≠ 0 ∨ u = false := by
        by_cases h1 : op = 0
        · exact Or.inr (by cases u; rfl; exact absurd ⟨h1, rfl⟩ he)
        · exact Or.inl h1
      have him : im % 65536 = im := Int.emod_eq_of_lt hi.1 hi.2
      have n1 : ¬ (op = 0 ∧ u = true ∧ (1 : Int) = 1) := fun h => he ⟨h.1, h.2.1⟩
      cases v
      · have e : m.reckons ⟨1, u, false, (A : Int), (B : Int), ((0 : Nat) : Int), op, im⟩ = { m with r := m.r.set A (Alu.R op u (m.r.getD B 0) im m.h m.f), h := Alu.H op u (m.r.getD B 0) im m.h, f := Alu.F op u (m.r.getD B 0) im m.h m.f } := by
          unfold Mc.reckons
          rw [if_neg n1, if_neg (fun h => by cases h.2.2)]
          simp [Mc.reg, Mc.opnd, him]
        rw [e]
        exact q_reg_1f S A B 0 op im u p mp ap d ov st m w h hA hB (by decide) hi.1 hi.2 hu.1 he' hF hS
      · have e : m.reckons ⟨1, u, true, (A : Int), (B : Int), ((0 : Nat) : Int), op, im⟩ = { m with r := m.r.set A (Alu.R op u (m.r.getD B 0) (im + 4294901760) m.h m.f), h := Alu.H op u (m.r.getD B 0) (im + 4294901760) m.h, f := Alu.F op u (m.r.getD B 0) (im + 4294901760) m.h m.f } := by
          unfold Mc.reckons
          rw [if_neg n1, if_neg (fun h => he ⟨h.1, h.2.1⟩)]
          simp [Mc.reg, Mc.opnd, him]
        rw [e]
        exact q_reg_1t S A B 0 op im u p mp ap d ov st m w h hA hB (by decide) hi.1 hi.2 hu.1 he' hF hS

theorem qregs_all : QRegs := q_register

end Go.Proofs.Ytefgajojimkdiaa
