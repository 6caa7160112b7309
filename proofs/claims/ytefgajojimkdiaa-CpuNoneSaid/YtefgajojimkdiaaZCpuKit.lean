/-
  The machine's reckons and its steps: joined contracts.
-/
import Derived.Test.YtefgajojimkdiaaZCpuReckA
import Derived.Test.YtefgajojimkdiaaZCpuReckB
import Derived.Test.YtefgajojimkdiaaZCpuReckC
import Derived.Test.YtefgajojimkdiaaZCpuStep
import Derived.Test.YtefgajojimkdiaaZMem
import Derived.Test.YtefgajojimkdiaaZLaw
import Derived.Test.YtefgajojimkdiaaZCpuHalt
namespace Go.Proofs.Ytefgajojimkdiaa
set_option linter.unusedVariables false
set_option linter.unusedSimpArgs false
open Go.RowKit Bw

theorem good_u (form : Int) (u v : Bool) (a b c op im : Int) (hg : Ins.good ⟨form, u, v, a, b, c, op, im⟩ = true) (hf : form = 0 ∨ form = 1) : Alu.okOp op u = true ∧ (form = 0 → v = true → u = true ∧ op = 0) := by
  have hr := Ins.good_range _ hg
  simp only at hr
  rcases hf with rfl | rfl
  · cases u <;> cases v <;> simp [Ins.good, Ins.uop] at hg <;> simp [Alu.okOp] <;> omega
  · cases u <;> cases v <;> simp [Ins.good, Ins.uop] at hg <;> simp [Alu.okOp] <;> omega

theorem reckons_all : Reckons := by
  intro S x hx hf p mp ap ov m w h hF hS
  obtain ⟨form, u, v, a, b, c, op, im⟩ := x
  have hr := Ins.good_range _ hx
  have hc := Ins.good_ci _ _ _ _ _ _ _ _ hx
  have hu := good_u _ _ _ _ _ _ _ _ hx hf
  simp only at hf hr
  obtain ⟨A, rfl⟩ := Int.eq_ofNat_of_zero_le hr.2.2.1
  obtain ⟨B, rfl⟩ := Int.eq_ofNat_of_zero_le hr.2.2.2.2.1
  obtain ⟨C, rfl⟩ := Int.eq_ofNat_of_zero_le hr.2.2.2.2.2.2.1
  have hA : A < 16 := by omega
  have hB : B < 16 := by omega
  have hC : C < 16 := by omega
  rcases hf with rfl | rfl
  · obtain rfl := hc.1 rfl
    cases v
    · have e : m.reckons ⟨0, u, false, (A : Int), (B : Int), (C : Int), op, 0⟩ = { m with r := m.r.set A (Alu.R op u (m.r.getD B 0) (m.r.getD C 0) m.h m.f), h := Alu.H op u (m.r.getD B 0) (m.r.getD C 0) m.h, f := Alu.F op u (m.r.getD B 0) (m.r.getD C 0) m.h m.f } := by
        simp [Mc.reckons, Mc.reg, Mc.opnd]
      rw [e]
      exact cpu_reckons_0 S A B C op 0 u p mp ap ov m w h hA hB hC hu.1 hF hS
    · obtain ⟨rfl, rfl⟩ := hu.2 rfl rfl
      have e : m.reckons ⟨0, true, true, (A : Int), (B : Int), (C : Int), 0, 0⟩ = m.sets A (Mc.packed m.f) := by
        simp [Mc.reckons]
      rw [e]
      exact cpu_reckons_flags S A B C p mp ap ov m w h hA hC hF hS
  · have hi := Ins.good_im1 _ _ _ _ _ _ _ hx
    have hc0 : C = 0 := by have := hc.2.1 rfl; omega
    subst hc0
    by_cases he : op = 0 ∧ u = true
    · obtain ⟨rfl, rfl⟩ := he
      have e : m.reckons ⟨1, true, v, (A : Int), (B : Int), ((0 : Nat) : Int), 0, im⟩ = m.sets A (im * 65536 % 4294967296) := by
        simp [Mc.reckons]
      rw [e]
      exact cpu_reckons_up S v A B im p mp ap ov m w h hA hi.1 hi.2 hF hS
    · have he' : op ≠ 0 ∨ u = false := by
        by_cases h1 : op = 0
        · exact Or.inr (by cases u; rfl; exact absurd ⟨h1, rfl⟩ he)
        · exact Or.inl h1
      have him : im % 65536 = im := Int.emod_eq_of_lt hi.1 hi.2
      have n1 : ¬ (op = 0 ∧ u = true ∧ (1 : Int) = 1) := fun h => he ⟨h.1, h.2.1⟩
      cases v
      · have e : m.reckons ⟨1, u, false, (A : Int), (B : Int), ((0 : Nat) : Int), op, im⟩ = { m with r := m.r.set A (Alu.R op u (m.r.getD B 0) im m.h m.f), h := Alu.H op u (m.r.getD B 0) im m.h, f := Alu.F op u (m.r.getD B 0) im m.h m.f } := by
          unfold Mc.reckons
          rw [if_neg n1, if_neg (fun h => by cases h.2.2)]
          simp [Mc.reg, Mc.opnd, him]
        rw [e]
        exact cpu_reckons_1f S A B 0 op im u p mp ap ov m w h hA hB hi.1 hi.2 hu.1 he' hF hS
      · have e : m.reckons ⟨1, u, true, (A : Int), (B : Int), ((0 : Nat) : Int), op, im⟩ = { m with r := m.r.set A (Alu.R op u (m.r.getD B 0) (im + 4294901760) m.h m.f), h := Alu.H op u (m.r.getD B 0) (im + 4294901760) m.h, f := Alu.F op u (m.r.getD B 0) (im + 4294901760) m.h m.f } := by
          unfold Mc.reckons
          rw [if_neg n1, if_neg (fun h => he ⟨h.1, h.2.1⟩)]
          simp [Mc.reg, Mc.opnd, him]
        rw [e]
        exact cpu_reckons_1t S A B 0 op im u p mp ap ov m w h hA hB hi.1 hi.2 hu.1 he' hF hS

theorem cpu_run (S : Nat → Prop) (n : Nat) (p mp ap : Nat) (ov : Value) (m : Mc) (w : World) (h : Mach w p mp ap ov m) (hn : (n : Int) ≤ 4194304) (hF : Free S p ap ov) (hS : ∀ k, S k → k < w.heap.size) :
    Calls Try.prog 19 #[.pointer (some ⟨p, 0, none⟩), .int .i64 n] w fun e w' => e = .returned (.tuple #[(m.run n).oc (m.steps n), .int .i64 0]) ∧ Stored S p mp ap (m.run n) w w' :=
  cpu_run_of reckons_all S n p mp ap ov m w h hn hF hS

end Go.Proofs.Ytefgajojimkdiaa

/-
  The machine's small functions, walked.
-/
namespace Go.Proofs.Ytefgajojimkdiaa
set_option linter.unusedVariables false
set_option linter.unusedSimpArgs false
open Go.RowKit Bw

set_option maxHeartbeats 1000000 in
theorem cpu_pc (p mp ap : Nat) (ov : Value) (m : Mc) (w : World) (h : Mach w p mp ap ov m) :
    Calls Try.prog 20 #[.pointer (some ⟨p, 0, none⟩)] w fun e w' => e = .returned (.int .i64 m.pc) ∧ w = w' := by
  have c := h.pc_
  have h := Lib.hid h
  go_enter Try.func20, Try.ntmps20
  go_wp2_with fail
  go_ret
  exact ⟨rfl, rfl⟩

set_option maxHeartbeats 1000000 in
theorem cpu_memory (p mp ap : Nat) (ov : Value) (m : Mc) (w : World) (h : Mach w p mp ap ov m) :
    Calls Try.prog 23 #[.pointer (some ⟨p, 0, none⟩)] w fun e w' => e = .returned (.pointer (some ⟨mp, 0, none⟩)) ∧ w = w' := by
  have c := h.mem_
  have h := Lib.hid h
  go_enter Try.func23, Try.ntmps23
  go_wp2_with fail
  go_ret
  exact ⟨rfl, rfl⟩

set_option maxRecDepth 100000 in
set_option maxHeartbeats 1000000 in
theorem cpu_reg (p mp ap a : Nat) (ov : Value) (m : Mc) (w : World) (h : Mach w p mp ap ov m) (ha : a < 16) :
    Calls Try.prog 22 #[.pointer (some ⟨p, 0, none⟩), .int .i64 a] w fun e w' => e = .returned (.int .u32 (m.r.getD a 0)) ∧ w = w' := by
  have c := h.reg a ha
  have h := Lib.hid h
  have ha' : (a : Int) ≤ 15 := by omega
  have ha2 : (a : Int) < 16 := by omega
  generalize m.r.getD a 0 = x at *
  go_enter Try.func22, Try.ntmps22
  go_wp2_with fail
  go_ret
  exact ⟨rfl, rfl⟩

set_option maxHeartbeats 1000000 in
theorem cpu_reg_out (p : Nat) (a : Int) (w : World) (ha : a < 0 ∨ 15 < a) :
    Calls Try.prog 22 #[.pointer (some ⟨p, 0, none⟩), .int .i64 a] w fun e w' => e = .returned (.int .u32 0) ∧ w = w' := by
  rcases ha with ha | ha
  · go_enter Try.func22, Try.ntmps22
    go_wp2_with fail
    go_ret
    exact ⟨rfl, rfl⟩
  · by_cases h0 : a < 0
    · omega
    go_enter Try.func22, Try.ntmps22
    go_wp2_with fail
    go_ret
    exact ⟨rfl, rfl⟩

theorem cpu_nil_reg (a : Int) (w : World) :
    Calls Try.prog 22 #[.pointer none, .int .i64 a] w fun e w' => e = .returned (.int .u32 0) ∧ w = w' := by
  go_enter Try.func22, Try.ntmps22
  go_wp2_with fail
  go_ret
  exact ⟨rfl, rfl⟩

theorem cpu_nil_pc (w : World) :
    Calls Try.prog 20 #[.pointer none] w fun e w' => e = .returned (.int .i64 0) ∧ w = w' := by
  go_enter Try.func20, Try.ntmps20
  go_wp2_with fail
  go_ret
  exact ⟨rfl, rfl⟩

theorem cpu_nil_memory (w : World) :
    Calls Try.prog 23 #[.pointer none] w fun e w' => e = .returned (.pointer none) ∧ w = w' := by
  go_enter Try.func23, Try.ntmps23
  go_wp2_with fail
  go_ret
  exact ⟨rfl, rfl⟩

set_option maxHeartbeats 1000000 in
theorem cpu_nil_run (n : Int) (w : World) :
    Calls Try.prog 19 #[.pointer none, .int .i64 n] w fun e w' => e = .returned (.tuple #[.agg #[.int .i64 0, .int .i64 0, .string ⟨#[]⟩, .int .i64 0, .int .i64 0], .int .i64 1]) ∧ Below w.heap.size w w' := by
  go_enter Try.func19, Try.ntmps19
  go_wp2_with fail
  refine bodyPost_ret (by simp only [results, Try.results19]; go_simp) rfl ⟨rfl, ?_⟩
  exact (Below.refl _ _).alloc (Nat.le_refl _) _

set_option maxHeartbeats 1000000 in
theorem cpu_run_none (p : Nat) (n : Int) (w : World) (hn : n < 0 ∨ 4194304 < n) :
    Calls Try.prog 19 #[.pointer (some ⟨p, 0, none⟩), .int .i64 n] w fun e w' => e = .returned (.tuple #[.agg #[.int .i64 0, .int .i64 0, .string ⟨#[]⟩, .int .i64 0, .int .i64 0], .int .i64 1]) ∧ Below w.heap.size w w' := by
  by_cases h0 : n < 0
  · clear hn
    go_enter Try.func19, Try.ntmps19
    go_wp2_with fail
    refine bodyPost_ret (by simp only [results, Try.results19]; go_simp) rfl ⟨rfl, ?_⟩
    exact (Below.refl _ _).alloc (Nat.le_refl _) _
  · have h1 : 4194304 < n := by omega
    clear hn
    go_enter Try.func19, Try.ntmps19
    go_wp2_with fail
    refine bodyPost_ret (by simp only [results, Try.results19]; go_simp) rfl ⟨rfl, ?_⟩
    exact (Below.refl _ _).alloc (Nat.le_refl _) _

/-- Does a text begin with another one? -/
def begins (s t : ByteArray) : Bool := decide (t.size ≤ s.size) && ((s.extract 0 t.size).toList == t.toList)
set_option maxHeartbeats 1000000 in
theorem keep_begins (s t : ByteArray) (w : World) (hs : s.size ≤ 9223372036854775807) (ht : t.size ≤ 9223372036854775807) :
    Calls Try.prog 21 #[.string s, .string t] w fun e w' => e = .returned (.bool (begins s t)) ∧ w = w' := by
  unfold begins
  by_cases hl : t.size ≤ s.size
  · have hl' : (t.size : Int) ≤ s.size := by omega
    go_enter Try.func21, Try.ntmps21
    go_wp2_with fail
    go_ret
    exact ⟨by simp [hl], rfl⟩
  · have hl' : ¬ (t.size : Int) ≤ s.size := by omega
    go_enter Try.func21, Try.ntmps21
    go_wp2_with fail
    go_ret
    exact ⟨by simp [hl], rfl⟩

end Go.Proofs.Ytefgajojimkdiaa

/-
  What the small program of Halt comes to. No program in sight.
-/
namespace Go.Proofs.Ytefgajojimkdiaa
set_option linter.unusedVariables false
set_option linter.unusedSimpArgs false
open Go.RowKit Bw

theorem halt_65 : ((Mc.start ((haltIns 65).map Ins.E) 0 ⟨#[]⟩).run 100).en = 1 ∧ ((Mc.start ((haltIns 65).map Ins.E) 0 ⟨#[]⟩).run 100).out = [65] ∧ (Mc.start ((haltIns 65).map Ins.E) 0 ⟨#[]⟩).steps 100 = 5 ∧
    ((Mc.start ((haltIns 65).map Ins.E) 0 ⟨#[]⟩).run 100).trap = 0 ∧ ((Mc.start ((haltIns 65).map Ins.E) 0 ⟨#[]⟩).run 100).read = 0 := by decide +kernel
theorem halt_66 : ((Mc.start ((haltIns 66).map Ins.E) 0 ⟨#[]⟩).run 100).en = 1 ∧ ((Mc.start ((haltIns 66).map Ins.E) 0 ⟨#[]⟩).run 100).out = [66] ∧ (Mc.start ((haltIns 66).map Ins.E) 0 ⟨#[]⟩).steps 100 = 5 ∧
    ((Mc.start ((haltIns 66).map Ins.E) 0 ⟨#[]⟩).run 100).trap = 0 ∧ ((Mc.start ((haltIns 66).map Ins.E) 0 ⟨#[]⟩).run 100).read = 0 := by decide +kernel
theorem halt_words (b : Int) (h : b = 65 ∨ b = 66) : ∀ x ∈ (haltIns b).map Ins.E, Mc.W32 x := by
  have key : ∀ y ∈ (haltIns b).map Ins.E, 0 ≤ y ∧ y < 4294967296 := by
    rcases h with rfl | rfl <;> decide +kernel
  exact key
theorem oc_65 : ((Mc.start ((haltIns 65).map Ins.E) 0 ⟨#[]⟩).run 100).oc ((Mc.start ((haltIns 65).map Ins.E) 0 ⟨#[]⟩).steps 100) = .agg #[.int .i64 1, .int .i64 0, .string ⟨#[65]⟩, .int .i64 5, .int .i64 0] := by
  obtain ⟨h1, h2, h3, h4, h5⟩ := halt_65
  rw [Mc.oc, h1, h2, h3, h4, h5]; rfl
theorem oc_65' : (((Mc.start ((haltIns 65).map Ins.E) 0 ⟨#[]⟩).run 100).run 100).oc (((Mc.start ((haltIns 65).map Ins.E) 0 ⟨#[]⟩).run 100).steps 100) = .agg #[.int .i64 1, .int .i64 0, .string ⟨#[65]⟩, .int .i64 0, .int .i64 0] := by
  obtain ⟨h1, h2, h3, h4, h5⟩ := halt_65
  obtain ⟨e1, e2⟩ := Mc.run_ended ((Mc.start ((haltIns 65).map Ins.E) 0 ⟨#[]⟩).run 100) 100 (by rw [h1]; decide)
  rw [e1, e2, Mc.oc, h1, h2, h4, h5]; rfl
theorem oc_66 : ((Mc.start ((haltIns 66).map Ins.E) 0 ⟨#[]⟩).run 100).oc ((Mc.start ((haltIns 66).map Ins.E) 0 ⟨#[]⟩).steps 100) = .agg #[.int .i64 1, .int .i64 0, .string ⟨#[66]⟩, .int .i64 5, .int .i64 0] := by
  obtain ⟨h1, h2, h3, h4, h5⟩ := halt_66
  rw [Mc.oc, h1, h2, h3, h4, h5]; rfl
/-- A machine without words. -/
theorem oc_none : ((Mc.start [] 0 ⟨#[]⟩).run 1).oc ((Mc.start [] 0 ⟨#[]⟩).steps 1) = .agg #[.int .i64 5, .int .i64 0, .string ⟨#[]⟩, .int .i64 1, .int .i64 0] := rfl

theorem Free.add {S : Nat → Prop} {p mp ap : Nat} {ov : Value} {m : Mc} {w : World} (h : Free S p ap ov) (hm : Mach w p mp ap ov m) {g : Nat} (hg : w.heap.size ≤ g) : Free (fun k => S k ∨ k = g) p ap ov := by
  have h1 := hm.blk.lt
  have h2 := hm.mem.2.lt
  refine ⟨?_, ?_, fun b hb => ?_⟩
  · rintro (h3 | h3)
    · exact h.1 h3
    · omega
  · rintro (h3 | h3)
    · exact h.2.1 h3
    · omega
  · have h4 := (hm.out.lt b hb).2
    rintro (h3 | h3)
    · exact h.2.2 b hb h3
    · omega
theorem Free.new {N p mp ap : Nat} (h1 : N ≤ p) (h2 : N ≤ ap) : Free (fun k => k < N) p ap (.slice none 0 0) :=
  ⟨by omega, by omega, fun b hb => by cases hb⟩

end Go.Proofs.Ytefgajojimkdiaa

/-
  The statements' wakes, walked.
-/
namespace Go.Proofs.Ytefgajojimkdiaa
set_option linter.unusedVariables false
set_option linter.unusedSimpArgs false
open Go.RowKit Bw

set_option maxRecDepth 100000 in
set_option maxHeartbeats 4000000 in
theorem law05_wakes (w : World) : Calls Try.prog 15 #[] w fun e w' => e = .returned (.bool true) ∧ Below w.heap.size w w' := by
  go_enter Try.func15, Try.ntmps15
  go_wp2_with fail
  refine (law05_halt 65 w (by decide) (by decide)).mono ?_
  rintro e w1 ⟨v, rfl, ho, hb1⟩
  have ho := Lib.hid ho
  have hb1 := Lib.hid hb1
  go_wp2_with fail
  refine (cpu_new ((haltIns 65).map Ins.E) 0 ⟨#[]⟩ v w1 (row_of_own ho.out) (halt_words 65 (Or.inl rfl)) (by decide) (by decide) (by decide) (by decide)).mono ?_
  rintro e w2 ⟨p, mp, ap, rfl, hp, hmp, hap, hM, hb2⟩
  have s1 := hb1.out.size
  have F0 := Lib.hid (Free.new (N := w.heap.size) (mp := mp) (Nat.le_trans s1 hp) (Nat.le_trans s1 hap))
  have hM := Lib.hid hM
  have B2 := Lib.hid (hb1.out.trans (hb2.mono s1))
  clear hp hmp hap hb2 ho hb1
  go_wp2_with fail
  refine (cpu_run (fun k => k < w.heap.size) 100 p mp ap _ _ w2 hM.out (by decide) F0.out (fun k hk => Nat.lt_of_lt_of_le hk B2.out.size)).mono ?_
  rintro e w3 ⟨rfl, ov3, hM3, K3, F3, S3⟩
  rw [oc_65]
  have F4 := Lib.hid (F3.add hM3 (Nat.le_refl _))
  have hM4 := Lib.hid hM3
  have B3 := Lib.hid K3
  have S3 := Lib.hid S3
  clear hM3 K3 F3 hM F0
  go_wp2_with fail
  have BK := Lib.hid (Blk.new w3 28 #[.int .i64 1, .int .i64 0, .string ⟨#[65]⟩, .int .i64 5, .int .i64 0])
  have hM5 := Lib.hid (hM4.out.alloc (.cells #[.int .i64 1, .int .i64 0, .string ⟨#[65]⟩, .int .i64 5, .int .i64 0] 28))
  have B4 := Lib.hid (B3.out.alloc S3.out (.cells #[.int .i64 1, .int .i64 0, .string ⟨#[65]⟩, .int .i64 5, .int .i64 0] 28))
  have S4 : ∀ k, (k < w.heap.size ∨ k = w3.heap.size) → k < (w3.alloc (.cells #[.int .i64 1, .int .i64 0, .string ⟨#[65]⟩, .int .i64 5, .int .i64 0] 28)).heap.size := by
    rintro k (hk | rfl)
    · have := S3.out k hk; simp; omega
    · simp
  have S4 := Lib.hid S4
  generalize hW : w3.alloc (.cells #[.int .i64 1, .int .i64 0, .string ⟨#[65]⟩, .int .i64 5, .int .i64 0] 28) = W at *
  clear hW
  refine (cpu_run (fun k => k < w.heap.size ∨ k = w3.heap.size) 100 p mp ap _ _ W hM5.out (by decide) F4.out S4.out).mono ?_
  rintro e w5 ⟨rfl, ov5, hM6, K5, F6, S6⟩
  rw [oc_65']
  have BK5 := Lib.hid (BK.out.kept K5 (Or.inr rfl))
  have b0 := BK5.out.cell 0
  have b2 := BK5.out.cell 2
  have b3 := BK5.out.cell 3
  simp only [List.getElem?_toArray, List.getElem?_cons_zero, List.getElem?_cons_succ] at b0 b2 b3
  have hz := BK5.out.lt
  have B5 : Below w.heap.size w w5 := (B2.out.trans (B4.out.to_below fun k hk => hk)).trans (K5.to_below fun k hk => Or.inl hk)
  have s5 := B5.size
  have B6 := Lib.hid (B5.alloc s5 (.cells #[.int .i64 1, .int .i64 0, .string ⟨#[65]⟩, .int .i64 0, .int .i64 0] 28))
  clear hM6 K5 F6 S6 BK BK5 hM5 B4 S4 hM4 B3 S3 B5 s5
  go_wp2_with fail
  go_ret
  exact ⟨rfl, B6.out⟩

end Go.Proofs.Ytefgajojimkdiaa
