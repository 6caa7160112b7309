/-
  What runs of the machine keep. No program in sight.
-/
import Derived.Test.YtefgajojimkdiaaZLaw
import Derived.Laws.BytesArg
import Derived.Test.YtefgajojimkdiaaZCpuReckA
import Derived.Test.YtefgajojimkdiaaZCpuReckB
import Derived.Test.YtefgajojimkdiaaZCpuReckC
import Derived.Test.YtefgajojimkdiaaZCpuStep
import Derived.Test.YtefgajojimkdiaaZMem
import Derived.Test.YtefgajojimkdiaaZCpuHalt
import Derived.Test.YtefgajojimkdiaaProg
import Derived.WalkKit
import Derived.OwnWalk
import Derived.Deep.AppendLies
import Derived.Lib.Hide
import Derived.Lib.LazyBuf
namespace Go.Proofs.Ytefgajojimkdiaa
set_option linter.unusedVariables false
set_option linter.unusedSimpArgs false
open Go.RowKit Bw

namespace Mc
/-- Nothing that was put out or read is taken back. -/
def Goes (m m' : Mc) : Prop := (∃ t, m'.out = m.out ++ t) ∧ m.read ≤ m'.read ∧ m'.inp = m.inp
theorem Goes.refl (m : Mc) : Goes m m := ⟨⟨[], by simp⟩, Nat.le_refl _, rfl⟩
theorem Goes.trans {a b c : Mc} (h1 : Goes a b) (h2 : Goes b c) : Goes a c := by
  obtain ⟨⟨t, ht⟩, h3, h4⟩ := h1
  obtain ⟨⟨u, hu⟩, h5, h6⟩ := h2
  exact ⟨⟨t ++ u, by rw [hu, ht, List.append_assoc]⟩, Nat.le_trans h3 h5, h6.trans h4⟩
theorem Goes.same {m m' : Mc} (h1 : m'.out = m.out) (h2 : m'.read = m.read) (h3 : m'.inp = m.inp) : Goes m m' := ⟨⟨[], by simp [h1]⟩, by omega, h3⟩
theorem goes_loads (m : Mc) (a at_ : Int) (small : Bool) : Goes m (m.loads a at_ small) := by
  unfold Mc.loads
  split
  · split
    · exact ⟨⟨[], by simp [Mc.sets]⟩, by simp [Mc.sets], rfl⟩
    · exact Goes.same rfl rfl rfl
  split
  · exact Goes.same rfl rfl rfl
  split
  · exact Goes.same rfl rfl rfl
  · exact Goes.same rfl rfl rfl
theorem goes_stores (m : Mc) (at_ v : Int) (small : Bool) : Goes m (m.stores at_ v small) := by
  unfold Mc.stores
  split
  · split
    · exact Goes.same rfl rfl rfl
    · exact ⟨⟨[v % 256], rfl⟩, Nat.le_refl _, rfl⟩
  split
  · exact Goes.same rfl rfl rfl
  split
  · exact Goes.same rfl rfl rfl
  split
  · exact Goes.same rfl rfl rfl
  · exact Goes.same rfl rfl rfl
theorem goes_does (m : Mc) (x : Ins) : Goes m (m.does x) := by
  unfold Mc.does
  split
  · unfold Mc.moves
    split
    · exact goes_stores _ _ _ _
    · exact goes_loads _ _ _ _
  split
  · unfold Mc.jumps
    split
    · exact Goes.same rfl rfl rfl
    · exact Goes.refl m
  · unfold Mc.reckons
    split
    · exact Goes.same rfl rfl rfl
    split
    · exact Goes.same rfl rfl rfl
    · exact Goes.same rfl rfl rfl
theorem goes_step (m : Mc) : Goes m m.step := by
  unfold Mc.step
  split
  · simp only
    split
    · exact Goes.trans (Goes.same rfl rfl rfl) (goes_does _ _)
    · exact Goes.same rfl rfl rfl
  · exact Goes.same rfl rfl rfl
theorem goes_run (m : Mc) (n : Nat) : Goes m (m.run n) := by
  induction n generalizing m with
  | zero => exact Goes.refl m
  | succ n ih =>
    rw [Mc.run]
    split
    · exact (goes_step m).trans (ih _)
    · exact Goes.refl m
end Mc

/-- Does a text begin with another one? -/
def begins (s t : ByteArray) : Bool := decide (t.size ≤ s.size) && ((s.extract 0 t.size).toList == t.toList)
theorem begins_out (x t : List Int) : begins (strOfNums (x ++ t)) (strOfNums x) = true := by
  have e : (strOfNums (x ++ t)).extract 0 (strOfNums x).size = strOfNums x := by
    apply ByteArray.ext
    rw [ByteArray.data_extract, strOfNums_size]
    simp [strOfNums]
  rw [begins, e]
  simp [strOfNums_size]
theorem begins_goes {m m' : Mc} (h : Mc.Goes m m') : begins (strOfNums m'.out) (strOfNums m.out) = true := by
  obtain ⟨⟨t, ht⟩, _⟩ := h
  rw [ht]; exact begins_out _ _

end Go.Proofs.Ytefgajojimkdiaa

/-
  The machine's reckons and its steps: joined contracts.
-/
namespace Go.Proofs.Ytefgajojimkdiaa
set_option linter.unusedVariables false
set_option linter.unusedSimpArgs false
open Go.RowKit Bw

theorem good_u (form : Int) (u v : Bool) (a b c op im : Int) (hg : Ins.good ⟨form, u, v, a, b, c, op, im⟩ = true) (hf : form = 0 ∨ form = 1) : Alu.okOp op u = true ∧ (form = 0 → v = true → u = true ∧ op = 0) := by
  have hr := Ins.good_range _ hg
  simp only at hr
  rcases hf with rfl | rfl
  · cases u <;> cases v <;> simp [Ins.good, Ins.uop] at hg <;> simp [Alu.okOp] <;> omega
  · cases u <;> cases v <;> simp [Ins.good, Ins.uop] at hg <;> simp [Alu.okOp] <;> omega

theorem reckons_all : Reckons := by
  intro S x hx hf p mp ap ov m w h hF hS
  obtain ⟨form, u, v, a, b, c, op, im⟩ := x
  have hr := Ins.good_range _ hx
  have hc := Ins.good_ci _ _ _ _ _ _ _ _ hx
  have hu := good_u _ _ _ _ _ _ _ _ hx hf
  simp only at hf hr
  obtain ⟨A, rfl⟩ := Int.eq_ofNat_of_zero_le hr.2.2.1
  obtain ⟨B, rfl⟩ := Int.eq_ofNat_of_zero_le hr.2.2.2.2.1
  obtain ⟨C, rfl⟩ := Int.eq_ofNat_of_zero_le hr.2.2.2.2.2.2.1
  have hA : A < 16 := by omega
  have hB : B < 16 := by omega
  have hC : C < 16 := by omega
  rcases hf with rfl | rfl
  · obtain rfl := hc.1 rfl
    cases v
    · have e : m.reckons ⟨0, u, false, (A : Int), (B : Int), (C : Int), op, 0⟩ = { m with r := m.r.set A (Alu.R op u (m.r.getD B 0) (m.r.getD C 0) m.h m.f), h := Alu.H op u (m.r.getD B 0) (m.r.getD C 0) m.h, f := Alu.F op u (m.r.getD B 0) (m.r.getD C 0) m.h m.f } := by
        simp [Mc.reckons, Mc.reg, Mc.opnd]
      rw [e]
      exact cpu_reckons_0 S A B C op 0 u p mp ap ov m w h hA hB hC hu.1 hF hS
    · obtain ⟨rfl, rfl⟩ := hu.2 rfl rfl
      have e : m.reckons ⟨0, true, true, (A : Int), (B : Int), (C : Int), 0, 0⟩ = m.sets A (Mc.packed m.f) := by
        simp [Mc.reckons]
      rw [e]
      exact cpu_reckons_flags S A B C p mp ap ov m w h hA hC hF hS
  · have hi := Ins.good_im1 _ _ _ _ _ _ _ hx
    have hc0 : C = 0 := by have := hc.2.1 rfl; omega
    subst hc0
    by_cases he : op = 0 ∧ u = true
    · obtain ⟨rfl, rfl⟩ := he
      have e : m.reckons ⟨1, true, v, (A : Int), (B : Int), ((0 : Nat) : Int), 0, im⟩ = m.sets A (im * 65536 % 4294967296) := by
        simp [Mc.reckons]
      rw [e]
      exact cpu_reckons_up S v A B im p mp ap ov m w h hA hi.1 hi.2 hF hS
    · have he' : op ≠ 0 ∨ u = false := by
        by_cases h1 : op = 0
        · exact Or.inr (by cases u; rfl; exact absurd ⟨h1, rfl⟩ he)
        · exact Or.inl h1
      have him : im % 65536 = im := Int.emod_eq_of_lt hi.1 hi.2
      have n1 : ¬ (op = 0 ∧ u = true ∧ (1 : Int) = 1) := fun h => he ⟨h.1, h.2.1⟩
      cases v
      · have e : m.reckons ⟨1, u, false, (A : Int), (B : Int), ((0 : Nat) : Int), op, im⟩ = { m with r := m.r.set A (Alu.R op u (m.r.getD B 0) im m.h m.f), h := Alu.H op u (m.r.getD B 0) im m.h, f := Alu.F op u (m.r.getD B 0) im m.h m.f } := by
          unfold Mc.reckons
          rw [if_neg n1, if_neg (fun h => by cases h.2.2)]
          simp [Mc.reg, Mc.opnd, him]
        rw [e]
        exact cpu_reckons_1f S A B 0 op im u p mp ap ov m w h hA hB hi.1 hi.2 hu.1 he' hF hS
      · have e : m.reckons ⟨1, u, true, (A : Int), (B : Int), ((0 : Nat) : Int), op, im⟩ = { m with r := m.r.set A (Alu.R op u (m.r.getD B 0) (im + 4294901760) m.h m.f), h := Alu.H op u (m.r.getD B 0) (im + 4294901760) m.h, f := Alu.F op u (m.r.getD B 0) (im + 4294901760) m.h m.f } := by
          unfold Mc.reckons
          rw [if_neg n1, if_neg (fun h => he ⟨h.1, h.2.1⟩)]
          simp [Mc.reg, Mc.opnd, him]
        rw [e]
        exact cpu_reckons_1t S A B 0 op im u p mp ap ov m w h hA hB hi.1 hi.2 hu.1 he' hF hS

theorem cpu_run (S : Nat → Prop) (n : Nat) (p mp ap : Nat) (ov : Value) (m : Mc) (w : World) (h : Mach w p mp ap ov m) (hn : (n : Int) ≤ 4194304) (hF : Free S p ap ov) (hS : ∀ k, S k → k < w.heap.size) :
    Calls Try.prog 19 #[.pointer (some ⟨p, 0, none⟩), .int .i64 n] w fun e w' => e = .returned (.tuple #[(m.run n).oc (m.steps n), .int .i64 0]) ∧ Stored S p mp ap (m.run n) w w' :=
  cpu_run_of reckons_all S n p mp ap ov m w h hn hF hS

end Go.Proofs.Ytefgajojimkdiaa

/-
  The machine's small functions, walked.
-/
namespace Go.Proofs.Ytefgajojimkdiaa
set_option linter.unusedVariables false
set_option linter.unusedSimpArgs false
open Go.RowKit Bw

set_option maxHeartbeats 1000000 in
theorem cpu_pc (p mp ap : Nat) (ov : Value) (m : Mc) (w : World) (h : Mach w p mp ap ov m) :
    Calls Try.prog 20 #[.pointer (some ⟨p, 0, none⟩)] w fun e w' => e = .returned (.int .i64 m.pc) ∧ w = w' := by
  have c := h.pc_
  have h := Lib.hid h
  go_enter Try.func20, Try.ntmps20
  go_wp2_with fail
  go_ret
  exact ⟨rfl, rfl⟩

set_option maxHeartbeats 1000000 in
theorem cpu_memory (p mp ap : Nat) (ov : Value) (m : Mc) (w : World) (h : Mach w p mp ap ov m) :
    Calls Try.prog 23 #[.pointer (some ⟨p, 0, none⟩)] w fun e w' => e = .returned (.pointer (some ⟨mp, 0, none⟩)) ∧ w = w' := by
  have c := h.mem_
  have h := Lib.hid h
  go_enter Try.func23, Try.ntmps23
  go_wp2_with fail
  go_ret
  exact ⟨rfl, rfl⟩

set_option maxRecDepth 100000 in
set_option maxHeartbeats 1000000 in
theorem cpu_reg (p mp ap a : Nat) (ov : Value) (m : Mc) (w : World) (h : Mach w p mp ap ov m) (ha : a < 16) :
    Calls Try.prog 22 #[.pointer (some ⟨p, 0, none⟩), .int .i64 a] w fun e w' => e = .returned (.int .u32 (m.r.getD a 0)) ∧ w = w' := by
  have c := h.reg a ha
  have h := Lib.hid h
  have ha' : (a : Int) ≤ 15 := by omega
  have ha2 : (a : Int) < 16 := by omega
  generalize m.r.getD a 0 = x at *
  go_enter Try.func22, Try.ntmps22
  go_wp2_with fail
  go_ret
  exact ⟨rfl, rfl⟩

set_option maxHeartbeats 1000000 in
theorem cpu_reg_out (p : Nat) (a : Int) (w : World) (ha : a < 0 ∨ 15 < a) :
    Calls Try.prog 22 #[.pointer (some ⟨p, 0, none⟩), .int .i64 a] w fun e w' => e = .returned (.int .u32 0) ∧ w = w' := by
  rcases ha with ha | ha
  · go_enter Try.func22, Try.ntmps22
    go_wp2_with fail
    go_ret
    exact ⟨rfl, rfl⟩
  · by_cases h0 : a < 0
    · omega
    go_enter Try.func22, Try.ntmps22
    go_wp2_with fail
    go_ret
    exact ⟨rfl, rfl⟩

theorem cpu_nil_reg (a : Int) (w : World) :
    Calls Try.prog 22 #[.pointer none, .int .i64 a] w fun e w' => e = .returned (.int .u32 0) ∧ w = w' := by
  go_enter Try.func22, Try.ntmps22
  go_wp2_with fail
  go_ret
  exact ⟨rfl, rfl⟩

theorem cpu_nil_pc (w : World) :
    Calls Try.prog 20 #[.pointer none] w fun e w' => e = .returned (.int .i64 0) ∧ w = w' := by
  go_enter Try.func20, Try.ntmps20
  go_wp2_with fail
  go_ret
  exact ⟨rfl, rfl⟩

theorem cpu_nil_memory (w : World) :
    Calls Try.prog 23 #[.pointer none] w fun e w' => e = .returned (.pointer none) ∧ w = w' := by
  go_enter Try.func23, Try.ntmps23
  go_wp2_with fail
  go_ret
  exact ⟨rfl, rfl⟩

set_option maxHeartbeats 1000000 in
theorem cpu_nil_run (n : Int) (w : World) :
    Calls Try.prog 19 #[.pointer none, .int .i64 n] w fun e w' => e = .returned (.tuple #[.agg #[.int .i64 0, .int .i64 0, .string ⟨#[]⟩, .int .i64 0, .int .i64 0], .int .i64 1]) ∧ Below w.heap.size w w' := by
  go_enter Try.func19, Try.ntmps19
  go_wp2_with fail
  refine bodyPost_ret (by simp only [results, Try.results19]; go_simp) rfl ⟨rfl, ?_⟩
  exact (Below.refl _ _).alloc (Nat.le_refl _) _

set_option maxHeartbeats 1000000 in
theorem cpu_run_none (p : Nat) (n : Int) (w : World) (hn : n < 0 ∨ 4194304 < n) :
    Calls Try.prog 19 #[.pointer (some ⟨p, 0, none⟩), .int .i64 n] w fun e w' => e = .returned (.tuple #[.agg #[.int .i64 0, .int .i64 0, .string ⟨#[]⟩, .int .i64 0, .int .i64 0], .int .i64 1]) ∧ Below w.heap.size w w' := by
  by_cases h0 : n < 0
  · clear hn
    go_enter Try.func19, Try.ntmps19
    go_wp2_with fail
    refine bodyPost_ret (by simp only [results, Try.results19]; go_simp) rfl ⟨rfl, ?_⟩
    exact (Below.refl _ _).alloc (Nat.le_refl _) _
  · have h1 : 4194304 < n := by omega
    clear hn
    go_enter Try.func19, Try.ntmps19
    go_wp2_with fail
    refine bodyPost_ret (by simp only [results, Try.results19]; go_simp) rfl ⟨rfl, ?_⟩
    exact (Below.refl _ _).alloc (Nat.le_refl _) _

set_option maxHeartbeats 1000000 in
theorem keep_begins (s t : ByteArray) (w : World) (hs : s.size ≤ 9223372036854775807) (ht : t.size ≤ 9223372036854775807) :
    Calls Try.prog 21 #[.string s, .string t] w fun e w' => e = .returned (.bool (begins s t)) ∧ w = w' := by
  unfold begins
  by_cases hl : t.size ≤ s.size
  · have hl' : (t.size : Int) ≤ s.size := by omega
    go_enter Try.func21, Try.ntmps21
    go_wp2_with fail
    go_ret
    exact ⟨by simp [hl], rfl⟩
  · have hl' : ¬ (t.size : Int) ≤ s.size := by omega
    go_enter Try.func21, Try.ntmps21
    go_wp2_with fail
    go_ret
    exact ⟨by simp [hl], rfl⟩

end Go.Proofs.Ytefgajojimkdiaa

/-
  What the small program of Halt comes to. No program in sight.
-/
namespace Go.Proofs.Ytefgajojimkdiaa
set_option linter.unusedVariables false
set_option linter.unusedSimpArgs false
open Go.RowKit Bw

theorem halt_65 : ((Mc.start ((haltIns 65).map Ins.E) 0 ⟨#[]⟩).run 100).en = 1 ∧ ((Mc.start ((haltIns 65).map Ins.E) 0 ⟨#[]⟩).run 100).out = [65] ∧ (Mc.start ((haltIns 65).map Ins.E) 0 ⟨#[]⟩).steps 100 = 5 ∧
    ((Mc.start ((haltIns 65).map Ins.E) 0 ⟨#[]⟩).run 100).trap = 0 ∧ ((Mc.start ((haltIns 65).map Ins.E) 0 ⟨#[]⟩).run 100).read = 0 := by decide +kernel
theorem halt_66 : ((Mc.start ((haltIns 66).map Ins.E) 0 ⟨#[]⟩).run 100).en = 1 ∧ ((Mc.start ((haltIns 66).map Ins.E) 0 ⟨#[]⟩).run 100).out = [66] ∧ (Mc.start ((haltIns 66).map Ins.E) 0 ⟨#[]⟩).steps 100 = 5 ∧
    ((Mc.start ((haltIns 66).map Ins.E) 0 ⟨#[]⟩).run 100).trap = 0 ∧ ((Mc.start ((haltIns 66).map Ins.E) 0 ⟨#[]⟩).run 100).read = 0 := by decide +kernel
theorem halt_words (b : Int) (h : b = 65 ∨ b = 66) : ∀ x ∈ (haltIns b).map Ins.E, Mc.W32 x := by
  have key : ∀ y ∈ (haltIns b).map Ins.E, 0 ≤ y ∧ y < 4294967296 := by
    rcases h with rfl | rfl <;> decide +kernel
  exact key
theorem oc_65 : ((Mc.start ((haltIns 65).map Ins.E) 0 ⟨#[]⟩).run 100).oc ((Mc.start ((haltIns 65).map Ins.E) 0 ⟨#[]⟩).steps 100) = .agg #[.int .i64 1, .int .i64 0, .string ⟨#[65]⟩, .int .i64 5, .int .i64 0] := by
  obtain ⟨h1, h2, h3, h4, h5⟩ := halt_65
  rw [Mc.oc, h1, h2, h3, h4, h5]; rfl
theorem oc_65' : (((Mc.start ((haltIns 65).map Ins.E) 0 ⟨#[]⟩).run 100).run 100).oc (((Mc.start ((haltIns 65).map Ins.E) 0 ⟨#[]⟩).run 100).steps 100) = .agg #[.int .i64 1, .int .i64 0, .string ⟨#[65]⟩, .int .i64 0, .int .i64 0] := by
  obtain ⟨h1, h2, h3, h4, h5⟩ := halt_65
  obtain ⟨e1, e2⟩ := Mc.run_ended ((Mc.start ((haltIns 65).map Ins.E) 0 ⟨#[]⟩).run 100) 100 (by rw [h1]; decide)
  rw [e1, e2, Mc.oc, h1, h2, h4, h5]; rfl
theorem oc_66 : ((Mc.start ((haltIns 66).map Ins.E) 0 ⟨#[]⟩).run 100).oc ((Mc.start ((haltIns 66).map Ins.E) 0 ⟨#[]⟩).steps 100) = .agg #[.int .i64 1, .int .i64 0, .string ⟨#[66]⟩, .int .i64 5, .int .i64 0] := by
  obtain ⟨h1, h2, h3, h4, h5⟩ := halt_66
  rw [Mc.oc, h1, h2, h3, h4, h5]; rfl
/-- A machine without words. -/
theorem oc_none : ((Mc.start [] 0 ⟨#[]⟩).run 1).oc ((Mc.start [] 0 ⟨#[]⟩).steps 1) = .agg #[.int .i64 5, .int .i64 0, .string ⟨#[]⟩, .int .i64 1, .int .i64 0] := rfl

theorem Free.add {S : Nat → Prop} {p mp ap : Nat} {ov : Value} {m : Mc} {w : World} (h : Free S p ap ov) (hm : Mach w p mp ap ov m) {g : Nat} (hg : w.heap.size ≤ g) : Free (fun k => S k ∨ k = g) p ap ov := by
  have h1 := hm.blk.lt
  have h2 := hm.mem.2.lt
  refine ⟨?_, ?_, fun b hb => ?_⟩
  · rintro (h3 | h3)
    · exact h.1 h3
    · omega
  · rintro (h3 | h3)
    · exact h.2.1 h3
    · omega
  · have h4 := (hm.out.lt b hb).2
    rintro (h3 | h3)
    · exact h.2.2 b hb h3
    · omega
theorem Free.new {N p mp ap : Nat} (h1 : N ≤ p) (h2 : N ≤ ap) : Free (fun k => k < N) p ap (.slice none 0 0) :=
  ⟨by omega, by omega, fun b hb => by cases hb⟩

end Go.Proofs.Ytefgajojimkdiaa

/-
  The statements' wakes, walked.
-/
namespace Go.Proofs.Ytefgajojimkdiaa
set_option linter.unusedVariables false
set_option linter.unusedSimpArgs false
open Go.RowKit Bw

set_option maxRecDepth 100000 in
set_option maxHeartbeats 4000000 in
theorem law05_wakes (w : World) : Calls Try.prog 15 #[] w fun e w' => e = .returned (.bool true) ∧ Below w.heap.size w w' := by
  go_enter Try.func15, Try.ntmps15
  go_wp2_with fail
  refine (law05_halt 65 w (by decide) (by decide)).mono ?_
  rintro e w1 ⟨v, rfl, ho, hb1⟩
  have ho := Lib.hid ho
  have hb1 := Lib.hid hb1
  go_wp2_with fail
  refine (cpu_new ((haltIns 65).map Ins.E) 0 ⟨#[]⟩ v w1 (row_of_own ho.out) (halt_words 65 (Or.inl rfl)) (by decide) (by decide) (by decide) (by decide)).mono ?_
  rintro e w2 ⟨p, mp, ap, rfl, hp, hmp, hap, hM, hb2⟩
  have s1 := hb1.out.size
  have F0 := Lib.hid (Free.new (N := w.heap.size) (mp := mp) (Nat.le_trans s1 hp) (Nat.le_trans s1 hap))
  have hM := Lib.hid hM
  have B2 := Lib.hid (hb1.out.trans (hb2.mono s1))
  clear hp hmp hap hb2 ho hb1
  go_wp2_with fail
  refine (cpu_run (fun k => k < w.heap.size) 100 p mp ap _ _ w2 hM.out (by decide) F0.out (fun k hk => Nat.lt_of_lt_of_le hk B2.out.size)).mono ?_
  rintro e w3 ⟨rfl, ov3, hM3, K3, F3, S3⟩
  rw [oc_65]
  have F4 := Lib.hid (F3.add hM3 (Nat.le_refl _))
  have hM4 := Lib.hid hM3
  have B3 := Lib.hid K3
  have S3 := Lib.hid S3
  clear hM3 K3 F3 hM F0
  go_wp2_with fail
  have BK := Lib.hid (Blk.new w3 28 #[.int .i64 1, .int .i64 0, .string ⟨#[65]⟩, .int .i64 5, .int .i64 0])
  have hM5 := Lib.hid (hM4.out.alloc (.cells #[.int .i64 1, .int .i64 0, .string ⟨#[65]⟩, .int .i64 5, .int .i64 0] 28))
  have B4 := Lib.hid (B3.out.alloc S3.out (.cells #[.int .i64 1, .int .i64 0, .string ⟨#[65]⟩, .int .i64 5, .int .i64 0] 28))
  have S4 : ∀ k, (k < w.heap.size ∨ k = w3.heap.size) → k < (w3.alloc (.cells #[.int .i64 1, .int .i64 0, .string ⟨#[65]⟩, .int .i64 5, .int .i64 0] 28)).heap.size := by
    rintro k (hk | rfl)
    · have := S3.out k hk; simp; omega
    · simp
  have S4 := Lib.hid S4
  generalize hW : w3.alloc (.cells #[.int .i64 1, .int .i64 0, .string ⟨#[65]⟩, .int .i64 5, .int .i64 0] 28) = W at *
  clear hW
  refine (cpu_run (fun k => k < w.heap.size ∨ k = w3.heap.size) 100 p mp ap _ _ W hM5.out (by decide) F4.out S4.out).mono ?_
  rintro e w5 ⟨rfl, ov5, hM6, K5, F6, S6⟩
  rw [oc_65']
  have BK5 := Lib.hid (BK.out.kept K5 (Or.inr rfl))
  have b0 := BK5.out.cell 0
  have b2 := BK5.out.cell 2
  have b3 := BK5.out.cell 3
  simp only [List.getElem?_toArray, List.getElem?_cons_zero, List.getElem?_cons_succ] at b0 b2 b3
  have hz := BK5.out.lt
  have B5 : Below w.heap.size w w5 := (B2.out.trans (B4.out.to_below fun k hk => hk)).trans (K5.to_below fun k hk => Or.inl hk)
  have s5 := B5.size
  have B6 := Lib.hid (B5.alloc s5 (.cells #[.int .i64 1, .int .i64 0, .string ⟨#[65]⟩, .int .i64 0, .int .i64 0] 28))
  clear hM6 K5 F6 S6 BK BK5 hM5 B4 S4 hM4 B3 S3 B5 s5
  go_wp2_with fail
  go_ret
  exact ⟨rfl, B6.out⟩

end Go.Proofs.Ytefgajojimkdiaa

/-
  'append([]T{}, s...)' of numbers: one law for the walk, whatever s is; slices.Clone.
-/
namespace Go.Proofs.Ytefgajojimkdiaa
set_option linter.unusedVariables false
set_option linter.unusedSimpArgs false
open Go.RowKit

theorem cl_row_src {q : IntKind} {w : World} {ad : Addr} {l : List Int} (h : ∀ k, k < l.length → w.cell? (ad.add k) = some (.int q (l.getD k 0))) : ∀ j u, (l.map (Value.int q))[j]? = some u → w.cell? (ad.add j) = some u := by
  intro j u hu
  rw [List.getElem?_map] at hu
  by_cases hj : j < l.length
  · rw [List.getElem?_eq_getElem hj] at hu
    have := h j hj
    rw [this]
    simpa [List.getD, hj] using hu
  · rw [List.getElem?_eq_none (by omega)] at hu; cases hu
theorem cl_ints_one (q : IntKind) (xs : List Int) : ∀ u ∈ (xs.map (Value.int q)), u.oneCell' = true := by
  intro u hu
  simp only [List.mem_map] at hu
  obtain ⟨x, _, rfl⟩ := hu
  rfl
theorem cl_nothing {P : Program} (w : World) (t ty e : TypeId) (c g : Nat) (ht : P.underlying t = some (.slice e)) (i : TypeInfo) (hi : P.info? e = some i) (hh : ∃ cur t' fr, w.heap[g]? = some (.cells cur t' fr)) :
    (Builtin.append_ #[t, t] ty #[.slice (some ⟨g, 0, none⟩) 0 0, .slice none 0 c]).run P w = .ok (.slice (some ⟨g, 0, none⟩) 0 0) w := by
  simp [Builtin.append_, run_underlying ht, sizeOf, typeInfo, hi, Builtin.lenOf, Builtin.firstCells, storeCells]
theorem wp_clone {P : Program} {o : Oper} {a : Act} {K : Act → World → Prop} {Q : Exit → Act → World → Prop} (W : World) (s x : Operand) (t e : TypeId)
    (hop : o.op = .call { callee := .builtin .append, args := #[s, x], argTypes := #[t, t] }) (q : IntKind) (bytes : Nat) (ht : P.underlying t = some (.slice e))
    (info : (P.info? e).map (fun i => (i.zero, i.size, i.bytes)) = some (some (.int q 0), 1, bytes)) (hb : bytes ≤ 8) (l : List Int) (v : Value) (hs : a.eval s = .slice (some ⟨W.heap.size, 0, none⟩) 0 0) (hx : a.eval x = v) (hr : Row q W v l) (hl : l.length ≤ 1000000)
    (hK : ∀ g c w2, w2.ownsRow W.heap.size e 1 (.slice (some ⟨g, 0, none⟩) l.length c) l.length (l.map (.int q)) → Below W.heap.size W w2 → W.heap.size ≤ g → g < w2.heap.size → K (a.put o.dst (.slice (some ⟨g, 0, none⟩) l.length c)) w2) : o.wp P a (W.alloc (.cells #[] e)) K Q := by
  have own0 : (W.alloc (.cells #[] e)).ownsRow W.heap.size e 1 (.slice (some ⟨W.heap.size, 0, none⟩) 0 0) 0 [] := ⟨rfl, Or.inr ⟨W.heap.size, 0, _, rfl, Nat.le_refl _, heap_alloc_new W _, Nat.le_refl _, by decide, rfl, rfl⟩⟩
  have B1 : Below W.heap.size W (W.alloc (.cells #[] e)) := (Below.refl _ _).alloc (Nat.le_refl _) _
  obtain ⟨i0, hi0, hz0, hz1, hz2⟩ := info_parts info
  obtain ⟨hm, A, c, rfl, hc⟩ := hr
  rcases A with _ | ad
  · have h0 : l = [] := by
      cases l with
      | nil => rfl
      | cons x xs => obtain ⟨ad, h, _⟩ := hc 0 (by simp); cases h
    subst h0
    have HN := fun ty => cl_nothing (P := P) (W.alloc (.cells #[] e)) t ty e c W.heap.size ht i0 hi0 ⟨_, _, _, heap_alloc_new W _⟩
    unfold Oper.wp execOp
    simp only [hop, resolve, invoke, builtin, Sem.run_bind, Sem.run_pure, Result.andThen_ok, List.map_toArray, List.map_cons, List.map_nil, hs, hx, List.length_nil, HN]
    exact (hK _ _ _ own0 B1 (Nat.le_refl _) (by simp))
  · refine wp_append_own (W.alloc (.cells #[] e)) s x t hop W.heap.size e i0 _ 1 bytes ht hi0 hz0 hz1 hz2 rfl (by omega) _ 0 [] hs own0 ad l.length c (l.map (Value.int q)) hx (by simp)
      (cl_row_src (fun k hk => by obtain ⟨ad', e1, ha, hxx⟩ := hc k hk; injection e1 with e1; subst e1; exact (World.cell?_alloc_lt W _ _ (by rw [block_add]; exact ha)).trans hxx)) (cl_ints_one _ _) (by simp only [maxLen]; omega) (by
        have : (0 + l.length) * bytes ≤ (0 + l.length) * 8 := Nat.mul_le_mul_left _ hb
        omega) (by simp) ?_
    intro v2 w2 ho2 hg2 hn2
    simp only [Nat.zero_add, List.nil_append] at ho2
    have B2 : Below W.heap.size W w2 := B1.grown hg2 (by simp) (fun k hk => by have := own0.lt k hk; exact this.1)
    rcases ho2.2 with ⟨rfl, h2⟩ | ⟨g, cap, cur, rfl, hg', hh, r⟩
    · cases hn2.1 rfl
      rename_i h3 h4
      cases h3
    · exact hK g cap w2 ho2 B2 hg' (Array.getElem?_eq_some_iff.1 hh).1
theorem wpList_clone {P : Program} {ops : Array Oper} {rest : List Oper} {o : Oper} {a : Act} {Q : Exit → Act → World → Prop} (W : World) (hg : o.guard = none) (s x : Operand) (t e : TypeId)
    (hop : o.op = .call { callee := .builtin .append, args := #[s, x], argTypes := #[t, t] }) (q : IntKind) (bytes : Nat) (ht : P.underlying t = some (.slice e))
    (info : (P.info? e).map (fun i => (i.zero, i.size, i.bytes)) = some (some (.int q 0), 1, bytes)) (hb : bytes ≤ 8) (l : List Int) (v : Value) (hs : a.eval s = .slice (some ⟨W.heap.size, 0, none⟩) 0 0) (hx : a.eval x = v) (hr : Row q W v l) (hl : l.length ≤ 1000000)
    (hK : ∀ g c w2, w2.ownsRow W.heap.size e 1 (.slice (some ⟨g, 0, none⟩) l.length c) l.length (l.map (.int q)) → Below W.heap.size W w2 → W.heap.size ≤ g → g < w2.heap.size → wpList P ops Q rest (a.put o.dst (.slice (some ⟨g, 0, none⟩) l.length c)) w2) : wpList P ops Q (o :: rest) a (W.alloc (.cells #[] e)) := by
  exact wpList_plain hg fun K' hK' => wp_clone W s x t e hop q bytes ht info hb l v hs hx hr hl fun g c w2 h1 h2 h3 h4 => hK' _ _ (hK g c w2 h1 h2 h3 h4)
theorem step_clone {P : Program} {ops : Array Oper} {o : Oper} {a : Act} {K : Act → World → Prop} {Q : Exit → Act → World → Prop} {E : Prop} (W : World) (hgd : o.guard = none) (s x : Operand) (t e : TypeId)
    (hop : o.op = .call { callee := .builtin .append, args := #[s, x], argTypes := #[t, t] }) (q : IntKind) (bytes : Nat) (ht : P.underlying t = some (.slice e))
    (info : (P.info? e).map (fun i => (i.zero, i.size, i.bytes)) = some (some (.int q 0), 1, bytes)) (hb : bytes ≤ 8) (l : List Int) (v : Value) (g0 : Nat) (hg0 : W.heap.size = g0) (hs : a.eval s = .slice (some ⟨g0, 0, none⟩) 0 0) (hx : a.eval x = v) (hr : Row q W v l) (hl : l.length ≤ 1000000)
    (hK : ∀ g c w2, w2.ownsRow W.heap.size e 1 (.slice (some ⟨g, 0, none⟩) l.length c) l.length (l.map (.int q)) → Below W.heap.size W w2 → W.heap.size ≤ g → g < w2.heap.size → K (a.put o.dst (.slice (some ⟨g, 0, none⟩) l.length c)) w2) :
    if Region.wanted o (yielded ops a.tmps) = true then Oper.wp P o a (W.alloc (.cells #[] e)) K Q else E := by
  subst hg0
  have hw : Region.wanted o (yielded ops a.tmps) = true := by simp [Region.wanted, hgd]
  rw [if_pos hw]
  exact wp_clone W s x t e hop q bytes ht info hb l v hs hx hr hl hK
theorem clone_u32 : (Try.prog.info? 43).map (fun i => (i.zero, i.size, i.bytes)) = some (some (.int .u32 0), 1, 4) := by kernel_rfl
set_option maxRecDepth 100000 in
theorem slices_clone (l : List Int) (v : Value) (w : World) (hr : Row .u32 w v l) (hl : l.length ≤ 1000000) :
    Calls Try.prog 65 #[v] w fun e w' => ∃ u, e = .returned u ∧ w'.ownsRow w.heap.size 43 1 u l.length (l.map (.int .u32)) ∧ Below w.heap.size w w' := by
  have hr' := Lib.hid hr
  obtain ⟨hm, A, c, rfl, hc⟩ := hr
  rcases A with _ | ad
  · have h0 : l = [] := by
      cases l with
      | nil => rfl
      | cons x xs => obtain ⟨ad, h, _⟩ := hc 0 (by simp); cases h
    subst h0
    clear hc hr' hm hl
    have qN : ∀ W : World, (binOp .eql 32 (.slice none 0 c) (.slice none 0 0)).run Try.prog W = .ok (.bool true) W := fun W => run_eql_slice_nil W _ _ none 0 c Try.underlying32
    go_enter Try.func65, Try.ntmps65
    go_wp2_with fail
    go_ret
    exact ⟨_, rfl, World.ownsRow_nil _ _ _ _, Below.refl _ _⟩
  · clear hc
    have qN : ∀ W : World, (binOp .eql 32 (.slice (some ad) l.length c) (.slice none 0 0)).run Try.prog W = .ok (.bool false) W := fun W => run_eql_slice_nil W _ _ (some ad) l.length c Try.underlying32
    go_enter Try.func65, Try.ntmps65
    go_wp2_with (at_builtin; refine wpList_clone w rfl (.tmp 5) (.tmp 6) 32 43 rfl .u32 4 Try.underlying32 clone_u32 (by omega) l _ rfl rfl hr'.out hl ?_; intro g c2 w2 ho2 B2 _ _; have ho2 := Lib.hid ho2)
    go_ret
    exact ⟨_, rfl, ho2.out, B2⟩

end Go.Proofs.Ytefgajojimkdiaa

/-
  What the statements of the machine share: walked.
-/
namespace Go.Proofs.Ytefgajojimkdiaa
set_option linter.unusedVariables false
set_option linter.unusedSimpArgs false
open Go.RowKit Bw

set_option maxHeartbeats 1000000 in
theorem law05_large (l : List Int) (v : Value) (w : World) (h : Row .u32 w v l) :
    Calls Try.prog 17 #[v] w fun e w' => e = .returned (.bool (decide (3000 < l.length ∧ l.length ≤ 65536 ∨ 70000 < l.length))) ∧ w = w' := by
  obtain ⟨hm, A, c, rfl, hc⟩ := h
  clear hc
  by_cases h1 : (3000 : Int) < l.length
  · by_cases h2 : (l.length : Int) ≤ 65536
    · go_enter Try.func17, Try.ntmps17
      go_wp2_with fail
      go_ret
      exact ⟨by simp; omega, rfl⟩
    · by_cases h3 : (70000 : Int) < l.length
      · go_enter Try.func17, Try.ntmps17
        go_wp2_with fail
        go_ret
        exact ⟨by simp; omega, rfl⟩
      · go_enter Try.func17, Try.ntmps17
        go_wp2_with fail
        go_ret
        exact ⟨by simp; omega, rfl⟩
  · have h2 : ¬ (70000 : Int) < l.length := by omega
    go_enter Try.func17, Try.ntmps17
    go_wp2_with fail
    go_ret
    exact ⟨by simp; omega, rfl⟩

theorem wpList_clone_at {P : Program} {ops : Array Oper} {rest : List Oper} {o : Oper} {a : Act} {Q : Exit → Act → World → Prop} (W : World) (hg : o.guard = none) (s x : Operand) (t e : TypeId)
    (hop : o.op = .call { callee := .builtin .append, args := #[s, x], argTypes := #[t, t] }) (q : IntKind) (bytes : Nat) (ht : P.underlying t = some (.slice e))
    (info : (P.info? e).map (fun i => (i.zero, i.size, i.bytes)) = some (some (.int q 0), 1, bytes)) (hb : bytes ≤ 8) (l : List Int) (v : Value) (g0 : Nat) (hg0 : W.heap.size = g0) (hs : a.eval s = .slice (some ⟨g0, 0, none⟩) 0 0) (hx : a.eval x = v) (hr : Row q W v l) (hl : l.length ≤ 1000000)
    (hK : ∀ g c w2, w2.ownsRow W.heap.size e 1 (.slice (some ⟨g, 0, none⟩) l.length c) l.length (l.map (.int q)) → Below W.heap.size W w2 → W.heap.size ≤ g → g < w2.heap.size → wpList P ops Q rest (a.put o.dst (.slice (some ⟨g, 0, none⟩) l.length c)) w2) : wpList P ops Q (o :: rest) a (W.alloc (.cells #[] e)) := by
  subst hg0
  exact wpList_clone W hg s x t e hop q bytes ht info hb l v hs hx hr hl hK

/-- What is no other machine's block. -/
def Others (w : World) (p ap : Nat) (ov : Value) (k : Nat) : Prop := k < w.heap.size ∧ k ≠ p ∧ k ≠ ap ∧ ov.ownBlock ≠ some k
theorem Others.free (w : World) (p ap : Nat) (ov : Value) : Free (Others w p ap ov) p ap ov :=
  ⟨fun h => h.2.1 rfl, fun h => h.2.2.1 rfl, fun b hb h => h.2.2.2 hb⟩
theorem Others.blk {w : World} {p mp ap g : Nat} {ov : Value} {m : Mc} {t : TypeId} {cs : Array Value} (h : Mach w p mp ap ov m) (hb : Blk w g t cs) (h1 : 89 ≠ t) (h2 : 43 ≠ t) (h3 : 5 ≠ t) : Others w p ap ov g :=
  ⟨hb.lt, fun e => Blk.ne_ (w := w) h.blk hb h1 e.symm, fun e => Blk.ne_ (w := w) h.mem.2 hb h2 e.symm, fun e => own_blk_ne h.out hb h3 g e rfl⟩
/-- A machine that has put out nothing, beside another one. -/
theorem Others.mach {w w' : World} {p mp ap p2 mp2 ap2 : Nat} {ov : Value} {m m2 : Mc} (h : Mach w p mp ap ov m) (h2 : Mach w p2 mp2 ap2 (.slice none 0 0) m2) (hp : p2 ≠ p) (ha : ap2 ≠ ap) (hk : Kept (Others w p ap ov) w w') : Mach w' p2 mp2 ap2 (.slice none 0 0) m2 := by
  refine h2.kept hk ?_ ?_ ?_ (fun b hb => by cases hb)
  · exact ⟨h2.blk.lt, hp, fun e => Blk.ne_ (w := w) h.mem.2 h2.blk (by decide) e.symm, fun e => own_blk_ne h.out h2.blk (by decide) p2 e rfl⟩
  · exact Others.blk h h2.mem.1 (by decide) (by decide) (by decide)
  · exact ⟨h2.mem.2.lt, fun e => Blk.ne_ (w := w) h.blk h2.mem.2 (by decide) e.symm, ha, fun e => own_blk_ne h.out h2.mem.2 (by decide) ap2 e rfl⟩
/-- A machine's struct, beside another machine. -/
theorem Others.cells {w w' : World} {p mp ap p2 : Nat} {ov : Value} {m : Mc} {cs : Array Value} (h : Mach w p mp ap ov m) (h2 : Blk w p2 89 cs) (hp : p2 ≠ p) (hk : Kept (Others w p ap ov) w w') : Blk w' p2 89 cs :=
  h2.kept hk ⟨h2.lt, hp, fun e => Blk.ne_ (w := w) h.mem.2 h2 (by decide) e.symm, fun e => own_blk_ne h.out h2 (by decide) p2 e rfl⟩
theorem Others.below {w w' : World} {p mp ap N : Nat} {ov : Value} {m : Mc} (h : Mach w p mp ap ov m) (hk : Kept (Others w p ap ov) w w') (hN : N ≤ w.heap.size) (hp : N ≤ p) (ha : N ≤ ap) (ho : ∀ b, ov.ownBlock = some b → N ≤ b) : Below N w w' :=
  hk.to_below fun k hlt => ⟨by omega, by omega, by omega, fun e => by have := ho k e; omega⟩
theorem cpu_run_o (n : Nat) (p mp ap : Nat) (ov : Value) (m : Mc) (w : World) (h : Mach w p mp ap ov m) (hn : (n : Int) ≤ 4194304) :
    Calls Try.prog 19 #[.pointer (some ⟨p, 0, none⟩), .int .i64 n] w fun e w' => e = .returned (.tuple #[(m.run n).oc (m.steps n), .int .i64 0]) ∧ Stored (Others w p ap ov) p mp ap (m.run n) w w' :=
  cpu_run (Others w p ap ov) n p mp ap ov m w h hn (Others.free w p ap ov) (fun k hk => hk.1)

/-- What Run leaves: the machine, with a slice of its own; all other blocks. -/
def Ran (N : Nat) (w : World) (p mp ap : Nat) (ov : Value) (m' : Mc) (w' : World) : Prop :=
  ∃ ov', Mach w' p mp ap ov' m' ∧ Kept (Others w p ap ov) w w' ∧ Below N w w' ∧ ∀ b, ov'.ownBlock = some b → N ≤ b
theorem Ran.of {N : Nat} {w w' : World} {p mp ap : Nat} {ov : Value} {m m' : Mc} (h : Mach w p mp ap ov m) (hst : Stored (Others w p ap ov) p mp ap m' w w') (hN : N ≤ w.heap.size) (hp : N ≤ p) (ha : N ≤ ap) (ho : ∀ b, ov.ownBlock = some b → N ≤ b) : Ran N w p mp ap ov m' w' := by
  obtain ⟨ov', hM, hK, hF, hS⟩ := hst
  refine ⟨ov', hM, hK, Others.below h hK hN hp ha ho, fun b hb => ?_⟩
  have n1 := own_blk_ne hM.out hM.blk (by decide) b hb
  have n2 := own_blk_ne hM.out hM.mem.2 (by decide) b hb
  have n3 := hF.2.2 b hb
  rcases Nat.lt_or_ge b w.heap.size with h1 | h1
  · by_cases h2 : ov.ownBlock = some b
    · exact ho b h2
    · exact absurd ⟨h1, fun e => n1 e.symm, fun e => n2 e.symm, h2⟩ n3
  · omega
theorem own_nil (N : Nat) : ∀ b, (Value.slice none 0 0).ownBlock = some b → N ≤ b := fun b hb => by cases hb
theorem cpu_run_n (N n : Nat) (p mp ap : Nat) (ov : Value) (m : Mc) (w : World) (h : Mach w p mp ap ov m) (hn : (n : Int) ≤ 4194304) (hN : N ≤ w.heap.size) (hp : N ≤ p) (ha : N ≤ ap) (ho : ∀ b, ov.ownBlock = some b → N ≤ b) :
    Calls Try.prog 19 #[.pointer (some ⟨p, 0, none⟩), .int .i64 n] w fun e w' => e = .returned (.tuple #[(m.run n).oc (m.steps n), .int .i64 0]) ∧ Ran N w p mp ap ov (m.run n) w' :=
  (cpu_run_o n p mp ap ov m w h hn).mono fun _ _ hh => ⟨hh.1, Ran.of h hh.2 hN hp ha ho⟩
/-- How a run has ended, in the Outcome's number. -/
def Mc.endv (m : Mc) : Int := if m.en = 0 then 3 else m.en
theorem oc_form (m : Mc) (st : Nat) : m.oc st = .agg #[.int .i64 m.endv, .int .i64 m.trap, .string (strOfNums m.out), .int .i64 st, .int .i64 m.read] := rfl
theorem endv_stays (m : Mc) (n : Nat) (h : m.endv ≠ 3) : m.run n = m ∧ m.steps n = 0 := by
  refine Mc.run_ended m n fun h0 => h ?_
  rw [Mc.endv, if_pos h0]

set_option maxHeartbeats 1000000 in
theorem cpu_pc_cell (p : Nat) (x : Int) (w : World) (c : w.cell? ⟨p, 21, none⟩ = some (.int .i64 x)) :
    Calls Try.prog 20 #[.pointer (some ⟨p, 0, none⟩)] w fun e w' => e = .returned (.int .i64 x) ∧ w = w' := by
  go_enter Try.func20, Try.ntmps20
  go_wp2_with fail
  go_ret
  exact ⟨rfl, rfl⟩

theorem w32s_of {l : List Int} (h : ∀ n ∈ l, (Lit.int .u32 n).wf = true) : ∀ x ∈ l, Mc.W32 x := by
  intro x hx
  have := h x hx
  simp [Lit.wf, IntKind.min, IntKind.max, IntKind.bits, IntKind.signed] at this
  unfold Mc.W32
  omega

end Go.Proofs.Ytefgajojimkdiaa
