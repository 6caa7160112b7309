/-
  The statement CpuNone: its walk, out of the contracts.
-/
import Derived.Test.YtefgajojimkdiaaZCpuKit
namespace Go.Proofs.Ytefgajojimkdiaa
set_option linter.unusedVariables false
set_option linter.unusedSimpArgs false
open Go.RowKit Bw

set_option maxRecDepth 100000 in
set_option maxHeartbeats 4000000 in
theorem law05_none (n : Int) (s : ByteArray) (w : World) : Calls Try.prog 7 #[.int .i64 n, .string s] w fun e w' => e = .returned (.bool true) ∧ Below w.heap.size w w' := by
  go_enter Try.func7, Try.ntmps7
  go_wp2_with fail
  refine (cpu_nil_run n w).mono ?_
  rintro e w1 ⟨rfl, hb1⟩
  have BK := Blk.new w1 28 #[.int .i64 0, .int .i64 0, .string ⟨#[]⟩, .int .i64 0, .int .i64 0]
  have hb2 := Lib.hid (hb1.alloc hb1.size (.cells #[.int .i64 0, .int .i64 0, .string ⟨#[]⟩, .int .i64 0, .int .i64 0] 28))
  have s1 := Lib.hid hb1.size
  clear hb1
  have BK := Lib.hid BK
  go_wp2_with fail
  have hg : w1.heap.size < (w1.alloc (.cells #[.int .i64 0, .int .i64 0, .string ⟨#[]⟩, .int .i64 0, .int .i64 0] 28)).heap.size := by simp
  have hg := Lib.hid hg
  generalize hW : w1.alloc (.cells #[.int .i64 0, .int .i64 0, .string ⟨#[]⟩, .int .i64 0, .int .i64 0] 28) = W at *
  clear hW
  refine (cpu_new [] 0 ⟨#[]⟩ (.slice none 0 0) W Row.nil_ (by simp) (by decide) (by decide) (by decide) (by decide)).mono ?_
  rintro e w2 ⟨p, mp, ap, rfl, hp, hmp, hap, hM, hb3⟩
  have hM := Lib.hid hM
  have F0 : RowKit.Hid (Free (fun k => k < W.heap.size) p ap (.slice none 0 0)) := Lib.hid (Free.new (N := W.heap.size) (mp := mp) hp hap)
  have hb3 := Lib.hid hb3
  clear hp hmp hap
  go_wp2_with fail
  refine (cpu_run (fun k => k < W.heap.size) 1 p mp ap _ _ w2 hM.out (by decide) F0.out (fun k hk => Nat.lt_of_lt_of_le hk hb3.out.size)).mono ?_
  rintro e w3 ⟨rfl, ov3, hM3, K3, F3, S3⟩
  rw [oc_none]
  have BK3 := (BK.out.below hb3.out hg.out).kept K3 hg.out
  have b0 := BK3.cell 0
  simp only [List.getElem?_toArray, List.getElem?_cons_zero, List.getElem?_cons_succ] at b0
  have z3 := BK3.lt
  have B3 : RowKit.Hid (Below w.heap.size w w3) := Lib.hid ((hb2.out.trans (hb3.out.mono hb2.out.size)).trans ((K3.to_below fun k hk => hk).mono hb2.out.size))
  clear hM3 K3 F3 S3 BK3 hb3 F0 hM BK
  have B4 := Lib.hid (B3.out.alloc B3.out.size (.cells #[.int .i64 5, .int .i64 0, .string ⟨#[]⟩, .int .i64 1, .int .i64 0] 28))
  go_wp2_with (first | (go_at_call 22; refine (cpu_nil_reg _ _).mono ?_; rintro e w4 ⟨rfl, rfl⟩) | (go_at_call 20; refine (cpu_nil_pc _).mono ?_; rintro e w4 ⟨rfl, rfl⟩) | (go_at_call 23; refine (cpu_nil_memory _).mono ?_; rintro e w4 ⟨rfl, rfl⟩) | (go_at_call 15; refine (law05_wakes _).mono ?_; rintro e w9 ⟨rfl, hb9⟩))
  go_ret
  exact ⟨rfl, B4.out.trans (hb9.mono B4.out.size)⟩

end Go.Proofs.Ytefgajojimkdiaa
