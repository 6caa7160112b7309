/-
  What Do of the package and of its reference tell, for every operation.
-/
import Derived.Test.YtefgajojimkdiaaZAluDoA
import Derived.Test.YtefgajojimkdiaaZAluDoB
import Derived.Test.YtefgajojimkdiaaZAluDoC
import Derived.Test.YtefgajojimkdiaaZAluDoD
import Derived.Test.YtefgajojimkdiaaZAluRefDo
namespace Go.Proofs.Ytefgajojimkdiaa
set_option linter.unusedVariables false
set_option linter.unusedSimpArgs false
open Go.RowKit Bw

theorem alu_do_yes (op : Int) (u : Bool) (b n h : Int) (f : Fl) (w : World) (hb : 0 ≤ b) (hb' : b < 4294967296) (hn : 0 ≤ n) (hn' : n < 4294967296) (hh : 0 ≤ h) (hh' : h < 4294967296) (hok : Alu.okOp op u = true) :
    Calls Try.prog 81 #[.int .i64 op, .bool u, .int .u32 b, .int .u32 n, .int .u32 h, f.val] w fun e w' => e = .returned (.tuple #[.int .u32 (Alu.R op u b n h f), .int .u32 (Alu.H op u b n h), (Alu.F op u b n h f).val, .bool true]) ∧ Below w.heap.size w w' := by
  obtain ⟨fn, fz, fc, fv⟩ := f
  simp only [Alu.okOp, Bool.and_eq_true, decide_eq_true_eq, Bool.or_eq_true, Bool.not_eq_true'] at hok
  obtain ⟨⟨o1, o2⟩, hok⟩ := hok
  cases u
  · have h12 : op = 0 ∨ op = 1 ∨ op = 2 ∨ op = 3 ∨ op = 4 ∨ op = 5 ∨ op = 6 ∨ op = 7 ∨ op = 8 ∨ op = 9 ∨ op = 10 ∨ op = 11 := by omega
    rcases h12 with rfl | rfl | rfl | rfl | rfl | rfl | rfl | rfl | rfl | rfl | rfl | rfl
    · exact alu_do_0 b n h fn fz fc fv w hb hb' hn hn' hh hh'
    · exact alu_do_1 b n h fn fz fc fv w hb hb' hn hn' hh hh'
    · exact alu_do_2 b n h fn fz fc fv w hb hb' hn hn' hh hh'
    · exact alu_do_3 b n h fn fz fc fv w hb hb' hn hn' hh hh'
    · exact alu_do_4 b n h fn fz fc fv w hb hb' hn hn' hh hh'
    · exact alu_do_5 b n h fn fz fc fv w hb hb' hn hn' hh hh'
    · exact alu_do_6 b n h fn fz fc fv w hb hb' hn hn' hh hh'
    · exact alu_do_7 b n h fn fz fc fv w hb hb' hn hn' hh hh'
    · exact alu_do_8 b n h fn fz fc fv w hb hb' hn hn' hh hh'
    · exact alu_do_9 b n h fn fz fc fv w hb hb' hn hn' hh hh'
    · exact alu_do_10 b n h fn fz fc fv w hb hb' hn hn' hh hh'
    · exact alu_do_11 b n h fn fz fc fv w hb hb' hn hn' hh hh'
  · have h4 : op = 0 ∨ op = 8 ∨ op = 9 ∨ op = 10 := by
      rcases hok with h | h
      · cases h
      · omega
    rcases h4 with rfl | rfl | rfl | rfl <;> cases fc
    · exact alu_do_0un b n h fn fz fv w hb hb' hn hn' hh hh'
    · exact alu_do_0uc b n h fn fz fv w hb hb' hn hn' hh hh'
    · exact alu_do_8un b n h fn fz fv w hb hb' hn hn' hh hh'
    · exact alu_do_8uc b n h fn fz fv w hb hb' hn hn' hh hh'
    · exact alu_do_9un b n h fn fz fv w hb hb' hn hn' hh hh'
    · exact alu_do_9uc b n h fn fz fv w hb hb' hn hn' hh hh'
    · exact alu_do_10un b n h fn fz fv w hb hb' hn hn' hh hh'
    · exact alu_do_10uc b n h fn fz fv w hb hb' hn hn' hh hh'

set_option maxRecDepth 100000 in
set_option maxHeartbeats 2000000 in
theorem alu_do_no (op : Int) (u : Bool) (b n h : Int) (f : Fl) (w : World) (hb : 0 ≤ b) (hb' : b < 4294967296) (hn : 0 ≤ n) (hn' : n < 4294967296) (hh : 0 ≤ h) (hh' : h < 4294967296) (hok : Alu.okOp op u = false) (o1 : -9223372036854775808 ≤ op) (o2 : op ≤ 9223372036854775807) :
    Calls Try.prog 81 #[.int .i64 op, .bool u, .int .u32 b, .int .u32 n, .int .u32 h, f.val] w fun e w' => e = .returned (.tuple #[.int .u32 0, .int .u32 0, Fl.zero.val, .bool false]) ∧ Below w.heap.size w w' := by
  obtain ⟨fn, fz, fc, fv⟩ := f
  have h5 : op < 0 ∨ 11 < op ∨ (u = true ∧ ((op = 1 ∨ op = 2 ∨ op = 3 ∨ op = 4) ∨ (op = 5 ∨ op = 6 ∨ op = 7 ∨ op = 11))) := by
    cases u <;> simp [Alu.okOp] at hok ⊢ <;> omega
  clear hok
  simp only [Fl.val, Fl.cells, Fl.zero, Alu.told]
  rcases h5 with h5 | h5 | ⟨rfl, ((rfl | rfl | rfl | rfl) | (rfl | rfl | rfl | rfl))⟩
  all_goals go_enter Try.func81, Try.ntmps81
  all_goals go_wp2
  all_goals refine bodyPost_ret (by simp only [results, Try.results81]; go_simp; rfl) rfl ⟨?_, ?_⟩
  all_goals first | rfl | skip
  all_goals (repeat (first | with_reducible exact Below.refl _ _ | with_reducible apply Below.drew | with_reducible refine Below.setCell ?_ (by simp) _ | with_reducible refine Below.alloc ?_ (by first | (simp; done) | (simp; omega)) _))

theorem ref03_do_yes (op : Int) (u : Bool) (b n h : Int) (f : Fl) (w : World) (hb : 0 ≤ b) (hb' : b < 4294967296) (hn : 0 ≤ n) (hn' : n < 4294967296) (hh : 0 ≤ h) (hh' : h < 4294967296) (hok : Alu.okOp op u = true) :
    Calls Try.prog 85 #[.int .i64 op, .bool u, .int .u32 b, .int .u32 n, .int .u32 h, f.val] w fun e w' => e = .returned (Alu.told (Alu.R op u b n h f) (Alu.H op u b n h) (Alu.F op u b n h f) true) ∧ Below w.heap.size w w' := by
  obtain ⟨fn, fz, fc, fv⟩ := f
  simp only [Alu.okOp, Bool.and_eq_true, decide_eq_true_eq, Bool.or_eq_true, Bool.not_eq_true'] at hok
  obtain ⟨⟨o1, o2⟩, hok⟩ := hok
  cases u
  · have h12 : op = 0 ∨ op = 1 ∨ op = 2 ∨ op = 3 ∨ op = 4 ∨ op = 5 ∨ op = 6 ∨ op = 7 ∨ op = 8 ∨ op = 9 ∨ op = 10 ∨ op = 11 := by omega
    rcases h12 with rfl | rfl | rfl | rfl | rfl | rfl | rfl | rfl | rfl | rfl | rfl | rfl
    · exact ref03_do_0 b n h fn fz fc fv w hb hb' hn hn' hh hh'
    · exact ref03_do_1 b n h fn fz fc fv w hb hb' hn hn' hh hh'
    · exact ref03_do_2 b n h fn fz fc fv w hb hb' hn hn' hh hh'
    · exact ref03_do_3 b n h fn fz fc fv w hb hb' hn hn' hh hh'
    · exact ref03_do_4 b n h fn fz fc fv w hb hb' hn hn' hh hh'
    · exact ref03_do_5 b n h fn fz fc fv w hb hb' hn hn' hh hh'
    · exact ref03_do_6 b n h fn fz fc fv w hb hb' hn hn' hh hh'
    · exact ref03_do_7 b n h fn fz fc fv w hb hb' hn hn' hh hh'
    · exact ref03_do_8 b n h fn fz fc fv w hb hb' hn hn' hh hh'
    · exact ref03_do_9 b n h fn fz fc fv w hb hb' hn hn' hh hh'
    · exact ref03_do_10 b n h fn fz fc fv w hb hb' hn hn' hh hh'
    · by_cases h0 : 0 < wrap32 n
      · exact ref03_do_11p b n h fn fz fc fv w hb hb' hn hn' hh hh' h0
      · exact ref03_do_11n b n h fn fz fc fv w hb hb' hn hn' hh hh' (by omega)
  · have h4 : op = 0 ∨ op = 8 ∨ op = 9 ∨ op = 10 := by
      rcases hok with h | h
      · cases h
      · omega
    rcases h4 with rfl | rfl | rfl | rfl <;> cases fc
    · exact ref03_do_0un b n h fn fz fv w hb hb' hn hn' hh hh'
    · exact ref03_do_0uc b n h fn fz fv w hb hb' hn hn' hh hh'
    · exact ref03_do_8un b n h fn fz fv w hb hb' hn hn' hh hh'
    · exact ref03_do_8uc b n h fn fz fv w hb hb' hn hn' hh hh'
    · exact ref03_do_9un b n h fn fz fv w hb hb' hn hn' hh hh'
    · exact ref03_do_9uc b n h fn fz fv w hb hb' hn hn' hh hh'
    · exact ref03_do_10un b n h fn fz fv w hb hb' hn hn' hh hh'
    · exact ref03_do_10uc b n h fn fz fv w hb hb' hn hn' hh hh'

set_option maxRecDepth 100000 in
set_option maxHeartbeats 2000000 in
theorem ref03_do_no (op : Int) (u : Bool) (b n h : Int) (f : Fl) (w : World) (hb : 0 ≤ b) (hb' : b < 4294967296) (hn : 0 ≤ n) (hn' : n < 4294967296) (hh : 0 ≤ h) (hh' : h < 4294967296) (hok : Alu.okOp op u = false) (o1 : -9223372036854775808 ≤ op) (o2 : op ≤ 9223372036854775807) :
    Calls Try.prog 85 #[.int .i64 op, .bool u, .int .u32 b, .int .u32 n, .int .u32 h, f.val] w fun e w' => e = .returned (Alu.told 0 0 Fl.zero false) ∧ Below w.heap.size w w' := by
  obtain ⟨fn, fz, fc, fv⟩ := f
  have h5 : op < 0 ∨ 11 < op ∨ (u = true ∧ ((op = 1 ∨ op = 2 ∨ op = 3 ∨ op = 4) ∨ (op = 5 ∨ op = 6 ∨ op = 7 ∨ op = 11))) := by
    cases u <;> simp [Alu.okOp] at hok ⊢ <;> omega
  clear hok
  simp only [Fl.val, Fl.cells, Fl.zero, Alu.told]
  rcases h5 with h5 | h5 | ⟨rfl, ((rfl | rfl | rfl | rfl) | (rfl | rfl | rfl | rfl))⟩
  all_goals go_enter Try.func85, Try.ntmps85
  all_goals go_wp2
  all_goals refine bodyPost_ret (by simp only [results, Try.results85]; go_simp; rfl) rfl ⟨?_, ?_⟩
  all_goals first | rfl | skip
  all_goals (repeat (first | with_reducible exact Below.refl _ _ | with_reducible apply Below.drew | with_reducible refine Below.setCell ?_ (by simp) _ | with_reducible refine Below.alloc ?_ (by first | (simp; done) | (simp; omega)) _))

end Go.Proofs.Ytefgajojimkdiaa
