/-
  The law AluLogic: for every input that can be read the call returns true, and the arguments read behind it as before.
-/
import Derived.Test.YtffeiekkfcbfaaaRows
import Derived.Test.YtffeiekkfcbfaaaAluWalks2
import Derived.WalkKit
import Derived.ProofKit
import Derived.OpenShut
import Derived.ShutString
import Derived.ChangeOld
import Derived.Below
import Derived.Test.YtffeiekkfcbfaaaOpen
namespace Go.Proofs.Ytffeiekkfcbfaaa.aluLogic
open Go.ChangeShapes Go.WideShapes Go.ChangeAt Go.RowKit 
open Go.ChangeMaps (open_string shut_string)
set_option linter.unusedVariables false
set_option linter.unusedSimpArgs false

theorem own : ownKnob Try.prog.godebug = none := by kernel_rfl
theorem laidOut : laidOutB Try.prog = true := by kernel_rfl

set_option maxRecDepth 100000 in
theorem lifted (os : Os) (started : os.Started) (H : Type) (enc : TypeId × Value → H) :
    ReturnsInHanded {} Try.checked os 14 .any (Rows.aluLogicSpec.pre6 enc Try.prog Try.f14 Rows.aluLogicRow.domain false) (Rows.aluLogicSpec.post enc Try.prog Try.f14 false true false false) := by
  refine returnsInHanded_of_change (C := Try.checked) own started (by kernel_rfl) Try.func14
    (ChangeSpec.witness6 (enc := enc) (C := Try.checked) false ⟨#[], #[.agg #[.int .i64 0, .bool false, .int .u32 0, .int .u32 0, .int .u32 0, .bool false, .bool false, .bool false, .bool false]], []⟩ 8 (by kernel_rfl) (by kernel_rfl) (by kernel_rfl) (by kernel_rfl)) ?_
  intro W base args ds gs before hval0 hW hcnd hsz
  have hval : ∀ (j : Nat) t v, Try.f14.params[j]? = some t → args[j]? = some v → Value.okWide Try.prog W .any base t v := hval0
  have hW' := hW
  obtain ⟨p, q, hA0, hV, rfl, hfz, hnd⟩ := hW
  have hA : DataW.TrodAll enc Try.prog W 0 (fun _ => true) true Try.f14.params.toList args.toList ds p := hA0
  rw [Try.params14] at hA hval
  obtain ⟨v0, vs0, d0, ds0, p0, q0, hargs, rfl, rfl, h0, r0⟩ := trodAll_cons hA
  obtain ⟨rfl, rfl, rfl⟩ := trodAll_nil r0
  obtain rfl : args = #[v0] := by cases args; simp_all
  obtain ⟨rfl, rfl⟩ := trodVars_none hV
  have k0 := h0
  have lt0 : ∀ x ∈ p0, x.block < W.heap.size := by obtain ⟨m, hm⟩ := k0; exact DataW.trod_lt m _ _ _ hm
  obtain ⟨l0, m0, rfl, hl0, hg0⟩ := open_struct Try.underlying45 (show Try.prog.cellsOf 45 = 9 by kernel_rfl) (hval 0 45 v0 rfl rfl) h0
  obtain ⟨c0_0, c0_1, c0_2, c0_3, c0_4, c0_5, c0_6, c0_7, c0_8, rfl⟩ := list9 hl0
  obtain ⟨x0_0_1, hx0_0_1⟩ := hg0 0 _ rfl
  obtain ⟨a0_0, e0_0, -, w0_0⟩ := DataW.trod_int Try.underlying3 hx0_0_1
  simp only [List.getElem_toArray, List.getElem_cons_zero, List.getElem_cons_succ] at e0_0
  rw [show Try.prog.cellsOf 3 = 1 from by kernel_rfl] at e0_0
  simp at e0_0; subst e0_0
  have b0_0 := bounds_i64 w0_0
  obtain ⟨x0_1_1, hx0_1_1⟩ := hg0 1 _ rfl
  obtain ⟨a0_1, e0_1, -⟩ := DataW.trod_bool Try.underlying4 hx0_1_1
  simp only [List.getElem_toArray, List.getElem_cons_zero, List.getElem_cons_succ] at e0_1
  rw [show Try.prog.cellsOf 4 = 1 from by kernel_rfl] at e0_1
  simp at e0_1; subst e0_1
  obtain ⟨x0_2_1, hx0_2_1⟩ := hg0 2 _ rfl
  obtain ⟨a0_2, e0_2, -, w0_2⟩ := DataW.trod_int Try.underlying24 hx0_2_1
  simp only [List.getElem_toArray, List.getElem_cons_zero, List.getElem_cons_succ] at e0_2
  rw [show Try.prog.cellsOf 24 = 1 from by kernel_rfl] at e0_2
  simp at e0_2; subst e0_2
  have b0_2 := bounds_u32 w0_2
  obtain ⟨x0_3_1, hx0_3_1⟩ := hg0 3 _ rfl
  obtain ⟨a0_3, e0_3, -, w0_3⟩ := DataW.trod_int Try.underlying24 hx0_3_1
  simp only [List.getElem_toArray, List.getElem_cons_zero, List.getElem_cons_succ] at e0_3
  rw [show Try.prog.cellsOf 24 = 1 from by kernel_rfl] at e0_3
  simp at e0_3; subst e0_3
  have b0_3 := bounds_u32 w0_3
  obtain ⟨x0_4_1, hx0_4_1⟩ := hg0 4 _ rfl
  obtain ⟨a0_4, e0_4, -, w0_4⟩ := DataW.trod_int Try.underlying24 hx0_4_1
  simp only [List.getElem_toArray, List.getElem_cons_zero, List.getElem_cons_succ] at e0_4
  rw [show Try.prog.cellsOf 24 = 1 from by kernel_rfl] at e0_4
  simp at e0_4; subst e0_4
  have b0_4 := bounds_u32 w0_4
  obtain ⟨x0_5_4, hx0_5_4⟩ := hg0 5 _ rfl
  obtain ⟨n0_5, g0_5⟩ := open_inner Try.underlying43 hx0_5_4
  simp only [List.getElem_toArray, List.getElem_cons_zero, List.getElem_cons_succ] at g0_5
  rw [show Try.prog.cellsOf 43 = 4 from by kernel_rfl] at g0_5
  obtain ⟨x0_5_1, hx0_5_1⟩ := g0_5 0 _ rfl
  obtain ⟨a0_5, e0_5, -⟩ := DataW.trod_bool Try.underlying4 hx0_5_1
  simp only [List.getElem_toArray, List.getElem_cons_zero, List.getElem_cons_succ] at e0_5
  rw [show Try.prog.cellsOf 4 = 1 from by kernel_rfl] at e0_5
  simp at e0_5; subst e0_5
  obtain ⟨x0_6_1, hx0_6_1⟩ := g0_5 1 _ rfl
  obtain ⟨a0_6, e0_6, -⟩ := DataW.trod_bool Try.underlying4 hx0_6_1
  simp only [List.getElem_toArray, List.getElem_cons_zero, List.getElem_cons_succ] at e0_6
  rw [show Try.prog.cellsOf 4 = 1 from by kernel_rfl] at e0_6
  simp at e0_6; subst e0_6
  obtain ⟨x0_7_1, hx0_7_1⟩ := g0_5 2 _ rfl
  obtain ⟨a0_7, e0_7, -⟩ := DataW.trod_bool Try.underlying4 hx0_7_1
  simp only [List.getElem_toArray, List.getElem_cons_zero, List.getElem_cons_succ] at e0_7
  rw [show Try.prog.cellsOf 4 = 1 from by kernel_rfl] at e0_7
  simp at e0_7; subst e0_7
  obtain ⟨x0_8_1, hx0_8_1⟩ := g0_5 3 _ rfl
  obtain ⟨a0_8, e0_8, -⟩ := DataW.trod_bool Try.underlying4 hx0_8_1
  simp only [List.getElem_toArray, List.getElem_cons_zero, List.getElem_cons_succ] at e0_8
  rw [show Try.prog.cellsOf 4 = 1 from by kernel_rfl] at e0_8
  simp at e0_8; subst e0_8
  clear hA0 hval0
  refine (law03_logic a0_0 a0_1 a0_2 a0_3 a0_4 ⟨a0_5, a0_6, a0_7, a0_8⟩ W b0_2.1 (by omega) b0_3.1 (by omega) b0_4.1 (by omega)).mono fun e W' ⟨he, bel⟩ => ?_
  subst he
  exact ⟨_, rfl, _, _, _, [], _, [], hW', trodAll_mk1 (shut_bool Try.underlying4 _), (trodAll_cons_mk (Below.trod laidOut (by kernel_rfl) (of_decide_eq_true (by kernel_rfl)) k0 bel lt0) trodAll_mk0), rfl, bel.frame _, fun h => by cases h⟩

theorem over : Rows.aluLogicRow.holds Try.pinned (OpenSpec.ofChange Rows.aluLogicSpec) :=
  OpenClaim.holds_of_wide 14 Try.f14 rfl rfl rfl rfl rfl rfl rfl ⟨rfl, rfl, rfl, rfl, rfl⟩ rfl rfl rfl rfl rfl (by kernel_rfl) Try.func14 (by kernel_rfl)
    (of_decide_eq_true (by kernel_rfl)) (by unfold Func.isWrapper; first | (rw [if_pos (by decide +kernel)]; kernel_rfl) | (rw [if_neg (by decide +kernel)]; exact ⟨rfl, rfl⟩))
    (fun os started H enc _ => lifted os started H enc)

theorem proved : Rows.AluLogicSaid := over
end Go.Proofs.Ytffeiekkfcbfaaa.aluLogic
