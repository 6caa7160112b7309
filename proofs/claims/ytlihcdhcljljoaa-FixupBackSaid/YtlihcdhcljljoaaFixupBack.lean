/-
  The law FixupBack: for every input that can be read the call returns true, and the arguments read behind it as before.
-/
import Derived.Test.YtlihcdhcljljoaaRows
import Derived.Test.YtlihcdhcljljoaaFixWalks
import Derived.WalkKit
import Derived.ProofKit
import Derived.OpenShut
import Derived.ShutString
import Derived.ChangeOld
import Derived.Below
import Derived.Test.YtlihcdhcljljoaaOpen
namespace Go.Proofs.Ytlihcdhcljljoaa.fixupBack
open Go.ChangeShapes Go.WideShapes Go.ChangeAt Go.RowKit 
open Go.ChangeMaps (open_string shut_string)
set_option linter.unusedVariables false
set_option linter.unusedSimpArgs false

theorem own : ownKnob Try.prog.godebug = none := by kernel_rfl
theorem laidOut : laidOutB Try.prog = true := by kernel_rfl

set_option maxRecDepth 100000 in
theorem lifted (os : Os) (started : os.Started) (H : Type) (enc : TypeId × Value → H) :
    ReturnsInHanded {} Try.checked os 7 .any (Rows.fixupBackSpec.pre6 enc Try.prog Try.f7 Rows.fixupBackRow.domain false) (Rows.fixupBackSpec.post enc Try.prog Try.f7 false true false false) := by
  refine returnsInHanded_of_change (C := Try.checked) own started (by kernel_rfl) Try.func7
    (ChangeSpec.witness6 (enc := enc) (C := Try.checked) false ⟨#[], #[.agg #[.int .i64 0, .int .i64 0, .int .i64 0, .int .i64 0]], []⟩ 8 (by kernel_rfl) (by kernel_rfl) (by kernel_rfl) (by kernel_rfl)) ?_
  intro W base args ds gs before hval0 hW hcnd hsz
  have hval : ∀ (j : Nat) t v, Try.f7.params[j]? = some t → args[j]? = some v → Value.okWide Try.prog W .any base t v := hval0
  have hW' := hW
  obtain ⟨p, q, hA0, hV, rfl, hfz, hnd⟩ := hW
  have hA : DataW.TrodAll enc Try.prog W 0 (fun _ => true) true Try.f7.params.toList args.toList ds p := hA0
  rw [Try.params7] at hA hval
  obtain ⟨v0, vs0, d0, ds0, p0, q0, hargs, rfl, rfl, h0, r0⟩ := trodAll_cons hA
  obtain ⟨rfl, rfl, rfl⟩ := trodAll_nil r0
  obtain rfl : args = #[v0] := by cases args; simp_all
  obtain ⟨rfl, rfl⟩ := trodVars_none hV
  have k0 := h0
  have lt0 : ∀ x ∈ p0, x.block < W.heap.size := by obtain ⟨m, hm⟩ := k0; exact DataW.trod_lt m _ _ _ hm
  obtain ⟨l0, m0, rfl, hl0, hg0⟩ := open_array Try.underlying36 (show Try.prog.cellsOf 36 = 4 by kernel_rfl) (hval 0 36 v0 rfl rfl) h0
  obtain ⟨c0_0, c0_1, c0_2, c0_3, rfl⟩ := list4 hl0
  obtain ⟨x0_0_1, hx0_0_1⟩ := hg0 0 (by decide)
  have hx0_0_1 : DataW.trod enc Try.prog W 0 (fun _ => true) true _ 3 [c0_0] = some x0_0_1 := hx0_0_1
  obtain ⟨a0_0, ea0_0, -, w0_0⟩ := DataW.trod_int Try.underlying3 hx0_0_1
  simp at ea0_0; subst ea0_0
  have b0_0 := bounds_i64 w0_0
  obtain ⟨x0_1_1, hx0_1_1⟩ := hg0 1 (by decide)
  have hx0_1_1 : DataW.trod enc Try.prog W 0 (fun _ => true) true _ 3 [c0_1] = some x0_1_1 := hx0_1_1
  obtain ⟨a0_1, ea0_1, -, w0_1⟩ := DataW.trod_int Try.underlying3 hx0_1_1
  simp at ea0_1; subst ea0_1
  have b0_1 := bounds_i64 w0_1
  obtain ⟨x0_2_1, hx0_2_1⟩ := hg0 2 (by decide)
  have hx0_2_1 : DataW.trod enc Try.prog W 0 (fun _ => true) true _ 3 [c0_2] = some x0_2_1 := hx0_2_1
  obtain ⟨a0_2, ea0_2, -, w0_2⟩ := DataW.trod_int Try.underlying3 hx0_2_1
  simp at ea0_2; subst ea0_2
  have b0_2 := bounds_i64 w0_2
  obtain ⟨x0_3_1, hx0_3_1⟩ := hg0 3 (by decide)
  have hx0_3_1 : DataW.trod enc Try.prog W 0 (fun _ => true) true _ 3 [c0_3] = some x0_3_1 := hx0_3_1
  obtain ⟨a0_3, ea0_3, -, w0_3⟩ := DataW.trod_int Try.underlying3 hx0_3_1
  simp at ea0_3; subst ea0_3
  have b0_3 := bounds_i64 w0_3
  clear hA0 hval0
  refine (law22_back a0_0 a0_1 a0_2 a0_3 W b0_0.1 b0_0.2 b0_1.1 b0_1.2 b0_2.1 b0_2.2 b0_3.1 b0_3.2).mono fun e W' ⟨he, bel⟩ => ?_
  subst he
  exact ⟨_, rfl, _, _, _, [], _, [], hW', trodAll_mk1 (shut_bool Try.underlying4 _), (trodAll_cons_mk (Below.trod laidOut (by kernel_rfl) (of_decide_eq_true (by kernel_rfl)) k0 bel lt0) trodAll_mk0), rfl, bel.frame _, fun h => by cases h⟩

theorem over : Rows.fixupBackRow.holds Try.pinned (OpenSpec.ofChange Rows.fixupBackSpec) :=
  OpenClaim.holds_of_wide 7 Try.f7 rfl rfl rfl rfl rfl rfl rfl ⟨rfl, rfl, rfl, rfl, rfl⟩ rfl rfl rfl rfl rfl (by kernel_rfl) Try.func7 (by kernel_rfl)
    (of_decide_eq_true (by kernel_rfl)) (by unfold Func.isWrapper; first | (rw [if_pos (by decide +kernel)]; kernel_rfl) | (rw [if_neg (by decide +kernel)]; exact ⟨rfl, rfl⟩))
    (fun os started H enc _ => lifted os started H enc)

theorem proved : Rows.FixupBackSaid := over
end Go.Proofs.Ytlihcdhcljljoaa.fixupBack
