/-
  The law FixupMoved: for every input that can be read the call returns true, and the arguments read behind it as before.
-/
import Derived.Test.YtlihcdhcljljoaaRows
import Derived.Test.YtlihcdhcljljoaaFixMoved
import Derived.WalkKit
import Derived.ProofKit
import Derived.OpenShut
import Derived.ShutString
import Derived.ChangeOld
import Derived.Below
import Derived.Test.YtlihcdhcljljoaaRowOpen
import Derived.Test.YtlihcdhcljljoaaOpen
namespace Go.Proofs.Ytlihcdhcljljoaa.fixupMoved
open Go.ChangeShapes Go.WideShapes Go.ChangeAt Go.RowKit 
open Go.ChangeMaps (open_string shut_string)
set_option linter.unusedVariables false
set_option linter.unusedSimpArgs false

theorem own : ownKnob Try.prog.godebug = none := by kernel_rfl
theorem laidOut : laidOutB Try.prog = true := by kernel_rfl

set_option maxRecDepth 100000 in
theorem lifted (os : Os) (started : os.Started) (H : Type) (enc : TypeId × Value → H) :
    ReturnsInHanded {} Try.checked os 8 .any (Rows.fixupMovedSpec.pre6 enc Try.prog Try.f8 Rows.fixupMovedRow.domain false) (Rows.fixupMovedSpec.post enc Try.prog Try.f8 false true false false) := by
  refine returnsInHanded_of_change (C := Try.checked) own started (by kernel_rfl) Try.func8
    (ChangeSpec.witness6 (enc := enc) (C := Try.checked) false ⟨#[], #[.slice none 0 0, .agg #[.int .i64 0, .int .i64 0, .int .i64 0], .slice none 0 0], []⟩ 8 (by kernel_rfl) (by kernel_rfl) (by kernel_rfl) (by kernel_rfl)) ?_
  intro W base args ds gs before hval0 hW hcnd hsz
  have hval : ∀ (j : Nat) t v, Try.f8.params[j]? = some t → args[j]? = some v → Value.okWide Try.prog W .any base t v := hval0
  have hW' := hW
  obtain ⟨p, q, hA0, hV, rfl, hfz, hnd⟩ := hW
  have hA : DataW.TrodAll enc Try.prog W 0 (fun _ => true) true Try.f8.params.toList args.toList ds p := hA0
  rw [Try.params8] at hA hval
  obtain ⟨v0, vs0, d0, ds0, p0, q0, hargs, rfl, rfl, h0, r0⟩ := trodAll_cons hA
  obtain ⟨v1, vs1, d1, ds1, p1, q1, rfl, rfl, rfl, h1, r1⟩ := trodAll_cons r0
  obtain ⟨v2, vs2, d2, ds2, p2, q2, rfl, rfl, rfl, h2, r2⟩ := trodAll_cons r1
  obtain ⟨rfl, rfl, rfl⟩ := trodAll_nil r2
  obtain rfl : args = #[v0, v1, v2] := by cases args; simp_all
  obtain ⟨rfl, rfl⟩ := trodVars_none hV
  have k0 := h0
  have lt0 : ∀ x ∈ p0, x.block < W.heap.size := by obtain ⟨m, hm⟩ := k0; exact DataW.trod_lt m _ _ _ hm
  have k1 := h1
  have lt1 : ∀ x ∈ p1, x.block < W.heap.size := by obtain ⟨m, hm⟩ := k1; exact DataW.trod_lt m _ _ _ hm
  have k2 := h2
  have lt2 : ∀ x ∈ p2, x.block < W.heap.size := by obtain ⟨m, hm⟩ := k2; exact DataW.trod_lt m _ _ _ hm
  obtain ⟨z0, w0, wf0⟩ := row_of_trod Try.underlying26 Try.underlying30 (by kernel_rfl) (hval 0 26 v0 rfl rfl) h0
  obtain ⟨l1, m1, rfl, hl1, hg1⟩ := open_array Try.underlying61 (show Try.prog.cellsOf 61 = 3 by kernel_rfl) (hval 1 61 v1 rfl rfl) h1
  obtain ⟨c1_0, c1_1, c1_2, rfl⟩ := list3 hl1
  obtain ⟨x1_0_1, hx1_0_1⟩ := hg1 0 (by decide)
  have hx1_0_1 : DataW.trod enc Try.prog W 0 (fun _ => true) true _ 3 [c1_0] = some x1_0_1 := hx1_0_1
  obtain ⟨a1_0, ea1_0, -, w1_0⟩ := DataW.trod_int Try.underlying3 hx1_0_1
  simp at ea1_0; subst ea1_0
  have b1_0 := bounds_i64 w1_0
  obtain ⟨x1_1_1, hx1_1_1⟩ := hg1 1 (by decide)
  have hx1_1_1 : DataW.trod enc Try.prog W 0 (fun _ => true) true _ 3 [c1_1] = some x1_1_1 := hx1_1_1
  obtain ⟨a1_1, ea1_1, -, w1_1⟩ := DataW.trod_int Try.underlying3 hx1_1_1
  simp at ea1_1; subst ea1_1
  have b1_1 := bounds_i64 w1_1
  obtain ⟨x1_2_1, hx1_2_1⟩ := hg1 2 (by decide)
  have hx1_2_1 : DataW.trod enc Try.prog W 0 (fun _ => true) true _ 3 [c1_2] = some x1_2_1 := hx1_2_1
  obtain ⟨a1_2, ea1_2, -, w1_2⟩ := DataW.trod_int Try.underlying3 hx1_2_1
  simp at ea1_2; subst ea1_2
  have b1_2 := bounds_i64 w1_2
  obtain ⟨n2, f2, w2, wf2⟩ := prow_of_trod Try.underlying55 Try.underlying63 (by kernel_rfl) Try.underlying3 (by kernel_rfl) (fun j hj => by have hj4 : j = 0 ∨ j = 1 ∨ j = 2 ∨ j = 3 := (by omega); rcases hj4 with rfl | rfl | rfl | rfl <;> exact ⟨_, rfl, rfl, rfl⟩) (hval 2 55 v2 rfl rfl) h2
  clear hA0 hval0
  refine (law22_moved z0 a1_0 a1_1 a1_2 n2 f2 v0 v2 W w0 (u32s_of wf0) w2 wf2 b1_0.1 b1_0.2 b1_1.1 b1_1.2 b1_2.1 b1_2.2).mono fun e W' ⟨he, bel⟩ => ?_
  subst he
  exact ⟨_, rfl, _, _, _, [], _, [], hW', trodAll_mk1 (shut_bool Try.underlying4 _), (trodAll_cons_mk (Below.trod laidOut (by kernel_rfl) (of_decide_eq_true (by kernel_rfl)) k0 bel lt0) (trodAll_cons_mk (Below.trod laidOut (by kernel_rfl) (of_decide_eq_true (by kernel_rfl)) k1 bel lt1) (trodAll_cons_mk (Below.trod laidOut (by kernel_rfl) (of_decide_eq_true (by kernel_rfl)) k2 bel lt2) trodAll_mk0))), rfl, bel.frame _, fun h => by cases h⟩

theorem over : Rows.fixupMovedRow.holds Try.pinned (OpenSpec.ofChange Rows.fixupMovedSpec) :=
  OpenClaim.holds_of_wide 8 Try.f8 rfl rfl rfl rfl rfl rfl rfl ⟨rfl, rfl, rfl, rfl, rfl⟩ rfl rfl rfl rfl rfl (by kernel_rfl) Try.func8 (by kernel_rfl)
    (of_decide_eq_true (by kernel_rfl)) (by unfold Func.isWrapper; first | (rw [if_pos (by decide +kernel)]; kernel_rfl) | (rw [if_neg (by decide +kernel)]; exact ⟨rfl, rfl⟩))
    (fun os started H enc _ => lifted os started H enc)

theorem proved : Rows.FixupMovedSaid := over
end Go.Proofs.Ytlihcdhcljljoaa.fixupMoved
