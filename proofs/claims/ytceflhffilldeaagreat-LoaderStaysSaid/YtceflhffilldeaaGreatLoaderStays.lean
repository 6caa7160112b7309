/-
  The law LoaderStays: for every input that can be read the call returns true, and the arguments read behind it as before.
-/
import Derived.Test.YtceflhffilldeaaGreatRows
import Derived.Test.YtceflhffilldeaaGreatZStays
import Derived.ProofKit
import Derived.ShutString
import Derived.ChangeOld
import Derived.Test.YtceflhffilldeaaGreatZOpen
namespace Go.Proofs.YtceflhffilldeaaGreat.loaderStays
open Go.ChangeShapes Go.WideShapes Go.ChangeAt Go.RowKit 
open Go.ChangeMaps (open_string shut_string)
set_option linter.unusedVariables false
set_option linter.unusedSimpArgs false

theorem own : ownKnob Tryz.prog.godebug = none := by kernel_rfl
theorem laidOut : laidOutB Tryz.prog = true := by kernel_rfl

set_option maxRecDepth 100000 in
theorem lifted (os : Os) (started : os.Started) (H : Type) (enc : TypeId × Value → H) :
    ReturnsInHanded {} Tryz.checked os 6 .any (Rows.loaderStaysSpec.pre6 enc Tryz.prog Tryz.f6 Rows.loaderStaysRow.domain false) (Rows.loaderStaysSpec.post enc Tryz.prog Tryz.f6 false true false false) := by
  refine returnsInHanded_of_change (C := Tryz.checked) own started (by kernel_rfl) Tryz.func6
    (ChangeSpec.witness6 (enc := enc) (C := Tryz.checked) false ⟨#[], #[.slice none 0 0, .string ByteArray.empty, .agg #[.string ByteArray.empty, .string ByteArray.empty]], []⟩ 8 (by kernel_rfl) (by kernel_rfl) (by kernel_rfl) (by kernel_rfl)) ?_
  intro W base args ds gs before hval0 hW hcnd hsz
  have hval : ∀ (j : Nat) t v, Tryz.f6.params[j]? = some t → args[j]? = some v → Value.okWide Tryz.prog W .any base t v := hval0
  have hW' := hW
  obtain ⟨p, q, hA0, hV, rfl, hfz, hnd⟩ := hW
  have hA : DataW.TrodAll enc Tryz.prog W 0 (fun _ => true) true Tryz.f6.params.toList args.toList ds p := hA0
  rw [Tryz.params6] at hA hval
  obtain ⟨v0, vs0, d0, ds0, p0, q0, hargs, rfl, rfl, h0, r0⟩ := trodAll_cons hA
  obtain ⟨v1, vs1, d1, ds1, p1, q1, rfl, rfl, rfl, h1, r1⟩ := trodAll_cons r0
  obtain ⟨v2, vs2, d2, ds2, p2, q2, rfl, rfl, rfl, h2, r2⟩ := trodAll_cons r1
  obtain ⟨rfl, rfl, rfl⟩ := trodAll_nil r2
  obtain rfl : args = #[v0, v1, v2] := by cases args; simp_all
  obtain ⟨rfl, rfl⟩ := trodVars_none hV
  have k0 := h0
  have lt0 : ∀ x ∈ p0, x.block < W.heap.size := by obtain ⟨m, hm⟩ := k0; exact DataW.trod_lt m _ _ _ hm
  have k1 := h1
  have lt1 : ∀ x ∈ p1, x.block < W.heap.size := by obtain ⟨m, hm⟩ := k1; exact DataW.trod_lt m _ _ _ hm
  have k2 := h2
  have lt2 : ∀ x ∈ p2, x.block < W.heap.size := by obtain ⟨m, hm⟩ := k2; exact DataW.trod_lt m _ _ _ hm
  obtain ⟨l0, w0, wf0⟩ := open_files (hval 0 22 v0 rfl rfl) h0
  obtain ⟨s1, rfl, rfl, rfl, hs1⟩ := open_string Tryz.underlying9 (hval 1 9 v1 rfl rfl) h1
  obtain ⟨l2, m2, rfl, hl2, hg2⟩ := open_struct Tryz.underlying56 (show Tryz.prog.cellsOf 56 = 2 by kernel_rfl) (hval 2 56 v2 rfl rfl) h2
  obtain ⟨c2_0, c2_1, rfl⟩ := list2 hl2
  obtain ⟨x2_0_1, hx2_0_1⟩ := hg2 0 _ rfl
  have hx2_0_1 : DataW.trod enc Tryz.prog W 0 (fun _ => true) true _ 9 [c2_0] = some x2_0_1 := hx2_0_1
  obtain ⟨a2_0, ea2_0, -, w2_0⟩ := DataW.trod_string Tryz.underlying9 hx2_0_1
  simp at ea2_0; subst ea2_0
  obtain ⟨x2_1_1, hx2_1_1⟩ := hg2 1 _ rfl
  have hx2_1_1 : DataW.trod enc Tryz.prog W 0 (fun _ => true) true _ 9 [c2_1] = some x2_1_1 := hx2_1_1
  obtain ⟨a2_1, ea2_1, -, w2_1⟩ := DataW.trod_string Tryz.underlying9 hx2_1_1
  simp at ea2_1; subst ea2_1
  clear hA0 hval0
  refine (law26_stays_text l0 v0 s1 a2_0 a2_1 W w0 wf0 (by unfold maxLen at w2_0; omega)).mono fun e W' ⟨he, bel⟩ => ?_
  subst he
  exact ⟨_, rfl, _, _, _, [], _, [], hW', trodAll_mk1 (shut_bool Tryz.underlying4 _), (trodAll_cons_mk (Below.trod laidOut (by kernel_rfl) (of_decide_eq_true (by kernel_rfl)) k0 bel lt0) (trodAll_cons_mk (Below.trod laidOut (by kernel_rfl) (of_decide_eq_true (by kernel_rfl)) k1 bel lt1) (trodAll_cons_mk (Below.trod laidOut (by kernel_rfl) (of_decide_eq_true (by kernel_rfl)) k2 bel lt2) trodAll_mk0))), rfl, bel.frame _, fun h => by cases h⟩

theorem over : Rows.loaderStaysRow.holds Tryz.pinned (OpenSpec.ofChange Rows.loaderStaysSpec) :=
  OpenClaim.holds_of_wide 6 Tryz.f6 rfl rfl rfl rfl rfl rfl rfl ⟨rfl, rfl, rfl, rfl, rfl⟩ rfl rfl rfl rfl rfl (by kernel_rfl) Tryz.func6 (by kernel_rfl)
    (of_decide_eq_true (by kernel_rfl)) (by unfold Func.isWrapper; first | (rw [if_pos (by decide +kernel)]; kernel_rfl) | (rw [if_neg (by decide +kernel)]; exact ⟨rfl, rfl⟩))
    (fun os started H enc _ => lifted os started H enc)

theorem proved : Rows.LoaderStaysSaid := over
end Go.Proofs.YtceflhffilldeaaGreat.loaderStays
