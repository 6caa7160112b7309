/-
  The statements' helpers: two lists compared.
-/
import Derived.Test.YtefgajojimkdiaaProg
import Derived.WalkKit
import Derived.BigQuiet
import Derived.Lib.Hide
import Derived.Test.YtefgajojimkdiaaZLaw
namespace Go.Proofs.Ytefgajojimkdiaa
set_option linter.unusedVariables false
set_option linter.unusedSimpArgs false
open Go.RowKit

theorem ret_b {a b : Bool} (h : a = b) : Ending.returned (Value.bool a) = Ending.returned (Value.bool b) := by rw [h]
theorem list_ne_at {l m : List Int} {k : Nat} (hk : k < l.length) (hk' : k < m.length) (h : l.getD k 0 ≠ m.getD k 0) : false = decide (l = m) := by
  rw [eq_comm, decide_eq_false_iff_not]
  rintro rfl
  exact h rfl
theorem list_eq_at {l m : List Int} (h : l.length = m.length) (hj : ∀ j, j < l.length → l.getD j 0 = m.getD j 0) : true = decide (l = m) := by
  rw [eq_comm, decide_eq_true_eq]
  apply List.ext_getElem h
  intro i h1 h2
  have := hj i h1
  simpa [List.getD, h1, h2] using this

set_option maxRecDepth 100000 in
theorem keep_words (v u : Value) (l m : List Int) (w : World) (hl : Row .u32 w v l) (hm : Row .u32 w u m) :
    Calls Try.prog 25 #[v, u] w fun e w' => e = .returned (.bool (decide (l = m))) ∧ Kept (fun _ => True) w w' := by
  obtain ⟨hl1, A, c, rfl, hc⟩ := hl
  obtain ⟨hm1, B, d, rfl, hd⟩ := hm
  have hc := Lib.hid hc
  have hd := Lib.hid hd
  by_cases hn : l.length = m.length
  · have hn' := Lib.hid hn
    have e1 : ((l.length : Int) != (m.length : Int)) = false := by rw [hn]; simp
    clear hn
    go_enter Try.func25, Try.ntmps25
    go_wp2_with fail
    go_loopw [5] (fun i wr => ∃ k : Nat, i = .int .i64 k ∧ k ≤ l.length ∧ (∀ j, j < k → l.getD j 0 = m.getD j 0) ∧ Kept (fun _ => True) w wr) (fun i _ => l.length - (intOf i).toNat)
    case atStart => exact ⟨0, rfl, by omega, fun j hj => by omega, Kept.refl _ _⟩
    case round =>
      obtain ⟨k, rfl, hk, hj, hw⟩ := hrel
      have hj := Lib.hid hj
      have hw := Lib.hid hw
      by_cases hlt : (k : Int) < (l.length : Int)
      · obtain ⟨ad, rfl, -, x1⟩ := hc.out k (by omega)
        obtain ⟨bd, rfl, -, x2⟩ := hd.out k (by have := hn'.out; omega)
        have x3 := hw.out.cell (p := ad.add k) trivial
        have x4 := hw.out.cell (p := bd.add k) trivial
        rw [x1] at x3
        rw [x2] at x4
        clear x1 x2
        have b2 : (k : Int) < (m.length : Int) := by have := hn'.out; omega
        have x3 : wr.drew.cell? (ad.add k) = some (.int .u32 (l.getD k 0)) := x3
        have x4 : wr.drew.cell? (bd.add k) = some (.int .u32 (m.getD k 0)) := x4
        have hK := Lib.hid hw.out.drew
        by_cases heq : l.getD k 0 = m.getD k 0
        · have heq' := Lib.hid heq
          have e2 : (l.getD k 0 != m.getD k 0) = false := by rw [heq]; simp
          clear heq
          generalize hla : l.getD k 0 = la at *
          generalize hma : m.getD k 0 = ma at *
          have hla := Lib.hid hla
          have hma := Lib.hid hma
          go_wp2_with fail
          refine region_drew 8 (by kernel_rfl) (by kernel_rfl) ?_
          simp only [List.take_succ_cons, List.take_zero, List.drop_succ_cons, List.drop_zero]
          repeat still_step
          refine wpStill_nil ?_
          generalize wr.drew = W at *
          go_wp2_with fail
          refine ⟨⟨k + 1, by go_num, by omega, fun j hj' => ?_, hK.out⟩, by simp [intOf]; omega⟩
          rcases Nat.lt_or_ge j k with h | h
          · exact hj.out j h
          · obtain rfl : j = k := by omega
            rw [hla.out, hma.out]; exact heq'.out
        · have heq' := Lib.hid heq
          have e2 : (l.getD k 0 != m.getD k 0) = true := by rw [bne_iff_ne]; exact heq
          clear heq
          generalize hla : l.getD k 0 = la at *
          generalize hma : m.getD k 0 = ma at *
          have hla := Lib.hid hla
          have hma := Lib.hid hma
          go_wp2_with fail
          refine region_drew 8 (by kernel_rfl) (by kernel_rfl) ?_
          simp only [List.take_succ_cons, List.take_zero, List.drop_succ_cons, List.drop_zero]
          repeat still_step
          refine wpStill_nil ?_
          generalize wr.drew = W at *
          go_wp2_with fail
          go_ret
          exact ⟨ret_b (list_ne_at (k := k) (by omega) (by omega) (by rw [hla.out, hma.out]; exact heq'.out)), hK.out⟩
      · go_wp2_with fail
        go_ret
        exact ⟨ret_b (list_eq_at hn'.out (fun j h => hj.out j (by omega))), hw.out⟩
  · go_enter Try.func25, Try.ntmps25
    have e1 : ((l.length : Int) != (m.length : Int)) = true := by rw [bne_iff_ne]; omega
    have hn := Lib.hid hn
    go_wp2_with fail
    go_ret
    exact ⟨ret_b (by rw [eq_comm, decide_eq_false_iff_not]; rintro rfl; exact hn.out rfl), Kept.refl _ _⟩

end Go.Proofs.Ytefgajojimkdiaa
