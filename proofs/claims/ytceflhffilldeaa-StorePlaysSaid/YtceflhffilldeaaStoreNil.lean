/-
  Names and Fork of a store whose map is nil.
-/
import Derived.Test.YtceflhffilldeaaStoreNone
namespace Go.Proofs.Ytceflhffilldeaa
set_option linter.unusedVariables false
set_option linter.unusedSimpArgs false
open Go.RowKit Go.Maps Go.WideMaps

set_option maxRecDepth 100000 in
theorem names_nil (p : Nat) (w : World) (hp : Blk w p 66 #[.map none]) :
    Calls Try.prog 21 #[.pointer (some ⟨p, 0, none⟩)] w fun e w' => e = .returned (.slice none 0 0) ∧ Below w.heap.size w w' := by
  have C1 := hp.cell 0
  have C2 := hp.frozen 0
  simp only [List.getElem?_toArray, List.getElem?_cons_zero] at C1
  have hrg := run_range_nilMap (P := Try.prog) w 64 68 9 Try.underlying64
  have hnx : ∀ ty, (Instr.next (.pointer (some ⟨w.heap.size, 0, none⟩)) false ty).run Try.prog (w.alloc (.mapIter none 0 #[] 0)) = _ := fun ty => run_next_nilMap _ ty 0 0 #[]
  go_enter Try.func21, Try.ntmps21
  go_wp2
  refine wp_loop_rounds 1 ?_
  rw [rounds_succ]
  go_wp2_with (go_at_call 37; refine (sort_none none 0 _).mono ?_; rintro e w' ⟨rfl, rfl⟩)
  go_ret
  exact ⟨rfl, (Below.refl _ _).alloc (Nat.le_refl _) _⟩

set_option maxRecDepth 100000 in
theorem fork_nil (p : Nat) (w : World) (hp : Blk w p 66 #[.map none]) :
    Calls Try.prog 18 #[.pointer (some ⟨p, 0, none⟩)] w fun e w' => ∃ q b', e = .returned (.pointer (some ⟨q, 0, none⟩)) ∧ Blk w' q 66 #[.map (some b')] ∧
      w'.ownsMap Try.prog 68 (plainElem Try.prog 9) b' 0 (.map [] : DataW Unit) ∧ w.heap.size ≤ q ∧ w.heap.size ≤ b' ∧ q ≠ b' ∧ Below w.heap.size w w' := by
  have hmm : ∀ W : World, (Instr.makeMap 64 none).run Try.prog W = .ok (.map (some W.heap.size)) (W.alloc (.map #[] 0)) := fun W => rfl
  have C1 := hp.cell 0
  have C2 := hp.frozen 0
  have hpl := hp.lt
  simp only [List.getElem?_toArray, List.getElem?_cons_zero] at C1
  have L1 := Blk.new (w.alloc (.map #[] 0)) 66 #[.map (some w.heap.size)]
  have e1 : (w.alloc (.map #[] 0)).heap.size = w.heap.size + 1 := by simp
  rw [e1] at L1
  have L2 := Lib.hid L1
  have hnew2 := Lib.hid ((World.ownsMap_made (H := Unit) w Try.prog 68 (plainElem Try.prog 9)).alloc (.cells #[.map (some w.heap.size)] 66))
  have B2 : Below w.heap.size w ((w.alloc (.map #[] 0)).alloc (.cells #[.map (some w.heap.size)] 66)) := ((Below.refl _ _).alloc (Nat.le_refl _) _).alloc (by simp) _
  have B2 := Lib.hid B2
  clear L1 e1
  have hrg := run_range_nilMap (P := Try.prog) ((w.alloc (.map #[] 0)).alloc (.cells #[.map (some w.heap.size)] 66)) 64 68 9 Try.underlying64
  have hnx : ∀ ty, (Instr.next (.pointer (some ⟨((w.alloc (.map #[] 0)).alloc (.cells #[.map (some w.heap.size)] 66)).heap.size, 0, none⟩)) false ty).run Try.prog (((w.alloc (.map #[] 0)).alloc (.cells #[.map (some w.heap.size)] 66)).alloc (.mapIter none 0 #[] 0)) = _ := fun ty => run_next_nilMap _ ty 0 0 #[]
  have e2 : ((w.alloc (.map #[] 0)).alloc (.cells #[.map (some w.heap.size)] 66)).heap.size = w.heap.size + 1 + 1 := by simp
  rw [e2] at hrg hnx
  clear e2
  go_enter Try.func18, Try.ntmps18
  go_wp2
  refine wp_loop_rounds 1 ?_
  rw [rounds_succ]
  go_wp2
  go_ret
  exact ⟨_, _, rfl, L2.out.alloc _, hnew2.out.alloc _, by omega, Nat.le_refl _, by omega, B2.out.alloc (by simp; omega) _⟩

end Go.Proofs.Ytceflhffilldeaa
