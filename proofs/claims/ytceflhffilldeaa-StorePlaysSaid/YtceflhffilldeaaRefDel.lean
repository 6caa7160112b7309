/-
  The document's store: Delete, walked.
-/
import Derived.Test.YtceflhffilldeaaRefOwn
namespace Go.Proofs.Ytceflhffilldeaa
set_option linter.unusedVariables false
set_option linter.unusedSimpArgs false
open Go.RowKit Go.Maps Go.WideMaps


set_option maxRecDepth 100000 in
set_option maxHeartbeats 4000000 in
theorem ref07_del (p gn cn gt ct i j : Nat) (N T : List ByteArray) (s : ByteArray) (w : World) (h : RefIs w p (.slice (some ⟨gn, 0, none⟩) N.length cn) (.slice (some ⟨gt, 0, none⟩) T.length ct) N T) (hi : i < N.length) (hj : i + 1 = j) (hcn : N.length ≤ cn) (hct : T.length ≤ ct)
    (PL : Calls Try.prog 36 #[.pointer (some ⟨p, 0, none⟩), .string s] w fun e w' => e = .returned (.tuple #[.int .i64 (i : Int), .bool true]) ∧ w = w') :
    Calls Try.prog 16 #[.pointer (some ⟨p, 0, none⟩), .string s] w fun e w' => e = .returned (.bool true) ∧ ∃ v u, RefIs w' p v u (N.take i ++ N.drop j) (T.take i ++ T.drop j) ∧ (∀ k, v.ownBlock = some k → w.heap.size ≤ k) ∧ (∀ k, u.ownBlock = some k → w.heap.size ≤ k) ∧ Kept (fun k => k < w.heap.size ∧ k ≠ p) w w' := by
  obtain ⟨blk, names, texts, len, small, np, tp, nt⟩ := h
  have hiT : i < T.length := by omega
  have smallT : T.length ≤ 1000000 := by omega
  have gtp : gt ≠ p := tp gt rfl
  have gtl : gt < w.heap.size := (texts.lt gt rfl).2
  have len' := Lib.hid len
  have PL' := Lib.hid PL
  have np' := Lib.hid np
  have tp' := Lib.hid tp
  have nt' := Lib.hid nt
  have hj' := Lib.hid hj
  have hp0 := Lib.hid blk
  have ho0 := Lib.hid names
  have ht0 := Lib.hid texts
  have hj1 : j ≤ N.length := by omega
  have hj2 : j ≤ T.length := by omega
  have hj3 : i ≤ j := by omega
  have HL : RowKit.Hid ((N.take i ++ N.drop j).length = (T.take i ++ T.drop j).length) := Lib.hid (by simp only [List.length_append, List.length_take, List.length_drop]; omega)
  have HS : RowKit.Hid ((N.take i ++ N.drop j).length ≤ 1000000) := Lib.hid (by simp only [List.length_append, List.length_take, List.length_drop]; omega)
  clear blk names len PL np tp nt hj texts
  go_enter Try.func16, Try.ntmps16
  go_wp2_with fail
  refine PL'.out.mono ?_
  rintro e w1 ⟨rfl, rfl⟩
  go_upto_region 5 with fail
  go_cut [] from 16 to 32 (fun wx => ∃ g' c' : Nat, Blk wx p 28 #[(.slice (some ⟨g', 0, none⟩) (N.length - 1) c'), .slice (some ⟨gt, 0, none⟩) T.length ct] ∧ wx.ownsRow w.heap.size 9 1 (.slice (some ⟨g', 0, none⟩) (N.length - 1) c') (N.length - 1) ((N.take i ++ N.drop j).map Value.string) ∧ Kept (fun k => k < w.heap.size ∧ k ≠ p) w wx)
  case first =>
    have C0 := hp0.out.cell 0
    have F0 := hp0.out.frozen 0
    simp only [List.getElem?_toArray, List.getElem?_cons_zero, List.getElem?_cons_succ] at C0
    have hpl0 := hp0.out.lt
    have b1 : (i : Int) ≤ cn := by omega
    have b2 : (j : Int) ≤ N.length := by omega
    have B1 : RowKit.Hid (Below w.heap.size w (w.alloc (.cells #[] 9)).drew) := Lib.hid ((Below.refl _ _).alloc (Nat.le_refl _) _).drew
    have SR1 : RowKit.Hid (SRow w (.slice (some ⟨gn, 0, none⟩) i cn) (N.take i)) := Lib.hid (srow_take ho0.out i (by omega) (by omega))
    have own1 : RowKit.Hid ((w.alloc (.cells #[] 9)).drew.ownsRow w.heap.size 9 1 (.slice (some ⟨w.heap.size, 0, none⟩) 0 0) 0 (([] : List ByteArray).map Value.string)) := Lib.hid ⟨rfl, Or.inr ⟨w.heap.size, 0, _, rfl, Nat.le_refl _, heap_alloc_new w _, Nat.le_refl _, by decide, rfl, rfl⟩⟩
    have hbig : RowKit.Hid (N.length - 1 ≤ 1000000) := Lib.hid (by have := hj'.out; omega)
    have hlen : RowKit.Hid (i + (N.length - j) = N.length - 1) := Lib.hid (by have := hj'.out; omega)
    have hib : RowKit.Hid (i ≤ 1000000) := Lib.hid (by omega)
    have ltk : RowKit.Hid ((N.take i).length = i) := Lib.hid (by rw [List.length_take]; omega)
    have ldr : RowKit.Hid ((N.drop j).length = N.length - j) := Lib.hid (by rw [List.length_drop])
    have b3 : IntKind.i64.wrap ((i : Int) + 1) = (j : Int) := by rw [IntKind.wrap_i64]; have := hj'.out; omega
    by_cases hc : cn = j
    · obtain rfl : cn = j := hc
      have SR2 : RowKit.Hid (SRow w (.slice (some ⟨gn, 0, none⟩) 0 0) (N.drop cn)) := Lib.hid (by have e : N.drop cn = [] := List.drop_eq_nil_of_le (by omega); rw [e]; exact srow_nothing)
      have C1 : (w.alloc (.cells #[] 9)).drew.cell? ⟨p, 0, none⟩ = some (.slice (some ⟨gn, 0, none⟩) N.length cn) := (Blk.alloc hp0.out (.cells #[] 9)).cell 0
      refine wp_region_F (fun w' => w'.cell? ⟨p, 0, none⟩ = some (.slice (some ⟨gn, 0, none⟩) N.length cn)) 19 (by kernel_rfl) ?_
      have hS0 : w.drew.cell? ⟨p, 0, none⟩ = some (.slice (some ⟨gn, 0, none⟩) N.length cn) := C0
      refine wpAnyF_takeL 0 (v := ?_) rfl (by kernel_rfl) (by kernel_rfl) (by kernel_rfl) (by kernel_rfl) (fun _ _ _ h => h) (by rfl) ?_ (by assumption) ?_
      rotate_left 1
      · (intro wS hSw; (try dsimp only at hSw); go_simp; first | done | with_reducible rfl)
      try simp only [Act.put, List.setIfInBounds_toArray, List.set_cons_zero, List.set_cons_succ]
      refine wpAnyF_takeL 2 (v := ?_) rfl (by kernel_rfl) (by kernel_rfl) (by kernel_rfl) (by kernel_rfl) (fun _ _ _ h => h) (by rfl) ?_ (by assumption) ?_
      rotate_left 1
      · (intro wS hSw; (try dsimp only at hSw); go_simp; first | done | with_reducible rfl)
      try simp only [Act.put, List.setIfInBounds_toArray, List.set_cons_zero, List.set_cons_succ]
      refine wpAnyF_takeL 3 (v := ?_) rfl (by kernel_rfl) (by kernel_rfl) (by kernel_rfl) (by kernel_rfl) (fun _ _ _ h => h) (by rfl) ?_ (by assumption) ?_
      rotate_left 1
      · (intro wS hSw; (try dsimp only at hSw); go_simp; first | done | with_reducible rfl)
      try simp only [Act.put, List.setIfInBounds_toArray, List.set_cons_zero, List.set_cons_succ]
      refine wpAnyF_takeL 4 (v := ?_) rfl (by kernel_rfl) (by kernel_rfl) (by kernel_rfl) (by kernel_rfl) (fun _ _ _ h => h) (by rfl) ?_ (by assumption) ?_
      rotate_left 1
      · (intro wS hSw; (try dsimp only at hSw); go_simp; first | done | with_reducible rfl)
      try simp only [Act.put, List.setIfInBounds_toArray, List.set_cons_zero, List.set_cons_succ]
      refine wpAnyF_takeL 5 (v := ?_) rfl (by kernel_rfl) (by kernel_rfl) (by kernel_rfl) (by kernel_rfl) (fun _ _ _ h => h) (by rfl) ?_ (by assumption) ?_
      rotate_left 1
      · (intro wS hSw; (try dsimp only at hSw); go_simp; first | done | with_reducible rfl)
      try simp only [Act.put, List.setIfInBounds_toArray, List.set_cons_zero, List.set_cons_succ]
      refine wpAnyF_takeL 6 (v := ?_) rfl (by kernel_rfl) (by kernel_rfl) (by kernel_rfl) (by kernel_rfl) (fun _ _ _ h => h) (by rfl) ?_ (by assumption) ?_
      rotate_left 1
      · (intro wS hSw; (try dsimp only at hSw); go_simp; first | done | with_reducible rfl)
      try simp only [Act.put, List.setIfInBounds_toArray, List.set_cons_zero, List.set_cons_succ]
      refine wpAnyF_takeL 7 (v := ?_) rfl (by kernel_rfl) (by kernel_rfl) (by kernel_rfl) (by kernel_rfl) (fun _ _ _ h => h) (by rfl) ?_ (by assumption) ?_
      rotate_left 1
      · (intro wS hSw; (try dsimp only at hSw); go_simp; first | done | with_reducible rfl)
      try simp only [Act.put, List.setIfInBounds_toArray, List.set_cons_zero, List.set_cons_succ]
      refine wpAnyF_takeL 9 (v := ?_) rfl (by kernel_rfl) (by kernel_rfl) (by kernel_rfl) (by kernel_rfl) (fun _ _ _ h => h) (by rfl) ?_ (by assumption) ?_
      rotate_left 1
      · (intro wS hSw; (try dsimp only at hSw); go_simp; first | done | with_reducible rfl)
      try simp only [Act.put, List.setIfInBounds_toArray, List.set_cons_zero, List.set_cons_succ]
      refine wpAnyF_takeL 10 (v := ?_) rfl (by kernel_rfl) (by kernel_rfl) (by kernel_rfl) (by kernel_rfl) (fun _ _ _ h => h) (by rfl) ?_ (by assumption) ?_
      rotate_left 1
      · (intro wS hSw; (try dsimp only at hSw); go_simp; first | done | with_reducible rfl)
      try simp only [Act.put, List.setIfInBounds_toArray, List.set_cons_zero, List.set_cons_succ]
      refine wpAnyF_takeL 11 (v := ?_) rfl (by kernel_rfl) (by kernel_rfl) (by kernel_rfl) (by kernel_rfl) (fun _ _ _ h => h) (by rfl) ?_ (by assumption) ?_
      rotate_left 1
      · (intro wS hSw; (try dsimp only at hSw); go_simp; first | done | with_reducible rfl)
      try simp only [Act.put, List.setIfInBounds_toArray, List.set_cons_zero, List.set_cons_succ]
      refine wpAnyF_takeL 12 (v := ?_) rfl (by kernel_rfl) (by kernel_rfl) (by kernel_rfl) (by kernel_rfl) (fun _ _ _ h => h) (by rfl) ?_ (by assumption) ?_
      rotate_left 1
      · (intro wS hSw; (try dsimp only at hSw); go_simp; first | done | with_reducible rfl)
      try simp only [Act.put, List.setIfInBounds_toArray, List.set_cons_zero, List.set_cons_succ]
      refine wpAnyF_takeL 13 (v := ?_) rfl (by kernel_rfl) (by kernel_rfl) (by kernel_rfl) (by kernel_rfl) (fun _ _ _ h => h) (by rfl) ?_ (by assumption) ?_
      rotate_left 1
      · (intro wS hSw; (try dsimp only at hSw); go_simp; first | done | with_reducible rfl)
      try simp only [Act.put, List.setIfInBounds_toArray, List.set_cons_zero, List.set_cons_succ]
      refine wpAnyF_takeL 14 (v := ?_) rfl (by kernel_rfl) (by kernel_rfl) (by kernel_rfl) (by kernel_rfl) (fun _ _ _ h => h) (by rfl) ?_ (by assumption) ?_
      rotate_left 1
      · (intro wS hSw; (try dsimp only at hSw); go_simp; first | done | with_reducible rfl)
      try simp only [Act.put, List.setIfInBounds_toArray, List.set_cons_zero, List.set_cons_succ]
      refine wpAnyF_takeL 15 (v := ?_) rfl (by kernel_rfl) (by kernel_rfl) (by kernel_rfl) (by kernel_rfl) (fun _ _ _ h => h) (by rfl) ?_ (by assumption) ?_
      rotate_left 1
      · (intro wS hSw; (try dsimp only at hSw); go_simp; first | done | with_reducible rfl)
      try simp only [Act.put, List.setIfInBounds_toArray, List.set_cons_zero, List.set_cons_succ]
      refine wpAnyF_ready [1] (by kernel_rfl) (by simp) (ReadyF.consL rfl (fun K hK => ?_) ReadyF.nil)
      go_simp
      refine hK.out _ _ (fun _ => C1) ?_
      clear hK K
      have hS1 := C1
      try simp only [Act.put, List.setIfInBounds_toArray, List.set_cons_zero, List.set_cons_succ]
      refine wpAnyF_ready [8] (by kernel_rfl) (by simp) (ReadyF.consL rfl (fun K hK => ?_) ReadyF.nil)
      (refine step_app_str (w.alloc (.cells #[] 9)).drew rfl (.tmp 17) (.tmp 23) 26 9 rfl 16 Try.underlying26 rs_str_info (by omega) w.heap.size B1.out.size w.heap.size 0 0 [] own1.out (N.take i) _ rfl rfl (SR1.out.below B1.out) i (by rw [ltk.out, Nat.zero_add]) hib.out ?_; intro g2 c2 w2 ho2 hg2; rw [List.nil_append] at ho2; have B2 := B1.out.grown hg2 B1.out.size (fun q hq => by injection hq with hq; omega); have C2 := (B2.cell (p := ⟨p, 0, none⟩) hpl0).trans C0; have B2 := Lib.hid B2; have ho2 := Lib.hid ho2)
      refine hK.out _ _ (fun _ => C2) ?_
      clear hK K
      have hS2 := C2
      try simp only [Act.put, List.setIfInBounds_toArray, List.set_cons_zero, List.set_cons_succ]
      refine wpAnyF_ready [16] (by kernel_rfl) (by simp) (ReadyF.consL rfl (fun K hK => ?_) ReadyF.nil)
      (refine step_app_str w2 rfl (.tmp 24) (.tmp 31) 26 9 rfl 16 Try.underlying26 rs_str_info (by omega) w.heap.size B2.out.size g2 c2 i (N.take i) ho2.out (N.drop cn) _ rfl rfl (SR2.out.below B2.out) (N.length - 1) (by rw [ldr.out]; exact hlen.out) hbig.out ?_; intro g3 c3 w3 ho3 hg3; have B3 := B2.out.grown hg3 B2.out.size (fun q hq => by injection hq with hq; subst hq; exact (ho2.out.lt _ rfl).1); have C3 := (B3.cell (p := ⟨p, 0, none⟩) hpl0).trans C0; have F3 := (B3.frozen (p := ⟨p, 0, none⟩) hpl0).trans F0; have B3 := Lib.hid B3; have ho3 := Lib.hid ho3)
      refine hK.out _ _ (fun _ => C3) ?_
      clear hK K
      have hS3 := C3
      try simp only [Act.put, List.setIfInBounds_toArray, List.set_cons_zero, List.set_cons_succ]
      refine wpAnyF_ready [17] (by kernel_rfl) (by simp) (ReadyF.consL rfl (fun K hK => ?_) ReadyF.nil)
      go_simp
      refine hK.out _ _ (fun _ => C3) ?_
      clear hK K
      have hS4 := C3
      try simp only [Act.put, List.setIfInBounds_toArray, List.set_cons_zero, List.set_cons_succ]
      refine wpAnyF_ready [18] (by kernel_rfl) (by simp) (ReadyF.consL rfl (fun K hK => ?_) ReadyF.nil)
      go_simp
      refine hK.out _ _ (fun _ => C3) ?_
      clear hK K
      have hS5 := C3
      try simp only [Act.put, List.setIfInBounds_toArray, List.set_cons_zero, List.set_cons_succ]
      refine wpAnyF_ready [19] (by kernel_rfl) (by simp) (ReadyF.consL rfl (fun K hK => ?_) ReadyF.nil)
      go_simp
      refine hK.out _ _ (fun h => absurd rfl h) ?_
      refine wpAnyF_done (by kernel_rfl) ?_ _
      clear hK K
      go_wp2_with fail
      go_meet
      exact ⟨g3, c3, ((hp0.out.below B3.out hpl0).set_ 0 _), ownsRow_setCell_below ho3.out (by exact hpl0) _, ((Kept.refl _ w).below B3.out (fun k h => h.1)).setCell (by simp) _⟩
    · have hne : ¬ cn = j := hc
      have SR2 : RowKit.Hid (SRow w (.slice (some ⟨gn, j, none⟩) (N.length - j) (cn - j)) (N.drop j)) := Lib.hid (srow_drop ho0.out j (by omega) (by omega))
      have C1 : (w.alloc (.cells #[] 9)).drew.cell? ⟨p, 0, none⟩ = some (.slice (some ⟨gn, 0, none⟩) N.length cn) := (Blk.alloc hp0.out (.cells #[] 9)).cell 0
      refine wp_region_F (fun w' => w'.cell? ⟨p, 0, none⟩ = some (.slice (some ⟨gn, 0, none⟩) N.length cn)) 19 (by kernel_rfl) ?_
      have hS0 : w.drew.cell? ⟨p, 0, none⟩ = some (.slice (some ⟨gn, 0, none⟩) N.length cn) := C0
      refine wpAnyF_takeL 0 (v := ?_) rfl (by kernel_rfl) (by kernel_rfl) (by kernel_rfl) (by kernel_rfl) (fun _ _ _ h => h) (by rfl) ?_ (by assumption) ?_
      rotate_left 1
      · (intro wS hSw; (try dsimp only at hSw); go_simp; first | done | with_reducible rfl)
      try simp only [Act.put, List.setIfInBounds_toArray, List.set_cons_zero, List.set_cons_succ]
      refine wpAnyF_takeL 2 (v := ?_) rfl (by kernel_rfl) (by kernel_rfl) (by kernel_rfl) (by kernel_rfl) (fun _ _ _ h => h) (by rfl) ?_ (by assumption) ?_
      rotate_left 1
      · (intro wS hSw; (try dsimp only at hSw); go_simp; first | done | with_reducible rfl)
      try simp only [Act.put, List.setIfInBounds_toArray, List.set_cons_zero, List.set_cons_succ]
      refine wpAnyF_takeL 3 (v := ?_) rfl (by kernel_rfl) (by kernel_rfl) (by kernel_rfl) (by kernel_rfl) (fun _ _ _ h => h) (by rfl) ?_ (by assumption) ?_
      rotate_left 1
      · (intro wS hSw; (try dsimp only at hSw); go_simp; first | done | with_reducible rfl)
      try simp only [Act.put, List.setIfInBounds_toArray, List.set_cons_zero, List.set_cons_succ]
      refine wpAnyF_takeL 4 (v := ?_) rfl (by kernel_rfl) (by kernel_rfl) (by kernel_rfl) (by kernel_rfl) (fun _ _ _ h => h) (by rfl) ?_ (by assumption) ?_
      rotate_left 1
      · (intro wS hSw; (try dsimp only at hSw); go_simp; first | done | with_reducible rfl)
      try simp only [Act.put, List.setIfInBounds_toArray, List.set_cons_zero, List.set_cons_succ]
      refine wpAnyF_takeL 5 (v := ?_) rfl (by kernel_rfl) (by kernel_rfl) (by kernel_rfl) (by kernel_rfl) (fun _ _ _ h => h) (by rfl) ?_ (by assumption) ?_
      rotate_left 1
      · (intro wS hSw; (try dsimp only at hSw); go_simp; first | done | with_reducible rfl)
      try simp only [Act.put, List.setIfInBounds_toArray, List.set_cons_zero, List.set_cons_succ]
      refine wpAnyF_takeL 6 (v := ?_) rfl (by kernel_rfl) (by kernel_rfl) (by kernel_rfl) (by kernel_rfl) (fun _ _ _ h => h) (by rfl) ?_ (by assumption) ?_
      rotate_left 1
      · (intro wS hSw; (try dsimp only at hSw); go_simp; first | done | with_reducible rfl)
      try simp only [Act.put, List.setIfInBounds_toArray, List.set_cons_zero, List.set_cons_succ]
      refine wpAnyF_takeL 7 (v := ?_) rfl (by kernel_rfl) (by kernel_rfl) (by kernel_rfl) (by kernel_rfl) (fun _ _ _ h => h) (by rfl) ?_ (by assumption) ?_
      rotate_left 1
      · (intro wS hSw; (try dsimp only at hSw); go_simp; first | done | with_reducible rfl)
      try simp only [Act.put, List.setIfInBounds_toArray, List.set_cons_zero, List.set_cons_succ]
      refine wpAnyF_takeL 9 (v := ?_) rfl (by kernel_rfl) (by kernel_rfl) (by kernel_rfl) (by kernel_rfl) (fun _ _ _ h => h) (by rfl) ?_ (by assumption) ?_
      rotate_left 1
      · (intro wS hSw; (try dsimp only at hSw); go_simp; first | done | with_reducible rfl)
      try simp only [Act.put, List.setIfInBounds_toArray, List.set_cons_zero, List.set_cons_succ]
      refine wpAnyF_takeL 10 (v := ?_) rfl (by kernel_rfl) (by kernel_rfl) (by kernel_rfl) (by kernel_rfl) (fun _ _ _ h => h) (by rfl) ?_ (by assumption) ?_
      rotate_left 1
      · (intro wS hSw; (try dsimp only at hSw); go_simp; first | done | with_reducible rfl)
      try simp only [Act.put, List.setIfInBounds_toArray, List.set_cons_zero, List.set_cons_succ]
      refine wpAnyF_takeL 11 (v := ?_) rfl (by kernel_rfl) (by kernel_rfl) (by kernel_rfl) (by kernel_rfl) (fun _ _ _ h => h) (by rfl) ?_ (by assumption) ?_
      rotate_left 1
      · (intro wS hSw; (try dsimp only at hSw); go_simp; first | done | with_reducible rfl)
      try simp only [Act.put, List.setIfInBounds_toArray, List.set_cons_zero, List.set_cons_succ]
      refine wpAnyF_takeL 12 (v := ?_) rfl (by kernel_rfl) (by kernel_rfl) (by kernel_rfl) (by kernel_rfl) (fun _ _ _ h => h) (by rfl) ?_ (by assumption) ?_
      rotate_left 1
      · (intro wS hSw; (try dsimp only at hSw); go_simp; first | done | with_reducible rfl)
      try simp only [Act.put, List.setIfInBounds_toArray, List.set_cons_zero, List.set_cons_succ]
      refine wpAnyF_takeL 13 (v := ?_) rfl (by kernel_rfl) (by kernel_rfl) (by kernel_rfl) (by kernel_rfl) (fun _ _ _ h => h) (by rfl) ?_ (by assumption) ?_
      rotate_left 1
      · (intro wS hSw; (try dsimp only at hSw); go_simp; first | done | with_reducible rfl)
      try simp only [Act.put, List.setIfInBounds_toArray, List.set_cons_zero, List.set_cons_succ]
      refine wpAnyF_takeL 14 (v := ?_) rfl (by kernel_rfl) (by kernel_rfl) (by kernel_rfl) (by kernel_rfl) (fun _ _ _ h => h) (by rfl) ?_ (by assumption) ?_
      rotate_left 1
      · (intro wS hSw; (try dsimp only at hSw); go_simp; first | done | with_reducible rfl)
      try simp only [Act.put, List.setIfInBounds_toArray, List.set_cons_zero, List.set_cons_succ]
      refine wpAnyF_takeL 15 (v := ?_) rfl (by kernel_rfl) (by kernel_rfl) (by kernel_rfl) (by kernel_rfl) (fun _ _ _ h => h) (by rfl) ?_ (by assumption) ?_
      rotate_left 1
      · (intro wS hSw; (try dsimp only at hSw); go_simp; first | done | with_reducible rfl)
      try simp only [Act.put, List.setIfInBounds_toArray, List.set_cons_zero, List.set_cons_succ]
      refine wpAnyF_ready [1] (by kernel_rfl) (by simp) (ReadyF.consL rfl (fun K hK => ?_) ReadyF.nil)
      go_simp
      refine hK.out _ _ (fun _ => C1) ?_
      clear hK K
      have hS1 := C1
      try simp only [Act.put, List.setIfInBounds_toArray, List.set_cons_zero, List.set_cons_succ]
      refine wpAnyF_ready [8] (by kernel_rfl) (by simp) (ReadyF.consL rfl (fun K hK => ?_) ReadyF.nil)
      (refine step_app_str (w.alloc (.cells #[] 9)).drew rfl (.tmp 17) (.tmp 23) 26 9 rfl 16 Try.underlying26 rs_str_info (by omega) w.heap.size B1.out.size w.heap.size 0 0 [] own1.out (N.take i) _ rfl rfl (SR1.out.below B1.out) i (by rw [ltk.out, Nat.zero_add]) hib.out ?_; intro g2 c2 w2 ho2 hg2; rw [List.nil_append] at ho2; have B2 := B1.out.grown hg2 B1.out.size (fun q hq => by injection hq with hq; omega); have C2 := (B2.cell (p := ⟨p, 0, none⟩) hpl0).trans C0; have B2 := Lib.hid B2; have ho2 := Lib.hid ho2)
      refine hK.out _ _ (fun _ => C2) ?_
      clear hK K
      have hS2 := C2
      try simp only [Act.put, List.setIfInBounds_toArray, List.set_cons_zero, List.set_cons_succ]
      refine wpAnyF_ready [16] (by kernel_rfl) (by simp) (ReadyF.consL rfl (fun K hK => ?_) ReadyF.nil)
      (refine step_app_str w2 rfl (.tmp 24) (.tmp 31) 26 9 rfl 16 Try.underlying26 rs_str_info (by omega) w.heap.size B2.out.size g2 c2 i (N.take i) ho2.out (N.drop j) _ rfl rfl (SR2.out.below B2.out) (N.length - 1) (by rw [ldr.out]; exact hlen.out) hbig.out ?_; intro g3 c3 w3 ho3 hg3; have B3 := B2.out.grown hg3 B2.out.size (fun q hq => by injection hq with hq; subst hq; exact (ho2.out.lt _ rfl).1); have C3 := (B3.cell (p := ⟨p, 0, none⟩) hpl0).trans C0; have F3 := (B3.frozen (p := ⟨p, 0, none⟩) hpl0).trans F0; have B3 := Lib.hid B3; have ho3 := Lib.hid ho3)
      refine hK.out _ _ (fun _ => C3) ?_
      clear hK K
      have hS3 := C3
      try simp only [Act.put, List.setIfInBounds_toArray, List.set_cons_zero, List.set_cons_succ]
      refine wpAnyF_ready [17] (by kernel_rfl) (by simp) (ReadyF.consL rfl (fun K hK => ?_) ReadyF.nil)
      go_simp
      refine hK.out _ _ (fun _ => C3) ?_
      clear hK K
      have hS4 := C3
      try simp only [Act.put, List.setIfInBounds_toArray, List.set_cons_zero, List.set_cons_succ]
      refine wpAnyF_ready [18] (by kernel_rfl) (by simp) (ReadyF.consL rfl (fun K hK => ?_) ReadyF.nil)
      go_simp
      refine hK.out _ _ (fun _ => C3) ?_
      clear hK K
      have hS5 := C3
      try simp only [Act.put, List.setIfInBounds_toArray, List.set_cons_zero, List.set_cons_succ]
      refine wpAnyF_ready [19] (by kernel_rfl) (by simp) (ReadyF.consL rfl (fun K hK => ?_) ReadyF.nil)
      go_simp
      refine hK.out _ _ (fun h => absurd rfl h) ?_
      refine wpAnyF_done (by kernel_rfl) ?_ _
      clear hK K
      go_wp2_with fail
      go_meet
      exact ⟨g3, c3, ((hp0.out.below B3.out hpl0).set_ 0 _), ownsRow_setCell_below ho3.out (by exact hpl0) _, ((Kept.refl _ w).below B3.out (fun k h => h.1)).setCell (by simp) _⟩
  case rest =>
    obtain ⟨g4, c4, k1, k2, k3⟩ := hcut
    have ho1 := Lib.hid (own_kept ht0.out k3 (fun k hk => by injection hk with hk; subst hk; exact ⟨gtl, gtp⟩))
    have hp1 := Lib.hid k1
    have ho2 := Lib.hid k2
    have k3' := Lib.hid k3
    have hg4 := (k2.lt g4 rfl).1
    have hg4l := (k2.lt g4 rfl).2
    have hpw := hp0.out.lt
    have hle := k3.size
    clear hp0 ho0 ht0 k1 k2 k3
    generalize N.length - 1 = n1 at *
    go_upto_region 6 with fail
    go_cut [] from 35 to 51 (fun wx => ∃ g' c' : Nat, Blk wx p 28 #[.slice (some ⟨g4, 0, none⟩) n1 c4, (.slice (some ⟨g', 0, none⟩) (T.length - 1) c')] ∧ wx.ownsRow wc.heap.size 9 1 (.slice (some ⟨g', 0, none⟩) (T.length - 1) c') (T.length - 1) ((T.take i ++ T.drop j).map Value.string) ∧ Kept (fun k => k < wc.heap.size ∧ k ≠ p) wc wx)
    case first =>
      have C0 := hp1.out.cell 1
      have F0 := hp1.out.frozen 1
      simp only [List.getElem?_toArray, List.getElem?_cons_zero, List.getElem?_cons_succ] at C0
      have hpl1 := hp1.out.lt
      have b1 : (i : Int) ≤ ct := by omega
      have b2 : (j : Int) ≤ T.length := by omega
      have B1 : RowKit.Hid (Below wc.heap.size wc (wc.alloc (.cells #[] 9)).drew) := Lib.hid ((Below.refl _ _).alloc (Nat.le_refl _) _).drew
      have SR1 : RowKit.Hid (SRow wc (.slice (some ⟨gt, 0, none⟩) i ct) (T.take i)) := Lib.hid (srow_take ho1.out i (by omega) (by omega))
      have own1 : RowKit.Hid ((wc.alloc (.cells #[] 9)).drew.ownsRow wc.heap.size 9 1 (.slice (some ⟨wc.heap.size, 0, none⟩) 0 0) 0 (([] : List ByteArray).map Value.string)) := Lib.hid ⟨rfl, Or.inr ⟨wc.heap.size, 0, _, rfl, Nat.le_refl _, heap_alloc_new wc _, Nat.le_refl _, by decide, rfl, rfl⟩⟩
      have hbig : RowKit.Hid (T.length - 1 ≤ 1000000) := Lib.hid (by have := hj'.out; omega)
      have hlen : RowKit.Hid (i + (T.length - j) = T.length - 1) := Lib.hid (by have := hj'.out; omega)
      have hib : RowKit.Hid (i ≤ 1000000) := Lib.hid (by omega)
      have ltk : RowKit.Hid ((T.take i).length = i) := Lib.hid (by rw [List.length_take]; omega)
      have ldr : RowKit.Hid ((T.drop j).length = T.length - j) := Lib.hid (by rw [List.length_drop])
      have b3 : IntKind.i64.wrap ((i : Int) + 1) = (j : Int) := by rw [IntKind.wrap_i64]; have := hj'.out; omega
      by_cases hc : ct = j
      · obtain rfl : ct = j := hc
        have SR2 : RowKit.Hid (SRow wc (.slice (some ⟨gt, 0, none⟩) 0 0) (T.drop ct)) := Lib.hid (by have e : T.drop ct = [] := List.drop_eq_nil_of_le (by omega); rw [e]; exact srow_nothing)
        have C1 : (wc.alloc (.cells #[] 9)).drew.cell? ⟨p, 1, none⟩ = some (.slice (some ⟨gt, 0, none⟩) T.length ct) := (Blk.alloc hp1.out (.cells #[] 9)).cell 1
        refine wp_region_F (fun w' => w'.cell? ⟨p, 1, none⟩ = some (.slice (some ⟨gt, 0, none⟩) T.length ct)) 19 (by kernel_rfl) ?_
        have hS0 : wc.drew.cell? ⟨p, 1, none⟩ = some (.slice (some ⟨gt, 0, none⟩) T.length ct) := C0
        refine wpAnyF_takeL 0 (v := ?_) rfl (by kernel_rfl) (by kernel_rfl) (by kernel_rfl) (by kernel_rfl) (fun _ _ _ h => h) (by rfl) ?_ (by assumption) ?_
        rotate_left 1
        · (intro wS hSw; (try dsimp only at hSw); go_simp; first | done | with_reducible rfl)
        try simp only [Act.put, List.setIfInBounds_toArray, List.set_cons_zero, List.set_cons_succ]
        refine wpAnyF_takeL 2 (v := ?_) rfl (by kernel_rfl) (by kernel_rfl) (by kernel_rfl) (by kernel_rfl) (fun _ _ _ h => h) (by rfl) ?_ (by assumption) ?_
        rotate_left 1
        · (intro wS hSw; (try dsimp only at hSw); go_simp; first | done | with_reducible rfl)
        try simp only [Act.put, List.setIfInBounds_toArray, List.set_cons_zero, List.set_cons_succ]
        refine wpAnyF_takeL 3 (v := ?_) rfl (by kernel_rfl) (by kernel_rfl) (by kernel_rfl) (by kernel_rfl) (fun _ _ _ h => h) (by rfl) ?_ (by assumption) ?_
        rotate_left 1
        · (intro wS hSw; (try dsimp only at hSw); go_simp; first | done | with_reducible rfl)
        try simp only [Act.put, List.setIfInBounds_toArray, List.set_cons_zero, List.set_cons_succ]
        refine wpAnyF_takeL 4 (v := ?_) rfl (by kernel_rfl) (by kernel_rfl) (by kernel_rfl) (by kernel_rfl) (fun _ _ _ h => h) (by rfl) ?_ (by assumption) ?_
        rotate_left 1
        · (intro wS hSw; (try dsimp only at hSw); go_simp; first | done | with_reducible rfl)
        try simp only [Act.put, List.setIfInBounds_toArray, List.set_cons_zero, List.set_cons_succ]
        refine wpAnyF_takeL 5 (v := ?_) rfl (by kernel_rfl) (by kernel_rfl) (by kernel_rfl) (by kernel_rfl) (fun _ _ _ h => h) (by rfl) ?_ (by assumption) ?_
        rotate_left 1
        · (intro wS hSw; (try dsimp only at hSw); go_simp; first | done | with_reducible rfl)
        try simp only [Act.put, List.setIfInBounds_toArray, List.set_cons_zero, List.set_cons_succ]
        refine wpAnyF_takeL 6 (v := ?_) rfl (by kernel_rfl) (by kernel_rfl) (by kernel_rfl) (by kernel_rfl) (fun _ _ _ h => h) (by rfl) ?_ (by assumption) ?_
        rotate_left 1
        · (intro wS hSw; (try dsimp only at hSw); go_simp; first | done | with_reducible rfl)
        try simp only [Act.put, List.setIfInBounds_toArray, List.set_cons_zero, List.set_cons_succ]
        refine wpAnyF_takeL 7 (v := ?_) rfl (by kernel_rfl) (by kernel_rfl) (by kernel_rfl) (by kernel_rfl) (fun _ _ _ h => h) (by rfl) ?_ (by assumption) ?_
        rotate_left 1
        · (intro wS hSw; (try dsimp only at hSw); go_simp; first | done | with_reducible rfl)
        try simp only [Act.put, List.setIfInBounds_toArray, List.set_cons_zero, List.set_cons_succ]
        refine wpAnyF_takeL 9 (v := ?_) rfl (by kernel_rfl) (by kernel_rfl) (by kernel_rfl) (by kernel_rfl) (fun _ _ _ h => h) (by rfl) ?_ (by assumption) ?_
        rotate_left 1
        · (intro wS hSw; (try dsimp only at hSw); go_simp; first | done | with_reducible rfl)
        try simp only [Act.put, List.setIfInBounds_toArray, List.set_cons_zero, List.set_cons_succ]
        refine wpAnyF_takeL 10 (v := ?_) rfl (by kernel_rfl) (by kernel_rfl) (by kernel_rfl) (by kernel_rfl) (fun _ _ _ h => h) (by rfl) ?_ (by assumption) ?_
        rotate_left 1
        · (intro wS hSw; (try dsimp only at hSw); go_simp; first | done | with_reducible rfl)
        try simp only [Act.put, List.setIfInBounds_toArray, List.set_cons_zero, List.set_cons_succ]
        refine wpAnyF_takeL 11 (v := ?_) rfl (by kernel_rfl) (by kernel_rfl) (by kernel_rfl) (by kernel_rfl) (fun _ _ _ h => h) (by rfl) ?_ (by assumption) ?_
        rotate_left 1
        · (intro wS hSw; (try dsimp only at hSw); go_simp; first | done | with_reducible rfl)
        try simp only [Act.put, List.setIfInBounds_toArray, List.set_cons_zero, List.set_cons_succ]
        refine wpAnyF_takeL 12 (v := ?_) rfl (by kernel_rfl) (by kernel_rfl) (by kernel_rfl) (by kernel_rfl) (fun _ _ _ h => h) (by rfl) ?_ (by assumption) ?_
        rotate_left 1
        · (intro wS hSw; (try dsimp only at hSw); go_simp; first | done | with_reducible rfl)
        try simp only [Act.put, List.setIfInBounds_toArray, List.set_cons_zero, List.set_cons_succ]
        refine wpAnyF_takeL 13 (v := ?_) rfl (by kernel_rfl) (by kernel_rfl) (by kernel_rfl) (by kernel_rfl) (fun _ _ _ h => h) (by rfl) ?_ (by assumption) ?_
        rotate_left 1
        · (intro wS hSw; (try dsimp only at hSw); go_simp; first | done | with_reducible rfl)
        try simp only [Act.put, List.setIfInBounds_toArray, List.set_cons_zero, List.set_cons_succ]
        refine wpAnyF_takeL 14 (v := ?_) rfl (by kernel_rfl) (by kernel_rfl) (by kernel_rfl) (by kernel_rfl) (fun _ _ _ h => h) (by rfl) ?_ (by assumption) ?_
        rotate_left 1
        · (intro wS hSw; (try dsimp only at hSw); go_simp; first | done | with_reducible rfl)
        try simp only [Act.put, List.setIfInBounds_toArray, List.set_cons_zero, List.set_cons_succ]
        refine wpAnyF_takeL 15 (v := ?_) rfl (by kernel_rfl) (by kernel_rfl) (by kernel_rfl) (by kernel_rfl) (fun _ _ _ h => h) (by rfl) ?_ (by assumption) ?_
        rotate_left 1
        · (intro wS hSw; (try dsimp only at hSw); go_simp; first | done | with_reducible rfl)
        try simp only [Act.put, List.setIfInBounds_toArray, List.set_cons_zero, List.set_cons_succ]
        refine wpAnyF_ready [1] (by kernel_rfl) (by simp) (ReadyF.consL rfl (fun K hK => ?_) ReadyF.nil)
        go_simp
        refine hK.out _ _ (fun _ => C1) ?_
        clear hK K
        have hS1 := C1
        try simp only [Act.put, List.setIfInBounds_toArray, List.set_cons_zero, List.set_cons_succ]
        refine wpAnyF_ready [8] (by kernel_rfl) (by simp) (ReadyF.consL rfl (fun K hK => ?_) ReadyF.nil)
        (refine step_app_str (wc.alloc (.cells #[] 9)).drew rfl (.tmp 36) (.tmp 42) 26 9 rfl 16 Try.underlying26 rs_str_info (by omega) wc.heap.size B1.out.size wc.heap.size 0 0 [] own1.out (T.take i) _ rfl rfl (SR1.out.below B1.out) i (by rw [ltk.out, Nat.zero_add]) hib.out ?_; intro g2 c2 w2 ho2 hg2; rw [List.nil_append] at ho2; have B2 := B1.out.grown hg2 B1.out.size (fun q hq => by injection hq with hq; omega); have C2 := (B2.cell (p := ⟨p, 1, none⟩) hpl1).trans C0; have B2 := Lib.hid B2; have ho2 := Lib.hid ho2)
        refine hK.out _ _ (fun _ => C2) ?_
        clear hK K
        have hS2 := C2
        try simp only [Act.put, List.setIfInBounds_toArray, List.set_cons_zero, List.set_cons_succ]
        refine wpAnyF_ready [16] (by kernel_rfl) (by simp) (ReadyF.consL rfl (fun K hK => ?_) ReadyF.nil)
        (refine step_app_str w2 rfl (.tmp 43) (.tmp 50) 26 9 rfl 16 Try.underlying26 rs_str_info (by omega) wc.heap.size B2.out.size g2 c2 i (T.take i) ho2.out (T.drop ct) _ rfl rfl (SR2.out.below B2.out) (T.length - 1) (by rw [ldr.out]; exact hlen.out) hbig.out ?_; intro g3 c3 w3 ho3 hg3; have B3 := B2.out.grown hg3 B2.out.size (fun q hq => by injection hq with hq; subst hq; exact (ho2.out.lt _ rfl).1); have C3 := (B3.cell (p := ⟨p, 1, none⟩) hpl1).trans C0; have F3 := (B3.frozen (p := ⟨p, 1, none⟩) hpl1).trans F0; have B3 := Lib.hid B3; have ho3 := Lib.hid ho3)
        refine hK.out _ _ (fun _ => C3) ?_
        clear hK K
        have hS3 := C3
        try simp only [Act.put, List.setIfInBounds_toArray, List.set_cons_zero, List.set_cons_succ]
        refine wpAnyF_ready [17] (by kernel_rfl) (by simp) (ReadyF.consL rfl (fun K hK => ?_) ReadyF.nil)
        go_simp
        refine hK.out _ _ (fun _ => C3) ?_
        clear hK K
        have hS4 := C3
        try simp only [Act.put, List.setIfInBounds_toArray, List.set_cons_zero, List.set_cons_succ]
        refine wpAnyF_ready [18] (by kernel_rfl) (by simp) (ReadyF.consL rfl (fun K hK => ?_) ReadyF.nil)
        go_simp
        refine hK.out _ _ (fun _ => C3) ?_
        clear hK K
        have hS5 := C3
        try simp only [Act.put, List.setIfInBounds_toArray, List.set_cons_zero, List.set_cons_succ]
        refine wpAnyF_ready [19] (by kernel_rfl) (by simp) (ReadyF.consL rfl (fun K hK => ?_) ReadyF.nil)
        go_simp
        refine hK.out _ _ (fun h => absurd rfl h) ?_
        refine wpAnyF_done (by kernel_rfl) ?_ _
        clear hK K
        go_wp2_with fail
        go_meet
        exact ⟨g3, c3, ((hp1.out.below B3.out hpl1).set_ 1 _), ownsRow_setCell_below ho3.out (by exact hpl1) _, ((Kept.refl _ wc).below B3.out (fun k h => h.1)).setCell (by simp) _⟩
      · have hne : ¬ ct = j := hc
        have SR2 : RowKit.Hid (SRow wc (.slice (some ⟨gt, j, none⟩) (T.length - j) (ct - j)) (T.drop j)) := Lib.hid (srow_drop ho1.out j (by omega) (by omega))
        have C1 : (wc.alloc (.cells #[] 9)).drew.cell? ⟨p, 1, none⟩ = some (.slice (some ⟨gt, 0, none⟩) T.length ct) := (Blk.alloc hp1.out (.cells #[] 9)).cell 1
        refine wp_region_F (fun w' => w'.cell? ⟨p, 1, none⟩ = some (.slice (some ⟨gt, 0, none⟩) T.length ct)) 19 (by kernel_rfl) ?_
        have hS0 : wc.drew.cell? ⟨p, 1, none⟩ = some (.slice (some ⟨gt, 0, none⟩) T.length ct) := C0
        refine wpAnyF_takeL 0 (v := ?_) rfl (by kernel_rfl) (by kernel_rfl) (by kernel_rfl) (by kernel_rfl) (fun _ _ _ h => h) (by rfl) ?_ (by assumption) ?_
        rotate_left 1
        · (intro wS hSw; (try dsimp only at hSw); go_simp; first | done | with_reducible rfl)
        try simp only [Act.put, List.setIfInBounds_toArray, List.set_cons_zero, List.set_cons_succ]
        refine wpAnyF_takeL 2 (v := ?_) rfl (by kernel_rfl) (by kernel_rfl) (by kernel_rfl) (by kernel_rfl) (fun _ _ _ h => h) (by rfl) ?_ (by assumption) ?_
        rotate_left 1
        · (intro wS hSw; (try dsimp only at hSw); go_simp; first | done | with_reducible rfl)
        try simp only [Act.put, List.setIfInBounds_toArray, List.set_cons_zero, List.set_cons_succ]
        refine wpAnyF_takeL 3 (v := ?_) rfl (by kernel_rfl) (by kernel_rfl) (by kernel_rfl) (by kernel_rfl) (fun _ _ _ h => h) (by rfl) ?_ (by assumption) ?_
        rotate_left 1
        · (intro wS hSw; (try dsimp only at hSw); go_simp; first | done | with_reducible rfl)
        try simp only [Act.put, List.setIfInBounds_toArray, List.set_cons_zero, List.set_cons_succ]
        refine wpAnyF_takeL 4 (v := ?_) rfl (by kernel_rfl) (by kernel_rfl) (by kernel_rfl) (by kernel_rfl) (fun _ _ _ h => h) (by rfl) ?_ (by assumption) ?_
        rotate_left 1
        · (intro wS hSw; (try dsimp only at hSw); go_simp; first | done | with_reducible rfl)
        try simp only [Act.put, List.setIfInBounds_toArray, List.set_cons_zero, List.set_cons_succ]
        refine wpAnyF_takeL 5 (v := ?_) rfl (by kernel_rfl) (by kernel_rfl) (by kernel_rfl) (by kernel_rfl) (fun _ _ _ h => h) (by rfl) ?_ (by assumption) ?_
        rotate_left 1
        · (intro wS hSw; (try dsimp only at hSw); go_simp; first | done | with_reducible rfl)
        try simp only [Act.put, List.setIfInBounds_toArray, List.set_cons_zero, List.set_cons_succ]
        refine wpAnyF_takeL 6 (v := ?_) rfl (by kernel_rfl) (by kernel_rfl) (by kernel_rfl) (by kernel_rfl) (fun _ _ _ h => h) (by rfl) ?_ (by assumption) ?_
        rotate_left 1
        · (intro wS hSw; (try dsimp only at hSw); go_simp; first | done | with_reducible rfl)
        try simp only [Act.put, List.setIfInBounds_toArray, List.set_cons_zero, List.set_cons_succ]
        refine wpAnyF_takeL 7 (v := ?_) rfl (by kernel_rfl) (by kernel_rfl) (by kernel_rfl) (by kernel_rfl) (fun _ _ _ h => h) (by rfl) ?_ (by assumption) ?_
        rotate_left 1
        · (intro wS hSw; (try dsimp only at hSw); go_simp; first | done | with_reducible rfl)
        try simp only [Act.put, List.setIfInBounds_toArray, List.set_cons_zero, List.set_cons_succ]
        refine wpAnyF_takeL 9 (v := ?_) rfl (by kernel_rfl) (by kernel_rfl) (by kernel_rfl) (by kernel_rfl) (fun _ _ _ h => h) (by rfl) ?_ (by assumption) ?_
        rotate_left 1
        · (intro wS hSw; (try dsimp only at hSw); go_simp; first | done | with_reducible rfl)
        try simp only [Act.put, List.setIfInBounds_toArray, List.set_cons_zero, List.set_cons_succ]
        refine wpAnyF_takeL 10 (v := ?_) rfl (by kernel_rfl) (by kernel_rfl) (by kernel_rfl) (by kernel_rfl) (fun _ _ _ h => h) (by rfl) ?_ (by assumption) ?_
        rotate_left 1
        · (intro wS hSw; (try dsimp only at hSw); go_simp; first | done | with_reducible rfl)
        try simp only [Act.put, List.setIfInBounds_toArray, List.set_cons_zero, List.set_cons_succ]
        refine wpAnyF_takeL 11 (v := ?_) rfl (by kernel_rfl) (by kernel_rfl) (by kernel_rfl) (by kernel_rfl) (fun _ _ _ h => h) (by rfl) ?_ (by assumption) ?_
        rotate_left 1
        · (intro wS hSw; (try dsimp only at hSw); go_simp; first | done | with_reducible rfl)
        try simp only [Act.put, List.setIfInBounds_toArray, List.set_cons_zero, List.set_cons_succ]
        refine wpAnyF_takeL 12 (v := ?_) rfl (by kernel_rfl) (by kernel_rfl) (by kernel_rfl) (by kernel_rfl) (fun _ _ _ h => h) (by rfl) ?_ (by assumption) ?_
        rotate_left 1
        · (intro wS hSw; (try dsimp only at hSw); go_simp; first | done | with_reducible rfl)
        try simp only [Act.put, List.setIfInBounds_toArray, List.set_cons_zero, List.set_cons_succ]
        refine wpAnyF_takeL 13 (v := ?_) rfl (by kernel_rfl) (by kernel_rfl) (by kernel_rfl) (by kernel_rfl) (fun _ _ _ h => h) (by rfl) ?_ (by assumption) ?_
        rotate_left 1
        · (intro wS hSw; (try dsimp only at hSw); go_simp; first | done | with_reducible rfl)
        try simp only [Act.put, List.setIfInBounds_toArray, List.set_cons_zero, List.set_cons_succ]
        refine wpAnyF_takeL 14 (v := ?_) rfl (by kernel_rfl) (by kernel_rfl) (by kernel_rfl) (by kernel_rfl) (fun _ _ _ h => h) (by rfl) ?_ (by assumption) ?_
        rotate_left 1
        · (intro wS hSw; (try dsimp only at hSw); go_simp; first | done | with_reducible rfl)
        try simp only [Act.put, List.setIfInBounds_toArray, List.set_cons_zero, List.set_cons_succ]
        refine wpAnyF_takeL 15 (v := ?_) rfl (by kernel_rfl) (by kernel_rfl) (by kernel_rfl) (by kernel_rfl) (fun _ _ _ h => h) (by rfl) ?_ (by assumption) ?_
        rotate_left 1
        · (intro wS hSw; (try dsimp only at hSw); go_simp; first | done | with_reducible rfl)
        try simp only [Act.put, List.setIfInBounds_toArray, List.set_cons_zero, List.set_cons_succ]
        refine wpAnyF_ready [1] (by kernel_rfl) (by simp) (ReadyF.consL rfl (fun K hK => ?_) ReadyF.nil)
        go_simp
        refine hK.out _ _ (fun _ => C1) ?_
        clear hK K
        have hS1 := C1
        try simp only [Act.put, List.setIfInBounds_toArray, List.set_cons_zero, List.set_cons_succ]
        refine wpAnyF_ready [8] (by kernel_rfl) (by simp) (ReadyF.consL rfl (fun K hK => ?_) ReadyF.nil)
        (refine step_app_str (wc.alloc (.cells #[] 9)).drew rfl (.tmp 36) (.tmp 42) 26 9 rfl 16 Try.underlying26 rs_str_info (by omega) wc.heap.size B1.out.size wc.heap.size 0 0 [] own1.out (T.take i) _ rfl rfl (SR1.out.below B1.out) i (by rw [ltk.out, Nat.zero_add]) hib.out ?_; intro g2 c2 w2 ho2 hg2; rw [List.nil_append] at ho2; have B2 := B1.out.grown hg2 B1.out.size (fun q hq => by injection hq with hq; omega); have C2 := (B2.cell (p := ⟨p, 1, none⟩) hpl1).trans C0; have B2 := Lib.hid B2; have ho2 := Lib.hid ho2)
        refine hK.out _ _ (fun _ => C2) ?_
        clear hK K
        have hS2 := C2
        try simp only [Act.put, List.setIfInBounds_toArray, List.set_cons_zero, List.set_cons_succ]
        refine wpAnyF_ready [16] (by kernel_rfl) (by simp) (ReadyF.consL rfl (fun K hK => ?_) ReadyF.nil)
        (refine step_app_str w2 rfl (.tmp 43) (.tmp 50) 26 9 rfl 16 Try.underlying26 rs_str_info (by omega) wc.heap.size B2.out.size g2 c2 i (T.take i) ho2.out (T.drop j) _ rfl rfl (SR2.out.below B2.out) (T.length - 1) (by rw [ldr.out]; exact hlen.out) hbig.out ?_; intro g3 c3 w3 ho3 hg3; have B3 := B2.out.grown hg3 B2.out.size (fun q hq => by injection hq with hq; subst hq; exact (ho2.out.lt _ rfl).1); have C3 := (B3.cell (p := ⟨p, 1, none⟩) hpl1).trans C0; have F3 := (B3.frozen (p := ⟨p, 1, none⟩) hpl1).trans F0; have B3 := Lib.hid B3; have ho3 := Lib.hid ho3)
        refine hK.out _ _ (fun _ => C3) ?_
        clear hK K
        have hS3 := C3
        try simp only [Act.put, List.setIfInBounds_toArray, List.set_cons_zero, List.set_cons_succ]
        refine wpAnyF_ready [17] (by kernel_rfl) (by simp) (ReadyF.consL rfl (fun K hK => ?_) ReadyF.nil)
        go_simp
        refine hK.out _ _ (fun _ => C3) ?_
        clear hK K
        have hS4 := C3
        try simp only [Act.put, List.setIfInBounds_toArray, List.set_cons_zero, List.set_cons_succ]
        refine wpAnyF_ready [18] (by kernel_rfl) (by simp) (ReadyF.consL rfl (fun K hK => ?_) ReadyF.nil)
        go_simp
        refine hK.out _ _ (fun _ => C3) ?_
        clear hK K
        have hS5 := C3
        try simp only [Act.put, List.setIfInBounds_toArray, List.set_cons_zero, List.set_cons_succ]
        refine wpAnyF_ready [19] (by kernel_rfl) (by simp) (ReadyF.consL rfl (fun K hK => ?_) ReadyF.nil)
        go_simp
        refine hK.out _ _ (fun h => absurd rfl h) ?_
        refine wpAnyF_done (by kernel_rfl) ?_ _
        clear hK K
        go_wp2_with fail
        go_meet
        exact ⟨g3, c3, ((hp1.out.below B3.out hpl1).set_ 1 _), ownsRow_setCell_below ho3.out (by exact hpl1) _, ((Kept.refl _ wc).below B3.out (fun k h => h.1)).setCell (by simp) _⟩
    case rest =>
      obtain ⟨g5, c5, q1, q2, q3⟩ := hcut
      have r1 := Lib.hid q1
      have r2 := Lib.hid q2
      have r3 := Lib.hid q3
      clear q1 q2 q3
      go_wp2_with fail
      go_ret
      exact ⟨rfl, ref_made r1.out ho2.out (r2.out) k3'.out r3.out hpw HL.out HS.out⟩

end Go.Proofs.Ytceflhffilldeaa
