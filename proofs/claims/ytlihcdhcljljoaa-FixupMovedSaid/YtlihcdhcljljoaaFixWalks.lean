/-
  The statements FixupBack, FixupLinks, FixupChains: their walks, out of the contracts.
-/
import Derived.Test.YtlihcdhcljljoaaFixWakes
import Derived.Test.YtlihcdhcljljoaaFixChainR
import Derived.Test.YtlihcdhcljljoaaKeep
namespace Go.Proofs.Ytlihcdhcljljoaa
set_option linter.unusedVariables false
set_option linter.unusedSimpArgs false
open Go.RowKit Bw

theorem u32s_of {l : List Int} (h : ∀ n ∈ l, (Lit.int .u32 n).wf = true) : U32s l := by
  intro i hi
  have := h (l.getD i 0) (by simp [List.getD, hi])
  generalize l.getD i 0 = x at *
  simp [Lit.wf, IntKind.min, IntKind.max, IntKind.bits, IntKind.signed] at this
  omega

set_option maxRecDepth 100000 in
set_option maxHeartbeats 2000000 in
theorem law22_back (r s m b : Int) (w : World) (r0 : -9223372036854775808 ≤ r) (r1 : r ≤ 9223372036854775807) (s0 : -9223372036854775808 ≤ s) (s1 : s ≤ 9223372036854775807) (m0 : -9223372036854775808 ≤ m) (m1 : m ≤ 9223372036854775807) (b0 : -9223372036854775808 ≤ b) (b1 : b ≤ 9223372036854775807) :
    Calls Try.prog 7 #[.agg #[.int .i64 r, .int .i64 s, .int .i64 m, .int .i64 b]] w fun e w' => e = .returned (.bool true) ∧ Below w.heap.size w w' := by
  have LK := fun W => Lib.hid (fix_link r s m b W r0 r1 s0 s1 m0 m1 b0 b1)
  have hbd := Fx.link_bd r s m b
  have FP := fun W => Lib.hid (fix_parts (Fx.link r s m b) W hbd.1 hbd.2)
  have B0 : Below w.heap.size w (w.alloc (.cells #[.int .i64 r, .int .i64 s, .int .i64 m, .int .i64 b] 36)) := (Below.refl _ _).alloc (Nat.le_refl _) _
  have L0 := Lib.hid (Blk.new w 36 #[.int .i64 r, .int .i64 s, .int .i64 m, .int .i64 b])
  cases hok : Fx.okLink r s m b
  · have e1 : Fx.link r s m b = 0 := by rw [Fx.link, hok]; rfl
    have e2 : Fx.linkErr r s m b = 220 := by rw [Fx.linkErr, hok]; rfl
    rw [e1, e2] at LK
    rw [e1] at FP
    generalize Fx.reg 0 = xr at *
    generalize Fx.sort 0 = xs at *
    generalize Fx.mod 0 = xm at *
    generalize Fx.back 0 = xb at *
    generalize Fx.isLink 0 = xl at *
    clear hok e1 e2 hbd
    go_enter Try.func7, Try.ntmps7
    go_wp2_with fail
    refine (LK _).out.mono ?_
    rintro e w1 ⟨rfl, hb1⟩
    have B1 := B0.trans (hb1.mono B0.size)
    go_wp2_with fail
    refine (FP _).out.mono ?_
    rintro e w2 ⟨rfl, k2⟩
    have B2 := B1.trans k2.all_below
    go_wp2_with fail
    refine (law22_wakes _).mono ?_
    rintro e w3 ⟨rfl, hb3⟩
    go_wp2_with fail
    go_ret
    exact ⟨rfl, B2.trans (hb3.mono B2.size)⟩
  · have e2 : Fx.linkErr r s m b = 0 := by rw [Fx.linkErr, hok]; rfl
    obtain ⟨h1, h2, h3, h4, h5⟩ := Fx.link_back r s m b hok
    rw [e2] at LK
    rw [h1, h2, h3, h4, h5] at FP
    generalize Fx.link r s m b = lk at *
    clear hok e2 hbd h1 h2 h3 h4 h5
    go_enter Try.func7, Try.ntmps7
    go_wp2_with fail
    refine (LK _).out.mono ?_
    rintro e w1 ⟨rfl, hb1⟩
    have B1 := B0.trans (hb1.mono B0.size)
    have L1 := Lib.hid (L0.out.below hb1 L0.out.lt)
    clear hb1
    go_wp2_with fail
    refine (FP _).out.mono ?_
    rintro e w2 ⟨rfl, k2⟩
    have B2 := B1.trans k2.all_below
    have L2 := L1.out.kept k2 trivial
    have q0 := L2.cell 0
    have q1 := L2.cell 1
    have q2 := L2.cell 2
    have q3 := L2.cell 3
    simp only [List.getElem?_toArray, List.getElem?_cons_zero, List.getElem?_cons_succ] at q0 q1 q2 q3
    clear k2 L2
    go_wp2_with fail
    refine (law22_wakes _).mono ?_
    rintro e w3 ⟨rfl, hb3⟩
    go_wp2_with fail
    go_ret
    exact ⟨rfl, B2.trans (hb3.mono B2.size)⟩

set_option maxRecDepth 100000 in
set_option maxHeartbeats 2000000 in
theorem law22_links (r s m b x : Int) (w : World) (r0 : -9223372036854775808 ≤ r) (r1 : r ≤ 9223372036854775807) (s0 : -9223372036854775808 ≤ s) (s1 : s ≤ 9223372036854775807) (m0 : -9223372036854775808 ≤ m) (m1 : m ≤ 9223372036854775807) (b0 : -9223372036854775808 ≤ b) (b1 : b ≤ 9223372036854775807) (x0 : 0 ≤ x) (x1 : x < 4294967296) :
    Calls Try.prog 4 #[.agg #[.int .i64 r, .int .i64 s, .int .i64 m, .int .i64 b], .int .u32 x] w fun e w' => e = .returned (.bool true) ∧ Below w.heap.size w w' := by
  have LK := fun W => Lib.hid (fix_link r s m b W r0 r1 s0 s1 m0 m1 b0 b1)
  have RK := fun W => Lib.hid (ref22_link r s m b W r0 r1 s0 s1 m0 m1 b0 b1)
  have FP := fun W => Lib.hid (fix_parts x W x0 x1)
  have RP := fun W => Lib.hid (ref22_parts x W x0 x1)
  have B0 : Below w.heap.size w (w.alloc (.cells #[.int .i64 r, .int .i64 s, .int .i64 m, .int .i64 b] 36)) := (Below.refl _ _).alloc (Nat.le_refl _) _
  have L0 := Lib.hid (Blk.new w 36 #[.int .i64 r, .int .i64 s, .int .i64 m, .int .i64 b])
  generalize Fx.link r s m b = lk at *
  generalize Fx.linkErr r s m b = le at *
  generalize Fx.reg x = xr at *
  generalize Fx.sort x = xs at *
  generalize Fx.mod x = xm at *
  generalize Fx.back x = xb at *
  generalize Fx.isLink x = xl at *
  go_enter Try.func4, Try.ntmps4
  go_wp2_with fail
  refine (LK _).out.mono ?_
  rintro e w1 ⟨rfl, hb1⟩
  have B1 := B0.trans (hb1.mono B0.size)
  have L1 := L0.out.below hb1 L0.out.lt
  have q0 := L1.cell 0
  have q1 := L1.cell 1
  have q2 := L1.cell 2
  have q3 := L1.cell 3
  simp only [List.getElem?_toArray, List.getElem?_cons_zero, List.getElem?_cons_succ] at q0 q1 q2 q3
  clear hb1 L1
  go_wp2_with fail
  refine (RK _).out.mono ?_
  rintro e w2 ⟨rfl, hb2⟩
  have B2 := B1.trans (hb2.mono B1.size)
  clear hb2 q0 q1 q2 q3
  go_wp2_with fail
  refine (FP _).out.mono ?_
  rintro e w3 ⟨rfl, k3⟩
  have B3 := B2.trans k3.all_below
  go_wp2_with fail
  refine (RP _).out.mono ?_
  rintro e w4 ⟨rfl, hb4⟩
  have B4 := B3.trans (hb4.mono B3.size)
  clear k3 hb4
  go_wp2_with fail
  refine (law22_wakes _).mono ?_
  rintro e w5 ⟨rfl, hb5⟩
  go_wp2_with fail
  go_ret
  have B5 := B4.alloc B4.size (.cells #[.int .i64 xr, .int .i64 xs, .int .i64 xm, .int .i64 xb] 42)
  exact ⟨rfl, B5.trans (hb5.mono B5.size)⟩

set_option maxRecDepth 100000 in
set_option maxHeartbeats 2000000 in
theorem law22_chains (code : List Int) (head : Int) (v : Value) (w : World) (hv : Row .u32 w v code) (hu : U32s code) (h0 : -9223372036854775808 ≤ head) (h1 : head ≤ 9223372036854775807) :
    Calls Try.prog 5 #[v, .int .i64 head] w fun e w' => e = .returned (.bool true) ∧ Below w.heap.size w w' := by
  have hv' := Lib.hid hv
  obtain ⟨hm, A, c, rfl, -⟩ := hv
  by_cases hl : (5000 : Int) < code.length
  · go_enter Try.func5, Try.ntmps5
    go_wp2_with fail
    refine (law22_wakes _).mono ?_
    rintro e w1 ⟨rfl, hb⟩
    go_wp2_with fail
    go_ret
    exact ⟨rfl, hb⟩
  have hl : (code.length : Int) ≤ 5000 := by omega
  have hl1 : code.length ≤ 65536 := by omega
  have hl2 : code.length ≤ 1000000 := by omega
  go_enter Try.func5, Try.ntmps5
  go_wp2_with (at_builtin; refine wpList_clone w rfl (.tmp 14) (.tmp 15) 26 30 rfl .u32 4 Try.underlying26 clone_u32 (by omega) code _ rfl rfl hv'.out hl2 ?_; intro g c2 w2 ho2 B2 _ _; have ho2 := Lib.hid ho2)
  have R2 : RowKit.Hid (Row .u32 w2 (.slice (some ⟨g, 0, none⟩) code.length c2) code) := Lib.hid (row_of_own ho2.out)
  refine (fix_chain code head _ _ R2.out hu hl1 h0 h1).mono ?_
  rintro e w3 ⟨⟨v3, rfl, hown3⟩, hb3⟩
  have B3 : Below w.heap.size w w3 := B2.trans (hb3.mono B2.size)
  have R3 := Lib.hid (R2.out.below hb3)
  have S3 := Lib.hid (row_of_own hown3)
  clear hown3 hb3 R2
  go_wp2_with fail
  refine (ref22_chain code head _ _ (hv'.out.below B3) hu hl1 h0 h1).mono ?_
  rintro e w4 ⟨⟨v4, rfl, hown4⟩, hb4⟩
  have B4 : Below w.heap.size w w4 := B3.trans (hb4.mono B3.size)
  have R4 := Lib.hid (R3.out.below hb4)
  have S4 := Lib.hid (S3.out.below hb4)
  have T4 := Lib.hid (row_of_own hown4)
  clear hown4 hb4 R3 S3
  generalize Fx.cerr code head = ce at *
  generalize Fx.clist code head = cl at *
  go_wp2_with fail
  refine (keep_same _ _ _ _ _ S4.out T4.out).mono ?_
  rintro e w5 ⟨rfl, k5⟩
  rw [show decide (cl = cl) = true from decide_eq_true rfl]
  have B5 : Below w.heap.size w w5 := B4.trans k5.all_below
  go_wp2_with fail
  refine (keep_words _ _ _ _ _ (R4.out.all k5) (hv'.out.below B5)).mono ?_
  rintro e w6 ⟨rfl, k6⟩
  rw [show decide (code = code) = true from decide_eq_true rfl]
  have B6 : Below w.heap.size w w6 := B5.trans k6.all_below
  go_wp2_with fail
  refine (law22_wakes _).mono ?_
  rintro e w7 ⟨rfl, hb7⟩
  go_wp2_with fail
  go_ret
  exact ⟨rfl, B6.trans (hb7.mono B6.size)⟩

end Go.Proofs.Ytlihcdhcljljoaa
