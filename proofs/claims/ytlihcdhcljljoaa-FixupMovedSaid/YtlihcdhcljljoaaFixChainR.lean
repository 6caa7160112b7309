/-
  The document's Chain, walked.
-/
import Derived.Test.YtlihcdhcljljoaaFixChain
namespace Go.Proofs.Ytlihcdhcljljoaa
set_option linter.unusedVariables false
set_option linter.unusedSimpArgs false
open Go.RowKit Bw

theorem part_cell (w1 : World) (a b c d : Int) (t : TypeId) (o : Obj) (w2 : World) {row : Option Nat} (hg : ((w1.alloc (.cells #[.int .i64 a, .int .i64 b, .int .i64 c, .int .i64 d] t)).alloc o).grownBy w2 row) (hne : some w1.heap.size ≠ row) :
    w2.cell? ⟨w1.heap.size, 3, none⟩ = some (.int .i64 d) := by
  have h1 := (Blk.new w1 t #[.int .i64 a, .int .i64 b, .int .i64 c, .int .i64 d]).alloc o
  have h2 := (h1.grown hg hne).cell 3
  simpa using h2

set_option maxRecDepth 100000 in
set_option maxHeartbeats 2000000 in
theorem ref22_chain (code : List Int) (head : Int) (cv : Value) (w : World) (hr : Row .u32 w cv code) (hu : U32s code) (hs : code.length ≤ 65536) (h0 : -9223372036854775808 ≤ head) (h1 : head ≤ 9223372036854775807) :
    Calls Try.prog 21 #[cv, .int .i64 head] w fun e w' => ChainEnd w.heap.size code head e w' ∧ Below w.heap.size w w' := by
  have hr' := Lib.hid hr
  obtain ⟨hm, A, c, rfl, hc⟩ := hr
  clear hc
  have hu := Lib.hid hu
  obtain ⟨i0, hi0, hz0, hz1, hz2⟩ := info_parts int_info_
  by_cases hh : head = -1
  · subst hh
    go_enter Try.func21, Try.ntmps21
    go_wp2_with fail
    go_ret2
    exact ⟨chainEnd_some (l := []) (by rw [Fx.chain, if_pos rfl]) (World.ownsRow_nil _ _ _ _), Below.refl _ _⟩
  have hh' : (head == -1) = false := by rw [beq_eq_false_iff_ne]; exact hh
  go_enter Try.func21, Try.ntmps21
  go_wp2_with fail
  go_loopw [6, 7] (fun o i wr => ∃ (p : Int) (n : Nat) (acc : List Int), i = .int .i64 p ∧ -9223372036854775808 ≤ p ∧ p ≤ 9223372036854775807 ∧ p < (n : Int) ∧ RowKit.Hid (Fx.Good code acc) ∧ RowKit.Hid (wr.ownsRow w.heap.size 3 1 o acc.length (acc.map (Value.int .i64))) ∧ Below w.heap.size w wr ∧ RowKit.Hid (Fx.chain code head = Fx.go code n acc p)) (fun _ i _ => (intOf i + 16385).toNat)
  case atStart =>
    refine ⟨head, head.toNat + 1, [], rfl, h0, h1, by omega, Lib.hid (Fx.good_nil code), Lib.hid (World.ownsRow_nil _ _ _ _), Below.refl _ _, Lib.hid (by rw [Fx.chain, if_neg hh])⟩
  case round =>
    clear hh hh'
    obtain ⟨p, n, acc, rfl, p0, p1, hn, hg, hown, hb, hgo⟩ := hrel
    have hlen := hg.out.len
    obtain ⟨hma, A1, c1, rfl, ha⟩ := row_of_own hown.out
    have ha := Lib.hid ha
    by_cases hbad : p < 0 ∨ (code.length : Int) - 1 ≤ p ∨ (0 < acc.length ∧ acc.getD (acc.length - 1) 0 - 2 < p)
    · have hres := Lib.hid (hgo.out.trans (Fx.go_none code n acc p hbad))
      have hbd : (p < 0) ∨ (0 ≤ p ∧ (code.length : Int) - 1 ≤ p) ∨ (0 ≤ p ∧ p < (code.length : Int) - 1 ∧ ∃ m : Nat, acc.length = m + 1 ∧ acc.getD m 0 - 2 < p) := by
        by_cases q0 : p < 0
        · omega
        by_cases q1 : (code.length : Int) - 1 ≤ p
        · omega
        have q2 : 0 < acc.length ∧ acc.getD (acc.length - 1) 0 - 2 < p := by omega
        exact Or.inr (Or.inr ⟨by omega, by omega, acc.length - 1, by omega, q2.2⟩)
      clear hbad hgo
      rcases hbd with h | ⟨h, h2⟩ | ⟨h, h2, m, hm, h3⟩
      · go_wp2_with fail
        go_ret2
        exact ⟨chainEnd_none _ hres.out, hb⟩
      · go_wp2_with fail
        go_ret2
        exact ⟨chainEnd_none _ hres.out, hb⟩
      · obtain ⟨ad, rfl, -, hcell⟩ := ha.out m (by omega)
        have h4 := (hg.out m (by omega)).1
        have h5 := (hg.out m (by omega)).2.1
        have hm' : (acc.length : Int) = (m : Int) + 1 := by omega
        rw [hm] at *
        generalize acc.getD m 0 = z at *
        go_wp2_with fail
        go_ret2
        exact ⟨chainEnd_none _ hres.out, hb⟩
    · obtain ⟨q0, q1, q2⟩ := fc_or hbad
      obtain ⟨k, rfl⟩ : ∃ k : Nat, p = k := ⟨p.toNat, by omega⟩
      have k1 : (k : Int) < (code.length : Int) - 1 := by omega
      obtain ⟨-, A2, c2, e2, hc2⟩ := hr'.out.below hb
      injection e2 with e2 _ e3
      subst e2 e3
      obtain ⟨ad, rfl, had, hcell⟩ := hc2 k (by omega)
      clear hc2
      have hx := hu.out k (by omega)
      have hg1 := fun h1 => Lib.hid (Fx.good_snoc hg.out hbad h1)
      have hno := fun h1 => Lib.hid (hgo.out.trans (Fx.go_no code n acc k h1))
      have hend := fun h1 h2 => Lib.hid (hgo.out.trans (Fx.go_end code n acc k hn hbad h1 h2))
      have hon := fun h1 h2 => Lib.hid (Fx.go_on code n acc k hn hbad h1 h2)
      simp only [Int.toNat_natCast] at hg1 hno hend hon
      have FP := fun W => Lib.hid (ref22_parts (code.getD k 0) W hx.1 hx.2)
      have hbk := Fx.back_bd (code.getD k 0)
      generalize code.getD k 0 = x at *
      have hgo := Lib.hid hgo.out
      have hm1 : acc.length + 1 ≤ 9223372036854775807 := by omega
      have hacc : (acc.length : Int) = 0 ∨ ∃ (m : Nat) (a1 : Addr) (z : Int), A1 = some a1 ∧ (acc.length : Int) = (m : Int) + 1 ∧ (k : Int) ≤ z - 2 ∧ z + 2 ≤ code.length ∧ wr.cell? (a1.add m) = some (.int .i64 z) := by
        by_cases h : acc.length = 0
        · exact Or.inl (by omega)
        · obtain ⟨a1, e4, -, h5⟩ := ha.out (acc.length - 1) (by omega)
          have h6 := (hg.out (acc.length - 1) (by omega)).2.1
          exact Or.inr ⟨acc.length - 1, a1, _, e4, by omega, by omega, by omega, h5⟩
      clear q2 hbad hma ha
      generalize Fx.reg x = xr at *
      generalize Fx.sort x = xs at *
      generalize Fx.mod x = xm at *
      generalize Fx.back x = xb at *
      rcases hacc with hz | ⟨m, a1, z, rfl, hz, h3, h4, h5⟩
      · go_wp2_with fail
        refine (FP _).out.mono ?_
        rintro e w1 ⟨rfl, kp⟩
        have hown1 := Lib.hid (fc_own_below hown.out kp)
        have B1 : Below w.heap.size w w1 := hb.trans (kp.mono hb.size)
        cases hl : Fx.isLink x
        · go_wp2_with fail
          go_ret2
          exact ⟨chainEnd_none _ (hno hl).out, by first | exact B1 | exact B1.alloc B1.size _⟩
        · have hl := Lib.hid hl
          have hB0 := B1.size
          have B1' : Below w.heap.size w ((w1.alloc (.cells #[.int .i64 xr, .int .i64 xs, .int .i64 xm, .int .i64 xb] 42)).alloc (.cells #[.int .i64 k] 3)) := (B1.alloc B1.size _).alloc (by simp; omega) _
          have N1 : ∀ (j : Nat) (u : Value), [Value.int .i64 k][j]? = some u → ((w1.alloc (.cells #[.int .i64 xr, .int .i64 xs, .int .i64 xm, .int .i64 xb] 42)).alloc (.cells #[.int .i64 k] 3)).cell? ((⟨w1.heap.size + 1, 0, none⟩ : Addr).add j) = some u := by
            have := fc_news1 (w1.alloc (.cells #[.int .i64 xr, .int .i64 xs, .int .i64 xm, .int .i64 xb] 42)) 3 (.int .i64 k)
            rwa [World.size_alloc] at this
          have hP := part_cell w1 xr xs xm xb 42 (.cells #[.int .i64 k] 3)
          by_cases hbz : xb = 0
          · have hr1 := hend hl.out hbz
            have hbz' : (xb == 0) = true := by rw [hbz]; rfl
            clear hbz hno hend hon hg1 FP
            go_wp2_with (at_builtin; refine wpList_append_own _ rfl (.tmp 48) (.tmp 50) 22 rfl w.heap.size 3 i0 _ 1 8 Try.underlying22 hi0 hz0 hz1 hz2 rfl (by omega) _ acc.length _ rfl (((hown1.out.alloc _)).alloc _) ⟨w1.heap.size + 1, 0, none⟩ 1 1 [.int .i64 k] rfl rfl N1 (by simp [Value.oneCell']) (by simp only [maxLen]; omega) (by omega) (by simp; omega) ?_; intro v2 w2 hown2 hg2 _; have B2 := B1'.grown hg2 (by simp; omega) (fun q hq => (hown1.out.lt q hq).1); have M2 : w2.cell? ⟨w1.heap.size, 3, none⟩ = some (.int .i64 xb) := (hP _ hg2 (fun e => by have := (hown1.out.lt _ e.symm).2; omega)); have F2 : w1.heap.size < w2.heap.size := Nat.lt_of_lt_of_le (by simp; omega) hg2.size; clear hg2)
            have hown2 : RowKit.Hid (w2.ownsRow w.heap.size 3 1 v2 (acc ++ [(k : Int)]).length ((acc ++ [(k : Int)]).map (Value.int .i64))) := Lib.hid (by rw [List.map_append, List.length_append]; exact hown2)
            go_wp2_with fail
            go_ret2
            exact ⟨chainEnd_some hr1.out hown2.out, B2⟩
          · obtain ⟨n', hn', hgo'⟩ := (hon hl.out hbz).out
            have hgood := hg1 hl.out
            have hgo' := Lib.hid (hgo.out.trans hgo')
            have hbz' : (xb == 0) = false := by rw [beq_eq_false_iff_ne]; exact hbz
            clear hno hend hon hg1 FP
            go_wp2_with (at_builtin; refine wpList_append_own _ rfl (.tmp 48) (.tmp 50) 22 rfl w.heap.size 3 i0 _ 1 8 Try.underlying22 hi0 hz0 hz1 hz2 rfl (by omega) _ acc.length _ rfl (((hown1.out.alloc _)).alloc _) ⟨w1.heap.size + 1, 0, none⟩ 1 1 [.int .i64 k] rfl rfl N1 (by simp [Value.oneCell']) (by simp only [maxLen]; omega) (by omega) (by simp; omega) ?_; intro v2 w2 hown2 hg2 _; have B2 := B1'.grown hg2 (by simp; omega) (fun q hq => (hown1.out.lt q hq).1); have M2 : w2.cell? ⟨w1.heap.size, 3, none⟩ = some (.int .i64 xb) := (hP _ hg2 (fun e => by have := (hown1.out.lt _ e.symm).2; omega)); have F2 : w1.heap.size < w2.heap.size := Nat.lt_of_lt_of_le (by simp; omega) hg2.size; clear hg2)
            have hown2 : RowKit.Hid (w2.ownsRow w.heap.size 3 1 v2 (acc ++ [(k : Int)]).length ((acc ++ [(k : Int)]).map (Value.int .i64))) := Lib.hid (by rw [List.map_append, List.length_append]; exact hown2)
            have hlen2 : (acc ++ [(k : Int)]).length = acc.length + 1 := by simp
            refine ⟨⟨k - xb, n', acc ++ [(k : Int)], by go_num, by omega, by omega, by omega, hgood, hown2, B2, Lib.hid hgo'.out⟩, ?_⟩
            simp only [intOf]
            omega
      · go_wp2_with fail
        refine (FP _).out.mono ?_
        rintro e w1 ⟨rfl, kp⟩
        have hown1 := Lib.hid (fc_own_below hown.out kp)
        have B1 : Below w.heap.size w w1 := hb.trans (kp.mono hb.size)
        cases hl : Fx.isLink x
        · go_wp2_with fail
          go_ret2
          exact ⟨chainEnd_none _ (hno hl).out, by first | exact B1 | exact B1.alloc B1.size _⟩
        · have hl := Lib.hid hl
          have hB0 := B1.size
          have B1' : Below w.heap.size w ((w1.alloc (.cells #[.int .i64 xr, .int .i64 xs, .int .i64 xm, .int .i64 xb] 42)).alloc (.cells #[.int .i64 k] 3)) := (B1.alloc B1.size _).alloc (by simp; omega) _
          have N1 : ∀ (j : Nat) (u : Value), [Value.int .i64 k][j]? = some u → ((w1.alloc (.cells #[.int .i64 xr, .int .i64 xs, .int .i64 xm, .int .i64 xb] 42)).alloc (.cells #[.int .i64 k] 3)).cell? ((⟨w1.heap.size + 1, 0, none⟩ : Addr).add j) = some u := by
            have := fc_news1 (w1.alloc (.cells #[.int .i64 xr, .int .i64 xs, .int .i64 xm, .int .i64 xb] 42)) 3 (.int .i64 k)
            rwa [World.size_alloc] at this
          have hP := part_cell w1 xr xs xm xb 42 (.cells #[.int .i64 k] 3)
          by_cases hbz : xb = 0
          · have hr1 := hend hl.out hbz
            have hbz' : (xb == 0) = true := by rw [hbz]; rfl
            clear hbz hno hend hon hg1 FP
            go_wp2_with (at_builtin; refine wpList_append_own _ rfl (.tmp 48) (.tmp 50) 22 rfl w.heap.size 3 i0 _ 1 8 Try.underlying22 hi0 hz0 hz1 hz2 rfl (by omega) _ acc.length _ rfl (((hown1.out.alloc _)).alloc _) ⟨w1.heap.size + 1, 0, none⟩ 1 1 [.int .i64 k] rfl rfl N1 (by simp [Value.oneCell']) (by simp only [maxLen]; omega) (by omega) (by simp; omega) ?_; intro v2 w2 hown2 hg2 _; have B2 := B1'.grown hg2 (by simp; omega) (fun q hq => (hown1.out.lt q hq).1); have M2 : w2.cell? ⟨w1.heap.size, 3, none⟩ = some (.int .i64 xb) := (hP _ hg2 (fun e => by have := (hown1.out.lt _ e.symm).2; omega)); have F2 : w1.heap.size < w2.heap.size := Nat.lt_of_lt_of_le (by simp; omega) hg2.size; clear hg2)
            have hown2 : RowKit.Hid (w2.ownsRow w.heap.size 3 1 v2 (acc ++ [(k : Int)]).length ((acc ++ [(k : Int)]).map (Value.int .i64))) := Lib.hid (by rw [List.map_append, List.length_append]; exact hown2)
            go_wp2_with fail
            go_ret2
            exact ⟨chainEnd_some hr1.out hown2.out, B2⟩
          · obtain ⟨n', hn', hgo'⟩ := (hon hl.out hbz).out
            have hgood := hg1 hl.out
            have hgo' := Lib.hid (hgo.out.trans hgo')
            have hbz' : (xb == 0) = false := by rw [beq_eq_false_iff_ne]; exact hbz
            clear hno hend hon hg1 FP
            go_wp2_with (at_builtin; refine wpList_append_own _ rfl (.tmp 48) (.tmp 50) 22 rfl w.heap.size 3 i0 _ 1 8 Try.underlying22 hi0 hz0 hz1 hz2 rfl (by omega) _ acc.length _ rfl (((hown1.out.alloc _)).alloc _) ⟨w1.heap.size + 1, 0, none⟩ 1 1 [.int .i64 k] rfl rfl N1 (by simp [Value.oneCell']) (by simp only [maxLen]; omega) (by omega) (by simp; omega) ?_; intro v2 w2 hown2 hg2 _; have B2 := B1'.grown hg2 (by simp; omega) (fun q hq => (hown1.out.lt q hq).1); have M2 : w2.cell? ⟨w1.heap.size, 3, none⟩ = some (.int .i64 xb) := (hP _ hg2 (fun e => by have := (hown1.out.lt _ e.symm).2; omega)); have F2 : w1.heap.size < w2.heap.size := Nat.lt_of_lt_of_le (by simp; omega) hg2.size; clear hg2)
            have hown2 : RowKit.Hid (w2.ownsRow w.heap.size 3 1 v2 (acc ++ [(k : Int)]).length ((acc ++ [(k : Int)]).map (Value.int .i64))) := Lib.hid (by rw [List.map_append, List.length_append]; exact hown2)
            have hlen2 : (acc ++ [(k : Int)]).length = acc.length + 1 := by simp
            refine ⟨⟨k - xb, n', acc ++ [(k : Int)], by go_num, by omega, by omega, by omega, hgood, hown2, B2, Lib.hid hgo'.out⟩, ?_⟩
            simp only [intOf]
            omega

end Go.Proofs.Ytlihcdhcljljoaa
