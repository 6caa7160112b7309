/-
  The statement CpuRuns: its walk, out of the contracts. (Printed by gen_cpuruns.py.)
-/
import Derived.Test.YtefgajojimkdiaaZTwo
import Derived.Test.YtefgajojimkdiaaZRunKit
namespace Go.Proofs.Ytefgajojimkdiaa
set_option linter.unusedVariables false
set_option linter.unusedSimpArgs false
open Go.RowKit Bw

section
open Go.Joins Go.ChangeShapes Go.WideShapes Go.Deep
variable {H : Type} {enc : TypeId × Value → H} {w : World} {base : Nat} {spare : Nat → Bool} {held : Bool}
set_option maxRecDepth 100000 in
theorem open_play {r : Reach} {b0 : Nat} {v : Value} {d : DataW H} {p : List MemPlace} (hv : Value.okWide Try.prog w r b0 53 v) (h : DataW.Trod enc Try.prog w base spare held 53 v d p) :
    ∃ st s vF z, v = .agg #[.int .i64 st, .string s, vF] ∧ (-9223372036854775808 ≤ st ∧ st ≤ 9223372036854775807) ∧ s.size ≤ maxLen ∧ Row .i64 w vF z := by
  obtain ⟨l, m, rfl, hl, hg⟩ := open_struct Try.underlying53 (show Try.prog.cellsOf 53 = 3 by kernel_rfl) hv h
  obtain ⟨c0, c1, c2, rfl⟩ := list3 hl
  obtain ⟨x0, h0⟩ := hg 0 _ rfl
  obtain ⟨x1, h1⟩ := hg 1 _ rfl
  obtain ⟨x2, h2⟩ := hg 2 _ rfl
  have h0 : DataW.trod enc Try.prog w base spare held m 3 [c0] = some x0 := h0
  have h1 : DataW.trod enc Try.prog w base spare held m 9 [c1] = some x1 := h1
  have h2 : DataW.trod enc Try.prog w base spare held m 51 [c2] = some x2 := h2
  obtain ⟨z, hz, hw⟩ := row_of_cells Try.underlying51 Try.underlying3 (by kernel_rfl) h2
  obtain ⟨st, e1, -, hst⟩ := DataW.trod_int Try.underlying3 h0
  obtain ⟨s, e2, -, hs⟩ := DataW.trod_string Try.underlying9 h1
  simp at e1 e2
  subst e1 e2
  exact ⟨st, s, c2, z, rfl, bounds_i64 hst, hs, hz⟩
end

set_option maxRecDepth 100000 in
set_option maxHeartbeats 8000000 in
theorem law05_runs (l fs : List Int) (st : Int) (s : ByteArray) (v vF : Value) (w : World) (h : Row .u32 w v l) (hu : ∀ x ∈ l, Mc.W32 x) (hs : s.size ≤ 9223372036854775807) (hFu : Row .i64 w vF fs) :
    Calls Try.prog 8 #[v, .agg #[.int .i64 st, .string s, vF]] w fun e w' => e = .returned (.bool true) ∧ Below w.heap.size w w' := by
  obtain ⟨hfm, A, cf, rfl, hcf⟩ := hFu
  have h' := Lib.hid h
  have hcf := Lib.hid hcf
  have LG := fun W hW => Lib.hid (law05_large l v W hW)
  have B0 : RowKit.Hid (Below w.heap.size w (w.alloc (.cells #[.int .i64 st, .string s, .slice A fs.length cf] 53)).drew) := Lib.hid (((Below.refl _ _).alloc (Nat.le_refl _) _).drew)
  have KW := fun v u W hv hu => Lib.hid (keep_words v u l l W hv hu)
  rw [decide_eq_true rfl] at KW
  have hu := Lib.hid hu
  clear h
  by_cases hL : decide (3000 < l.length ∧ l.length ≤ 65536 ∨ 70000 < l.length) = true
  · rw [hL] at LG
    go_enter Try.func8, Try.ntmps8
    go_wp2_with fail
    (refine region_drew 8 (by kernel_rfl) (by kernel_rfl) ?_; simp only [List.take_succ_cons, List.take_zero, List.drop_succ_cons, List.drop_zero]; (repeat still_step))
    refine wpStill_nil ?_
    go_wp2_with (first | (go_at_call 17; refine (LG _ (h'.out.below B0.out)).out.mono ?_; rintro e w1 ⟨rfl, rfl⟩) | (go_at_call 15; refine (law05_wakes _).mono ?_; rintro e w9 ⟨rfl, hb9⟩))
    go_ret
    exact ⟨rfl, B0.out.trans (hb9.mono B0.out.size)⟩
  have hL := Bool.eq_false_iff.2 hL
  rw [hL] at LG
  have hl2 : l.length ≤ 1000000 := by
    have := of_decide_eq_false hL
    omega
  have hl2 := Lib.hid hl2
  clear hL
  by_cases hs5 : (5000 : Int) < s.size
  · go_enter Try.func8, Try.ntmps8
    go_wp2_with fail
    (refine region_drew 8 (by kernel_rfl) (by kernel_rfl) ?_; simp only [List.take_succ_cons, List.take_zero, List.drop_succ_cons, List.drop_zero]; (repeat still_step))
    refine wpStill_nil ?_
    go_wp2_with (first | (go_at_call 17; refine (LG _ (h'.out.below B0.out)).out.mono ?_; rintro e w1 ⟨rfl, rfl⟩) | (go_at_call 15; refine (law05_wakes _).mono ?_; rintro e w9 ⟨rfl, hb9⟩))
    go_ret
    exact ⟨rfl, B0.out.trans (hb9.mono B0.out.size)⟩
  have hl2' := hl2
  by_cases hns : Mc.noStart l st s = 0
  · have hcs := cpu_start_any l st s hns
    have CN := fun v W hW => Lib.hid (cpu_new l st s v W hW hu.out hcs.1 hcs.2.1 hcs.2.2.1 hcs.2.2.2)
    have QN := fun v W hW => Lib.hid (q_new l st s v W hW hu.out hcs.1 hcs.2.1 hcs.2.2.1 hcs.2.2.2)
    simp only [MadeCpu, MadeQ] at CN QN
    clear hcs hns
    generalize Mc.start l st s = X0 at *
    go_enter Try.func8, Try.ntmps8
    go_wp2_with fail
    (refine region_drew 8 (by kernel_rfl) (by kernel_rfl) ?_; simp only [List.take_succ_cons, List.take_zero, List.drop_succ_cons, List.drop_zero]; (repeat still_step))
    refine wpStill_nil ?_
    go_wp2_with (first | (go_at_call 17; refine (LG _ (h'.out.below B0.out)).out.mono ?_; rintro e w1 ⟨rfl, rfl⟩) | (at_builtin; refine wpList_clone_at (w.alloc (.cells #[.int .i64 st, .string s, .slice A fs.length cf] 53)).drew rfl (.tmp 33) (.tmp 34) 32 43 rfl .u32 4 Try.underlying32 clone_u32 (by omega) l _ _ (by simp) rfl rfl (h'.out.below B0.out) hl2.out ?_; intro g1 c1 w2 ho2 hb2 hg2 hg2b))
    have B2 := Lib.hid (B0.out.trans (hb2.mono B0.out.size))
    have R2 := Lib.hid (h'.out.below B2.out)
    have N2 := row_of_own ho2
    clear ho2 hb2 hg2 hg2b
    refine (CN _ _ N2).out.mono ?_
    rintro e w3 ⟨p, mp, ap, rfl, hp, hmp, hap, hM, hb3⟩
    have B3 := Lib.hid (B2.out.trans (hb3.mono B2.out.size))
    have R3 := Lib.hid (R2.out.below hb3)
    have N3 := Lib.hid (N2.below hb3)
    have hP := Lib.hid (And.intro (Nat.le_trans B2.out.size hp) (Nat.le_trans B2.out.size hap))
    have hM := Lib.hid hM
    clear hp hmp hap hb3 B2 R2 N2
    go_wp2_with fail
    refine (QN _ _ R3.out).out.mono ?_
    rintro e w4 ⟨q, mq, aq, c, rfl, hq, hmq, haq, hQ, hb4⟩
    have B4 := Lib.hid (B3.out.trans (hb4.mono B3.out.size))
    have R4 := Lib.hid (R3.out.below hb4)
    have N4 := Lib.hid (N3.out.below hb4)
    have hne : ap ≠ aq := fun e => by have := hM.out.mem.2.lt; omega
    have T4 : RowKit.Hid (Two w.heap.size w4 p mp ap (.slice none 0 0) X0 q mq aq c (.slice none 0 0) 0 X0) := Lib.hid ⟨hM.out.below hb4, hQ, hne, (fun b hb => by cases hb), B4.out.size, hP.out.1, hP.out.2, own_nil _, Nat.le_trans B3.out.size hq, Nat.le_trans B3.out.size haq, own_nil _⟩
    clear hq hmq haq hQ hb4 B3 R3 N3 hM hP hne
    go_wp2_with (go_at_call 25; refine (KW _ _ _ N4.out R4.out).out.mono ?_; rintro e w5 ⟨rfl, hb5⟩)
    have B5 := Lib.hid (B4.out.trans (hb5.to_below (B := w.heap.size) (fun _ _ => trivial)))
    have T5 := Lib.hid (T4.out.below (hb5.to_below (fun _ _ => trivial)))
    clear B4 R4 N4 T4 hb5 CN QN
    go_loopw [13] (fun x wr => ∃ i : Nat, x = .int .i64 i ∧ i ≤ fs.length ∧ ∃ X ov oq st', Two w.heap.size wr p mp ap ov X q mq aq c oq st' X ∧ Below w.heap.size w wr) (fun x _ => fs.length - (intOf x).toNat)
    case atStart => exact ⟨0, rfl, by omega, X0, _, _, _, T5.out, B5.out⟩
    case round =>
      obtain ⟨i, rfl, hi, hrel⟩ := hrel
      obtain ⟨X, ov, oq, st2, hT, hb⟩ := hrel
      have hb := Lib.hid hb
      have hT := Lib.hid hT
      by_cases hlt : (i : Int) < fs.length
      · by_cases hi5 : (i : Int) < 5
        · obtain ⟨ad, rfl, hadl, x1⟩ := hcf.out i (by omega)
          have cx : wr.cell? (ad.add i) = some (.int .i64 (fs.getD i 0)) := (hb.out.cell (p := ad.add i) (by rw [block_add]; exact hadl)).trans x1
          clear x1 hadl
          generalize fs.getD i 0 = n at *
          have hn : (20000 < n ∧ n ≤ 4194304) ∨ ¬ 20000 < n ∨ (20000 < n ∧ ¬ n ≤ 4194304) := by omega
          rcases hn with ⟨hn1, hn2⟩ | hn1 | ⟨hn1, hn2⟩
          · obtain ⟨a0, a1, t, a3, a4, er, X', RA, RB⟩ := two_runs 20000 X
            have R1 := fun W hW => Lib.hid (RA w.heap.size W p mp ap ov q mq aq c oq st2 X hW)
            have R2 := fun ov W hW => Lib.hid (RB w.heap.size W p mp ap ov q mq aq c oq st2 X' hW)
            clear RA RB
            go_wp2_with fail
            refine (R1 _ hT.out).out.mono ?_
            rintro e w5 ⟨rfl, ov5, hT5, hb5⟩
            have BO := Blk.new w5 28 #[.int .i64 a0, .int .i64 a1, .string t, .int .i64 a3, .int .i64 a4]
            have A5 : Below w5.heap.size w5 (w5.alloc (.cells #[.int .i64 a0, .int .i64 a1, .string t, .int .i64 a3, .int .i64 a4] 28)) := (Below.refl _ _).alloc (Nat.le_refl _) _
            have T5 := Lib.hid (hT5.below A5)
            have B5 := Lib.hid ((hb.out.trans hb5).trans (A5.mono hT5.n))
            clear hb5 A5 hT5
            have BO := Lib.hid BO
            go_wp2_with fail
            generalize hW5 : w5.alloc (.cells #[.int .i64 a0, .int .i64 a1, .string t, .int .i64 a3, .int .i64 a4] 28) = W5 at *
            clear hW5
            have zO := BO.out.lt
            generalize w5.heap.size = go at *
            refine (R2 _ _ T5.out).out.mono ?_
            rintro e w6 ⟨rfl, oq6, st6, hT6, hb6, hk6⟩
            have O6 := hk6 _ _ BO.out
            have o0 := O6.cell 0
            have o1 := O6.cell 1
            have o2 := O6.cell 2
            have o3 := O6.cell 3
            have o4 := O6.cell 4
            simp only [List.getElem?_toArray, List.getElem?_cons_zero, List.getElem?_cons_succ] at o0 o1 o2 o3 o4
            have zo := O6.lt
            clear O6 BO zO
            have A6 : Below w6.heap.size w6 (w6.alloc (.cells #[.int .i64 a0, .int .i64 a1, .string t, .int .i64 a3, .int .i64 a4] 28)) := (Below.refl _ _).alloc (Nat.le_refl _) _
            have A6 := Lib.hid A6
            have B6 := Lib.hid (B5.out.trans hb6)
            have hT6 := Lib.hid hT6
            clear hb6 B5 hk6
            go_wp2_with (go_at_call 27; refine (ref05_same _ _ _ _ _ _).mono ?_; rintro e w7 ⟨rfl, hb7⟩)
            have A7 := A6.out.trans (hb7.mono A6.out.size)
            refine ⟨⟨i + 1, by go_num, by omega, ?_⟩, by simp [intOf]; omega⟩
            exact ⟨X', ov5, oq6, st6, hT6.out.below A7, B6.out.trans (A7.mono B6.out.size)⟩
          · obtain ⟨a0, a1, t, a3, a4, er, X', RA, RB⟩ := two_runs n X
            have R1 := fun W hW => Lib.hid (RA w.heap.size W p mp ap ov q mq aq c oq st2 X hW)
            have R2 := fun ov W hW => Lib.hid (RB w.heap.size W p mp ap ov q mq aq c oq st2 X' hW)
            clear RA RB
            go_wp2_with fail
            refine (R1 _ hT.out).out.mono ?_
            rintro e w5 ⟨rfl, ov5, hT5, hb5⟩
            have BO := Blk.new w5 28 #[.int .i64 a0, .int .i64 a1, .string t, .int .i64 a3, .int .i64 a4]
            have A5 : Below w5.heap.size w5 (w5.alloc (.cells #[.int .i64 a0, .int .i64 a1, .string t, .int .i64 a3, .int .i64 a4] 28)) := (Below.refl _ _).alloc (Nat.le_refl _) _
            have T5 := Lib.hid (hT5.below A5)
            have B5 := Lib.hid ((hb.out.trans hb5).trans (A5.mono hT5.n))
            clear hb5 A5 hT5
            have BO := Lib.hid BO
            go_wp2_with fail
            generalize hW5 : w5.alloc (.cells #[.int .i64 a0, .int .i64 a1, .string t, .int .i64 a3, .int .i64 a4] 28) = W5 at *
            clear hW5
            have zO := BO.out.lt
            generalize w5.heap.size = go at *
            refine (R2 _ _ T5.out).out.mono ?_
            rintro e w6 ⟨rfl, oq6, st6, hT6, hb6, hk6⟩
            have O6 := hk6 _ _ BO.out
            have o0 := O6.cell 0
            have o1 := O6.cell 1
            have o2 := O6.cell 2
            have o3 := O6.cell 3
            have o4 := O6.cell 4
            simp only [List.getElem?_toArray, List.getElem?_cons_zero, List.getElem?_cons_succ] at o0 o1 o2 o3 o4
            have zo := O6.lt
            clear O6 BO zO
            have A6 : Below w6.heap.size w6 (w6.alloc (.cells #[.int .i64 a0, .int .i64 a1, .string t, .int .i64 a3, .int .i64 a4] 28)) := (Below.refl _ _).alloc (Nat.le_refl _) _
            have A6 := Lib.hid A6
            have B6 := Lib.hid (B5.out.trans hb6)
            have hT6 := Lib.hid hT6
            clear hb6 B5 hk6
            go_wp2_with (go_at_call 27; refine (ref05_same _ _ _ _ _ _).mono ?_; rintro e w7 ⟨rfl, hb7⟩)
            have A7 := A6.out.trans (hb7.mono A6.out.size)
            refine ⟨⟨i + 1, by go_num, by omega, ?_⟩, by simp [intOf]; omega⟩
            exact ⟨X', ov5, oq6, st6, hT6.out.below A7, B6.out.trans (A7.mono B6.out.size)⟩
          · obtain ⟨a0, a1, t, a3, a4, er, X', RA, RB⟩ := two_runs n X
            have R1 := fun W hW => Lib.hid (RA w.heap.size W p mp ap ov q mq aq c oq st2 X hW)
            have R2 := fun ov W hW => Lib.hid (RB w.heap.size W p mp ap ov q mq aq c oq st2 X' hW)
            clear RA RB
            go_wp2_with fail
            refine (R1 _ hT.out).out.mono ?_
            rintro e w5 ⟨rfl, ov5, hT5, hb5⟩
            have BO := Blk.new w5 28 #[.int .i64 a0, .int .i64 a1, .string t, .int .i64 a3, .int .i64 a4]
            have A5 : Below w5.heap.size w5 (w5.alloc (.cells #[.int .i64 a0, .int .i64 a1, .string t, .int .i64 a3, .int .i64 a4] 28)) := (Below.refl _ _).alloc (Nat.le_refl _) _
            have T5 := Lib.hid (hT5.below A5)
            have B5 := Lib.hid ((hb.out.trans hb5).trans (A5.mono hT5.n))
            clear hb5 A5 hT5
            have BO := Lib.hid BO
            go_wp2_with fail
            generalize hW5 : w5.alloc (.cells #[.int .i64 a0, .int .i64 a1, .string t, .int .i64 a3, .int .i64 a4] 28) = W5 at *
            clear hW5
            have zO := BO.out.lt
            generalize w5.heap.size = go at *
            refine (R2 _ _ T5.out).out.mono ?_
            rintro e w6 ⟨rfl, oq6, st6, hT6, hb6, hk6⟩
            have O6 := hk6 _ _ BO.out
            have o0 := O6.cell 0
            have o1 := O6.cell 1
            have o2 := O6.cell 2
            have o3 := O6.cell 3
            have o4 := O6.cell 4
            simp only [List.getElem?_toArray, List.getElem?_cons_zero, List.getElem?_cons_succ] at o0 o1 o2 o3 o4
            have zo := O6.lt
            clear O6 BO zO
            have A6 : Below w6.heap.size w6 (w6.alloc (.cells #[.int .i64 a0, .int .i64 a1, .string t, .int .i64 a3, .int .i64 a4] 28)) := (Below.refl _ _).alloc (Nat.le_refl _) _
            have A6 := Lib.hid A6
            have B6 := Lib.hid (B5.out.trans hb6)
            have hT6 := Lib.hid hT6
            clear hb6 B5 hk6
            go_wp2_with (go_at_call 27; refine (ref05_same _ _ _ _ _ _).mono ?_; rintro e w7 ⟨rfl, hb7⟩)
            have A7 := A6.out.trans (hb7.mono A6.out.size)
            refine ⟨⟨i + 1, by go_num, by omega, ?_⟩, by simp [intOf]; omega⟩
            exact ⟨X', ov5, oq6, st6, hT6.out.below A7, B6.out.trans (A7.mono B6.out.size)⟩
        · go_wp2_with (first | (go_at_call 28; refine (law05_same X p mp ap ov q mq aq c oq st2 _ hT.out.m hT.out.k).mono ?_; rintro e w8 ⟨rfl, hb8⟩) | (go_at_call 15; refine (law05_wakes _).mono ?_; rintro e w9 ⟨rfl, hb9⟩))
          go_ret
          have B8 := hb.out.trans (hb8.mono hb.out.size)
          exact ⟨rfl, B8.trans (hb9.mono B8.size)⟩
      · go_wp2_with (first | (go_at_call 28; refine (law05_same X p mp ap ov q mq aq c oq st2 _ hT.out.m hT.out.k).mono ?_; rintro e w8 ⟨rfl, hb8⟩) | (go_at_call 15; refine (law05_wakes _).mono ?_; rintro e w9 ⟨rfl, hb9⟩))
        go_ret
        have B8 := hb.out.trans (hb8.mono hb.out.size)
        exact ⟨rfl, B8.trans (hb9.mono B8.size)⟩
  · have CN := fun v W hW => Lib.hid (cpu_new_none l st s v W hW hns hs)
    have QN := fun v W hW => Lib.hid (q_new_none l st s v W hW hns hs)
    clear hns
    generalize Mc.noStart l st s = er at *
    go_enter Try.func8, Try.ntmps8
    go_wp2_with fail
    (refine region_drew 8 (by kernel_rfl) (by kernel_rfl) ?_; simp only [List.take_succ_cons, List.take_zero, List.drop_succ_cons, List.drop_zero]; (repeat still_step))
    refine wpStill_nil ?_
    go_wp2_with (first | (go_at_call 17; refine (LG _ (h'.out.below B0.out)).out.mono ?_; rintro e w1 ⟨rfl, rfl⟩) | (at_builtin; refine wpList_clone_at (w.alloc (.cells #[.int .i64 st, .string s, .slice A fs.length cf] 53)).drew rfl (.tmp 33) (.tmp 34) 32 43 rfl .u32 4 Try.underlying32 clone_u32 (by omega) l _ _ (by simp) rfl rfl (h'.out.below B0.out) hl2.out ?_; intro g1 c1 w2 ho2 hb2 hg2 hg2b))
    have B2 := Lib.hid (B0.out.trans (hb2.mono B0.out.size))
    have R2 := Lib.hid (h'.out.below B2.out)
    have N2 := row_of_own ho2
    clear ho2 hb2 hg2 hg2b
    refine (CN _ _ N2).out.mono ?_
    rintro e w3 ⟨rfl, hb3⟩
    have B3 := Lib.hid (B2.out.trans (hb3.mono B2.out.size))
    have R3 := Lib.hid (R2.out.below hb3)
    have N3 := Lib.hid (N2.below hb3)
    clear hb3 B2 R2 N2
    go_wp2_with fail
    refine (QN _ _ R3.out).out.mono ?_
    rintro e w4 ⟨rfl, hb4⟩
    have B4 := Lib.hid (B3.out.trans (hb4.mono B3.out.size))
    have R4 := Lib.hid (R3.out.below hb4)
    have N4 := Lib.hid (N3.out.below hb4)
    clear hb4 B3 R3 N3
    go_wp2_with (go_at_call 25; refine (KW _ _ _ N4.out R4.out).out.mono ?_; rintro e w5 ⟨rfl, hb5⟩)
    have B4 := Lib.hid (B4.out.trans (hb5.to_below (B := w.heap.size) (fun _ _ => trivial)))
    clear R4 N4 hb5 CN QN
    go_loopw [13] (fun x wr => ∃ i : Nat, x = .int .i64 i ∧ i ≤ fs.length ∧ Below w.heap.size w wr) (fun x _ => fs.length - (intOf x).toNat)
    case atStart => exact ⟨0, rfl, by omega, B4.out⟩
    case round =>
      obtain ⟨i, rfl, hi, hrel⟩ := hrel
      have hb := hrel
      have hb := Lib.hid hb
      by_cases hlt : (i : Int) < fs.length
      · by_cases hi5 : (i : Int) < 5
        · obtain ⟨ad, rfl, hadl, x1⟩ := hcf.out i (by omega)
          have cx : wr.cell? (ad.add i) = some (.int .i64 (fs.getD i 0)) := (hb.out.cell (p := ad.add i) (by rw [block_add]; exact hadl)).trans x1
          clear x1 hadl
          generalize fs.getD i 0 = n at *
          have hn : (20000 < n ∧ n ≤ 4194304) ∨ ¬ 20000 < n ∨ (20000 < n ∧ ¬ n ≤ 4194304) := by omega
          rcases hn with ⟨hn1, hn2⟩ | hn1 | ⟨hn1, hn2⟩
          · have R1 := fun W (hW : True) => Lib.hid (cpu_nil_run 20000 W)
            have R2 := fun W (hW : True) => Lib.hid (q_nil_run 20000 W)
            go_wp2_with fail
            refine (R1 _ trivial).out.mono ?_
            rintro e w5 ⟨rfl, hb5⟩
            have BO := Blk.new w5 28 #[.int .i64 0, .int .i64 0, .string ⟨#[]⟩, .int .i64 0, .int .i64 0]
            have A5 : Below w5.heap.size w5 (w5.alloc (.cells #[.int .i64 0, .int .i64 0, .string ⟨#[]⟩, .int .i64 0, .int .i64 0] 28)) := (Below.refl _ _).alloc (Nat.le_refl _) _
            have B5 := Lib.hid ((hb.out.trans (hb5.mono hb.out.size)).trans (A5.mono (Nat.le_trans hb.out.size hb5.size)))
            clear hb5 A5
            have BO := Lib.hid BO
            go_wp2_with fail
            generalize hW5 : w5.alloc (.cells #[.int .i64 0, .int .i64 0, .string ⟨#[]⟩, .int .i64 0, .int .i64 0] 28) = W5 at *
            clear hW5
            have zO := BO.out.lt
            generalize w5.heap.size = go at *
            refine (R2 _ trivial).out.mono ?_
            rintro e w6 ⟨rfl, hb6⟩
            have O6 := BO.out.below hb6 zO
            have o0 := O6.cell 0
            have o1 := O6.cell 1
            have o2 := O6.cell 2
            have o3 := O6.cell 3
            have o4 := O6.cell 4
            simp only [List.getElem?_toArray, List.getElem?_cons_zero, List.getElem?_cons_succ] at o0 o1 o2 o3 o4
            have zo := O6.lt
            clear O6 BO zO
            have A6 : Below w6.heap.size w6 (w6.alloc (.cells #[.int .i64 0, .int .i64 0, .string ⟨#[]⟩, .int .i64 0, .int .i64 0] 28)) := (Below.refl _ _).alloc (Nat.le_refl _) _
            have A6 := Lib.hid A6
            have B6 := Lib.hid (B5.out.trans (hb6.mono B5.out.size))
            clear hb6 B5
            go_wp2_with (go_at_call 27; refine (ref05_same _ _ _ _ _ _).mono ?_; rintro e w7 ⟨rfl, hb7⟩)
            have A7 := A6.out.trans (hb7.mono A6.out.size)
            refine ⟨⟨i + 1, by go_num, by omega, ?_⟩, by simp [intOf]; omega⟩
            exact B6.out.trans (A7.mono B6.out.size)
          · have R1 := fun W (hW : True) => Lib.hid (cpu_nil_run n W)
            have R2 := fun W (hW : True) => Lib.hid (q_nil_run n W)
            go_wp2_with fail
            refine (R1 _ trivial).out.mono ?_
            rintro e w5 ⟨rfl, hb5⟩
            have BO := Blk.new w5 28 #[.int .i64 0, .int .i64 0, .string ⟨#[]⟩, .int .i64 0, .int .i64 0]
            have A5 : Below w5.heap.size w5 (w5.alloc (.cells #[.int .i64 0, .int .i64 0, .string ⟨#[]⟩, .int .i64 0, .int .i64 0] 28)) := (Below.refl _ _).alloc (Nat.le_refl _) _
            have B5 := Lib.hid ((hb.out.trans (hb5.mono hb.out.size)).trans (A5.mono (Nat.le_trans hb.out.size hb5.size)))
            clear hb5 A5
            have BO := Lib.hid BO
            go_wp2_with fail
            generalize hW5 : w5.alloc (.cells #[.int .i64 0, .int .i64 0, .string ⟨#[]⟩, .int .i64 0, .int .i64 0] 28) = W5 at *
            clear hW5
            have zO := BO.out.lt
            generalize w5.heap.size = go at *
            refine (R2 _ trivial).out.mono ?_
            rintro e w6 ⟨rfl, hb6⟩
            have O6 := BO.out.below hb6 zO
            have o0 := O6.cell 0
            have o1 := O6.cell 1
            have o2 := O6.cell 2
            have o3 := O6.cell 3
            have o4 := O6.cell 4
            simp only [List.getElem?_toArray, List.getElem?_cons_zero, List.getElem?_cons_succ] at o0 o1 o2 o3 o4
            have zo := O6.lt
            clear O6 BO zO
            have A6 : Below w6.heap.size w6 (w6.alloc (.cells #[.int .i64 0, .int .i64 0, .string ⟨#[]⟩, .int .i64 0, .int .i64 0] 28)) := (Below.refl _ _).alloc (Nat.le_refl _) _
            have A6 := Lib.hid A6
            have B6 := Lib.hid (B5.out.trans (hb6.mono B5.out.size))
            clear hb6 B5
            go_wp2_with (go_at_call 27; refine (ref05_same _ _ _ _ _ _).mono ?_; rintro e w7 ⟨rfl, hb7⟩)
            have A7 := A6.out.trans (hb7.mono A6.out.size)
            refine ⟨⟨i + 1, by go_num, by omega, ?_⟩, by simp [intOf]; omega⟩
            exact B6.out.trans (A7.mono B6.out.size)
          · have R1 := fun W (hW : True) => Lib.hid (cpu_nil_run n W)
            have R2 := fun W (hW : True) => Lib.hid (q_nil_run n W)
            go_wp2_with fail
            refine (R1 _ trivial).out.mono ?_
            rintro e w5 ⟨rfl, hb5⟩
            have BO := Blk.new w5 28 #[.int .i64 0, .int .i64 0, .string ⟨#[]⟩, .int .i64 0, .int .i64 0]
            have A5 : Below w5.heap.size w5 (w5.alloc (.cells #[.int .i64 0, .int .i64 0, .string ⟨#[]⟩, .int .i64 0, .int .i64 0] 28)) := (Below.refl _ _).alloc (Nat.le_refl _) _
            have B5 := Lib.hid ((hb.out.trans (hb5.mono hb.out.size)).trans (A5.mono (Nat.le_trans hb.out.size hb5.size)))
            clear hb5 A5
            have BO := Lib.hid BO
            go_wp2_with fail
            generalize hW5 : w5.alloc (.cells #[.int .i64 0, .int .i64 0, .string ⟨#[]⟩, .int .i64 0, .int .i64 0] 28) = W5 at *
            clear hW5
            have zO := BO.out.lt
            generalize w5.heap.size = go at *
            refine (R2 _ trivial).out.mono ?_
            rintro e w6 ⟨rfl, hb6⟩
            have O6 := BO.out.below hb6 zO
            have o0 := O6.cell 0
            have o1 := O6.cell 1
            have o2 := O6.cell 2
            have o3 := O6.cell 3
            have o4 := O6.cell 4
            simp only [List.getElem?_toArray, List.getElem?_cons_zero, List.getElem?_cons_succ] at o0 o1 o2 o3 o4
            have zo := O6.lt
            clear O6 BO zO
            have A6 : Below w6.heap.size w6 (w6.alloc (.cells #[.int .i64 0, .int .i64 0, .string ⟨#[]⟩, .int .i64 0, .int .i64 0] 28)) := (Below.refl _ _).alloc (Nat.le_refl _) _
            have A6 := Lib.hid A6
            have B6 := Lib.hid (B5.out.trans (hb6.mono B5.out.size))
            clear hb6 B5
            go_wp2_with (go_at_call 27; refine (ref05_same _ _ _ _ _ _).mono ?_; rintro e w7 ⟨rfl, hb7⟩)
            have A7 := A6.out.trans (hb7.mono A6.out.size)
            refine ⟨⟨i + 1, by go_num, by omega, ?_⟩, by simp [intOf]; omega⟩
            exact B6.out.trans (A7.mono B6.out.size)
        · go_wp2_with (go_at_call 15; refine (law05_wakes _).mono ?_; rintro e w9 ⟨rfl, hb9⟩)
          go_ret
          exact ⟨rfl, hb.out.trans (hb9.mono hb.out.size)⟩
      · go_wp2_with (go_at_call 15; refine (law05_wakes _).mono ?_; rintro e w9 ⟨rfl, hb9⟩)
        go_ret
        exact ⟨rfl, hb.out.trans (hb9.mono hb.out.size)⟩

end Go.Proofs.Ytefgajojimkdiaa
