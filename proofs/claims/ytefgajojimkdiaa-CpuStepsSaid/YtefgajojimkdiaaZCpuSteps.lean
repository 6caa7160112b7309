/-
  The statement CpuSteps: its walk, out of the contracts. (Printed by gen_cpusteps.py.)
-/
import Derived.Test.YtefgajojimkdiaaZTwo
import Derived.Test.YtefgajojimkdiaaZRunKit
import Derived.Test.YtefgajojimkdiaaZPlayed
namespace Go.Proofs.Ytefgajojimkdiaa
set_option linter.unusedVariables false
set_option linter.unusedSimpArgs false
open Go.RowKit Bw

theorem st_news (w : World) (t : TypeId) (cs : Array Value) : ∀ (j : Nat) (u : Value), cs.toList[j]? = some u → (w.alloc (.cells cs t)).cell? ((⟨w.heap.size, 0, none⟩ : Addr).add j) = some u := by
  intro j u hj
  rw [block_add0, cell_of_row _ _ j _ _ _ (heap_alloc_new w (.cells cs t))]
  simpa using hj
theorem and_ffff (x : Int) (h : Mc.W32 x) : bits .and .u32 x 65535 = x % 65536 := by
  obtain ⟨h0, h1⟩ := h
  obtain ⟨X, rfl⟩ := Int.eq_ofNat_of_zero_le h0
  rw [show (65535 : Int) = ((2 ^ 16 - 1 : Nat) : Int) by decide, u32_and_nat X (2 ^ 16 - 1) (by omega) (by decide), Nat.and_two_pow_sub_one_eq_mod]
  omega

set_option maxRecDepth 100000 in
set_option maxHeartbeats 8000000 in
theorem law05_steps (form a b c op im : Int) (u vv : Bool) (rs : List Int) (s : ByteArray) (v : Value) (w : World) (hx : (⟨form, u, vv, a, b, c, op, im⟩ : Ins).fits) (h : Row .u32 w v rs) (hu : ∀ x ∈ rs, Mc.W32 x) (hs : s.size ≤ 9223372036854775807) :
    Calls Try.prog 9 #[.agg #[.int .i64 form, .bool u, .bool vv, .int .i64 a, .int .i64 b, .int .i64 c, .int .i64 op, .int .i64 im], v, .string s] w fun e w' => e = .returned (.bool true) ∧ Below w.heap.size w w' := by
  obtain ⟨i0, hi0, hz0, hz1, hz2⟩ := info_parts u32_info
  obtain ⟨hrm, A, cr, rfl, hcr⟩ := h
  have hcr := Lib.hid hcr
  have B0 : RowKit.Hid (Below w.heap.size w (w.alloc (.cells #[.int .i64 form, .bool u, .bool vv, .int .i64 a, .int .i64 b, .int .i64 c, .int .i64 op, .int .i64 im] 24))) := Lib.hid ((Below.refl _ _).alloc (Nat.le_refl _) _)
  have EN := fun W => ref02_encode_all ⟨form, u, vv, a, b, c, op, im⟩ W hx
  simp only [Ins.val, Ins.cells] at EN
  have hE0 := E_w32 ⟨form, u, vv, a, b, c, op, im⟩
  generalize Ins.E ⟨form, u, vv, a, b, c, op, im⟩ = E0 at *
  generalize Ins.eerr ⟨form, u, vv, a, b, c, op, im⟩ = ee at *
  have EN := fun W => Lib.hid (EN W)
  have hu := Lib.hid hu
  have hE0 := Lib.hid hE0
  clear hx
  by_cases hee : ¬ ee = 0
  · have hee' : (ee != 0) = true := by rw [bne_iff_ne]; exact hee
    clear hee
    go_enter Try.func9, Try.ntmps9
    go_wp2_with fail
    refine (EN _).out.mono ?_
    rintro e w1 ⟨rfl, hb1⟩
    have B1 := Lib.hid (B0.out.trans (hb1.mono B0.out.size))
    clear hb1
    go_wp2_with (go_at_call 15; refine (law05_wakes _).mono ?_; rintro e w9 ⟨rfl, hb9⟩)
    go_ret
    exact ⟨rfl, B1.out.trans (hb9.mono B1.out.size)⟩
  obtain rfl : ee = 0 := Decidable.not_not.1 hee
  clear hee
  by_cases hs4 : (4000 : Int) < s.size
  · go_enter Try.func9, Try.ntmps9
    go_wp2_with fail
    refine (EN _).out.mono ?_
    rintro e w1 ⟨rfl, hb1⟩
    have B1 := Lib.hid (B0.out.trans (hb1.mono B0.out.size))
    clear hb1
    go_wp2_with (go_at_call 15; refine (law05_wakes _).mono ?_; rintro e w9 ⟨rfl, hb9⟩)
    go_ret
    exact ⟨rfl, B1.out.trans (hb9.mono B1.out.size)⟩
  go_enter Try.func9, Try.ntmps9
  go_wp2_with fail
  refine (EN _).out.mono ?_
  rintro e w1 ⟨rfl, hb1⟩
  have B1 := Lib.hid (B0.out.trans (hb1.mono B0.out.size))
  clear hb1
  go_wp2_with fail
  go_loopw [9, 10] (fun o i wr => ∃ (k : Nat) (ws : List Int), i = .int .i64 k ∧ k ≤ 14 ∧ ws.length = 2 * k ∧ (∀ x ∈ ws, Mc.W32 x) ∧ wr.ownsRow w.heap.size 43 1 o (2 * k) (ws.map (.int .u32)) ∧ Below w.heap.size w wr) (fun _ i _ => 14 - (intOf i).toNat)
  case atStart => exact ⟨0, [], rfl, by omega, rfl, by simp, World.ownsRow_nil _ _ _ _, B1.out⟩
  case round =>
    obtain ⟨k, ws, rfl, hk, hwl, hws, hown, hb⟩ := hrel
    have hwl := Lib.hid hwl
    have hws := Lib.hid hws
    have hown := Lib.hid hown
    have hb := Lib.hid hb
    by_cases hlt : (k : Int) < 14
    · have hw1 : IntKind.u32.wrap (k : Int) = k := by rw [IntKind.wrap_u32]; omega
      obtain ⟨V, hV⟩ : ∃ V : Int, (k : Int) * 4369 = V := ⟨_, rfl⟩
      have hw2 : IntKind.u32.wrap ((k : Int) * 4369) = V := by rw [IntKind.wrap_u32]; omega
      have hV := Lib.hid hV
      by_cases hr : (k : Int) < rs.length
      · obtain ⟨ad, rfl, hadl, x1⟩ := hcr.out k (by omega)
        have cx : wr.cell? (ad.add k) = some (.int .u32 (rs.getD k 0)) := (hb.out.cell (p := ad.add k) (by rw [block_add]; exact hadl)).trans x1
        have hX := hu.out (rs.getD k 0) (by rw [List.getD_eq_getElem?_getD, List.getElem?_eq_getElem (by omega : k < rs.length)]; exact List.getElem_mem _)
        clear x1 hadl
        generalize rs.getD k 0 = X at *
        have hb1 := and_ffff X hX
        have hf1 : (⟨1, true, false, k, 0, 0, 0, X / 65536⟩ : Ins).fits := by unfold Mc.W32 at hX; simp only [Ins.fits]; omega
        have hf2 : (⟨1, false, false, k, k, 0, 6, X % 65536⟩ : Ins).fits := by unfold Mc.W32 at hX; simp only [Ins.fits]; omega
        have EA := fun W => ref02_encode_all _ W hf1
        have EB := fun W => ref02_encode_all _ W hf2
        simp only [Ins.val, Ins.cells] at EA EB
        have hE1 := E_w32 ⟨1, true, false, k, 0, 0, 0, X / 65536⟩
        have hE2 := E_w32 ⟨1, false, false, k, k, 0, 6, X % 65536⟩
        clear hf1 hf2
        generalize Ins.E ⟨1, true, false, k, 0, 0, 0, X / 65536⟩ = E1 at *
        generalize Ins.E ⟨1, false, false, k, k, 0, 6, X % 65536⟩ = E2 at *
        generalize Ins.eerr ⟨1, true, false, k, 0, 0, 0, X / 65536⟩ = r1 at *
        generalize Ins.eerr ⟨1, false, false, k, k, 0, 6, X % 65536⟩ = r2 at *
        have EA := fun W => Lib.hid (EA W)
        have EB := fun W => Lib.hid (EB W)
        have hX0 : 0 ≤ X := hX.1
        have hX1 : X < 4294967296 := hX.2
        have hX2 : X / 65536 < 65536 := by omega
        have hX3 : 0 ≤ X / 65536 := by omega
        clear hX
        go_wp2_with fail
        refine (EA _).out.mono ?_
        rintro e w4 ⟨rfl, hb4⟩
        have hown4 := Lib.hid (own_below hown.out hb4)
        have B4 := Lib.hid (hb.out.trans (hb4.mono hb.out.size))
        clear hb4 hown hb
        go_wp2_with fail
        refine (EB _).out.mono ?_
        rintro e w5 ⟨rfl, hb5⟩
        have hown5 := Lib.hid (own_below hown4.out hb5)
        have B5 := Lib.hid (B4.out.trans (hb5.mono B4.out.size))
        clear hb5 hown4 B4 EA EB
        have hbs := B5.out.size
        go_wp2_with (at_builtin; refine wpList_append_own _ rfl (.tmp 73) (.tmp 76) 32 rfl w.heap.size 43 i0 _ 1 4 Try.underlying32 hi0 hz0 hz1 hz2 rfl (by omega) _ (2 * k) _ rfl (hown5.out.alloc _) ⟨w5.heap.size, 0, none⟩ 2 2 [.int .u32 E1, .int .u32 E2] rfl rfl (st_news w5 _ #[.int .u32 E1, .int .u32 E2]) (by simp [Value.oneCell']) (by simp only [maxLen]; omega) (by omega) (by simp; exact Nat.le_succ_of_le B5.out.size) ?_; intro v2 wz hown2 hg2 _)
        have hown2 := Lib.hid hown2
        have hb6 : Below w.heap.size w wz := (B5.out.alloc B5.out.size _).grown hg2 (by simp; exact Nat.le_succ_of_le B5.out.size) (fun q hq => (hown5.out.lt q hq).1)
        have hW2 : ∀ x ∈ ws ++ [E1, E2], Mc.W32 x := by
          intro x hx
          rcases List.mem_append.1 hx with h | h
          · exact hws.out x h
          · simp at h
            rcases h with rfl | rfl
            · exact hE1
            · exact hE2
        have hW2 := Lib.hid hW2
        clear hE1 hE2
        go_wp2_with fail
        refine ⟨⟨k + 1, ws ++ [E1, E2], by go_num, by omega, by simp [hwl.out]; omega, hW2.out, ?_, hb6⟩, by simp [intOf]; omega⟩
        have := hown2.out
        rw [List.map_append]
        exact this
      · have hX : Mc.W32 V := by have := hV.out; unfold Mc.W32; omega
        generalize V = X at *
        have hb1 := and_ffff X hX
        have hf1 : (⟨1, true, false, k, 0, 0, 0, X / 65536⟩ : Ins).fits := by unfold Mc.W32 at hX; simp only [Ins.fits]; omega
        have hf2 : (⟨1, false, false, k, k, 0, 6, X % 65536⟩ : Ins).fits := by unfold Mc.W32 at hX; simp only [Ins.fits]; omega
        have EA := fun W => ref02_encode_all _ W hf1
        have EB := fun W => ref02_encode_all _ W hf2
        simp only [Ins.val, Ins.cells] at EA EB
        have hE1 := E_w32 ⟨1, true, false, k, 0, 0, 0, X / 65536⟩
        have hE2 := E_w32 ⟨1, false, false, k, k, 0, 6, X % 65536⟩
        clear hf1 hf2
        generalize Ins.E ⟨1, true, false, k, 0, 0, 0, X / 65536⟩ = E1 at *
        generalize Ins.E ⟨1, false, false, k, k, 0, 6, X % 65536⟩ = E2 at *
        generalize Ins.eerr ⟨1, true, false, k, 0, 0, 0, X / 65536⟩ = r1 at *
        generalize Ins.eerr ⟨1, false, false, k, k, 0, 6, X % 65536⟩ = r2 at *
        have EA := fun W => Lib.hid (EA W)
        have EB := fun W => Lib.hid (EB W)
        have hX0 : 0 ≤ X := hX.1
        have hX1 : X < 4294967296 := hX.2
        have hX2 : X / 65536 < 65536 := by omega
        have hX3 : 0 ≤ X / 65536 := by omega
        clear hX
        go_wp2_with fail
        refine (EA _).out.mono ?_
        rintro e w4 ⟨rfl, hb4⟩
        have hown4 := Lib.hid (own_below hown.out hb4)
        have B4 := Lib.hid (hb.out.trans (hb4.mono hb.out.size))
        clear hb4 hown hb
        go_wp2_with fail
        refine (EB _).out.mono ?_
        rintro e w5 ⟨rfl, hb5⟩
        have hown5 := Lib.hid (own_below hown4.out hb5)
        have B5 := Lib.hid (B4.out.trans (hb5.mono B4.out.size))
        clear hb5 hown4 B4 EA EB
        have hbs := B5.out.size
        go_wp2_with (at_builtin; refine wpList_append_own _ rfl (.tmp 73) (.tmp 76) 32 rfl w.heap.size 43 i0 _ 1 4 Try.underlying32 hi0 hz0 hz1 hz2 rfl (by omega) _ (2 * k) _ rfl (hown5.out.alloc _) ⟨w5.heap.size, 0, none⟩ 2 2 [.int .u32 E1, .int .u32 E2] rfl rfl (st_news w5 _ #[.int .u32 E1, .int .u32 E2]) (by simp [Value.oneCell']) (by simp only [maxLen]; omega) (by omega) (by simp; exact Nat.le_succ_of_le B5.out.size) ?_; intro v2 wz hown2 hg2 _)
        have hown2 := Lib.hid hown2
        have hb6 : Below w.heap.size w wz := (B5.out.alloc B5.out.size _).grown hg2 (by simp; exact Nat.le_succ_of_le B5.out.size) (fun q hq => (hown5.out.lt q hq).1)
        have hW2 : ∀ x ∈ ws ++ [E1, E2], Mc.W32 x := by
          intro x hx
          rcases List.mem_append.1 hx with h | h
          · exact hws.out x h
          · simp at h
            rcases h with rfl | rfl
            · exact hE1
            · exact hE2
        have hW2 := Lib.hid hW2
        clear hE1 hE2
        go_wp2_with fail
        refine ⟨⟨k + 1, ws ++ [E1, E2], by go_num, by omega, by simp [hwl.out]; omega, hW2.out, ?_, hb6⟩, by simp [intOf]; omega⟩
        have := hown2.out
        rw [List.map_append]
        exact this
    · obtain rfl : k = 14 := by omega
      have hbs := hb.out.size
      clear EN hcr hu
      go_wp2_with (at_builtin; refine wpList_append_own _ rfl (.tmp 78) (.tmp 81) 32 rfl w.heap.size 43 i0 _ 1 4 Try.underlying32 hi0 hz0 hz1 hz2 rfl (by omega) _ (2 * 14) _ rfl (hown.out.alloc _) ⟨wr.heap.size, 0, none⟩ 5 5 [.int .u32 E0, .int .u32 E0, .int .u32 0, .int .u32 0, .int .u32 7] rfl rfl (st_news wr _ #[.int .u32 E0, .int .u32 E0, .int .u32 0, .int .u32 0, .int .u32 7]) (by simp [Value.oneCell']) (by simp only [maxLen]; omega) (by omega) (by simp; exact Nat.le_succ_of_le hb.out.size) ?_; intro v2 wz hown2 hg2 _)
      obtain ⟨l, hl⟩ : ∃ l, ws ++ [E0, E0, 0, 0, 7] = l := ⟨_, rfl⟩
      have hW2 : ∀ x ∈ l, Mc.W32 x := by
        intro x hx
        rw [← hl] at hx
        rcases List.mem_append.1 hx with h | h
        · exact hws.out x h
        · simp at h
          rcases h with rfl | rfl | rfl
          · exact hE0.out
          · exact ⟨by omega, by omega⟩
          · exact ⟨by omega, by omega⟩
      have hll : l.length = 33 := by rw [← hl]; simp [hwl.out]
      have hrow : Row .u32 wz v2 l := by
        rw [← hl]
        refine row_of_own (base := w.heap.size) (e := 43) (n := 2 * 14 + 5) ?_
        rw [List.map_append]
        exact hown2
      have B2 := Lib.hid ((hb.out.alloc hb.out.size _).grown hg2 (by simp; exact Nat.le_succ_of_le hb.out.size) (fun q hq => (hown.out.lt q hq).1))
      have CN := fun v W hW => Lib.hid (cpu_new l 0 s v W hW hW2 (by omega) (by omega) (by decide) (by omega))
      have QN := fun v W hW => Lib.hid (q_new l 0 s v W hW hW2 (by omega) (by omega) (by decide) (by omega))
      simp only [MadeCpu, MadeQ] at CN QN
      generalize Mc.start l 0 s = X0 at *
      have hrow := Lib.hid hrow
      clear hll hW2 hl hown2 hg2 hown hb hws hwl
      go_wp2_with fail
      refine (CN _ _ hrow.out).out.mono ?_
      rintro e w3 ⟨p, mp, ap, rfl, hp, hmp, hap, hM, hb3⟩
      have B3 := Lib.hid (B2.out.trans (hb3.mono B2.out.size))
      have R3 := Lib.hid (hrow.out.below hb3)
      have hP := Lib.hid (And.intro (Nat.le_trans B2.out.size hp) (Nat.le_trans B2.out.size hap))
      have hM := Lib.hid hM
      clear hp hmp hap hb3 B2 hrow
      go_wp2_with fail
      refine (QN _ _ R3.out).out.mono ?_
      rintro e w4 ⟨q, mq, aq, c, rfl, hq, hmq, haq, hQ, hb4⟩
      have B4 := Lib.hid (B3.out.trans (hb4.mono B3.out.size))
      have hne : ap ≠ aq := fun e => by have := hM.out.mem.2.lt; omega
      have T5 : RowKit.Hid (Two w.heap.size w4 p mp ap (.slice none 0 0) X0 q mq aq c (.slice none 0 0) 0 X0) := Lib.hid ⟨hM.out.below hb4, hQ, hne, (fun b hb => by cases hb), B4.out.size, hP.out.1, hP.out.2, own_nil _, Nat.le_trans B3.out.size hq, Nat.le_trans B3.out.size haq, own_nil _⟩
      clear hq hmq haq hQ hb4 B3 R3 hM hP hne CN QN
      go_wp2_with fail
      go_loopw [20] (fun x wr => ∃ i : Nat, x = .int .i64 i ∧ i ≤ 3 ∧ ∃ X ov oq st', Two w.heap.size wr p mp ap ov X q mq aq c oq st' X ∧ Below w.heap.size w wr) (fun x _ => 3 - (intOf x).toNat)
      case atStart => exact ⟨0, rfl, by omega, X0, _, _, _, T5.out, B4.out⟩
      case round =>
        obtain ⟨i, rfl, hi, hrel⟩ := hrel
        obtain ⟨X, ov, oq, st2, hT, hb⟩ := hrel
        have hb := Lib.hid hb
        have hT := Lib.hid hT
        by_cases hlt : (i : Int) < 3
        · by_cases hi0' : (0 : Int) < i
          · obtain ⟨a0, a1, t, a3, a4, er, X', RA, RB⟩ := two_runs 1 X
            have R1 := fun W hW => Lib.hid (RA w.heap.size W p mp ap ov q mq aq c oq st2 X hW)
            have R2 := fun ov W hW => Lib.hid (RB w.heap.size W p mp ap ov q mq aq c oq st2 X' hW)
            clear RA RB
            go_wp2_with fail
            refine (R1 _ hT.out).out.mono ?_
            rintro e w5 ⟨rfl, ov5, hT5, hb5⟩
            have BO := Blk.new w5 28 #[.int .i64 a0, .int .i64 a1, .string t, .int .i64 a3, .int .i64 a4]
            have A5 : Below w5.heap.size w5 (w5.alloc (.cells #[.int .i64 a0, .int .i64 a1, .string t, .int .i64 a3, .int .i64 a4] 28)) := (Below.refl _ _).alloc (Nat.le_refl _) _
            have T5 := Lib.hid (hT5.below A5)
            have B5 := Lib.hid ((hb.out.trans hb5).trans (A5.mono hT5.n))
            clear hb5 A5 hT5
            have BO := Lib.hid BO
            go_wp2_with fail
            generalize hW5 : w5.alloc (.cells #[.int .i64 a0, .int .i64 a1, .string t, .int .i64 a3, .int .i64 a4] 28) = W5 at *
            clear hW5
            have zO := BO.out.lt
            generalize w5.heap.size = go at *
            refine (R2 _ _ T5.out).out.mono ?_
            rintro e w6 ⟨rfl, oq6, st6, hT6, hb6, hk6⟩
            have O6 := hk6 _ _ BO.out
            have o0 := O6.cell 0
            have o1 := O6.cell 1
            have o2 := O6.cell 2
            have o3 := O6.cell 3
            have o4 := O6.cell 4
            simp only [List.getElem?_toArray, List.getElem?_cons_zero, List.getElem?_cons_succ] at o0 o1 o2 o3 o4
            have zo := O6.lt
            clear O6 BO zO
            have A6 : Below w6.heap.size w6 (w6.alloc (.cells #[.int .i64 a0, .int .i64 a1, .string t, .int .i64 a3, .int .i64 a4] 28)) := (Below.refl _ _).alloc (Nat.le_refl _) _
            have A6 := Lib.hid A6
            have B6 := Lib.hid (B5.out.trans hb6)
            have hT6 := Lib.hid hT6
            clear hb6 B5 hk6
            go_wp2_with (first | (go_at_call 27; refine (ref05_same _ _ _ _ _ _).mono ?_; rintro e w7 ⟨rfl, hb7⟩; have A7 := A6.out.trans (hb7.mono A6.out.size); have T7 := Lib.hid (hT6.out.below A7)) | (go_at_call 28; refine (law05_same X' p mp ap ov5 q mq aq c oq6 st6 _ T7.out.m T7.out.k).mono ?_; rintro e w8 ⟨rfl, hb8⟩))
            have B7 := B6.out.trans (A7.mono B6.out.size)
            refine ⟨⟨i + 1, by go_num, by omega, ?_⟩, by simp [intOf]; omega⟩
            exact ⟨X', ov5, oq6, st6, T7.out.below hb8, B7.trans (hb8.mono B7.size)⟩
          · obtain ⟨a0, a1, t, a3, a4, er, X', RA, RB⟩ := two_runs 28 X
            have R1 := fun W hW => Lib.hid (RA w.heap.size W p mp ap ov q mq aq c oq st2 X hW)
            have R2 := fun ov W hW => Lib.hid (RB w.heap.size W p mp ap ov q mq aq c oq st2 X' hW)
            clear RA RB
            go_wp2_with fail
            refine (R1 _ hT.out).out.mono ?_
            rintro e w5 ⟨rfl, ov5, hT5, hb5⟩
            have BO := Blk.new w5 28 #[.int .i64 a0, .int .i64 a1, .string t, .int .i64 a3, .int .i64 a4]
            have A5 : Below w5.heap.size w5 (w5.alloc (.cells #[.int .i64 a0, .int .i64 a1, .string t, .int .i64 a3, .int .i64 a4] 28)) := (Below.refl _ _).alloc (Nat.le_refl _) _
            have T5 := Lib.hid (hT5.below A5)
            have B5 := Lib.hid ((hb.out.trans hb5).trans (A5.mono hT5.n))
            clear hb5 A5 hT5
            have BO := Lib.hid BO
            go_wp2_with fail
            generalize hW5 : w5.alloc (.cells #[.int .i64 a0, .int .i64 a1, .string t, .int .i64 a3, .int .i64 a4] 28) = W5 at *
            clear hW5
            have zO := BO.out.lt
            generalize w5.heap.size = go at *
            refine (R2 _ _ T5.out).out.mono ?_
            rintro e w6 ⟨rfl, oq6, st6, hT6, hb6, hk6⟩
            have O6 := hk6 _ _ BO.out
            have o0 := O6.cell 0
            have o1 := O6.cell 1
            have o2 := O6.cell 2
            have o3 := O6.cell 3
            have o4 := O6.cell 4
            simp only [List.getElem?_toArray, List.getElem?_cons_zero, List.getElem?_cons_succ] at o0 o1 o2 o3 o4
            have zo := O6.lt
            clear O6 BO zO
            have A6 : Below w6.heap.size w6 (w6.alloc (.cells #[.int .i64 a0, .int .i64 a1, .string t, .int .i64 a3, .int .i64 a4] 28)) := (Below.refl _ _).alloc (Nat.le_refl _) _
            have A6 := Lib.hid A6
            have B6 := Lib.hid (B5.out.trans hb6)
            have hT6 := Lib.hid hT6
            clear hb6 B5 hk6
            go_wp2_with (first | (go_at_call 27; refine (ref05_same _ _ _ _ _ _).mono ?_; rintro e w7 ⟨rfl, hb7⟩; have A7 := A6.out.trans (hb7.mono A6.out.size); have T7 := Lib.hid (hT6.out.below A7)) | (go_at_call 28; refine (law05_same X' p mp ap ov5 q mq aq c oq6 st6 _ T7.out.m T7.out.k).mono ?_; rintro e w8 ⟨rfl, hb8⟩))
            have B7 := B6.out.trans (A7.mono B6.out.size)
            refine ⟨⟨i + 1, by go_num, by omega, ?_⟩, by simp [intOf]; omega⟩
            exact ⟨X', ov5, oq6, st6, T7.out.below hb8, B7.trans (hb8.mono B7.size)⟩
        · go_wp2_with (go_at_call 15; refine (law05_wakes _).mono ?_; rintro e w9 ⟨rfl, hb9⟩)
          go_ret
          exact ⟨rfl, hb.out.trans (hb9.mono hb.out.size)⟩

end Go.Proofs.Ytefgajojimkdiaa
