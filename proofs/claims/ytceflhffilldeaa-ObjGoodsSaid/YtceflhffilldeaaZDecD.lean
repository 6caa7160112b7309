/-
  The document's Decode, walked.
-/
import Derived.Test.YtceflhffilldeaaZDecMem
import Derived.Test.YtceflhffilldeaaZDecP
import Derived.Deep.CutBlock
namespace Go.Proofs.Ytceflhffilldeaa
set_option linter.unusedVariables false
set_option linter.unusedSimpArgs false
open Go.RowKit ObjL

set_option maxRecDepth 100000 in
set_option maxHeartbeats 4000000 in
theorem ref23_decode (s : List UInt8) (w : World) (hs : s.length ≤ 1000000) :
    Calls Try.prog 30 #[.string (txt s)] w fun e w' => DecEnd s e w' ∧ Below w.heap.size w w' := by
  have ZB := Lib.hid (Blk.new w 49 #[.string ⟨#[]⟩, .int .u32 0, .slice none 0 0, .slice none 0 0, .int .i64 0, .string ⟨#[]⟩, .slice none 0 0, .slice none 0 0, .int .i64 0, .int .i64 0])
  have BZ := Lib.hid ((Below.refl w.heap.size w).alloc (Nat.le_refl _) (.cells #[.string ⟨#[]⟩, .int .u32 0, .slice none 0 0, .slice none 0 0, .int .i64 0, .string ⟨#[]⟩, .slice none 0 0, .slice none 0 0, .int .i64 0, .int .i64 0] 49))
  have hz : w.heap.size < (w.alloc (.cells #[.string ⟨#[]⟩, .int .u32 0, .slice none 0 0, .slice none 0 0, .int .i64 0, .string ⟨#[]⟩, .slice none 0 0, .slice none 0 0, .int .i64 0, .int .i64 0] 49)).heap.size := by simp
  have hzz := Lib.hid hz
  have hss := Lib.hid hs
  have hsz := txt_size s
  clear hz
  go_enter Try.func30, Try.ntmps30
  go_upto_region 1 with fail
  generalize hw0 : w.alloc (.cells #[.string ⟨#[]⟩, .int .u32 0, .slice none 0 0, .slice none 0 0, .int .i64 0, .string ⟨#[]⟩, .slice none 0 0, .slice none 0 0, .int .i64 0, .int .i64 0] 49) = W0 at *
  clear hw0
  by_cases hlen : 131072 < s.length
  case pos =>
    have hno := Lib.hid (decO_long (s := s) (by omega))
    have hlen2 : (131072 : Int) < (s.length : Int) := by omega
    go_upto_region 2 with fail
    refine wp_region_lit ?_
    refine wpList_build rfl 49 #[] rfl (by kernel_rfl) ?_
    refine wpList_store_row rfl 49 (.tmp 2) (.tmp 19) rfl w.heap.size #[.string ⟨#[]⟩, .int .u32 0, .slice none 0 0, .slice none 0 0, .int .i64 0, .string ⟨#[]⟩, .slice none 0 0, .slice none 0 0, .int .i64 0, .int .i64 0] rfl (by kernel_rfl) 49 _ ZB.out (by kernel_rfl) rfl (by kernel_rfl) ?_
    have hb := Lib.hid (below_setRow BZ.out (Nat.le_refl _) #[.string ⟨#[]⟩, .int .u32 0, .slice none 0 0, .slice none 0 0, .int .i64 0, .string ⟨#[]⟩, .slice none 0 0, .slice none 0 0, .int .i64 0, .int .i64 0])
    have hg := setRow_heap _ w.heap.size _ #[.string ⟨#[]⟩, .int .u32 0, .slice none 0 0, .slice none 0 0, .int .i64 0, .string ⟨#[]⟩, .slice none 0 0, .slice none 0 0, .int .i64 0, .int .i64 0] 49 (0, 0) ZB.out
    generalize World.setRow _ _ _ = W at *
    have hl := run_loadVar_row W w.heap.size 49 49 _ (0, 0) _ hg Try.underlying49 rfl (by kernel_rfl)
    have hl := Lib.hid hl
    clear hg
    go_wp2_with fail
    have hl := hl.out
    refine bodyPost_ret (v := .tuple #[.agg (obCells zeroOb nilS nilS nilS nilS), .int .i64 230]) ?_ rfl ⟨Or.inr ⟨hno.out, rfl⟩, hb.out⟩
    simp only [results, Try.results30]
    simp [hl, asAddr, obCells, zeroOb, nilS]
    rfl
  have hlen2 : ¬ (131072 : Int) < (s.length : Int) := by omega
  have hlenh : RowKit.Hid (s.length ≤ 131072) := Lib.hid (by omega)
  clear hlen
  go_upto_region 3 with fail
  obtain ⟨B, hBe⟩ : ∃ B, B = W0.heap.size := ⟨_, rfl⟩
  have hR1 : RdIs rfT (W0.alloc (.cells #[.string (txt s), .int .i64 0, .bool false] rfT)) B s (some s) := by
    subst hBe
    exact ⟨0, false, Blk.new W0 rfT #[.string (txt s), .int .i64 0, .bool false], by omega, rfl⟩
  have hK1 : Below B W0 (W0.alloc (.cells #[.string (txt s), .int .i64 0, .bool false] rfT)) := by subst hBe; exact (Below.refl _ _).alloc (Nat.le_refl _) _
  have hBW := Lib.hid hBe
  rw [← hBe] at hzz
  go_upto_region 4 with fail
  rw [← hBe]
  generalize hW1 : (W0.alloc (.cells #[.string (txt s), .int .i64 0, .bool false] 103)) = w1 at *
  have hR1h := Lib.hid hR1
  have hK1h := Lib.hid hK1
  clear hW1 hR1 hK1 hBe
  have RT := Lib.hid (rf_text B s (some s) w1 hR1h.out hss.out)
  go_wp2_with fail
  refine RT.out.mono ?_
  rintro e w2 ⟨t, st1, rfl, h1, h2, h3, h4⟩
  have hK2 := Lib.hid (hK1h.out.trans (h3.to_below (Nat.le_refl _) hR1h.out.lt))
  have hR2 := Lib.hid h2
  have T0 := Lib.hid h1
  clear h1 h2 h3 h4 RT hR1h hK1h
  unfold tVal
  have ZB2 := Lib.hid (ZB.out.keepB (bad := fun _ => false) (KeepB.of_below (hBW.out ▸ hK2.out)) rfl)
  have BZ2 := Lib.hid (BZ.out.trans (hK2.out.mono (Nat.le_of_lt hzz.out)))
  by_cases ht : t = head
  case neg =>
    have hno := Lib.hid (decO_ref_none (parse_nohead T0.out ht))
    have hq : ((txt t).toList == [83, 80, 79, 66]) = false := by rw [head_eq]; exact decide_eq_false ht
    have hq2 : ¬ (txt t).toList = [83, 80, 79, 66] := by simpa using hq
    clear ht
    go_upto_region 5 with fail
    refine wp_region_lit ?_
    refine wpList_build rfl 49 #[] rfl (by kernel_rfl) ?_
    refine wpList_store_row rfl 49 (.tmp 2) (.tmp 26) rfl w.heap.size #[.string ⟨#[]⟩, .int .u32 0, .slice none 0 0, .slice none 0 0, .int .i64 0, .string ⟨#[]⟩, .slice none 0 0, .slice none 0 0, .int .i64 0, .int .i64 0] rfl (by kernel_rfl) 49 _ ZB2.out (by kernel_rfl) rfl (by kernel_rfl) ?_
    have hb := Lib.hid (below_setRow BZ2.out (Nat.le_refl _) #[.string ⟨#[]⟩, .int .u32 0, .slice none 0 0, .slice none 0 0, .int .i64 0, .string ⟨#[]⟩, .slice none 0 0, .slice none 0 0, .int .i64 0, .int .i64 0])
    have hg := setRow_heap _ w.heap.size _ #[.string ⟨#[]⟩, .int .u32 0, .slice none 0 0, .slice none 0 0, .int .i64 0, .string ⟨#[]⟩, .slice none 0 0, .slice none 0 0, .int .i64 0, .int .i64 0] 49 (0, 0) ZB2.out
    generalize World.setRow _ _ _ = W at *
    have hl := run_loadVar_row W w.heap.size 49 49 _ (0, 0) _ hg Try.underlying49 rfl (by kernel_rfl)
    have hl := Lib.hid hl
    clear hg
    go_wp2_with fail
    have hl := hl.out
    refine bodyPost_ret (v := .tuple #[.agg (obCells zeroOb nilS nilS nilS nilS), .int .i64 230]) ?_ rfl ⟨Or.inr ⟨hno.out, rfl⟩, hb.out⟩
    simp only [results, Try.results30]
    simp [hl, asAddr, obCells, zeroOb, nilS]
    rfl
  have hq : ((txt t).toList == [83, 80, 79, 66]) = true := by rw [head_eq]; exact decide_eq_true ht
  have hq2 : (txt t).toList = [83, 80, 79, 66] := by simpa using hq
  have hth := Lib.hid ht
  clear ht ZB2 BZ2
  go_upto_region 6 with fail
  have RT := Lib.hid (rf_text B s st1 w2 hR2.out hss.out)
  refine wp_region_lit ?_
  refine wpList_plain rfl (fun K6 hK6 => ?_)
  go_simp
  refine hK6 _ _ ?_
  clear hK6 K6
  refine wpList_plain rfl (fun K6 hK6 => ?_)
  go_simp
  refine RT.out.mono ?_
  rintro e w3 ⟨nm, st2, rfl, h1, h2, h3, h4⟩
  unfold tVal
  have hK3 := Lib.hid (hK2.out.trans (h3.to_below (Nat.le_refl _) hR2.out.lt))
  have hR3 := Lib.hid h2
  have T1 := Lib.hid h1
  have b1 := Lib.hid h4
  clear h1 h2 h3 h4 RT hR2 hK2
  refine hK6 _ _ ?_
  clear hK6 K6
  refine wpList_build rfl 49 #[(0, .tmp 28)] rfl (by kernel_rfl) ?_
  refine wpList_plain rfl (fun K6 hK6 => ?_)
  go_simp
  refine hK6 _ _ ?_
  clear hK6 K6
  refine wpList_store_row rfl 49 (.tmp 5) (.tmp 29) rfl w3.heap.size #[.string (txt nm), .int .u32 0, .slice none 0 0, .slice none 0 0, .int .i64 0, .string ⟨#[]⟩, .slice none 0 0, .slice none 0 0, .int .i64 0, .int .i64 0] rfl (by kernel_rfl) 49 #[.string ⟨#[]⟩, .int .u32 0, .slice none 0 0, .slice none 0 0, .int .i64 0, .string ⟨#[]⟩, .slice none 0 0, .slice none 0 0, .int .i64 0, .int .i64 0] (Blk.new w3 49 #[.string ⟨#[]⟩, .int .u32 0, .slice none 0 0, .slice none 0 0, .int .i64 0, .string ⟨#[]⟩, .slice none 0 0, .slice none 0 0, .int .i64 0, .int .i64 0]) (by kernel_rfl) rfl (by kernel_rfl) ?_
  rw [setRow_last]
  have hA4 : DecAt B w3.heap.size B s (w3.alloc (.cells #[.string (txt nm), .int .u32 0, .slice none 0 0, .slice none 0 0, .int .i64 0, .string ⟨#[]⟩, .slice none 0 0, .slice none 0 0, .int .i64 0, .int .i64 0] 49)) ⟨nm, 0, [], [], 0, [], [], [], 0, 0⟩ [] st2 :=
    ⟨.slice none 0 0, .slice none 0 0, .slice none 0 0, .slice none 0 0, Blk.new _ _ _, TkRows.nil_ _ _, rfl, hR3.out.below ((Below.refl _ _).alloc (Nat.le_refl _) _)⟩
  have hK4 := hK3.out.alloc (Nat.le_of_lt hR3.out.lt) (.cells #[.string (txt nm), .int .u32 0, .slice none 0 0, .slice none 0 0, .int .i64 0, .string ⟨#[]⟩, .slice none 0 0, .slice none 0 0, .int .i64 0, .int .i64 0] 49)
  have hob : B ≤ w3.heap.size := Nat.le_of_lt hR3.out.lt
  generalize w3.alloc (.cells #[.string (txt nm), .int .u32 0, .slice none 0 0, .slice none 0 0, .int .i64 0, .string ⟨#[]⟩, .slice none 0 0, .slice none 0 0, .int .i64 0, .int .i64 0] 49) = w4 at *
  generalize w3.heap.size = ob at *
  have hA4h := Lib.hid hA4
  have hK4h := Lib.hid hK4
  have hobh := Lib.hid hob
  clear hA4 hK4 hob hR3 hK3
  have RT := Lib.hid (rf_word B s st2 w4 hA4h.out.rdis hss.out)
  go_upto_region 7 with fail
  go_wp2_with fail
  refine RT.out.mono ?_
  rintro e w5 ⟨key, st3, rfl, h1, h2, h3, h4⟩
  obtain ⟨hA5, hb5⟩ := hA4h.out.rd h2 h3 (Nat.le_refl _)
  obtain ⟨⟨x1, e1⟩, f1⟩ := hA5.has 1 (by decide)
  have hA5h := Lib.hid (hA5.set_ (o' := ⟨nm, key, [], [], 0, [], [], [], 0, 0⟩) hobh.out 1 (.int .u32 key) (fun _ _ _ _ => rfl) rfl rfl rfl rfl)
  have hK5h := Lib.hid (hK4h.out.trans hb5)
  have T2 := Lib.hid h1
  have b2 := Lib.hid h4
  clear h1 h2 h3 h4 RT hA4h hK4h hA5 hb5
  go_upto_region 8 with fail
  obtain ⟨hA6, hb6⟩ := hA5h.out
  generalize w5.setCell ⟨ob, 1, none⟩ (.int .u32 key) = w6 at *
  have hA6h := Lib.hid hA6
  have hK6h := Lib.hid (hK5h.out.trans hb6)
  clear hA5h hK5h hA6 hb6 e1 f1
  have CN := Lib.hid (rf_count B s st3 16 w6 hA6h.out.rdis hss.out (by decide))
  go_wp2_with fail
  refine CN.out.mono ?_
  rintro e w7 ⟨nu, st4, rfl, h1, h2, h3, h4⟩
  obtain ⟨hA7, hb7⟩ := hA6h.out.rd h2 h3 (Nat.le_refl _)
  have T3 := Lib.hid h1
  have hA7h := Lib.hid hA7
  have hK7h := Lib.hid (hK6h.out.trans hb7)
  have n3 := Lib.hid h4
  clear h1 h2 h3 h4 CN hA6h hK6h hA7 hb7
  go_upto_block 0 with fail
  go_cut [7, 8] from 35 to 57 (fun r7 r8 wx => ∃ us st5, RowKit.Hid (Took (many rUse nu.toNat) st4 us st5 ∧ (∀ x ∈ us, tOk s x.1 ∧ wOk x.2) ∧ DecAt B ob B s wx ⟨nm, key, us, [], 0, [], [], [], 0, 0⟩ [] st5 ∧ Below B W0 wx))
  case first =>
    go_wp2_with fail
    go_loopw [7] (fun i wr => ∃ (k : Nat) (us : List (List UInt8 × Int)) (st : Lft), i = .int .i64 k ∧ k ≤ nu.toNat ∧ RowKit.Hid (us.length = k ∧ Took (many rUse k) st4 us st ∧ (∀ x ∈ us, tOk s x.1 ∧ wOk x.2) ∧ DecAt B ob B s wr ⟨nm, key, us, [], 0, [], [], [], 0, 0⟩ [] st ∧ Below B W0 wr)) (fun i _ => nu.toNat - (intOf i).toNat)
    case atStart => exact ⟨0, [], st4, rfl, by omega, Lib.hid ⟨rfl, took_zero _ _, fun x hx => absurd hx (by simp), hA7h.out, hK7h.out⟩⟩
    case round =>
      obtain ⟨k, us, st, rfl, hk, hI⟩ := hrel
      have BD := Lib.hid (rf_bad B s st wr hI.out.2.2.2.1.rdis)
      have hnb := n3.out
      by_cases hlt : (k : Int) < nu
      · cases st with
        | none =>
          go_wp2_with fail
          refine BD.out.mono ?_
          rintro e w8 ⟨rfl, rfl⟩
          go_wp2_with fail
          go_meet
          obtain ⟨i1, i2, i3, i4, i5⟩ := hI.out
          exact ⟨us, none, Lib.hid ⟨took_more hk i2, i3, i4, i5⟩⟩
        | some r =>
          go_wp2_with fail
          refine BD.out.mono ?_
          rintro e w8 ⟨rfl, rfl⟩
          go_upto_region 12 with fail
          have RT := Lib.hid (rf_text B s (some r) wr hI.out.2.2.2.1.rdis hss.out)
          go_wp2_with fail
          refine RT.out.mono ?_
          rintro e w9 ⟨tx, sa, rfl, h1, h2, h3, h4⟩
          obtain ⟨hA9, hb9⟩ := hI.out.2.2.2.1.rd h2 h3 (Nat.le_refl _)
          have hA9h := Lib.hid hA9
          have hb9h := Lib.hid hb9
          have hk9 := Lib.hid h3
          have q1 := Lib.hid h1
          have q4 := Lib.hid h4
          clear h1 h2 h3 h4 hA9 hb9 RT BD
          unfold tVal
          go_upto_region 13 with fail
          have UB := Blk.new w9 78 #[.string (txt tx), .int .u32 0]
          have hA10 := hA9h.out.below ((Below.refl w9.heap.size w9).alloc (Nat.le_refl _) (.cells #[.string (txt tx), .int .u32 0] 78))
          have hb10 := hb9h.out.alloc (Nat.le_of_lt hA9h.out.lt) (.cells #[.string (txt tx), .int .u32 0] 78)
          have hub : B ≤ w9.heap.size := Nat.le_of_lt hA9h.out.lt
          have hk10 := hk9.out.alloc (.cells #[.string (txt tx), .int .u32 0] 78)
          have hubw : wr.heap.size ≤ w9.heap.size := hk9.out.size
          clear hk9
          generalize w9.alloc (.cells #[.string (txt tx), .int .u32 0] 78) = w10 at *
          generalize w9.heap.size = ub at *
          have UBh := Lib.hid UB
          have hA10h := Lib.hid hA10
          have hb10h := Lib.hid hb10
          have hubh := Lib.hid hub
          have hubwh := Lib.hid hubw
          have hk10h := Lib.hid hk10
          clear hk10 hubw
          have RT := Lib.hid (rf_word B s sa w10 hA10.rdis hss.out)
          clear UB hA10 hb10 hub hA9h hb9h
          go_wp2_with fail
          refine RT.out.mono ?_
          rintro e w11 ⟨kx, sb, rfl, h1, h2, h3, h4⟩
          obtain ⟨hA11, hb11⟩ := hA10h.out.rd h2 h3 (Nat.le_refl _)
          have hne : ub ≠ B := by obtain ⟨a, bd, r1, -⟩ := hA10h.out.rdis; exact UBh.out.ne_ r1 (by decide)
          have UB11 := Blk.kept UBh.out h3 ⟨UBh.out.lt, hne⟩
          have e1 := UB11.cell 1
          have f1 := UB11.frozen 1
          simp only [List.getElem?_toArray, List.getElem?_cons_zero, List.getElem?_cons_succ] at e1
          have UB11h := Lib.hid UB11
          have hA11h := Lib.hid hA11
          have hb11h := Lib.hid (hb10h.out.trans hb11)
          have hk12 := Lib.hid ((hk10h.out.trans h3).far hubwh.out (i := 1) (.int .u32 kx))
          have hr12 : RdIs rfT (w11.setCell ⟨ub, 1, none⟩ (.int .u32 kx)) B s sb := by
            obtain ⟨a, bd, r1, r2, r3⟩ := h2
            exact ⟨a, bd, r1.keepB ((KeepB.refl (fun t => t == 78) w11).setCell UB11 (i := 1) (by decide) (.int .u32 kx)) (by decide), r2, r3⟩
          have hA12 := Lib.hid (hI.out.2.2.2.1.rd hr12 hk12.out (Nat.le_refl _))
          have UB12 := Lib.hid (UB11.set_ 1 (.int .u32 kx))
          clear hk10h hr12
          have q2 := Lib.hid h1
          have q5 := Lib.hid h4
          clear h1 h2 h3 h4 hA11 hb11 RT UB11 UBh hA10h hb10h
          go_upto_region 14 with fail
          clear e1 f1
          generalize w11.setCell ⟨ub, 1, none⟩ (.int .u32 kx) = w12 at *
          obtain ⟨⟨vU, vD, vC, vE, oB, oR, oD, oI⟩, bb12⟩ := hA12.out
          obtain ⟨AU, kU, rfl⟩ := own_slice oR.uses
          have u0 := UB12.out.cell 0
          have u1 := UB12.out.cell 1
          have C2 := oB.cell 2
          have F2 := oB.frozen 2
          simp only [obCells, List.set_cons_zero, List.set_cons_succ, List.setIfInBounds_toArray, List.getElem?_toArray, List.getElem?_cons_zero, List.getElem?_cons_succ] at u0 u1 C2
          have oBh := Lib.hid oB
          have oRh := Lib.hid oR
          have oDh := Lib.hid oD
          have oIh := Lib.hid oI
          have bb := Lib.hid bb12
          clear oB oR oD oI bb12 hA12
          refine wp_region_lit ?_
          refine wpList_plain rfl (fun K6 hK6 => ?_)
          go_simp
          refine hK6 _ _ ?_
          clear hK6 K6
          refine wpList_plain rfl (fun K6 hK6 => ?_)
          go_simp
          refine hK6 _ _ ?_
          clear hK6 K6
          refine wpList_plain rfl (fun K6 hK6 => ?_)
          go_simp
          refine hK6 _ _ ?_
          clear hK6 K6
          refine wpList_plain rfl (fun K6 hK6 => ?_)
          go_simp
          refine hK6 _ _ ?_
          clear hK6 K6
          have hul : us.length ≤ 64 := by have h1 := hI.out.1; have h2 := n3.out.2; omega
          obtain ⟨i0, hi0, hz0, hz1, hz2⟩ := info_parts tk_used_info
          obtain ⟨pB, pR, pI⟩ := decParts_alloc (o := ⟨nm, key, us, [], 0, [], [], [], 0, 0⟩) (B := B) (dv := []) oBh.out oRh.out oIh.out (.cells #[.string (txt tx), .int .u32 kx] 78)
          have hwB := Lib.hid (Nat.le_of_lt oIh.out.lt)
          have hsB : B ≤ (w12.alloc (.cells #[.string (txt tx), .int .u32 kx] 78)).heap.size := Nat.le_of_lt pI.lt
          refine wpList_append_own _ rfl (.tmp 52) (.tmp 54) 44 rfl B 78 i0 _ 2 24 Try.underlying44 hi0 hz0 hz1 hz2 rfl (by omega) (.slice AU us.length kU) us.length (us.flatMap useCells) rfl pR.uses ⟨w12.heap.size, 0, none⟩ 1 1 [.string (txt tx), .int .u32 kx] rfl rfl (tk_news2 w12 _ _ _) (by simp [Value.oneCell']) (by simp only [maxLen]; omega) (by omega) hsB ?_
          intro v' w13 ho hg _
          obtain ⟨A9, k9, rfl⟩ := own_slice ho
          obtain ⟨c9, f9, hAn, hbn⟩ := DecAt.grow_uses (o := ⟨nm, key, us, [], 0, [], [], [], 0, 0⟩) (dv := []) pB pR oDh.out pI hobh.out hsB (tx, kx) ho hg
          have hAnh := Lib.hid hAn
          have hbnh := Lib.hid hbn
          clear hAn hbn pB pR pI ho hg
          refine wpList_plain rfl (fun K6 hK6 => ?_)
          go_simp
          refine hK6 _ _ ?_
          clear hK6 K6
          refine wpList_plain rfl (fun K6 hK6 => ?_)
          go_simp
          refine hK6 _ _ ?_
          clear hK6 K6
          generalize w13.setCell ⟨ob, 2, none⟩ (.slice A9 (us.length + 1) k9) = wz at *
          clear c9 f9
          go_wp2_with fail
          obtain ⟨i1, i2, i3, i4, i5⟩ := hI.out
          refine ⟨⟨k + 1, us ++ [(tx, kx)], sb, by go_num, by omega, Lib.hid ⟨by rw [List.length_append, i1]; rfl, took_snoc i2 (took_use q1.out q2.out), fun x hx => ?_, hAnh.out, i5.trans ((bb.out.alloc hwB.out _).trans hbnh.out)⟩⟩, by simp [intOf]; omega⟩
          rcases List.mem_append.1 hx with hx | hx
          · exact i3 x hx
          · rw [List.mem_singleton.1 hx]; exact ⟨q4.out, q5.out⟩
      · go_wp2_with fail
        go_meet
        obtain ⟨i1, i2, i3, i4, i5⟩ := hI.out
        have hkn : k = nu.toNat := by omega
        exact ⟨us, st, Lib.hid ⟨hkn ▸ i2, i3, i4, i5⟩⟩
  case rest =>
    obtain ⟨us, st5, hC⟩ := hcut
    have T4 := Lib.hid hC.out.1
    have b4 := Lib.hid hC.out.2.1
    have hAc := Lib.hid hC.out.2.2.1
    have hKc := Lib.hid hC.out.2.2.2
    clear hC hA7h hK7h
    have CN := Lib.hid (rf_count B s st5 64 wc hAc.out.rdis hss.out (by decide))
    go_wp2_with fail
    refine CN.out.mono ?_
    rintro e w21 ⟨nd, st6, rfl, h1, h2, h3, h4⟩
    obtain ⟨hAx, hbx⟩ := hAc.out.rd h2 h3 (Nat.le_refl _)
    have T5 := Lib.hid h1
    have n5 := Lib.hid h4
    have hKc := Lib.hid (hKc.out.trans hbx)
    clear hAc
    have hAc := Lib.hid hAx
    clear h1 h2 h3 h4 CN hAx hbx
    go_upto_block 2 with fail
    go_cut [9, 10, 11, 12, 13] from 59 to 102 (fun r9 r10 r11 r12 r13 wx => ∃ (dv : List DV) (st7 : Lft), RowKit.Hid (Took (many (rDesc true) nd.toNat) st6 (dv.map (·.1)) st7 ∧ (∀ d ∈ dv, nOk d.1.1 ∧ ∀ e ∈ d.1.2, nOk e.1 ∧ nOk e.2) ∧ DecAt B ob B s wx ⟨nm, key, us, dv.map (·.1), 0, [], [], [], 0, 0⟩ dv st7 ∧ Below B W0 wx))
    case first =>
      go_wp2_with fail
      go_loopw [9] (fun i wr => ∃ (k : Nat) (dv : List DV) (st : Lft), i = .int .i64 k ∧ k ≤ nd.toNat ∧ RowKit.Hid (dv.length = k ∧ Took (many (rDesc true) k) st6 (dv.map (·.1)) st ∧ (∀ d ∈ dv, nOk d.1.1 ∧ ∀ e ∈ d.1.2, nOk e.1 ∧ nOk e.2) ∧ DecAt B ob B s wr ⟨nm, key, us, dv.map (·.1), 0, [], [], [], 0, 0⟩ dv st ∧ Below B W0 wr)) (fun i _ => nd.toNat - (intOf i).toNat)
      case atStart => exact ⟨0, [], st6, rfl, by omega, Lib.hid ⟨rfl, took_zero _ _, fun x hx => absurd hx (by simp), hAc.out, hKc.out⟩⟩
      case round =>
        obtain ⟨k, dv, st, rfl, hk, hI⟩ := hrel
        have BD := Lib.hid (rf_bad B s st wr hI.out.2.2.2.1.rdis)
        have hnb := n5.out
        by_cases hlt : (k : Int) < nd
        · cases st with
          | none =>
            go_wp2_with fail
            refine BD.out.mono ?_
            rintro e w8 ⟨rfl, rfl⟩
            go_wp2_with fail
            go_meet
            obtain ⟨i1, i2, i3, i4, i5⟩ := hI.out
            exact ⟨dv, none, Lib.hid ⟨took_more hk i2, i3, i4, i5⟩⟩
          | some r =>
            go_wp2_with fail
            refine BD.out.mono ?_
            rintro e w8 ⟨rfl, rfl⟩
            generalize wr = wa at *
            have RT := Lib.hid (rf_num B s (some r) wa hI.out.2.2.2.1.rdis hss.out)
            clear BD
            go_upto_region 19 with fail
            go_wp2_with fail
            refine RT.out.mono ?_
            rintro e w9 ⟨n0, sa, rfl, h1, h2, h3, h4⟩
            have hdbA := Lib.hid (Blk.new w9 76 #[.int .i64 n0, .slice none 0 0])
            have hKA := Lib.hid (RdK.alloc h3 (.cells #[.int .i64 n0, .slice none 0 0] 76))
            have hRA := Lib.hid (h2.below ((Below.refl w9.heap.size w9).alloc (Nat.le_refl _) (.cells #[.int .i64 n0, .slice none 0 0] 76)))
            have hdbh : RowKit.Hid (wa.heap.size ≤ w9.heap.size) := Lib.hid h3.size
            have D1 := Lib.hid h1
            have D4 := Lib.hid h4
            clear h1 h2 h3 h4 RT
            go_upto_region 20 with fail
            generalize w9.heap.size = db at *
            generalize w9.alloc (.cells #[.int .i64 n0, .slice none 0 0] 76) = w10 at *
            have CN := Lib.hid (rf_count B s sa 5 w10 hRA.out hss.out (by decide))
            go_wp2_with fail
            refine CN.out.mono ?_
            rintro e w11 ⟨nx, stA, rfl, h1, h2, h3, h4⟩
            have hdb2h := Lib.hid (hdbA.out.keepB (KeepB.rd (bad := fun t => t == rfT) hRA.out h3 (by decide)) (by decide))
            have hKA2 := Lib.hid (hKA.out.trans h3)
            have hR2h := Lib.hid h2
            have D2 := Lib.hid h1
            have n6 := Lib.hid h4
            clear h1 h2 h3 h4 CN hdbA hKA hRA
            go_upto_block 4 with fail
            go_cut [12, 13] from 74 to 96 (fun r12 r13 wx => ∃ (l : List (Int × Int)) (v : Value) (stB : Lft), RowKit.Hid (Took (many rExt nx.toNat) stA l stB ∧ (∀ e ∈ l, nOk e.1 ∧ nOk e.2) ∧ RdK B wa wx ∧ Blk wx db 76 #[.int .i64 n0, v] ∧ wx.ownsRow wa.heap.size 86 2 v l.length (l.flatMap extCells) ∧ RdIs rfT wx B s stB))
            case first =>
              go_wp2_with fail
              go_loopw [12] (fun i wr => ∃ (k2 : Nat) (l : List (Int × Int)) (v : Value) (st : Lft), i = .int .i64 k2 ∧ k2 ≤ nx.toNat ∧ RowKit.Hid (l.length = k2 ∧ Took (many rExt k2) stA l st ∧ (∀ e ∈ l, nOk e.1 ∧ nOk e.2) ∧ RdK B wa wr ∧ Blk wr db 76 #[.int .i64 n0, v] ∧ wr.ownsRow wa.heap.size 86 2 v l.length (l.flatMap extCells) ∧ RdIs rfT wr B s st)) (fun i _ => nx.toNat - (intOf i).toNat)
              case atStart => exact ⟨0, [], .slice none 0 0, stA, rfl, by omega, Lib.hid ⟨rfl, took_zero _ _, fun x hx => absurd hx (by simp), hKA2.out, hdb2h.out, World.ownsRow_nil _ _ _ _, hR2h.out⟩⟩
              case round =>
                obtain ⟨k2, l, v, st, rfl, hk2, hJ⟩ := hrel
                have BD := Lib.hid (rf_bad B s st wr hJ.out.2.2.2.2.2.2)
                have hnb2 := n6.out
                by_cases hlt2 : (k2 : Int) < nx
                · cases st with
                  | none =>
                    go_wp2_with fail
                    refine BD.out.mono ?_
                    rintro e w8 ⟨rfl, rfl⟩
                    go_wp2_with fail
                    go_meet
                    obtain ⟨j1, j2, j3, j4, j5, j6, j7⟩ := hJ.out
                    exact ⟨l, v, none, Lib.hid ⟨took_more hk2 j2, j3, j4, j5, j6, j7⟩⟩
                  | some r2 =>
                    go_wp2_with fail
                    refine BD.out.mono ?_
                    rintro e w8 ⟨rfl, rfl⟩
                    obtain ⟨j1, j2, j3, j4, j5, j6, j7⟩ := hJ.out
                    have hll : l.length ≤ 64 := by omega
                    have J1 := Lib.hid j1
                    have RT := Lib.hid (rf_num B s (some r2) wr j7 hss.out)
                    have J2 := Lib.hid j2
                    have J3 := Lib.hid j3
                    have J4 := Lib.hid j4
                    have J5 := Lib.hid j5
                    have J6 := Lib.hid j6
                    have J7 := Lib.hid j7
                    clear j1 j2 j3 j4 j5 j6 j7 BD hJ
                    go_upto_region 24 with fail
                    go_wp2_with fail
                    refine RT.out.mono ?_
                    rintro e w9 ⟨xa, sa, rfl, h1, h2, h3, h4⟩
                    have KB1 := KeepB.rd (bad := fun t => t == rfT) J7.out h3 (by decide)
                    have hdb1 := J5.out.keepB KB1 (by decide)
                    have hown1 := row_keepB J6.out KB1 (by decide)
                    have hK1 := J4.out.trans h3
                    have hneU : v.ownBlock ≠ some w9.heap.size := fun h => by have := (hown1.lt _ h).2; omega
                    have hneU := Lib.hid hneU
                    have hszh := Lib.hid (show wa.heap.size ≤ w9.heap.size from hK1.size)
                    have hdbA := Lib.hid (hdb1.alloc (.cells #[.int .i64 xa, .int .i64 0] 86))
                    have hqA := Lib.hid (Blk.new w9 86 #[.int .i64 xa, .int .i64 0])
                    have hownA := Lib.hid (hown1.alloc (.cells #[.int .i64 xa, .int .i64 0] 86))
                    have hKA := Lib.hid (hK1.alloc (.cells #[.int .i64 xa, .int .i64 0] 86))
                    have hRA := Lib.hid (h2.below ((Below.refl w9.heap.size w9).alloc (Nat.le_refl _) (.cells #[.int .i64 xa, .int .i64 0] 86)))
                    have Y1 := Lib.hid h1
                    have Y2 := Lib.hid h4
                    clear KB1 hdb1 hown1 hK1 h1 h2 h3 h4 RT
                    go_upto_region 25 with fail
                    generalize w9.heap.size = eb at *
                    generalize w9.alloc (.cells #[.int .i64 xa, .int .i64 0] 86) = w10 at *
                    have RW := Lib.hid (rf_num B s sa w10 hRA.out hss.out)
                    go_wp2_with fail
                    refine RW.out.mono ?_
                    rintro e w11 ⟨xb, sb, rfl, y1, y2, y3, y4⟩
                    have KB2 := KeepB.rd (bad := fun t => t == rfT) hRA.out y3 (by decide)
                    have hdb1 := hdbA.out.keepB KB2 (by decide)
                    have hq1 := hqA.out.keepB KB2 (by decide)
                    have hown1 := row_keepB hownA.out KB2 (by decide)
                    have hK1 := hKA.out.trans y3
                    have u1 : w11.cell? ⟨eb, 1, none⟩ = some (.int .i64 0) := hq1.cell 1
                    have fu : w11.frozen? ⟨eb, 1, none⟩ = false := hq1.frozen 1
                    have KS := (KeepB.refl (fun t => t == 86) w11).setCell hq1 (i := 1) (by decide) (.int .i64 xb)
                    clear hdbA hownA hKA hRA RW hqA
                    have hdbA := Lib.hid (hdb1.keepB KS (by decide))
                    have hqA := Lib.hid (hq1.set_ 1 (.int .i64 xb))
                    have hownA := Lib.hid (ownsRow_setCell_other (a := ⟨eb, 1, none⟩) hown1 hneU.out (.int .i64 xb))
                    have hKA := Lib.hid (hK1.far (g := eb) (i := 1) hszh.out (.int .i64 xb))
                    have hRA := Lib.hid (y2.keepT KS (by decide))
                    have y1 := Lib.hid y1
                    have y4 := Lib.hid y4
                    clear hdb1 hq1 hown1 hK1 KB2 KS y2 y3
                    go_upto_region 26 with fail
                    clear u1 fu
                    generalize w11.setCell ⟨eb, 1, none⟩ (.int .i64 xb) = wA at *
                    have hqA : RowKit.Hid (Blk wA eb 86 #[.int .i64 xa, .int .i64 xb]) := hqA
                    have q0 : wA.cell? ⟨eb, 0, none⟩ = some (.int .i64 xa) := hqA.out.cell 0
                    have q1 : wA.cell? ⟨eb, 1, none⟩ = some (.int .i64 xb) := hqA.out.cell 1
                    have e1 : wA.cell? ⟨db, 1, none⟩ = some v := hdbA.out.cell 1
                    have hszA : wa.heap.size ≤ wA.heap.size := hKA.out.size
                    have hdb2 := Lib.hid (hdbA.out.alloc (.cells #[.int .i64 xa, .int .i64 xb] 86))
                    have hown2 := Lib.hid (hownA.out.alloc (.cells #[.int .i64 xa, .int .i64 xb] 86))
                    have hK2 := Lib.hid (hKA.out.alloc (.cells #[.int .i64 xa, .int .i64 xb] 86))
                    have hR2 := Lib.hid (hRA.out.below ((Below.refl wA.heap.size wA).alloc (Nat.le_refl _) (.cells #[.int .i64 xa, .int .i64 xb] 86)))
                    obtain ⟨i0, hi0, hz0, hz1, hz2⟩ := info_parts tk_ext_info
                    refine wp_region_lit ?_
                    refine wpList_plain rfl (fun K6 hK6 => ?_)
                    go_simp
                    refine hK6 _ _ ?_
                    clear hK6 K6
                    refine wpList_plain rfl (fun K6 hK6 => ?_)
                    go_simp
                    refine hK6 _ _ ?_
                    clear hK6 K6
                    refine wpList_plain rfl (fun K6 hK6 => ?_)
                    go_simp
                    refine hK6 _ _ ?_
                    clear hK6 K6
                    refine wpList_plain rfl (fun K6 hK6 => ?_)
                    go_simp
                    refine hK6 _ _ ?_
                    clear hK6 K6
                    refine wpList_append_own _ rfl (.tmp 91) (.tmp 93) 74 rfl wa.heap.size 86 i0 _ 2 16 Try.underlying74 hi0 hz0 hz1 hz2 rfl (by omega) v l.length (l.flatMap extCells) rfl hown2.out ⟨wA.heap.size, 0, none⟩ 1 1 [.int .i64 xa, .int .i64 xb] rfl rfl (tk_news2 wA _ _ _) (by simp [Value.oneCell']) (by simp only [maxLen]; omega) (by omega) (by simp; omega) ?_
                    intro v' w3 ho3 hg3 _
                    obtain ⟨A3, k3, rfl⟩ := own_slice ho3
                    have KG := KeepB.grown (bad := fun t => t == 86) hown2.out hg3 (by decide)
                    have hdb3 := hdb2.out.keepB KG (by decide)
                    have E1 : w3.cell? ⟨db, 1, none⟩ = some v := hdb3.cell 1
                    have F1 : w3.frozen? ⟨db, 1, none⟩ = false := hdb3.frozen 1
                    have hR3 := Lib.hid (hR2.out.keepT KG (by decide))
                    have hK3 := Lib.hid (hK2.out.grown hown2.out hg3)
                    have hdb3 := Lib.hid hdb3
                    have ho3 := Lib.hid ho3
                    clear KG hg3 q0 q1 e1 hszA
                    refine wpList_plain rfl (fun K6 hK6 => ?_)
                    go_simp
                    refine hK6 _ _ ?_
                    clear hK6 K6
                    refine wpList_plain rfl (fun K6 hK6 => ?_)
                    go_simp
                    refine hK6 _ _ ?_
                    clear hK6 K6
                    have KS := (KeepB.refl (fun t => t == 76) w3).setCell hdb3.out (i := 1) (by decide) (.slice A3 (l.length + 1) k3)
                    have zdb := Lib.hid (hdb3.out.set_ 1 (.slice A3 (l.length + 1) k3))
                    have zR := Lib.hid (hR3.out.keepT KS (by decide))
                    have zK := Lib.hid (hK3.out.far (i := 1) hdbh.out (.slice A3 (l.length + 1) k3))
                    have zo := Lib.hid (row_keepB ho3.out KS (by decide))
                    clear KS E1 F1
                    generalize w3.setCell ⟨db, 1, none⟩ (.slice A3 (l.length + 1) k3) = wz at *
                    go_wp2_with fail
                    refine ⟨⟨k2 + 1, l ++ [(xa, xb)], .slice A3 (l.length + 1) k3, sb, by go_num, by omega, Lib.hid ⟨by rw [List.length_append, J1.out]; rfl, took_snoc J2.out (took_ext Y1.out y1.out), fun e he => ?_, zK.out, zdb.out, by rw [List.length_append, flat_snoc]; exact zo.out, zR.out⟩⟩, by simp [intOf]; omega⟩
                    rcases List.mem_append.1 he with he | he
                    · exact J3.out e he
                    · rw [List.mem_singleton.1 he]; exact ⟨Y2.out, y4.out⟩
                · go_wp2_with fail
                  go_meet
                  obtain ⟨j1, j2, j3, j4, j5, j6, j7⟩ := hJ.out
                  have hkn : k2 = nx.toNat := by omega
                  exact ⟨l, v, st, Lib.hid ⟨hkn ▸ j2, j3, j4, j5, j6, j7⟩⟩
            case rest =>
              obtain ⟨l, v, stB, hC⟩ := hcut
              obtain ⟨c1, c2, c3, c4, c5, c6⟩ := hC.out
              have hdesc := Lib.hid (took_desc (b := true) D1.out D2.out c1)
              have hbd := Lib.hid c2
              have hex := Lib.hid (ERowT.of_own c5)
              obtain ⟨Av, kv, rfl⟩ := own_slice c5
              obtain ⟨hAx, hbx⟩ := hI.out.2.2.2.1.rd c6 c3 (Nat.le_refl _)
              have bb := Lib.hid hbx
              obtain ⟨vU, vD, vC, vE, oB, oR, oD, oI⟩ := hAx
              obtain ⟨AU, kU, rfl⟩ := own_slice oR.descs
              have u0 := c4.cell 0
              have u1 := c4.cell 1
              have C2 := oB.cell 3
              have F2 := oB.frozen 3
              simp only [obCells, List.getElem?_toArray, List.getElem?_cons_zero, List.getElem?_cons_succ] at u0 u1 C2
              have oBh := Lib.hid oB
              have oRh := Lib.hid oR
              have oDh := Lib.hid oD
              have oIh := Lib.hid oI
              clear oB oR oD oI hC c1 c2 c3 c4 c5 c6 hbx
              go_upto_region 27 with fail
              refine wp_region_lit ?_
              refine wpList_plain rfl (fun K6 hK6 => ?_)
              go_simp
              refine hK6 _ _ ?_
              clear hK6 K6
              refine wpList_plain rfl (fun K6 hK6 => ?_)
              go_simp
              refine hK6 _ _ ?_
              clear hK6 K6
              refine wpList_plain rfl (fun K6 hK6 => ?_)
              go_simp
              refine hK6 _ _ ?_
              clear hK6 K6
              refine wpList_plain rfl (fun K6 hK6 => ?_)
              go_simp
              refine hK6 _ _ ?_
              clear hK6 K6
              have hul : dv.length ≤ 64 := by have h1 := hI.out.1; have h2 := n5.out.2; omega
              obtain ⟨i0, hi0, hz0, hz1, hz2⟩ := info_parts tk_desc_info
              obtain ⟨pB, pR, pI⟩ := decParts_alloc (o := ⟨nm, key, us, dv.map (·.1), 0, [], [], [], 0, 0⟩) (B := B) (dv := dv) oBh.out oRh.out oIh.out (.cells #[.int .i64 n0, .slice Av l.length kv] 76)
              have pX := Lib.hid (hex.out.keepB ((KeepB.refl (fun _ => false) wc).alloc (.cells #[.int .i64 n0, .slice Av l.length kv] 76)) rfl)
              have hwB := Lib.hid (Nat.le_of_lt oIh.out.lt)
              have hsB : B ≤ (wc.alloc (.cells #[.int .i64 n0, .slice Av l.length kv] 76)).heap.size := Nat.le_of_lt pI.lt
              refine wpList_append_own _ rfl (.tmp 97) (.tmp 99) 45 rfl B 76 i0 _ 2 32 Try.underlying45 hi0 hz0 hz1 hz2 rfl (by omega) (.slice AU dv.length kU) dv.length (dv.flatMap dvCells) rfl pR.descs ⟨wc.heap.size, 0, none⟩ 1 1 [.int .i64 n0, .slice Av l.length kv] rfl rfl (tk_news2 wc _ _ _) (by simp [Value.oneCell']) (by simp only [maxLen]; omega) (by omega) hsB ?_
              intro v' w33 ho hg _
              obtain ⟨A9, k9, rfl⟩ := own_slice ho
              obtain ⟨c9, f9, hAn, hbn⟩ := DecAt.grow_descs (o := ⟨nm, key, us, dv.map (·.1), 0, [], [], [], 0, 0⟩) (dv := dv) pB pR oDh.out pI hobh.out hsB (n0, l) (.slice Av l.length kv) pX.out ho hg
              have hAnh := Lib.hid hAn
              have hbnh := Lib.hid hbn
              clear hAn hbn pB pR pI ho hg
              refine wpList_plain rfl (fun K6 hK6 => ?_)
              go_simp
              refine hK6 _ _ ?_
              clear hK6 K6
              refine wpList_plain rfl (fun K6 hK6 => ?_)
              go_simp
              refine hK6 _ _ ?_
              clear hK6 K6
              generalize w33.setCell ⟨ob, 3, none⟩ (.slice A9 (dv.length + 1) k9) = wz at *
              clear c9 f9
              go_wp2_with fail
              obtain ⟨i1, i2, i3, i4, i5⟩ := hI.out
              refine ⟨⟨k + 1, dv ++ [((n0, l), .slice Av l.length kv)], stB, by go_num, by omega, Lib.hid ⟨by rw [List.length_append, i1]; rfl, by rw [List.map_append]; exact took_snoc i2 hdesc.out, fun d hd => ?_, by rw [List.map_append]; exact hAnh.out, i5.trans ((bb.out.alloc hwB.out _).trans hbnh.out)⟩⟩, by simp [intOf]; omega⟩
              rcases List.mem_append.1 hd with hd | hd
              · exact i3 d hd
              · rw [List.mem_singleton.1 hd]; exact ⟨D4.out, hbd.out⟩
        · go_wp2_with fail
          go_meet
          obtain ⟨i1, i2, i3, i4, i5⟩ := hI.out
          have hkn : k = nd.toNat := by omega
          exact ⟨dv, st, Lib.hid ⟨hkn ▸ i2, i3, i4, i5⟩⟩
    case rest =>
      obtain ⟨dv, st7, hC⟩ := hcut
      have T6 := Lib.hid hC.out.1
      have b6 := Lib.hid hC.out.2.1
      clear hAc hKc
      have hAc := Lib.hid hC.out.2.2.1
      have hKc := Lib.hid hC.out.2.2.2
      clear hC
      have RT := Lib.hid (rf_num B s st7 wc hAc.out.rdis hss.out)
      go_wp2_with fail
      refine RT.out.mono ?_
      rintro e w22 ⟨da, st8, rfl, h1, h2, h3, h4⟩
      obtain ⟨hAx, hbx⟩ := hAc.out.rd h2 h3 (Nat.le_refl _)
      obtain ⟨⟨x1, e1⟩, f1⟩ := hAx.has 4 (by decide)
      have hAy := Lib.hid (hAx.set_ (o' := ⟨nm, key, us, dv.map (·.1), da, [], [], [], 0, 0⟩) hobh.out 4 (.int .i64 da) (fun _ _ _ _ => rfl) rfl rfl rfl rfl)
      have hKc := Lib.hid (hKc.out.trans hbx)
      have T7 := Lib.hid h1
      have b7 := Lib.hid h4
      clear h1 h2 h3 h4 RT hAc hAx hbx
      go_upto_region 29 with fail
      obtain ⟨hAx, hbx⟩ := hAy.out
      generalize w22.setCell ⟨ob, 4, none⟩ (.int .i64 da) = w23 at *
      have hAc := Lib.hid hAx
      have hKc := Lib.hid (hKc.out.trans hbx)
      clear hAy hAx hbx e1 f1
      have CN := Lib.hid (rf_count B s st8 32768 w23 hAc.out.rdis hss.out (by decide))
      go_wp2_with fail
      refine CN.out.mono ?_
      rintro e w24 ⟨ns, st9, rfl, h1, h2, h3, h4⟩
      obtain ⟨hAx, hbx⟩ := hAc.out.rd h2 h3 (Nat.le_refl _)
      have T8 := Lib.hid h1
      have n8 := Lib.hid h4
      have hKc := Lib.hid (hKc.out.trans hbx)
      clear hAc
      have hAc := Lib.hid hAx
      clear h1 h2 h3 h4 CN hAx hbx
      have RT := Lib.hid (rf_raw B s st9 ns w24 (hAc.out.rdis) hss.out ⟨by have := n8.out; omega, by have := n8.out; omega⟩)
      go_wp2_with fail
      refine RT.out.mono ?_
      rintro e w25 ⟨ss, st10, rfl, h1, h2, h3, h4⟩
      obtain ⟨hAx, hbx⟩ := hAc.out.rd h2 h3 (Nat.le_refl _)
      obtain ⟨⟨x1, e1⟩, f1⟩ := hAx.has 5 (by decide)
      have hAy := Lib.hid (hAx.set_ (o' := ⟨nm, key, us, dv.map (·.1), da, ss, [], [], 0, 0⟩) hobh.out 5 (.string (txt ss)) (fun _ _ _ _ => rfl) rfl rfl rfl rfl)
      have hKc := Lib.hid (hKc.out.trans hbx)
      have T9 := Lib.hid h1
      have b9 := Lib.hid h4
      clear h1 h2 h3 h4 RT hAc hAx hbx
      unfold tVal
      go_upto_region 30 with fail
      obtain ⟨hAx, hbx⟩ := hAy.out
      generalize w25.setCell ⟨ob, 5, none⟩ (.string (txt ss)) = w26 at *
      have hAc := Lib.hid hAx
      have hKc := Lib.hid (hKc.out.trans hbx)
      clear hAy hAx hbx e1 f1
      have CN := Lib.hid (rf_count B s st10 8192 w26 hAc.out.rdis hss.out (by decide))
      go_wp2_with fail
      refine CN.out.mono ?_
      rintro e w27 ⟨nc, st11, rfl, h1, h2, h3, h4⟩
      obtain ⟨hAx, hbx⟩ := hAc.out.rd h2 h3 (Nat.le_refl _)
      have T10 := Lib.hid h1
      have n10 := Lib.hid h4
      have hKc := Lib.hid (hKc.out.trans hbx)
      clear hAc
      have hAc := Lib.hid hAx
      clear h1 h2 h3 h4 CN hAx hbx
      go_upto_block 6 with fail
      go_cut [14] from 112 to 129 (fun r14 wx => ∃ (co : List Int) (st' : Lft), RowKit.Hid (Took (many rWord nc.toNat) st11 co st' ∧ (∀ x ∈ co, wOk x) ∧ DecAt B ob B s wx ⟨nm, key, us, dv.map (·.1), da, ss, co, [], 0, 0⟩ dv st' ∧ Below B W0 wx))
      case first =>
        go_wp2_with fail
        go_loopw [14] (fun i wr => ∃ (k : Nat) (co : List Int) (st : Lft), i = .int .i64 k ∧ k ≤ nc.toNat ∧ RowKit.Hid (co.length = k ∧ Took (many rWord k) st11 co st ∧ (∀ x ∈ co, wOk x) ∧ DecAt B ob B s wr ⟨nm, key, us, dv.map (·.1), da, ss, co, [], 0, 0⟩ dv st ∧ Below B W0 wr)) (fun i _ => nc.toNat - (intOf i).toNat)
        case atStart => exact ⟨0, [], st11, rfl, by omega, Lib.hid ⟨rfl, took_zero _ _, fun x hx => absurd hx (by simp), hAc.out, hKc.out⟩⟩
        case round =>
          obtain ⟨k, co, st, rfl, hk, hI⟩ := hrel
          have BD := Lib.hid (rf_bad B s st wr hI.out.2.2.2.1.rdis)
          have hnb := n10.out
          by_cases hlt : (k : Int) < nc
          · cases st with
            | none =>
              go_wp2_with fail
              refine BD.out.mono ?_
              rintro e w7 ⟨rfl, rfl⟩
              go_wp2_with fail
              go_meet
              obtain ⟨i1, i2, i3, i4, i5⟩ := hI.out
              exact ⟨co, none, Lib.hid ⟨took_more hk i2, i3, i4, i5⟩⟩
            | some r =>
              go_wp2_with fail
              refine BD.out.mono ?_
              rintro e w7 ⟨rfl, rfl⟩
              clear BD
              obtain ⟨vU, vD, vC, vE, oB, oR, oD, oI⟩ := hI.out.2.2.2.1
              obtain ⟨AC, kC, rfl⟩ := own_slice oR.code
              have RT := Lib.hid (rf_word B s (some r) wr.drew (oI.drewN 1) hss.out)
              have S0 : wr.drew.cell? ⟨ob, 6, none⟩ = some (.slice AC co.length kC) ∧ wr.drew.frozen? ⟨ob, 6, none⟩ = false := ⟨oB.cell 6, oB.frozen 6⟩
              have hul : co.length ≤ 9000 := by have h1 := hI.out.1; omega
              have oBh := Lib.hid oB
              have oRh := Lib.hid oR
              have oDh := Lib.hid oD
              have oIh := Lib.hid oI
              clear oB oR oD oI
              go_upto_region 34 with fail
              refine wp_region_F (fun w' => w'.cell? ⟨ob, 6, none⟩ = some (.slice AC co.length kC) ∧ w'.frozen? ⟨ob, 6, none⟩ = false) 7 (by kernel_rfl) ?_
              refine wpAnyF_takeL 0 (v := ?_) rfl (by kernel_rfl) (by kernel_rfl) (by kernel_rfl) (by kernel_rfl) (fun _ _ _ h => h) (by rfl) ?_ (by assumption) ?_
              rotate_left 1
              · (intro wS hSw; (try dsimp only at hSw); obtain ⟨hSa, hSb⟩ := hSw; go_simp; first | done | with_reducible rfl)
              try simp only [Act.put, List.setIfInBounds_toArray, List.set_cons_zero, List.set_cons_succ]
              refine wpAnyF_takeL 1 (v := ?_) rfl (by kernel_rfl) (by kernel_rfl) (by kernel_rfl) (by kernel_rfl) (fun _ _ _ h => h) (by rfl) ?_ (by assumption) ?_
              rotate_left 1
              · (intro wS hSw; (try dsimp only at hSw); obtain ⟨hSa, hSb⟩ := hSw; go_simp; first | done | with_reducible rfl)
              try simp only [Act.put, List.setIfInBounds_toArray, List.set_cons_zero, List.set_cons_succ]
              refine wpAnyF_takeL 2 (v := ?_) rfl (by kernel_rfl) (by kernel_rfl) (by kernel_rfl) (by kernel_rfl) (fun _ _ _ h => h) (by rfl) ?_ (by assumption) ?_
              rotate_left 1
              · (intro wS hSw; (try dsimp only at hSw); obtain ⟨hSa, hSb⟩ := hSw; go_simp; first | done | with_reducible rfl)
              try simp only [Act.put, List.setIfInBounds_toArray, List.set_cons_zero, List.set_cons_succ]
              refine wpAnyF_ready [3] (by kernel_rfl) (by simp) (ReadyF.consL rfl (fun K hK => ?_) ReadyF.nil)
              go_simp
              refine RT.out.mono ?_
              rintro e w8 ⟨x, sb, rfl, h1, h2, h3, h4⟩
              have KB := ((KeepB.refl (fun t => t == rfT) wr).drew).trans (KeepB.rd (bad := fun t => t == rfT) (oIh.out.drewN 1) h3 (by decide))
              have pB := oBh.out.keepB KB (by decide)
              have pR := oRh.out.keepB KB ⟨by decide, by decide, by decide, by decide, by decide⟩
              have bb := Lib.hid ((Below.refl B wr).drew.trans (h3.to_below (Nat.le_refl _) oIh.out.lt))
              have hwB := Lib.hid (Nat.le_of_lt h2.lt)
              have S1 : w8.cell? ⟨ob, 6, none⟩ = some (.slice AC co.length kC) ∧ w8.frozen? ⟨ob, 6, none⟩ = false := ⟨pB.cell 6, pB.frozen 6⟩
              refine hK.out _ _ (fun _ => S1) ?_
              clear hK K S0
              try simp only [Act.put, List.setIfInBounds_toArray, List.set_cons_zero, List.set_cons_succ]
              have q1 := Lib.hid h1
              have q4 := Lib.hid h4
              have pBh := Lib.hid pB
              have pRh := Lib.hid pR
              have pIh := Lib.hid h2
              clear h1 h2 h3 h4 KB pB pR
              refine wpAnyF_ready [4] (by kernel_rfl) (by simp) (ReadyF.consL rfl (fun K hK => ?_) ReadyF.nil)
              go_simp
              obtain ⟨gB, gR, gI⟩ := decParts_alloc (o := ⟨nm, key, us, dv.map (·.1), da, ss, co, [], 0, 0⟩) (B := B) (dv := dv) pBh.out pRh.out pIh.out (.cells #[.int .u32 x] 43)
              have N1 := tk_news1 w8 (.int .u32 x) 43
              have S2 : (w8.alloc (.cells #[.int .u32 x] 43)).cell? ⟨ob, 6, none⟩ = some (.slice AC co.length kC) ∧ (w8.alloc (.cells #[.int .u32 x] 43)).frozen? ⟨ob, 6, none⟩ = false := ⟨gB.cell 6, gB.frozen 6⟩
              refine hK.out _ _ (fun _ => S2) ?_
              clear hK K S1
              try simp only [Act.put, List.setIfInBounds_toArray, List.set_cons_zero, List.set_cons_succ]
              have ba := Lib.hid (bb.out.alloc hwB.out (.cells #[.int .u32 x] 43))
              generalize w8.heap.size = g1 at *
              generalize w8.alloc (.cells #[.int .u32 x] 43) = w10 at *
              have hsB : B ≤ w10.heap.size := Nat.le_of_lt gI.lt
              obtain ⟨i0, hi0, hz0, hz1, hz2⟩ := info_parts tk_u32_info
              refine wpAnyF_ready [5] (by kernel_rfl) (by simp) (ReadyF.consL rfl (fun K hK => ?_) ReadyF.nil)
              refine step_app w10 rfl (.tmp 123) (.tmp 126) 46 rfl B 43 i0 _ 1 4 Try.underlying46 hi0 hz0 hz1 hz2 rfl (by omega) (.slice AC co.length kC) co.length (co.map (Value.int .u32)) rfl gR.code ⟨g1, 0, none⟩ 1 1 [.int .u32 x] rfl rfl N1 (by simp [Value.oneCell']) (by simp only [maxLen]; omega) (by omega) hsB ?_
              intro v' w11 ho hg
              obtain ⟨A9, k9, rfl⟩ := own_slice ho
              obtain ⟨c9, f9, hAn, hbn⟩ := DecAt.grow_code (o := ⟨nm, key, us, dv.map (·.1), da, ss, co, [], 0, 0⟩) (dv := dv) gB gR rfl gI hobh.out hsB x ho hg
              have hAnh := Lib.hid hAn
              have hbnh := Lib.hid hbn
              refine hK.out _ _ (fun _ => ⟨c9, f9⟩) ?_
              clear hK K S2 hAn hbn gB gR gI ho hg N1
              try simp only [Act.put, List.setIfInBounds_toArray, List.set_cons_zero, List.set_cons_succ]
              refine wpAnyF_ready [6] (by kernel_rfl) (by simp) (ReadyF.consL rfl (fun K hK => ?_) ReadyF.nil)
              go_simp
              refine hK.out _ _ (fun _ => ⟨c9, f9⟩) ?_
              clear hK K
              try simp only [Act.put, List.setIfInBounds_toArray, List.set_cons_zero, List.set_cons_succ]
              refine wpAnyF_ready [7] (by kernel_rfl) (by simp) (ReadyF.consL rfl (fun K hK => ?_) ReadyF.nil)
              go_simp
              refine hK.out _ _ (fun h => absurd rfl h) ?_
              clear hK K
              try simp only [Act.put, List.setIfInBounds_toArray, List.set_cons_zero, List.set_cons_succ]
              refine wpAnyF_done (by kernel_rfl) ?_ _
              clear c9 f9
              generalize w11.setCell ⟨ob, 6, none⟩ (.slice A9 (co.length + 1) k9) = wz at *
              go_wp2_with fail
              obtain ⟨i1, i2, i3, i4, i5⟩ := hI.out
              refine ⟨⟨k + 1, co ++ [x], sb, by go_num, by omega, Lib.hid ⟨by rw [List.length_append, i1]; rfl, took_snoc i2 q1.out, fun y hy => ?_, hAnh.out, i5.trans (ba.out.trans hbnh.out)⟩⟩, by simp [intOf]; omega⟩
              rcases List.mem_append.1 hy with hy | hy
              · exact i3 y hy
              · rw [List.mem_singleton.1 hy]; exact q4.out
          · go_wp2_with fail
            go_meet
            obtain ⟨i1, i2, i3, i4, i5⟩ := hI.out
            have hkn : k = nc.toNat := by omega
            exact ⟨co, st, Lib.hid ⟨hkn ▸ i2, i3, i4, i5⟩⟩
      case rest =>
        obtain ⟨co, st12, hC⟩ := hcut
        have T11 := Lib.hid hC.out.1
        have b11 := Lib.hid hC.out.2.1
        clear hAc hKc
        have hAc := Lib.hid hC.out.2.2.1
        have hKc := Lib.hid hC.out.2.2.2
        clear hC
        have CN := Lib.hid (rf_count B s st12 64 wc hAc.out.rdis hss.out (by decide))
        go_wp2_with fail
        refine CN.out.mono ?_
        rintro e w28 ⟨ne, st13, rfl, h1, h2, h3, h4⟩
        obtain ⟨hAx, hbx⟩ := hAc.out.rd h2 h3 (Nat.le_refl _)
        have T12 := Lib.hid h1
        have n12 := Lib.hid h4
        have hKc := Lib.hid (hKc.out.trans hbx)
        clear hAc
        have hAc := Lib.hid hAx
        clear h1 h2 h3 h4 CN hAx hbx
        go_upto_block 8 with fail
        go_cut [15] from 131 to 148 (fun r15 wx => ∃ (en : List Int) (st' : Lft), RowKit.Hid (Took (many rNum ne.toNat) st13 en st' ∧ (∀ x ∈ en, nOk x) ∧ DecAt B ob B s wx ⟨nm, key, us, dv.map (·.1), da, ss, co, en, 0, 0⟩ dv st' ∧ Below B W0 wx))
        case first =>
          go_wp2_with fail
          go_loopw [15] (fun i wr => ∃ (k : Nat) (en : List Int) (st : Lft), i = .int .i64 k ∧ k ≤ ne.toNat ∧ RowKit.Hid (en.length = k ∧ Took (many rNum k) st13 en st ∧ (∀ x ∈ en, nOk x) ∧ DecAt B ob B s wr ⟨nm, key, us, dv.map (·.1), da, ss, co, en, 0, 0⟩ dv st ∧ Below B W0 wr)) (fun i _ => ne.toNat - (intOf i).toNat)
          case atStart => exact ⟨0, [], st13, rfl, by omega, Lib.hid ⟨rfl, took_zero _ _, fun x hx => absurd hx (by simp), hAc.out, hKc.out⟩⟩
          case round =>
            obtain ⟨k, en, st, rfl, hk, hI⟩ := hrel
            have BD := Lib.hid (rf_bad B s st wr hI.out.2.2.2.1.rdis)
            have hnb := n12.out
            by_cases hlt : (k : Int) < ne
            · cases st with
              | none =>
                go_wp2_with fail
                refine BD.out.mono ?_
                rintro e w7 ⟨rfl, rfl⟩
                go_wp2_with fail
                go_meet
                obtain ⟨i1, i2, i3, i4, i5⟩ := hI.out
                exact ⟨en, none, Lib.hid ⟨took_more hk i2, i3, i4, i5⟩⟩
              | some r =>
                go_wp2_with fail
                refine BD.out.mono ?_
                rintro e w7 ⟨rfl, rfl⟩
                clear BD
                obtain ⟨vU, vD, vC, vE, oB, oR, oD, oI⟩ := hI.out.2.2.2.1
                obtain ⟨AC, kC, rfl⟩ := own_slice oR.entries
                have RT := Lib.hid (rf_num B s (some r) wr.drew (oI.drewN 1) hss.out)
                have S0 : wr.drew.cell? ⟨ob, 7, none⟩ = some (.slice AC en.length kC) ∧ wr.drew.frozen? ⟨ob, 7, none⟩ = false := ⟨oB.cell 7, oB.frozen 7⟩
                have hul : en.length ≤ 9000 := by have h1 := hI.out.1; omega
                have oBh := Lib.hid oB
                have oRh := Lib.hid oR
                have oDh := Lib.hid oD
                have oIh := Lib.hid oI
                clear oB oR oD oI
                go_upto_region 39 with fail
                refine wp_region_F (fun w' => w'.cell? ⟨ob, 7, none⟩ = some (.slice AC en.length kC) ∧ w'.frozen? ⟨ob, 7, none⟩ = false) 7 (by kernel_rfl) ?_
                refine wpAnyF_takeL 0 (v := ?_) rfl (by kernel_rfl) (by kernel_rfl) (by kernel_rfl) (by kernel_rfl) (fun _ _ _ h => h) (by rfl) ?_ (by assumption) ?_
                rotate_left 1
                · (intro wS hSw; (try dsimp only at hSw); obtain ⟨hSa, hSb⟩ := hSw; go_simp; first | done | with_reducible rfl)
                try simp only [Act.put, List.setIfInBounds_toArray, List.set_cons_zero, List.set_cons_succ]
                refine wpAnyF_takeL 1 (v := ?_) rfl (by kernel_rfl) (by kernel_rfl) (by kernel_rfl) (by kernel_rfl) (fun _ _ _ h => h) (by rfl) ?_ (by assumption) ?_
                rotate_left 1
                · (intro wS hSw; (try dsimp only at hSw); obtain ⟨hSa, hSb⟩ := hSw; go_simp; first | done | with_reducible rfl)
                try simp only [Act.put, List.setIfInBounds_toArray, List.set_cons_zero, List.set_cons_succ]
                refine wpAnyF_takeL 2 (v := ?_) rfl (by kernel_rfl) (by kernel_rfl) (by kernel_rfl) (by kernel_rfl) (fun _ _ _ h => h) (by rfl) ?_ (by assumption) ?_
                rotate_left 1
                · (intro wS hSw; (try dsimp only at hSw); obtain ⟨hSa, hSb⟩ := hSw; go_simp; first | done | with_reducible rfl)
                try simp only [Act.put, List.setIfInBounds_toArray, List.set_cons_zero, List.set_cons_succ]
                refine wpAnyF_ready [3] (by kernel_rfl) (by simp) (ReadyF.consL rfl (fun K hK => ?_) ReadyF.nil)
                go_simp
                refine RT.out.mono ?_
                rintro e w8 ⟨x, sb, rfl, h1, h2, h3, h4⟩
                have KB := ((KeepB.refl (fun t => t == rfT) wr).drew).trans (KeepB.rd (bad := fun t => t == rfT) (oIh.out.drewN 1) h3 (by decide))
                have pB := oBh.out.keepB KB (by decide)
                have pR := oRh.out.keepB KB ⟨by decide, by decide, by decide, by decide, by decide⟩
                have bb := Lib.hid ((Below.refl B wr).drew.trans (h3.to_below (Nat.le_refl _) oIh.out.lt))
                have hwB := Lib.hid (Nat.le_of_lt h2.lt)
                have S1 : w8.cell? ⟨ob, 7, none⟩ = some (.slice AC en.length kC) ∧ w8.frozen? ⟨ob, 7, none⟩ = false := ⟨pB.cell 7, pB.frozen 7⟩
                refine hK.out _ _ (fun _ => S1) ?_
                clear hK K S0
                try simp only [Act.put, List.setIfInBounds_toArray, List.set_cons_zero, List.set_cons_succ]
                have q1 := Lib.hid h1
                have q4 := Lib.hid h4
                have pBh := Lib.hid pB
                have pRh := Lib.hid pR
                have pIh := Lib.hid h2
                clear h1 h2 h3 h4 KB pB pR
                refine wpAnyF_ready [4] (by kernel_rfl) (by simp) (ReadyF.consL rfl (fun K hK => ?_) ReadyF.nil)
                go_simp
                obtain ⟨gB, gR, gI⟩ := decParts_alloc (o := ⟨nm, key, us, dv.map (·.1), da, ss, co, en, 0, 0⟩) (B := B) (dv := dv) pBh.out pRh.out pIh.out (.cells #[.int .i64 x] 3)
                have N1 := tk_news1 w8 (.int .i64 x) 3
                have S2 : (w8.alloc (.cells #[.int .i64 x] 3)).cell? ⟨ob, 7, none⟩ = some (.slice AC en.length kC) ∧ (w8.alloc (.cells #[.int .i64 x] 3)).frozen? ⟨ob, 7, none⟩ = false := ⟨gB.cell 7, gB.frozen 7⟩
                refine hK.out _ _ (fun _ => S2) ?_
                clear hK K S1
                try simp only [Act.put, List.setIfInBounds_toArray, List.set_cons_zero, List.set_cons_succ]
                have ba := Lib.hid (bb.out.alloc hwB.out (.cells #[.int .i64 x] 3))
                generalize w8.heap.size = g1 at *
                generalize w8.alloc (.cells #[.int .i64 x] 3) = w10 at *
                have hsB : B ≤ w10.heap.size := Nat.le_of_lt gI.lt
                obtain ⟨i0, hi0, hz0, hz1, hz2⟩ := info_parts tk_int_info
                refine wpAnyF_ready [5] (by kernel_rfl) (by simp) (ReadyF.consL rfl (fun K hK => ?_) ReadyF.nil)
                refine step_app w10 rfl (.tmp 142) (.tmp 145) 47 rfl B 3 i0 _ 1 8 Try.underlying47 hi0 hz0 hz1 hz2 rfl (by omega) (.slice AC en.length kC) en.length (en.map (Value.int .i64)) rfl gR.entries ⟨g1, 0, none⟩ 1 1 [.int .i64 x] rfl rfl N1 (by simp [Value.oneCell']) (by simp only [maxLen]; omega) (by omega) hsB ?_
                intro v' w11 ho hg
                obtain ⟨A9, k9, rfl⟩ := own_slice ho
                obtain ⟨c9, f9, hAn, hbn⟩ := DecAt.grow_entries (o := ⟨nm, key, us, dv.map (·.1), da, ss, co, en, 0, 0⟩) (dv := dv) gB gR rfl gI hobh.out hsB x ho hg
                have hAnh := Lib.hid hAn
                have hbnh := Lib.hid hbn
                refine hK.out _ _ (fun _ => ⟨c9, f9⟩) ?_
                clear hK K S2 hAn hbn gB gR gI ho hg N1
                try simp only [Act.put, List.setIfInBounds_toArray, List.set_cons_zero, List.set_cons_succ]
                refine wpAnyF_ready [6] (by kernel_rfl) (by simp) (ReadyF.consL rfl (fun K hK => ?_) ReadyF.nil)
                go_simp
                refine hK.out _ _ (fun _ => ⟨c9, f9⟩) ?_
                clear hK K
                try simp only [Act.put, List.setIfInBounds_toArray, List.set_cons_zero, List.set_cons_succ]
                refine wpAnyF_ready [7] (by kernel_rfl) (by simp) (ReadyF.consL rfl (fun K hK => ?_) ReadyF.nil)
                go_simp
                refine hK.out _ _ (fun h => absurd rfl h) ?_
                clear hK K
                try simp only [Act.put, List.setIfInBounds_toArray, List.set_cons_zero, List.set_cons_succ]
                refine wpAnyF_done (by kernel_rfl) ?_ _
                clear c9 f9
                generalize w11.setCell ⟨ob, 7, none⟩ (.slice A9 (en.length + 1) k9) = wz at *
                go_wp2_with fail
                obtain ⟨i1, i2, i3, i4, i5⟩ := hI.out
                refine ⟨⟨k + 1, en ++ [x], sb, by go_num, by omega, Lib.hid ⟨by rw [List.length_append, i1]; rfl, took_snoc i2 q1.out, fun y hy => ?_, hAnh.out, i5.trans (ba.out.trans hbnh.out)⟩⟩, by simp [intOf]; omega⟩
                rcases List.mem_append.1 hy with hy | hy
                · exact i3 y hy
                · rw [List.mem_singleton.1 hy]; exact q4.out
            · go_wp2_with fail
              go_meet
              obtain ⟨i1, i2, i3, i4, i5⟩ := hI.out
              have hkn : k = ne.toNat := by omega
              exact ⟨en, st, Lib.hid ⟨hkn ▸ i2, i3, i4, i5⟩⟩
        case rest =>
          obtain ⟨en, st14, hC⟩ := hcut
          have T13 := Lib.hid hC.out.1
          have b13 := Lib.hid hC.out.2.1
          clear hAc hKc
          have hAc := Lib.hid hC.out.2.2.1
          have hKc := Lib.hid hC.out.2.2.2
          clear hC
          have RT := Lib.hid (rf_num B s st14 wc hAc.out.rdis hss.out)
          go_wp2_with fail
          refine RT.out.mono ?_
          rintro e w29 ⟨ca, st15, rfl, h1, h2, h3, h4⟩
          obtain ⟨hAx, hbx⟩ := hAc.out.rd h2 h3 (Nat.le_refl _)
          obtain ⟨⟨x1, e1⟩, f1⟩ := hAx.has 8 (by decide)
          have hAy := Lib.hid (hAx.set_ (o' := ⟨nm, key, us, dv.map (·.1), da, ss, co, en, ca, 0⟩) hobh.out 8 (.int .i64 ca) (fun _ _ _ _ => rfl) rfl rfl rfl rfl)
          have hKc := Lib.hid (hKc.out.trans hbx)
          have T14 := Lib.hid h1
          have b14 := Lib.hid h4
          clear h1 h2 h3 h4 RT hAc hAx hbx
          go_upto_region 41 with fail
          obtain ⟨hAx, hbx⟩ := hAy.out
          generalize w29.setCell ⟨ob, 8, none⟩ (.int .i64 ca) = w30 at *
          have hAc := Lib.hid hAx
          have hKc := Lib.hid (hKc.out.trans hbx)
          clear hAy hAx hbx e1 f1
          have RT := Lib.hid (rf_num B s st15 w30 hAc.out.rdis hss.out)
          go_wp2_with fail
          refine RT.out.mono ?_
          rintro e w31 ⟨pl, st16, rfl, h1, h2, h3, h4⟩
          obtain ⟨hAx, hbx⟩ := hAc.out.rd h2 h3 (Nat.le_refl _)
          obtain ⟨⟨x1, e1⟩, f1⟩ := hAx.has 9 (by decide)
          have hAy := Lib.hid (hAx.set_ (o' := ⟨nm, key, us, dv.map (·.1), da, ss, co, en, ca, pl⟩) hobh.out 9 (.int .i64 pl) (fun _ _ _ _ => rfl) rfl rfl rfl rfl)
          have hKc := Lib.hid (hKc.out.trans hbx)
          have T15 := Lib.hid h1
          have b15 := Lib.hid h4
          clear h1 h2 h3 h4 RT hAc hAx hbx
          go_upto_region 42 with fail
          obtain ⟨hAx, hbx⟩ := hAy.out
          generalize w31.setCell ⟨ob, 9, none⟩ (.int .i64 pl) = w32 at *
          have hAc := Lib.hid hAx
          have hKc := Lib.hid (hKc.out.trans hbx)
          clear hAy hAx hbx e1 f1
          have hpar := Lib.hid (parse_took (b := true) T0.out hth.out T1.out T2.out T3.out T4.out T5.out T6.out T7.out T8.out T9.out T10.out T11.out T12.out T13.out T14.out T15.out)
          have hfine : ObFine ⟨nm, key, us, dv.map (·.1), da, ss, co, en, ca, pl⟩ := by
            have q1 := b1.out; have q2 := b2.out; have q3 := b4.out; have q4 := b6.out; have q5 := b7.out; have q6 := b9.out; have q7 := b11.out; have q8 := b13.out; have q9 := b14.out; have q10 := b15.out
            have hs' := hss.out
            unfold tOk at q1 q6
            unfold wOk at q2
            have wide : ∀ x : Int, nOk x → I64 x := fun x h => by unfold nOk at h; unfold I64; omega
            refine ⟨by show nm.length ≤ _; omega, q2, fun u hu => ⟨?_, (q3 u hu).2⟩, fun d hd => ?_, wide _ q5, by show ss.length ≤ _; omega, q7, fun x hx => wide _ (q8 x hx), wide _ q9, wide _ q10⟩
            · have := (q3 u hu).1
              unfold tOk at this
              omega
            · obtain ⟨d', hd', rfl⟩ := List.mem_map.1 hd
              exact ⟨wide _ (q4 d' hd').1, fun e he => ⟨wide _ ((q4 d' hd').2 e he).1, wide _ ((q4 d' hd').2 e he).2⟩⟩
          have RE := Lib.hid (rf_end B s st16 w32 hAc.out.rdis hss.out)
          obtain ⟨vU, vD, vC, vE, oB, oR, oD, oI⟩ := hAc.out
          have hP := oR.parts (o := ⟨nm, key, us, dv.map (·.1), da, ss, co, en, ca, pl⟩) rfl rfl rfl rfl
          have hfine := Lib.hid hfine
          have CG := fun W' (hb : Below w32.heap.size w32 W') => Lib.hid (ref23_good ⟨nm, key, us, dv.map (·.1), da, ss, co, en, ca, pl⟩ vU vD vC vE W' (hP.below hb) hfine.out)
          obtain ⟨hU, hD, hC, hE⟩ := hP
          obtain ⟨-, AU, kU, rfl, -⟩ := hU
          obtain ⟨-, AD, kD, rfl, -⟩ := hD
          obtain ⟨-, AC, kC, rfl, -⟩ := hC
          obtain ⟨-, AE, kE, rfl, -⟩ := hE
          dsimp only at oB CG hfine hpar
          generalize hds : dv.map (fun x => x.1) = ds at *
          have hdsh := Lib.hid hds
          clear hds
          simp only [obCells] at CG oB
          have oBh := Lib.hid oB
          have oRh := Lib.hid oR
          have oIh := Lib.hid oI
          clear oB oR oD oI hAc
          go_wp2_with fail
          refine RE.out.mono ?_
          clear RE
          rintro e wE ⟨rfl, qE, hqE⟩
          have bE : Below w32.heap.size w32 wE := by rw [hqE]; exact rd_drewN _ _
          have bEh := Lib.hid bE
          clear hqE bE
          generalize hendv : decide (st16 = some []) = fin at *
          have hendh := Lib.hid hendv
          clear hendv
          cases fin
          case false =>
            have hno := Lib.hid (decO_ref_no hpar.out (fun h => by have := hendh.out; rw [h.1] at this; simp at this))
            have ZBe := Lib.hid ((ZB.out.keepB (bad := fun _ => false) (KeepB.of_below (hBW.out ▸ hKc.out)) rfl).keepB (bad := fun _ => false) (KeepB.of_below bEh.out) rfl)
            have BZe := Lib.hid (BZ.out.trans ((hKc.out.mono (Nat.le_of_lt hzz.out)).trans (bEh.out.mono (Nat.le_of_lt (Nat.lt_trans hzz.out oIh.out.lt)))))
            go_upto_region 43 with fail
            refine wp_region_lit ?_
            refine wpList_build rfl 49 #[] rfl (by kernel_rfl) ?_
            refine wpList_store_row rfl 49 (.tmp 2) (.tmp 162) rfl w.heap.size #[.string ⟨#[]⟩, .int .u32 0, .slice none 0 0, .slice none 0 0, .int .i64 0, .string ⟨#[]⟩, .slice none 0 0, .slice none 0 0, .int .i64 0, .int .i64 0] rfl (by kernel_rfl) 49 _ ZBe.out (by kernel_rfl) rfl (by kernel_rfl) ?_
            have hb := Lib.hid (below_setRow BZe.out (Nat.le_refl _) #[.string ⟨#[]⟩, .int .u32 0, .slice none 0 0, .slice none 0 0, .int .i64 0, .string ⟨#[]⟩, .slice none 0 0, .slice none 0 0, .int .i64 0, .int .i64 0])
            have hg := setRow_heap _ w.heap.size _ #[.string ⟨#[]⟩, .int .u32 0, .slice none 0 0, .slice none 0 0, .int .i64 0, .string ⟨#[]⟩, .slice none 0 0, .slice none 0 0, .int .i64 0, .int .i64 0] 49 (0, 0) ZBe.out
            generalize World.setRow _ _ _ = W at *
            have hl := run_loadVar_row W w.heap.size 49 49 _ (0, 0) _ hg Try.underlying49 rfl (by kernel_rfl)
            have hl := Lib.hid hl
            clear hg
            go_wp2_with fail
            have hl := hl.out
            refine bodyPost_ret (v := .tuple #[.agg (obCells zeroOb nilS nilS nilS nilS), .int .i64 230]) ?_ rfl ⟨Or.inr ⟨hno.out, rfl⟩, hb.out⟩
            simp only [results, Try.results30]
            simp [hl, asAddr, obCells, zeroOb, nilS]
            rfl
          case true =>
            have hst : st16 = some [] := of_decide_eq_true hendh.out
            have oE := oBh.out.keepB (bad := fun _ => false) (KeepB.of_below bEh.out) rfl
            have C0 := oE.cell 0
            have C1 := oE.cell 1
            have C2 := oE.cell 2
            have C3 := oE.cell 3
            have C4 := oE.cell 4
            have C5 := oE.cell 5
            have C6 := oE.cell 6
            have C7 := oE.cell 7
            have C8 := oE.cell 8
            have C9 := oE.cell 9
            simp only [List.getElem?_toArray, List.getElem?_cons_zero, List.getElem?_cons_succ] at C0 C1 C2 C3 C4 C5 C6 C7 C8 C9
            clear oE
            have CGE := CG wE bEh.out
            clear CG
            generalize hgv : goodO ⟨nm, key, us, ds, da, ss, co, en, ca, pl⟩ = gd at *
            have hgh := Lib.hid hgv
            clear hgv
            go_wp2_with fail
            refine CGE.out.mono ?_
            rintro e wG ⟨rfl, hbG⟩
            have bG := Lib.hid (bEh.out.trans (hbG.mono bEh.out.size))
            clear C0 C1 C2 C3 C4 C5 C6 C7 C8 C9 CGE hbG
            have ZBe := Lib.hid ((ZB.out.keepB (bad := fun _ => false) (KeepB.of_below (hBW.out ▸ hKc.out)) rfl).keepB (bad := fun _ => false) (KeepB.of_below bG.out) rfl)
            have BZe := Lib.hid (BZ.out.trans ((hKc.out.mono (Nat.le_of_lt hzz.out)).trans (bG.out.mono (Nat.le_of_lt (Nat.lt_trans hzz.out oIh.out.lt)))))
            have oG := Lib.hid (oBh.out.keepB (bad := fun _ => false) (KeepB.of_below bG.out) rfl)
            cases gd
            case false =>
              have hno := Lib.hid (decO_ref_no hpar.out (fun h => by have := hgh.out; rw [h.2] at this; cases this))
              go_upto_region 43 with fail
              refine wp_region_lit ?_
              refine wpList_build rfl 49 #[] rfl (by kernel_rfl) ?_
              refine wpList_store_row rfl 49 (.tmp 2) (.tmp 162) rfl w.heap.size #[.string ⟨#[]⟩, .int .u32 0, .slice none 0 0, .slice none 0 0, .int .i64 0, .string ⟨#[]⟩, .slice none 0 0, .slice none 0 0, .int .i64 0, .int .i64 0] rfl (by kernel_rfl) 49 _ ZBe.out (by kernel_rfl) rfl (by kernel_rfl) ?_
              have hb := Lib.hid (below_setRow BZe.out (Nat.le_refl _) #[.string ⟨#[]⟩, .int .u32 0, .slice none 0 0, .slice none 0 0, .int .i64 0, .string ⟨#[]⟩, .slice none 0 0, .slice none 0 0, .int .i64 0, .int .i64 0])
              have hg := setRow_heap _ w.heap.size _ #[.string ⟨#[]⟩, .int .u32 0, .slice none 0 0, .slice none 0 0, .int .i64 0, .string ⟨#[]⟩, .slice none 0 0, .slice none 0 0, .int .i64 0, .int .i64 0] 49 (0, 0) ZBe.out
              generalize World.setRow _ _ _ = W at *
              have hl := run_loadVar_row W w.heap.size 49 49 _ (0, 0) _ hg Try.underlying49 rfl (by kernel_rfl)
              have hl := Lib.hid hl
              clear hg
              go_wp2_with fail
              have hl := hl.out
              refine bodyPost_ret (v := .tuple #[.agg (obCells zeroOb nilS nilS nilS nilS), .int .i64 230]) ?_ rfl ⟨Or.inr ⟨hno.out, rfl⟩, hb.out⟩
              simp only [results, Try.results30]
              simp [hl, asAddr, obCells, zeroOb, nilS]
              rfl
            case true =>
              have hyes := Lib.hid (decO_ref hlenh.out hpar.out hst hgh.out)
              have KBG := Lib.hid (KeepB.of_below (bad := fun t => t == 49) bG.out)
              go_upto_region 44 with fail
              refine wp_region_lit ?_
              refine wpList_load_row rfl 49 (.tmp 5) rfl ob rfl 49 #[.string (txt nm), .int .u32 key, .slice AU us.length kU, .slice AD ds.length kD, .int .i64 da, .string (txt ss), .slice AC co.length kC, .slice AE en.length kE, .int .i64 ca, .int .i64 pl] (0, 0) _ oG.out Try.underlying49 rfl (by kernel_rfl) ?_
              refine wpList_store_row rfl 49 (.tmp 2) (.tmp 163) rfl w.heap.size #[.string (txt nm), .int .u32 key, .slice AU us.length kU, .slice AD ds.length kD, .int .i64 da, .string (txt ss), .slice AC co.length kC, .slice AE en.length kE, .int .i64 ca, .int .i64 pl] rfl (by kernel_rfl) 49 _ ZBe.out (by kernel_rfl) rfl (by kernel_rfl) ?_
              have hb := Lib.hid (below_setRow BZe.out (Nat.le_refl _) #[.string (txt nm), .int .u32 key, .slice AU us.length kU, .slice AD ds.length kD, .int .i64 da, .string (txt ss), .slice AC co.length kC, .slice AE en.length kE, .int .i64 ca, .int .i64 pl])
              have hg := setRow_heap _ w.heap.size _ #[.string (txt nm), .int .u32 key, .slice AU us.length kU, .slice AD ds.length kD, .int .i64 da, .string (txt ss), .slice AC co.length kC, .slice AE en.length kE, .int .i64 ca, .int .i64 pl] 49 (0, 0) ZBe.out
              have hPW := Lib.hid ((oRh.out.keepB (bad := fun t => t == 49) (KBG.out.setRow_ ZBe.out (by decide) #[.string (txt nm), .int .u32 key, .slice AU us.length kU, .slice AD ds.length kD, .int .i64 da, .string (txt ss), .slice AC co.length kC, .slice AE en.length kE, .int .i64 ca, .int .i64 pl]) ⟨by decide, by decide, by decide, by decide, by decide⟩).parts (o := ⟨nm, key, us, ds, da, ss, co, en, ca, pl⟩) rfl hdsh.out.symm rfl rfl)
              generalize World.setRow _ _ _ = W at *
              have hl := run_loadVar_row W w.heap.size 49 49 _ (0, 0) _ hg Try.underlying49 rfl (by kernel_rfl)
              have hl := Lib.hid hl
              clear hg
              go_wp2_with fail
              have hl := hl.out
              refine bodyPost_ret (v := .tuple #[.agg #[.string (txt nm), .int .u32 key, .slice AU us.length kU, .slice AD ds.length kD, .int .i64 da, .string (txt ss), .slice AC co.length kC, .slice AE en.length kE, .int .i64 ca, .int .i64 pl], .int .i64 0]) ?_ rfl ⟨Or.inl ⟨_, _, _, _, _, hyes.out, hfine.out, rfl, hPW.out⟩, hb.out⟩
              simp only [results, Try.results30]
              simp [hl, asAddr, obCells, zeroOb, nilS]

end Go.Proofs.Ytceflhffilldeaa
