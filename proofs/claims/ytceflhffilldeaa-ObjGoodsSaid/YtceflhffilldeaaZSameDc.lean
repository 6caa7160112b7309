/-
  The document's Same, walked.
-/
import Derived.Test.YtceflhffilldeaaZSameDa
import Derived.Test.YtceflhffilldeaaZHeld
import Derived.Test.YtceflhffilldeaaZSameDb
namespace Go.Proofs.Ytceflhffilldeaa
set_option linter.unusedVariables false
set_option linter.unusedSimpArgs false
open Go.RowKit ObjL

set_option maxRecDepth 100000 in
set_option maxHeartbeats 4000000 in
theorem sd_yes (a b : Ob) (aU aD aC aE bU bD bC bE : Value) (w : World) (ha : ObParts w a aU aD aC aE) (hb : ObParts w b bU bD bC bE) (h0 : a.name = b.name) (h1 : a.key = b.key) (h2 : a.data = b.data) (h3 : a.strings = b.strings) (h4 : a.calls = b.calls) (h5 : a.places = b.places) (h6 : a.uses.length = b.uses.length) (h7 : a.descs.length = b.descs.length) (h8 : a.code = b.code) (h9 : a.entries = b.entries) :
    Calls Try.prog 28 #[.agg (obCells a aU aD aC aE), .agg (obCells b bU bD bC bE)] w fun e w' => e = .returned (.bool (sameO a b)) ∧ Below w.heap.size w w' := by
  obtain ⟨name1, key1, uses1, descs1, data1, strings1, code1, entries1, calls1, places1⟩ := a
  obtain ⟨name2, key2, uses2, descs2, data2, strings2, code2, entries2, calls2, places2⟩ := b
  dsimp only at h0 h1 h2 h3 h4 h5 h6 h7 h8 h9
  subst h0
  subst h1
  subst h2
  subst h3
  subst h4
  subst h5
  have huses := Lib.hid h6
  have euses : ((uses1.length : Int) != (uses2.length : Int)) = false := by rw [h6]; simp
  clear h6
  have hdescs := Lib.hid h7
  have edescs : ((descs1.length : Int) != (descs2.length : Int)) = false := by rw [h7]; simp
  clear h7
  subst h8
  subst h9
  have ha0 := Lib.hid ha
  have hb0 := Lib.hid hb
  obtain ⟨⟨-, AU1, cU1, rfl, -⟩, ⟨-, AD1, cD1, rfl, -⟩, ⟨-, AC1, cC1, rfl, -⟩, ⟨-, AE1, cE1, rfl, -⟩⟩ := ha
  obtain ⟨⟨-, AU2, cU2, rfl, -⟩, ⟨-, AD2, cD2, rfl, -⟩, ⟨-, AC2, cC2, rfl, -⟩, ⟨-, AE2, cE2, rfl, -⟩⟩ := hb
  simp only [obCells]
  have B2 := ((Below.refl w.heap.size w).alloc (Nat.le_refl _) (.cells #[.string (txt name1), .int .u32 key1, .slice AU1 uses1.length cU1, .slice AD1 descs1.length cD1, .int .i64 data1, .string (txt strings1), .slice AC1 code1.length cC1, .slice AE1 entries1.length cE1, .int .i64 calls1, .int .i64 places1] 49)).alloc (by simp) (.cells #[.string (txt name1), .int .u32 key1, .slice AU2 uses2.length cU2, .slice AD2 descs2.length cD2, .int .i64 data1, .string (txt strings1), .slice AC2 code1.length cC2, .slice AE2 entries1.length cE2, .int .i64 calls1, .int .i64 places1] 49)
  have L1 := Lib.hid ((Blk.new w 49 #[.string (txt name1), .int .u32 key1, .slice AU1 uses1.length cU1, .slice AD1 descs1.length cD1, .int .i64 data1, .string (txt strings1), .slice AC1 code1.length cC1, .slice AE1 entries1.length cE1, .int .i64 calls1, .int .i64 places1]).alloc (.cells #[.string (txt name1), .int .u32 key1, .slice AU2 uses2.length cU2, .slice AD2 descs2.length cD2, .int .i64 data1, .string (txt strings1), .slice AC2 code1.length cC2, .slice AE2 entries1.length cE2, .int .i64 calls1, .int .i64 places1] 49))
  have hs1 : (w.alloc (.cells #[.string (txt name1), .int .u32 key1, .slice AU1 uses1.length cU1, .slice AD1 descs1.length cD1, .int .i64 data1, .string (txt strings1), .slice AC1 code1.length cC1, .slice AE1 entries1.length cE1, .int .i64 calls1, .int .i64 places1] 49)).heap.size = w.heap.size + 1 := by simp
  have L2 := Blk.new (w.alloc (.cells #[.string (txt name1), .int .u32 key1, .slice AU1 uses1.length cU1, .slice AD1 descs1.length cD1, .int .i64 data1, .string (txt strings1), .slice AC1 code1.length cC1, .slice AE1 entries1.length cE1, .int .i64 calls1, .int .i64 places1] 49)) 49 #[.string (txt name1), .int .u32 key1, .slice AU2 uses2.length cU2, .slice AD2 descs2.length cD2, .int .i64 data1, .string (txt strings1), .slice AC2 code1.length cC2, .slice AE2 entries1.length cE2, .int .i64 calls1, .int .i64 places1]
  rw [hs1] at L2
  have L2 := Lib.hid L2
  have P1 := Lib.hid (ha0.out.below B2)
  have P2 := Lib.hid (hb0.out.below B2)
  have B2 := Lib.hid B2
  clear hs1 ha0 hb0
  go_enter Try.func28, Try.ntmps28
  go_upto_region 1 with fail
  generalize hW : (w.alloc (.cells #[.string (txt name1), .int .u32 key1, .slice AU1 uses1.length cU1, .slice AD1 descs1.length cD1, .int .i64 data1, .string (txt strings1), .slice AC1 code1.length cC1, .slice AE1 entries1.length cE1, .int .i64 calls1, .int .i64 places1] 49)).alloc (.cells #[.string (txt name1), .int .u32 key1, .slice AU2 uses2.length cU2, .slice AD2 descs2.length cD2, .int .i64 data1, .string (txt strings1), .slice AC2 code1.length cC2, .slice AE2 entries1.length cE2, .int .i64 calls1, .int .i64 places1] 49) = W at *
  clear hW
  have a0 := L1.out.cell 0
  have b0 := L2.out.cell 0
  have a1 := L1.out.cell 1
  have b1 := L2.out.cell 1
  have a2 := L1.out.cell 2
  have b2 := L2.out.cell 2
  have a3 := L1.out.cell 3
  have b3 := L2.out.cell 3
  have a4 := L1.out.cell 4
  have b4 := L2.out.cell 4
  have a5 := L1.out.cell 5
  have b5 := L2.out.cell 5
  have a6 := L1.out.cell 6
  have b6 := L2.out.cell 6
  have a7 := L1.out.cell 7
  have b7 := L2.out.cell 7
  have a8 := L1.out.cell 8
  have b8 := L2.out.cell 8
  have a9 := L1.out.cell 9
  have b9 := L2.out.cell 9
  simp only [List.getElem?_toArray, List.getElem?_cons_zero, List.getElem?_cons_succ] at a0 b0 a1 b1 a2 b2 a3 b3 a4 b4 a5 b5 a6 b6 a7 b7 a8 b8 a9 b9
  have CX := keep_words (.slice AC1 code1.length cC1) (.slice AC2 code1.length cC2) code1 code1 W P1.out.code P2.out.code
  rw [(show decide (code1 = code1) = true from decide_eq_true rfl)] at CX
  have CX := Lib.hid CX
  go_wp2_with fail
  refine CX.out.mono ?_
  rintro e W8 ⟨rfl, hq8⟩
  have hb8 := hq8.all_below (B := W.heap.size)
  have P1 : RowKit.Hid (ObParts W8 _ _ _ _ _) := Lib.hid (P1.out.below hb8)
  have P2 : RowKit.Hid (ObParts W8 _ _ _ _ _) := Lib.hid (P2.out.below hb8)
  have B2 : RowKit.Hid (Below _ w W8) := Lib.hid (B2.out.trans (hb8.mono B2.out.size))
  have L1 := Lib.hid (L1.out.below hb8 L1.out.lt)
  have L2 := Lib.hid (L2.out.below hb8 L2.out.lt)
  have a0 := (hq8.cell (p := ⟨w.heap.size, 0, none⟩) trivial).trans a0
  have b0 := (hq8.cell (p := ⟨w.heap.size + 1, 0, none⟩) trivial).trans b0
  have a1 := (hq8.cell (p := ⟨w.heap.size, 1, none⟩) trivial).trans a1
  have b1 := (hq8.cell (p := ⟨w.heap.size + 1, 1, none⟩) trivial).trans b1
  have a2 := (hq8.cell (p := ⟨w.heap.size, 2, none⟩) trivial).trans a2
  have b2 := (hq8.cell (p := ⟨w.heap.size + 1, 2, none⟩) trivial).trans b2
  have a3 := (hq8.cell (p := ⟨w.heap.size, 3, none⟩) trivial).trans a3
  have b3 := (hq8.cell (p := ⟨w.heap.size + 1, 3, none⟩) trivial).trans b3
  have a4 := (hq8.cell (p := ⟨w.heap.size, 4, none⟩) trivial).trans a4
  have b4 := (hq8.cell (p := ⟨w.heap.size + 1, 4, none⟩) trivial).trans b4
  have a5 := (hq8.cell (p := ⟨w.heap.size, 5, none⟩) trivial).trans a5
  have b5 := (hq8.cell (p := ⟨w.heap.size + 1, 5, none⟩) trivial).trans b5
  have a6 := (hq8.cell (p := ⟨w.heap.size, 6, none⟩) trivial).trans a6
  have b6 := (hq8.cell (p := ⟨w.heap.size + 1, 6, none⟩) trivial).trans b6
  have a7 := (hq8.cell (p := ⟨w.heap.size, 7, none⟩) trivial).trans a7
  have b7 := (hq8.cell (p := ⟨w.heap.size + 1, 7, none⟩) trivial).trans b7
  have a8 := (hq8.cell (p := ⟨w.heap.size, 8, none⟩) trivial).trans a8
  have b8 := (hq8.cell (p := ⟨w.heap.size + 1, 8, none⟩) trivial).trans b8
  have a9 := (hq8.cell (p := ⟨w.heap.size, 9, none⟩) trivial).trans a9
  have b9 := (hq8.cell (p := ⟨w.heap.size + 1, 9, none⟩) trivial).trans b9
  clear CX hq8 hb8
  have CX := keep_same (.slice AE1 entries1.length cE1) (.slice AE2 entries1.length cE2) entries1 entries1 W8 P1.out.entries P2.out.entries
  rw [(show decide (entries1 = entries1) = true from decide_eq_true rfl)] at CX
  have CX := Lib.hid CX
  go_wp2_with fail
  refine CX.out.mono ?_
  rintro e W9 ⟨rfl, hq9⟩
  have hb9 := hq9.all_below (B := W8.heap.size)
  have P1 : RowKit.Hid (ObParts W9 _ _ _ _ _) := Lib.hid (P1.out.below hb9)
  have P2 : RowKit.Hid (ObParts W9 _ _ _ _ _) := Lib.hid (P2.out.below hb9)
  have B2 : RowKit.Hid (Below _ w W9) := Lib.hid (B2.out.trans (hb9.mono B2.out.size))
  have L1 := Lib.hid (L1.out.below hb9 L1.out.lt)
  have L2 := Lib.hid (L2.out.below hb9 L2.out.lt)
  have a0 := (hq9.cell (p := ⟨w.heap.size, 0, none⟩) trivial).trans a0
  have b0 := (hq9.cell (p := ⟨w.heap.size + 1, 0, none⟩) trivial).trans b0
  have a1 := (hq9.cell (p := ⟨w.heap.size, 1, none⟩) trivial).trans a1
  have b1 := (hq9.cell (p := ⟨w.heap.size + 1, 1, none⟩) trivial).trans b1
  have a2 := (hq9.cell (p := ⟨w.heap.size, 2, none⟩) trivial).trans a2
  have b2 := (hq9.cell (p := ⟨w.heap.size + 1, 2, none⟩) trivial).trans b2
  have a3 := (hq9.cell (p := ⟨w.heap.size, 3, none⟩) trivial).trans a3
  have b3 := (hq9.cell (p := ⟨w.heap.size + 1, 3, none⟩) trivial).trans b3
  have a4 := (hq9.cell (p := ⟨w.heap.size, 4, none⟩) trivial).trans a4
  have b4 := (hq9.cell (p := ⟨w.heap.size + 1, 4, none⟩) trivial).trans b4
  have a5 := (hq9.cell (p := ⟨w.heap.size, 5, none⟩) trivial).trans a5
  have b5 := (hq9.cell (p := ⟨w.heap.size + 1, 5, none⟩) trivial).trans b5
  have a6 := (hq9.cell (p := ⟨w.heap.size, 6, none⟩) trivial).trans a6
  have b6 := (hq9.cell (p := ⟨w.heap.size + 1, 6, none⟩) trivial).trans b6
  have a7 := (hq9.cell (p := ⟨w.heap.size, 7, none⟩) trivial).trans a7
  have b7 := (hq9.cell (p := ⟨w.heap.size + 1, 7, none⟩) trivial).trans b7
  have a8 := (hq9.cell (p := ⟨w.heap.size, 8, none⟩) trivial).trans a8
  have b8 := (hq9.cell (p := ⟨w.heap.size + 1, 8, none⟩) trivial).trans b8
  have a9 := (hq9.cell (p := ⟨w.heap.size, 9, none⟩) trivial).trans a9
  have b9 := (hq9.cell (p := ⟨w.heap.size + 1, 9, none⟩) trivial).trans b9
  clear CX hq9 hb9
  go_upto_block 0 with fail
  clear a0 b0 a1 b1 a2 b2 a3 b3 a4 b4 a5 b5 a6 b6 a7 b7 a8 b8 a9 b9
  go_wp2_with fail
  go_loopw [5] (fun i wr => ∃ k : Nat, i = .int .i64 k ∧ k ≤ uses1.length ∧ (∀ j, j < k → uses1.getD j ([], 0) = uses2.getD j ([], 0)) ∧ Below W9.heap.size W9 wr) (fun i _ => uses1.length - (intOf i).toNat)
  case atStart => exact ⟨0, rfl, by omega, fun j hj => by omega, Below.refl _ _⟩
  case round =>
    obtain ⟨k, rfl, hk, hj, hw⟩ := hrel
    have hul : uses1.length ≤ 9223372036854775807 := P1.out.uses.len
    have hj := Lib.hid hj
    have hwh := Lib.hid hw
    have a2 : wr.cell? ⟨w.heap.size, 2, none⟩ = some (.slice AU1 uses1.length cU1) := (L1.out.below hw L1.out.lt).cell 2
    have b2 : wr.cell? ⟨w.heap.size + 1, 2, none⟩ = some (.slice AU2 uses2.length cU2) := (L2.out.below hw L2.out.lt).cell 2
    clear hw
    by_cases hlt : (k : Int) < (uses1.length : Int)
    · have hkl : k < uses1.length := by omega
      have hkm : k < uses2.length := by have := huses.out; omega
      obtain ⟨ad, rfl, had, x1⟩ := rowOf_at P1.out.uses k hkl
      obtain ⟨bd, rfl, hbd, x2⟩ := rowOf_at P2.out.uses k hkm
      obtain ⟨y0, x3, p0⟩ := x1 0 (by decide)
      obtain ⟨y1, x4, p1⟩ := x1 1 (by decide)
      obtain ⟨y2, x5, p2⟩ := x2 0 (by decide)
      obtain ⟨y3, x6, p3⟩ := x2 1 (by decide)
      obtain rfl := p0.1 rfl
      obtain rfl := p1.2 rfl
      obtain rfl := p2.1 rfl
      obtain rfl := p3.2 rfl
      have hkm2 : (k : Int) < (uses2.length : Int) := by omega
      have ela : uses1.getD k ([], 0) = uses1[k] := by simp [List.getD, hkl]
      have ema : uses2.getD k ([], 0) = uses2[k] := by simp [List.getD, hkm]
      have X3 : wr.cell? (ad.add (k * 2)) = some (.string (txt uses1[k].1)) := (hwh.out.cell (p := ad.add (k * 2)) (by rw [block_add]; exact had)).trans x3
      have X4 : wr.cell? ⟨(ad.add (k * 2)).block, (ad.add (k * 2)).off + 1, none⟩ = some (.int .u32 uses1[k].2) := (hwh.out.cell (p := ⟨(ad.add (k * 2)).block, (ad.add (k * 2)).off + 1, none⟩) (by show (ad.add (k * 2)).block < _; rw [block_add]; exact had)).trans x4
      have X5 : wr.cell? (bd.add (k * 2)) = some (.string (txt uses2[k].1)) := (hwh.out.cell (p := bd.add (k * 2)) (by rw [block_add]; exact hbd)).trans x5
      have X6 : wr.cell? ⟨(bd.add (k * 2)).block, (bd.add (k * 2)).off + 1, none⟩ = some (.int .u32 uses2[k].2) := (hwh.out.cell (p := ⟨(bd.add (k * 2)).block, (bd.add (k * 2)).off + 1, none⟩) (by show (bd.add (k * 2)).block < _; rw [block_add]; exact hbd)).trans x6
      clear x1 x2 x3 x4 x5 x6 p0 p1 p2 p3
      generalize uses1[k] = la at *
      generalize uses2[k] = ma at *
      have ela := Lib.hid ela
      have ema := Lib.hid ema
      obtain ⟨a0, a1⟩ := la
      obtain ⟨b0, b1⟩ := ma
      dsimp only at X3 X4 X5 X6
      have BE : RowKit.Hid (∀ n, Below W9.heap.size W9 (wr.drewN n)) := Lib.hid (fun n => hwh.out.trans ((sl_drewN_below wr n).mono hwh.out.size))
      by_cases heq : (a0, a1) = (b0, b1)
      · injection heq with h0 h1
        subst h0 h1
        go_wp2_with fail
        go_quiet (fail)
        go_wp2_with fail
        refine ⟨⟨k + 1, by go_num, by omega, fun j hj' => ?_, BE.out nq⟩, by simp [intOf]; omega⟩
        rcases Nat.lt_or_ge j k with h | h
        · exact hj.out j h
        · obtain rfl : j = k := by omega
          rw [ela.out, ema.out]
      · have hno := Lib.hid (same_no (a := ⟨name1, key1, uses1, descs1, data1, strings1, code1, entries1, calls1, places1⟩) (b := ⟨name1, key1, uses2, descs2, data1, strings1, code1, entries1, calls1, places1⟩) (fun e => by injection e with e0 e1 e2 e3 e4 e5 e6 e7 e8 e9; exact (fun h => heq (by rw [← ela.out, ← ema.out, h])) e2))
        by_cases h0 : a0 = b0
        · have h1 : ¬ a1 = b1 := fun h => heq (by rw [h0, h])
          have h1b : (a1 != b1) = true := by rw [bne_iff_ne]; exact h1
          subst h0
          clear heq
          go_wp2_with fail
          go_quiet (fail)
          go_wp2_with fail
          go_ret
          exact ⟨ret_b hno.out, B2.out.trans ((BE.out nq).mono B2.out.size)⟩
        · have hs : ((txt a0).toList == (txt b0).toList) = false := by rw [Bool.eq_false_iff]; exact fun e => h0 (txt_inj ((sl_same _ _).1 e))
          have hs2 : ¬ (txt a0).toList = (txt b0).toList := by simpa using hs
          clear heq h0
          go_wp2_with fail
          go_quiet (fail)
          go_wp2_with fail
          go_ret
          exact ⟨ret_b hno.out, B2.out.trans ((BE.out nq).mono B2.out.size)⟩
    · have hus : uses1 = uses2 := of_decide_eq_true (list_eq_at2 (z := ([], 0)) huses.out (fun j h => hj.out j (by omega))).symm
      subst hus
      generalize wr = wa at *
      go_wp2_with fail
      go_loopw [6] (fun i wr => ∃ k : Nat, i = .int .i64 k ∧ k ≤ descs1.length ∧ (∀ j, j < k → descs1.getD j (0, []) = descs2.getD j (0, [])) ∧ Below W9.heap.size W9 wr) (fun i _ => descs1.length - (intOf i).toNat)
      case atStart => exact ⟨0, rfl, by omega, fun j hj => by omega, hwh.out⟩
      case round =>
        obtain ⟨k, rfl, hk, hj, hw⟩ := hrel
        have hul : descs1.length ≤ 9223372036854775807 := P1.out.descs.len
        have hj := Lib.hid hj
        have hwh := Lib.hid hw
        have a3 : wr.cell? ⟨w.heap.size, 3, none⟩ = some (.slice AD1 descs1.length cD1) := (L1.out.below hw L1.out.lt).cell 3
        have b3 : wr.cell? ⟨w.heap.size + 1, 3, none⟩ = some (.slice AD2 descs2.length cD2) := (L2.out.below hw L2.out.lt).cell 3
        clear hw
        by_cases hlt : (k : Int) < (descs1.length : Int)
        · have hkl : k < descs1.length := by omega
          have hkm : k < descs2.length := by have := hdescs.out; omega
          obtain ⟨ad, rfl, had, x1⟩ := rowOf_at P1.out.descs k hkl
          obtain ⟨bd, rfl, hbd, x2⟩ := rowOf_at P2.out.descs k hkm
          obtain ⟨y0, x3, p0⟩ := x1 0 (by decide)
          obtain ⟨y1, x4, p1⟩ := x1 1 (by decide)
          obtain ⟨y2, x5, p2⟩ := x2 0 (by decide)
          obtain ⟨y3, x6, p3⟩ := x2 1 (by decide)
          obtain rfl := p0.1 rfl
          have E1 := p1.2 rfl
          obtain rfl := p2.1 rfl
          have E2 := p3.2 rfl
          have hkm2 : (k : Int) < (descs2.length : Int) := by omega
          have ela : descs1.getD k (0, []) = descs1[k] := by simp [List.getD, hkl]
          have ema : descs2.getD k (0, []) = descs2[k] := by simp [List.getD, hkm]
          have E1 : ERow W9 y1 descs1[k].2 := E1
          have E2 : ERow W9 y3 descs2[k].2 := E2
          have x3 : W9.cell? (ad.add (k * 2)) = some (.int .i64 descs1[k].1) := x3
          have x5 : W9.cell? (bd.add (k * 2)) = some (.int .i64 descs2[k].1) := x5
          clear x1 x2 p0 p1 p2 p3
          generalize descs1[k] = la at *
          generalize descs2[k] = ma at *
          have ela := Lib.hid ela
          have ema := Lib.hid ema
          obtain ⟨a0, a1⟩ := la
          obtain ⟨b0, b1⟩ := ma
          dsimp only at x3 x5 E1 E2
          obtain ⟨A1, c1, rfl⟩ := E1.slice
          obtain ⟨A2, c2, rfl⟩ := E2.slice
          have HS : ∀ W', Below wr.heap.size wr W' → W'.cell? ⟨w.heap.size, 3, none⟩ = some (.slice (some ad) descs1.length cD1) ∧ W'.cell? ⟨w.heap.size + 1, 3, none⟩ = some (.slice (some bd) descs2.length cD2) ∧ W'.cell? (ad.add (k * 2)) = some (.int .i64 a0) ∧ W'.cell? ⟨(ad.add (k * 2)).block, (ad.add (k * 2)).off + 1, none⟩ = some (.slice A1 a1.length c1) ∧ W'.cell? (bd.add (k * 2)) = some (.int .i64 b0) ∧ W'.cell? ⟨(bd.add (k * 2)).block, (bd.add (k * 2)).off + 1, none⟩ = some (.slice A2 b1.length c2) := fun W' hb => by
            have hB := hwh.out.trans (hb.mono hwh.out.size)
            exact ⟨(L1.out.below hB L1.out.lt).cell 3, (L2.out.below hB L2.out.lt).cell 3, (hB.cell (p := ad.add (k * 2)) (by rw [block_add]; exact had)).trans x3, (hB.cell (p := ⟨(ad.add (k * 2)).block, (ad.add (k * 2)).off + 1, none⟩) (by show (ad.add (k * 2)).block < _; rw [block_add]; exact had)).trans x4, (hB.cell (p := bd.add (k * 2)) (by rw [block_add]; exact hbd)).trans x5, (hB.cell (p := ⟨(bd.add (k * 2)).block, (bd.add (k * 2)).off + 1, none⟩) (by show (bd.add (k * 2)).block < _; rw [block_add]; exact hbd)).trans x6⟩
          have E1h := Lib.hid E1
          have E2h := Lib.hid E2
          clear E1 E2
          have x3h := Lib.hid x3
          have x4h := Lib.hid x4
          have x5h := Lib.hid x5
          have x6h := Lib.hid x6
          have hadh := Lib.hid had
          have hbdh := Lib.hid hbd
          clear x3 x4 x5 x6 had hbd
          go_upto_region 11 with fail
          clear a3 b3
          go_cut [7, 8] from 126 to 135 (fun r7 r8 wx => ∃ q1 q2 : Nat, r7 = .pointer (some ⟨q1, 0, none⟩) ∧ r8 = .pointer (some ⟨q2, 0, none⟩) ∧ RowKit.Hid (Blk wx q1 76 #[.int .i64 a0, .slice A1 a1.length c1] ∧ Blk wx q2 76 #[.int .i64 b0, .slice A2 b1.length c2] ∧ Below wr.heap.size wr wx))
          case first =>
            have S0 : wr.drew.cell? ⟨w.heap.size, 3, none⟩ = some (.slice (some ad) descs1.length cD1) ∧ wr.drew.cell? ⟨w.heap.size + 1, 3, none⟩ = some (.slice (some bd) descs2.length cD2) ∧ wr.drew.cell? (ad.add (k * 2)) = some (.int .i64 a0) ∧ wr.drew.cell? ⟨(ad.add (k * 2)).block, (ad.add (k * 2)).off + 1, none⟩ = some (.slice A1 a1.length c1) ∧ wr.drew.cell? (bd.add (k * 2)) = some (.int .i64 b0) ∧ wr.drew.cell? ⟨(bd.add (k * 2)).block, (bd.add (k * 2)).off + 1, none⟩ = some (.slice A2 b1.length c2) := HS _ (Below.refl _ _).drew
            refine wp_region_F (fun w' => w'.cell? ⟨w.heap.size, 3, none⟩ = some (.slice (some ad) descs1.length cD1) ∧ w'.cell? ⟨w.heap.size + 1, 3, none⟩ = some (.slice (some bd) descs2.length cD2) ∧ w'.cell? (ad.add (k * 2)) = some (.int .i64 a0) ∧ w'.cell? ⟨(ad.add (k * 2)).block, (ad.add (k * 2)).off + 1, none⟩ = some (.slice A1 a1.length c1) ∧ w'.cell? (bd.add (k * 2)) = some (.int .i64 b0) ∧ w'.cell? ⟨(bd.add (k * 2)).block, (bd.add (k * 2)).off + 1, none⟩ = some (.slice A2 b1.length c2)) 13 (by kernel_rfl) ?_
            refine wpAnyF_takeL 0 (v := ?_) rfl (by kernel_rfl) (by kernel_rfl) (by kernel_rfl) (by kernel_rfl) (fun _ _ _ h => h) (by rfl) ?_ (by assumption) ?_
            rotate_left 1
            · (intro wS hSw; (try dsimp only at hSw); obtain ⟨hSa, hSb, hSc, hSd, hSe, hSf⟩ := hSw; go_simp; first | done | with_reducible rfl)
            try simp only [Act.put, List.setIfInBounds_toArray, List.set_cons_zero, List.set_cons_succ]
            refine wpAnyF_takeL 1 (v := ?_) rfl (by kernel_rfl) (by kernel_rfl) (by kernel_rfl) (by kernel_rfl) (fun _ _ _ h => h) (by rfl) ?_ (by assumption) ?_
            rotate_left 1
            · (intro wS hSw; (try dsimp only at hSw); obtain ⟨hSa, hSb, hSc, hSd, hSe, hSf⟩ := hSw; go_simp; first | done | with_reducible rfl)
            try simp only [Act.put, List.setIfInBounds_toArray, List.set_cons_zero, List.set_cons_succ]
            refine wpAnyF_takeL 2 (v := ?_) rfl (by kernel_rfl) (by kernel_rfl) (by kernel_rfl) (by kernel_rfl) (fun _ _ _ h => h) (by rfl) ?_ (by assumption) ?_
            rotate_left 1
            · (intro wS hSw; (try dsimp only at hSw); obtain ⟨hSa, hSb, hSc, hSd, hSe, hSf⟩ := hSw; go_simp; first | done | with_reducible rfl)
            try simp only [Act.put, List.setIfInBounds_toArray, List.set_cons_zero, List.set_cons_succ]
            refine wpAnyF_takeL 3 (v := ?_) rfl (by kernel_rfl) (by kernel_rfl) (by kernel_rfl) (by kernel_rfl) (fun _ _ _ h => h) (by rfl) ?_ (by assumption) ?_
            rotate_left 1
            · (intro wS hSw; (try dsimp only at hSw); obtain ⟨hSa, hSb, hSc, hSd, hSe, hSf⟩ := hSw; go_simp; first | done | with_reducible rfl)
            try simp only [Act.put, List.setIfInBounds_toArray, List.set_cons_zero, List.set_cons_succ]
            refine wpAnyF_takeL 4 (v := ?_) rfl (by kernel_rfl) (by kernel_rfl) (by kernel_rfl) (by kernel_rfl) (fun _ _ _ h => h) (by rfl) ?_ (by assumption) ?_
            rotate_left 1
            · (intro wS hSw; (try dsimp only at hSw); obtain ⟨hSa, hSb, hSc, hSd, hSe, hSf⟩ := hSw; go_simp; first | done | with_reducible rfl)
            try simp only [Act.put, List.setIfInBounds_toArray, List.set_cons_zero, List.set_cons_succ]
            refine wpAnyF_takeL 5 (v := ?_) rfl (by kernel_rfl) (by kernel_rfl) (by kernel_rfl) (by kernel_rfl) (fun _ _ _ h => h) (by rfl) ?_ (by assumption) ?_
            rotate_left 1
            · (intro wS hSw; (try dsimp only at hSw); obtain ⟨hSa, hSb, hSc, hSd, hSe, hSf⟩ := hSw; go_simp; first | done | with_reducible rfl)
            try simp only [Act.put, List.setIfInBounds_toArray, List.set_cons_zero, List.set_cons_succ]
            refine wpAnyF_takeL 6 (v := ?_) rfl (by kernel_rfl) (by kernel_rfl) (by kernel_rfl) (by kernel_rfl) (fun _ _ _ h => h) (by rfl) ?_ (by assumption) ?_
            rotate_left 1
            · (intro wS hSw; (try dsimp only at hSw); obtain ⟨hSa, hSb, hSc, hSd, hSe, hSf⟩ := hSw; go_simp; first | done | with_reducible rfl)
            try simp only [Act.put, List.setIfInBounds_toArray, List.set_cons_zero, List.set_cons_succ]
            refine wpAnyF_takeL 7 (v := ?_) rfl (by kernel_rfl) (by kernel_rfl) (by kernel_rfl) (by kernel_rfl) (fun _ _ _ h => h) (by rfl) ?_ (by assumption) ?_
            rotate_left 1
            · (intro wS hSw; (try dsimp only at hSw); obtain ⟨hSa, hSb, hSc, hSd, hSe, hSf⟩ := hSw; go_simp; first | done | with_reducible rfl)
            try simp only [Act.put, List.setIfInBounds_toArray, List.set_cons_zero, List.set_cons_succ]
            refine wpAnyF_takeL 8 (v := ?_) rfl (by kernel_rfl) (by kernel_rfl) (by kernel_rfl) (by kernel_rfl) (fun _ _ _ h => h) (by rfl) ?_ (by assumption) ?_
            rotate_left 1
            · (intro wS hSw; (try dsimp only at hSw); obtain ⟨hSa, hSb, hSc, hSd, hSe, hSf⟩ := hSw; go_simp; first | done | with_reducible rfl)
            try simp only [Act.put, List.setIfInBounds_toArray, List.set_cons_zero, List.set_cons_succ]
            refine wpAnyF_takeL 9 (v := ?_) rfl (by kernel_rfl) (by kernel_rfl) (by kernel_rfl) (by kernel_rfl) (fun _ _ _ h => h) (by rfl) ?_ (by assumption) ?_
            rotate_left 1
            · (intro wS hSw; (try dsimp only at hSw); obtain ⟨hSa, hSb, hSc, hSd, hSe, hSf⟩ := hSw; go_simp; first | done | with_reducible rfl)
            try simp only [Act.put, List.setIfInBounds_toArray, List.set_cons_zero, List.set_cons_succ]
            refine wpAnyF_ready [10, 11] (by kernel_rfl) (by simp) (ReadyF.consL rfl (fun K hK => ?_) (ReadyF.consL rfl (fun K hK => ?_) ReadyF.nil))
            · go_simp
              have G1 := Lib.hid ((Below.refl wr.heap.size wr).alloc (Nat.le_refl _) (.cells #[.int .i64 0, .slice none 0 0] 76)).drew
              have q1h := Lib.hid (Blk.new wr 76 #[.int .i64 0, .slice none 0 0]).drew
              have S1 : (wr.alloc (.cells #[.int .i64 0, .slice none 0 0] 76)).drew.cell? ⟨w.heap.size, 3, none⟩ = some (.slice (some ad) descs1.length cD1) ∧ (wr.alloc (.cells #[.int .i64 0, .slice none 0 0] 76)).drew.cell? ⟨w.heap.size + 1, 3, none⟩ = some (.slice (some bd) descs2.length cD2) ∧ (wr.alloc (.cells #[.int .i64 0, .slice none 0 0] 76)).drew.cell? (ad.add (k * 2)) = some (.int .i64 a0) ∧ (wr.alloc (.cells #[.int .i64 0, .slice none 0 0] 76)).drew.cell? ⟨(ad.add (k * 2)).block, (ad.add (k * 2)).off + 1, none⟩ = some (.slice A1 a1.length c1) ∧ (wr.alloc (.cells #[.int .i64 0, .slice none 0 0] 76)).drew.cell? (bd.add (k * 2)) = some (.int .i64 b0) ∧ (wr.alloc (.cells #[.int .i64 0, .slice none 0 0] 76)).drew.cell? ⟨(bd.add (k * 2)).block, (bd.add (k * 2)).off + 1, none⟩ = some (.slice A2 b1.length c2) := HS _ G1.out
              refine hK.out _ _ (fun _ => S1) ?_
              clear hK K S0
              try simp only [Act.put, List.setIfInBounds_toArray, List.set_cons_zero, List.set_cons_succ]
              have hq1 : wr.heap.size ≤ wr.heap.size := Nat.le_refl _
              obtain ⟨q1, eq1⟩ : ∃ q1, q1 = wr.heap.size := ⟨_, rfl⟩
              have hlq1 := Lib.hid (show q1 < (wr.alloc (.cells #[.int .i64 0, .slice none 0 0] 76)).drew.heap.size by rw [eq1]; exact q1h.out.lt)
              have hgq1 := Lib.hid (show wr.heap.size ≤ q1 by rw [eq1]; exact Nat.le_refl _)
              try rw [show wr.drew.heap.size = wr.heap.size from rfl]
              rw [← eq1] at q1h ⊢
              clear eq1
              generalize (wr.alloc (.cells #[.int .i64 0, .slice none 0 0] 76)).drew = v1 at *
              refine wpAnyF_ready [11] (by kernel_rfl) (by simp) (ReadyF.consL rfl (fun K hK => ?_) ReadyF.nil)
              go_simp
              have G2 := Lib.hid (G1.out.alloc G1.out.size (.cells #[.int .i64 0, .slice none 0 0] 76))
              have q1i := Lib.hid (q1h.out.alloc (.cells #[.int .i64 0, .slice none 0 0] 76))
              have q2i := Lib.hid (Blk.new v1 76 #[.int .i64 0, .slice none 0 0])
              have S2 : (v1.alloc (.cells #[.int .i64 0, .slice none 0 0] 76)).cell? ⟨w.heap.size, 3, none⟩ = some (.slice (some ad) descs1.length cD1) ∧ (v1.alloc (.cells #[.int .i64 0, .slice none 0 0] 76)).cell? ⟨w.heap.size + 1, 3, none⟩ = some (.slice (some bd) descs2.length cD2) ∧ (v1.alloc (.cells #[.int .i64 0, .slice none 0 0] 76)).cell? (ad.add (k * 2)) = some (.int .i64 a0) ∧ (v1.alloc (.cells #[.int .i64 0, .slice none 0 0] 76)).cell? ⟨(ad.add (k * 2)).block, (ad.add (k * 2)).off + 1, none⟩ = some (.slice A1 a1.length c1) ∧ (v1.alloc (.cells #[.int .i64 0, .slice none 0 0] 76)).cell? (bd.add (k * 2)) = some (.int .i64 b0) ∧ (v1.alloc (.cells #[.int .i64 0, .slice none 0 0] 76)).cell? ⟨(bd.add (k * 2)).block, (bd.add (k * 2)).off + 1, none⟩ = some (.slice A2 b1.length c2) := HS _ G2.out
              have hne := Lib.hid (show q1 ≠ v1.heap.size from Nat.ne_of_lt hlq1.out)
              have hgq2 := Lib.hid (show wr.heap.size ≤ v1.heap.size from G1.out.size)
              refine hK.out _ _ (fun _ => S2) ?_
              clear hK K S1
              try simp only [Act.put, List.setIfInBounds_toArray, List.set_cons_zero, List.set_cons_succ]
              generalize v1.heap.size = q2 at *
              generalize v1.alloc (.cells #[.int .i64 0, .slice none 0 0] 76) = v2 at *
              refine wpAnyF_ready [12] (by kernel_rfl) (by simp) (ReadyF.consL rfl (fun K hK => ?_) ReadyF.nil)
              have t0 := q1i.out.cell 0
              have t1 := q1i.out.cell 1
              have f0 := q1i.out.frozen 0
              have f1 := q1i.out.frozen 1
              simp only [List.getElem?_toArray, List.getElem?_cons_zero, List.getElem?_cons_succ] at t0 t1
              go_simp
              have G3 := Lib.hid ((G2.out.setCell (p := ⟨q1, 0, none⟩) hgq1.out (.int .i64 a0)).setCell (p := ⟨q1, 1, none⟩) hgq1.out (.slice A1 a1.length c1))
              have q1j := Lib.hid (show Blk _ q1 76 #[.int .i64 a0, .slice A1 a1.length c1] from (q1i.out.set_ 0 (.int .i64 a0)).set_ 1 (.slice A1 a1.length c1))
              have q2j := Lib.hid ((q2i.out.far (p := ⟨q1, 0, none⟩) (fun e => hne.out e.symm) (.int .i64 a0)).far (p := ⟨q1, 1, none⟩) (fun e => hne.out e.symm) (.slice A1 a1.length c1))
              have S3 := HS _ G3.out
              refine hK.out _ _ (fun _ => S3) ?_
              clear hK K S2 t0 t1 f0 f1
              try simp only [Act.put, List.setIfInBounds_toArray, List.set_cons_zero, List.set_cons_succ]
              generalize (v2.setCell ⟨q1, 0, none⟩ (.int .i64 a0)).setCell ⟨q1, 1, none⟩ (.slice A1 a1.length c1) = v3 at *
              refine wpAnyF_ready [13] (by kernel_rfl) (by simp) (ReadyF.consL rfl (fun K hK => ?_) ReadyF.nil)
              have t0 := q2j.out.cell 0
              have t1 := q2j.out.cell 1
              have f0 := q2j.out.frozen 0
              have f1 := q2j.out.frozen 1
              simp only [List.getElem?_toArray, List.getElem?_cons_zero, List.getElem?_cons_succ] at t0 t1
              go_simp
              refine hK.out _ _ (fun h => absurd rfl h) ?_
              clear hK K
              try simp only [Act.put, List.setIfInBounds_toArray, List.set_cons_zero, List.set_cons_succ]
              have G4 := Lib.hid ((G3.out.setCell (p := ⟨q2, 0, none⟩) hgq2.out (.int .i64 b0)).setCell (p := ⟨q2, 1, none⟩) hgq2.out (.slice A2 b1.length c2))
              have q2k := Lib.hid (show Blk _ q2 76 #[.int .i64 b0, .slice A2 b1.length c2] from (q2j.out.set_ 0 (.int .i64 b0)).set_ 1 (.slice A2 b1.length c2))
              have q1k := Lib.hid ((q1j.out.far (p := ⟨q2, 0, none⟩) (fun e => hne.out e) (.int .i64 b0)).far (p := ⟨q2, 1, none⟩) (fun e => hne.out e) (.slice A2 b1.length c2))
              refine wpAnyF_done (by kernel_rfl) ?_ _
              generalize (v3.setCell ⟨q2, 0, none⟩ (.int .i64 b0)).setCell ⟨q2, 1, none⟩ (.slice A2 b1.length c2) = v4 at *
              go_wp2_with fail
              go_meet
              exact ⟨q1, q2, rfl, rfl, Lib.hid ⟨q1k.out, q2k.out, G4.out⟩⟩
            · go_simp
              have G1 := Lib.hid ((Below.refl wr.heap.size wr).alloc (Nat.le_refl _) (.cells #[.int .i64 0, .slice none 0 0] 76)).drew
              have q2h := Lib.hid (Blk.new wr 76 #[.int .i64 0, .slice none 0 0]).drew
              have S1 : (wr.alloc (.cells #[.int .i64 0, .slice none 0 0] 76)).drew.cell? ⟨w.heap.size, 3, none⟩ = some (.slice (some ad) descs1.length cD1) ∧ (wr.alloc (.cells #[.int .i64 0, .slice none 0 0] 76)).drew.cell? ⟨w.heap.size + 1, 3, none⟩ = some (.slice (some bd) descs2.length cD2) ∧ (wr.alloc (.cells #[.int .i64 0, .slice none 0 0] 76)).drew.cell? (ad.add (k * 2)) = some (.int .i64 a0) ∧ (wr.alloc (.cells #[.int .i64 0, .slice none 0 0] 76)).drew.cell? ⟨(ad.add (k * 2)).block, (ad.add (k * 2)).off + 1, none⟩ = some (.slice A1 a1.length c1) ∧ (wr.alloc (.cells #[.int .i64 0, .slice none 0 0] 76)).drew.cell? (bd.add (k * 2)) = some (.int .i64 b0) ∧ (wr.alloc (.cells #[.int .i64 0, .slice none 0 0] 76)).drew.cell? ⟨(bd.add (k * 2)).block, (bd.add (k * 2)).off + 1, none⟩ = some (.slice A2 b1.length c2) := HS _ G1.out
              refine hK.out _ _ (fun _ => S1) ?_
              clear hK K S0
              try simp only [Act.put, List.setIfInBounds_toArray, List.set_cons_zero, List.set_cons_succ]
              have hq1 : wr.heap.size ≤ wr.heap.size := Nat.le_refl _
              obtain ⟨q2, eq2⟩ : ∃ q2, q2 = wr.heap.size := ⟨_, rfl⟩
              have hlq2 := Lib.hid (show q2 < (wr.alloc (.cells #[.int .i64 0, .slice none 0 0] 76)).drew.heap.size by rw [eq2]; exact q2h.out.lt)
              have hgq2 := Lib.hid (show wr.heap.size ≤ q2 by rw [eq2]; exact Nat.le_refl _)
              try rw [show wr.drew.heap.size = wr.heap.size from rfl]
              rw [← eq2] at q2h ⊢
              clear eq2
              generalize (wr.alloc (.cells #[.int .i64 0, .slice none 0 0] 76)).drew = v1 at *
              refine wpAnyF_ready [10] (by kernel_rfl) (by simp) (ReadyF.consL rfl (fun K hK => ?_) ReadyF.nil)
              go_simp
              have G2 := Lib.hid (G1.out.alloc G1.out.size (.cells #[.int .i64 0, .slice none 0 0] 76))
              have q2i := Lib.hid (q2h.out.alloc (.cells #[.int .i64 0, .slice none 0 0] 76))
              have q1i := Lib.hid (Blk.new v1 76 #[.int .i64 0, .slice none 0 0])
              have S2 : (v1.alloc (.cells #[.int .i64 0, .slice none 0 0] 76)).cell? ⟨w.heap.size, 3, none⟩ = some (.slice (some ad) descs1.length cD1) ∧ (v1.alloc (.cells #[.int .i64 0, .slice none 0 0] 76)).cell? ⟨w.heap.size + 1, 3, none⟩ = some (.slice (some bd) descs2.length cD2) ∧ (v1.alloc (.cells #[.int .i64 0, .slice none 0 0] 76)).cell? (ad.add (k * 2)) = some (.int .i64 a0) ∧ (v1.alloc (.cells #[.int .i64 0, .slice none 0 0] 76)).cell? ⟨(ad.add (k * 2)).block, (ad.add (k * 2)).off + 1, none⟩ = some (.slice A1 a1.length c1) ∧ (v1.alloc (.cells #[.int .i64 0, .slice none 0 0] 76)).cell? (bd.add (k * 2)) = some (.int .i64 b0) ∧ (v1.alloc (.cells #[.int .i64 0, .slice none 0 0] 76)).cell? ⟨(bd.add (k * 2)).block, (bd.add (k * 2)).off + 1, none⟩ = some (.slice A2 b1.length c2) := HS _ G2.out
              have hne := Lib.hid (show q2 ≠ v1.heap.size from Nat.ne_of_lt hlq2.out)
              have hgq1 := Lib.hid (show wr.heap.size ≤ v1.heap.size from G1.out.size)
              refine hK.out _ _ (fun _ => S2) ?_
              clear hK K S1
              try simp only [Act.put, List.setIfInBounds_toArray, List.set_cons_zero, List.set_cons_succ]
              generalize v1.heap.size = q1 at *
              generalize v1.alloc (.cells #[.int .i64 0, .slice none 0 0] 76) = v2 at *
              refine wpAnyF_ready [12] (by kernel_rfl) (by simp) (ReadyF.consL rfl (fun K hK => ?_) ReadyF.nil)
              have t0 := q1i.out.cell 0
              have t1 := q1i.out.cell 1
              have f0 := q1i.out.frozen 0
              have f1 := q1i.out.frozen 1
              simp only [List.getElem?_toArray, List.getElem?_cons_zero, List.getElem?_cons_succ] at t0 t1
              go_simp
              have G3 := Lib.hid ((G2.out.setCell (p := ⟨q1, 0, none⟩) hgq1.out (.int .i64 a0)).setCell (p := ⟨q1, 1, none⟩) hgq1.out (.slice A1 a1.length c1))
              have q1j := Lib.hid (show Blk _ q1 76 #[.int .i64 a0, .slice A1 a1.length c1] from (q1i.out.set_ 0 (.int .i64 a0)).set_ 1 (.slice A1 a1.length c1))
              have q2j := Lib.hid ((q2i.out.far (p := ⟨q1, 0, none⟩) (fun e => hne.out e) (.int .i64 a0)).far (p := ⟨q1, 1, none⟩) (fun e => hne.out e) (.slice A1 a1.length c1))
              have S3 := HS _ G3.out
              refine hK.out _ _ (fun _ => S3) ?_
              clear hK K S2 t0 t1 f0 f1
              try simp only [Act.put, List.setIfInBounds_toArray, List.set_cons_zero, List.set_cons_succ]
              generalize (v2.setCell ⟨q1, 0, none⟩ (.int .i64 a0)).setCell ⟨q1, 1, none⟩ (.slice A1 a1.length c1) = v3 at *
              refine wpAnyF_ready [13] (by kernel_rfl) (by simp) (ReadyF.consL rfl (fun K hK => ?_) ReadyF.nil)
              have t0 := q2j.out.cell 0
              have t1 := q2j.out.cell 1
              have f0 := q2j.out.frozen 0
              have f1 := q2j.out.frozen 1
              simp only [List.getElem?_toArray, List.getElem?_cons_zero, List.getElem?_cons_succ] at t0 t1
              go_simp
              refine hK.out _ _ (fun h => absurd rfl h) ?_
              clear hK K
              try simp only [Act.put, List.setIfInBounds_toArray, List.set_cons_zero, List.set_cons_succ]
              have G4 := Lib.hid ((G3.out.setCell (p := ⟨q2, 0, none⟩) hgq2.out (.int .i64 b0)).setCell (p := ⟨q2, 1, none⟩) hgq2.out (.slice A2 b1.length c2))
              have q2k := Lib.hid (show Blk _ q2 76 #[.int .i64 b0, .slice A2 b1.length c2] from (q2j.out.set_ 0 (.int .i64 b0)).set_ 1 (.slice A2 b1.length c2))
              have q1k := Lib.hid ((q1j.out.far (p := ⟨q2, 0, none⟩) (fun e => hne.out e.symm) (.int .i64 b0)).far (p := ⟨q2, 1, none⟩) (fun e => hne.out e.symm) (.slice A2 b1.length c2))
              refine wpAnyF_done (by kernel_rfl) ?_ _
              generalize (v3.setCell ⟨q2, 0, none⟩ (.int .i64 b0)).setCell ⟨q2, 1, none⟩ (.slice A2 b1.length c2) = v4 at *
              go_wp2_with fail
              go_meet
              exact ⟨q1, q2, rfl, rfl, Lib.hid ⟨q1k.out, q2k.out, G4.out⟩⟩
          case rest =>
            obtain ⟨q1, q2, rfl, rfl, hC⟩ := hcut
            have X1 := Lib.hid hC.out.1
            have X2 := Lib.hid hC.out.2.1
            have BC := Lib.hid (hwh.out.trans (hC.out.2.2.mono hwh.out.size))
            have BE := Lib.hid (B2.out.trans (BC.out.mono B2.out.size))
            have t0 := X1.out.cell 0
            have t1 := X1.out.cell 1
            have s0 := X2.out.cell 0
            have s1 := X2.out.cell 1
            simp only [List.getElem?_toArray, List.getElem?_cons_zero, List.getElem?_cons_succ] at t0 t1 s0 s1
            clear hC HS
            by_cases hd0 : a0 = b0
            case neg =>
              have hno := Lib.hid (same_no (a := ⟨name1, key1, uses1, descs1, data1, strings1, code1, entries1, calls1, places1⟩) (b := ⟨name1, key1, uses1, descs2, data1, strings1, code1, entries1, calls1, places1⟩) (fun e => by injection e with e0 e1 e2 e3 e4 e5 e6 e7 e8 e9; exact (fun h => by have e := ela.out; rw [h, ema.out] at e; injection e with e _; exact hd0 e.symm) e3))
              have h0b : (a0 != b0) = true := by rw [bne_iff_ne]; exact hd0
              clear hd0
              go_wp2_with fail
              go_ret
              exact ⟨ret_b hno.out, BE.out⟩
            subst hd0
            by_cases hd1 : a1.length = b1.length
            case neg =>
              have hno := Lib.hid (same_no (a := ⟨name1, key1, uses1, descs1, data1, strings1, code1, entries1, calls1, places1⟩) (b := ⟨name1, key1, uses1, descs2, data1, strings1, code1, entries1, calls1, places1⟩) (fun e => by injection e with e0 e1 e2 e3 e4 e5 e6 e7 e8 e9; exact (fun h => by have e := ela.out; rw [h, ema.out] at e; injection e with _ e; exact hd1 (by rw [e])) e3))
              have h0b : ((a1.length : Int) != (b1.length : Int)) = true := by rw [bne_iff_ne]; omega
              clear hd1
              go_wp2_with fail
              go_ret
              exact ⟨ret_b hno.out, BE.out⟩
            have hd1h := Lib.hid hd1
            have h1b : ((a1.length : Int) != (b1.length : Int)) = false := by rw [hd1]; simp
            clear hd1
            go_wp2_with fail
            clear t0 t1 s0 s1
            go_loopw [9] (fun i wr => ∃ n : Nat, i = .int .i64 n ∧ n ≤ a1.length ∧ (∀ j, j < n → a1.getD j (0, 0) = b1.getD j (0, 0)) ∧ Below wc.heap.size wc wr) (fun i _ => a1.length - (intOf i).toNat)
            case atStart => exact ⟨0, rfl, by omega, fun j hj => by omega, Below.refl _ _⟩
            case round =>
              obtain ⟨n, rfl, hn, hjn, hwn⟩ := hrel
              have huln : a1.length ≤ 9223372036854775807 := E1h.out.len
              have hjn := Lib.hid hjn
              have hwnh := Lib.hid hwn
              have t1 : wr.cell? ⟨q1, 1, none⟩ = some (.slice A1 a1.length c1) := (X1.out.below hwn X1.out.lt).cell 1
              have s1 : wr.cell? ⟨q2, 1, none⟩ = some (.slice A2 b1.length c2) := (X2.out.below hwn X2.out.lt).cell 1
              have BN : RowKit.Hid (∀ m, Below W9.heap.size W9 (wr.drewN m)) := Lib.hid (fun m => BC.out.trans ((hwn.trans ((sl_drewN_below wr m).mono hwn.size)).mono BC.out.size))
              clear hwn
              by_cases hltn : (n : Int) < (a1.length : Int)
              · have hnl : n < a1.length := by omega
                have hnm : n < b1.length := by have := hd1h.out; omega
                obtain ⟨gd, rfl, hgd, x1⟩ := rowOf_at (E1h.out.below BC.out) n hnl
                obtain ⟨hd, rfl, hhd, x2⟩ := rowOf_at (E2h.out.below BC.out) n hnm
                obtain ⟨y0, x3, p0⟩ := x1 0 (by decide)
                obtain ⟨y1, x4, p1⟩ := x1 1 (by decide)
                obtain ⟨y2, x5, p2⟩ := x2 0 (by decide)
                obtain ⟨y3, x6, p3⟩ := x2 1 (by decide)
                obtain rfl := p0.1 rfl
                obtain rfl := p1.2 rfl
                obtain rfl := p2.1 rfl
                obtain rfl := p3.2 rfl
                have hnm2 : (n : Int) < (b1.length : Int) := by omega
                have elb : a1.getD n (0, 0) = a1[n] := by simp [List.getD, hnl]
                have emb : b1.getD n (0, 0) = b1[n] := by simp [List.getD, hnm]
                have X3 : wr.cell? (gd.add (n * 2)) = some (.int .i64 a1[n].1) := (hwnh.out.cell (p := gd.add (n * 2)) (by rw [block_add]; exact hgd)).trans x3
                have X4 : wr.cell? ⟨(gd.add (n * 2)).block, (gd.add (n * 2)).off + 1, none⟩ = some (.int .i64 a1[n].2) := (hwnh.out.cell (p := ⟨(gd.add (n * 2)).block, (gd.add (n * 2)).off + 1, none⟩) (by show (gd.add (n * 2)).block < _; rw [block_add]; exact hgd)).trans x4
                have X5 : wr.cell? (hd.add (n * 2)) = some (.int .i64 b1[n].1) := (hwnh.out.cell (p := hd.add (n * 2)) (by rw [block_add]; exact hhd)).trans x5
                have X6 : wr.cell? ⟨(hd.add (n * 2)).block, (hd.add (n * 2)).off + 1, none⟩ = some (.int .i64 b1[n].2) := (hwnh.out.cell (p := ⟨(hd.add (n * 2)).block, (hd.add (n * 2)).off + 1, none⟩) (by show (hd.add (n * 2)).block < _; rw [block_add]; exact hhd)).trans x6
                clear x1 x2 x3 x4 x5 x6 p0 p1 p2 p3
                generalize a1[n] = la at *
                generalize b1[n] = ma at *
                have elb := Lib.hid elb
                have emb := Lib.hid emb
                obtain ⟨g0, g1⟩ := la
                obtain ⟨k0, k1⟩ := ma
                dsimp only at X3 X4 X5 X6
                by_cases heq : (g0, g1) = (k0, k1)
                · injection heq with h0 h1
                  subst h0 h1
                  go_wp2_with fail
                  go_quiet (fail)
                  go_wp2_with fail
                  refine ⟨⟨n + 1, by go_num, by omega, fun j hj' => ?_, hwnh.out.trans ((sl_drewN_below wr _).mono hwnh.out.size)⟩, by simp [intOf]; omega⟩
                  rcases Nat.lt_or_ge j n with h | h
                  · exact hjn.out j h
                  · obtain rfl : j = n := by omega
                    rw [elb.out, emb.out]
                · have hno := Lib.hid (same_no (a := ⟨name1, key1, uses1, descs1, data1, strings1, code1, entries1, calls1, places1⟩) (b := ⟨name1, key1, uses1, descs2, data1, strings1, code1, entries1, calls1, places1⟩) (fun e => by injection e with e0 e1 e2 e3 e4 e5 e6 e7 e8 e9; exact (fun h => by have e := ela.out; rw [h, ema.out] at e; injection e with _ e; exact heq (by rw [← elb.out, ← emb.out, e])) e3))
                  by_cases h0 : g0 = k0
                  · have h1 : ¬ g1 = k1 := fun h => heq (by rw [h0, h])
                    have h1b : (g1 != k1) = true := by rw [bne_iff_ne]; exact h1
                    subst h0
                    clear heq
                    go_wp2_with fail
                    go_quiet (fail)
                    go_wp2_with fail
                    go_ret
                    exact ⟨ret_b hno.out, B2.out.trans ((BN.out _).mono B2.out.size)⟩
                  · have h0b : (g0 != k0) = true := by rw [bne_iff_ne]; exact h0
                    clear heq h0
                    go_wp2_with fail
                    go_quiet (fail)
                    go_wp2_with fail
                    go_ret
                    exact ⟨ret_b hno.out, B2.out.trans ((BN.out _).mono B2.out.size)⟩
              · have hexs : a1 = b1 := of_decide_eq_true (list_eq_at2 (z := (0, 0)) hd1h.out (fun j h => hjn.out j (by omega))).symm
                have hexh := Lib.hid hexs
                clear hexs
                go_wp2_with fail
                refine ⟨⟨k + 1, by go_num, by omega, fun j hj' => ?_, BC.out.trans (hwnh.out.mono BC.out.size)⟩, by simp [intOf]; omega⟩
                rcases Nat.lt_or_ge j k with h | h
                · exact hj.out j h
                · obtain rfl : j = k := by omega
                  rw [ela.out, ema.out, hexh.out]
        · have hds : descs1 = descs2 := of_decide_eq_true (list_eq_at2 (z := (0, [])) hdescs.out (fun j h => hj.out j (by omega))).symm
          subst hds
          go_wp2_with fail
          go_ret
          exact ⟨ret_b (sameO_self _).symm, B2.out.trans (hwh.out.mono B2.out.size)⟩

end Go.Proofs.Ytceflhffilldeaa

/-
  The document's Same, walked.
-/
namespace Go.Proofs.Ytceflhffilldeaa
set_option linter.unusedVariables false
set_option linter.unusedSimpArgs false
open Go.RowKit ObjL

theorem ref23_same (a b : Ob) (aU aD aC aE bU bD bC bE : Value) (w : World) (ha : ObParts w a aU aD aC aE) (hb : ObParts w b bU bD bC bE) :
    Calls Try.prog 28 #[.agg (obCells a aU aD aC aE), .agg (obCells b bU bD bC bE)] w fun e w' => e = .returned (.bool (sameO a b)) ∧ Below w.heap.size w w' := by
  by_cases h0 : a.name = b.name
  case neg => exact (sd_no0 a b _ _ _ _ _ _ _ _ w ha hb h0).mono fun e w' h => ⟨h.1.trans (ret_b (same_no (fun e => h0 (by rw [e])))), h.2⟩
  by_cases h1 : a.key = b.key
  case neg => exact (sd_no1 a b _ _ _ _ _ _ _ _ w ha hb h0 h1).mono fun e w' h => ⟨h.1.trans (ret_b (same_no (fun e => h1 (by rw [e])))), h.2⟩
  by_cases h2 : a.data = b.data
  case neg => exact (sd_no2 a b _ _ _ _ _ _ _ _ w ha hb h0 h1 h2).mono fun e w' h => ⟨h.1.trans (ret_b (same_no (fun e => h2 (by rw [e])))), h.2⟩
  by_cases h3 : a.strings = b.strings
  case neg => exact (sd_no3 a b _ _ _ _ _ _ _ _ w ha hb h0 h1 h2 h3).mono fun e w' h => ⟨h.1.trans (ret_b (same_no (fun e => h3 (by rw [e])))), h.2⟩
  by_cases h4 : a.calls = b.calls
  case neg => exact (sd_no4 a b _ _ _ _ _ _ _ _ w ha hb h0 h1 h2 h3 h4).mono fun e w' h => ⟨h.1.trans (ret_b (same_no (fun e => h4 (by rw [e])))), h.2⟩
  by_cases h5 : a.places = b.places
  case neg => exact (sd_no5 a b _ _ _ _ _ _ _ _ w ha hb h0 h1 h2 h3 h4 h5).mono fun e w' h => ⟨h.1.trans (ret_b (same_no (fun e => h5 (by rw [e])))), h.2⟩
  by_cases h6 : a.uses.length = b.uses.length
  case neg => exact (sd_no6 a b _ _ _ _ _ _ _ _ w ha hb h0 h1 h2 h3 h4 h5 h6).mono fun e w' h => ⟨h.1.trans (ret_b (same_no (fun e => h6 (by rw [e])))), h.2⟩
  by_cases h7 : a.descs.length = b.descs.length
  case neg => exact (sd_no7 a b _ _ _ _ _ _ _ _ w ha hb h0 h1 h2 h3 h4 h5 h6 h7).mono fun e w' h => ⟨h.1.trans (ret_b (same_no (fun e => h7 (by rw [e])))), h.2⟩
  by_cases h8 : a.code = b.code
  case neg => exact (sd_no8 a b _ _ _ _ _ _ _ _ w ha hb h0 h1 h2 h3 h4 h5 h6 h7 h8).mono fun e w' h => ⟨h.1.trans (ret_b (same_no (fun e => h8 (by rw [e])))), h.2⟩
  by_cases h9 : a.entries = b.entries
  case neg => exact (sd_no9 a b _ _ _ _ _ _ _ _ w ha hb h0 h1 h2 h3 h4 h5 h6 h7 h8 h9).mono fun e w' h => ⟨h.1.trans (ret_b (same_no (fun e => h9 (by rw [e])))), h.2⟩
  exact sd_yes a b _ _ _ _ _ _ _ _ w ha hb h0 h1 h2 h3 h4 h5 h6 h7 h8 h9
end Go.Proofs.Ytceflhffilldeaa
