/-
  The program's Same, walked.
-/
import Derived.Test.YtceflhffilldeaaZSameP
namespace Go.Proofs.Ytceflhffilldeaa
set_option linter.unusedVariables false
set_option linter.unusedSimpArgs false
open Go.RowKit ObjL

theorem cell_dr {w w' : World} {q : Nat} {p : Addr} {x : Option Value} (h : w' = w.drewN q) (k : w.cell? p = x) : w'.cell? p = x := by subst h; exact k
theorem same_no {a b : Ob} (h : a ≠ b) : false = sameO a b := (sameO_no h).symm
set_option maxRecDepth 100000 in
set_option maxHeartbeats 4000000 in
theorem obj_same (a b : Ob) (aU aD aC aE bU bD bC bE : Value) (w : World) (ha : ObParts w a aU aD aC aE) (hb : ObParts w b bU bD bC bE) :
    Calls Try.prog 33 #[.agg (obCells a aU aD aC aE), .agg (obCells b bU bD bC bE)] w fun e w' => e = .returned (.bool (sameO a b)) ∧ Below w.heap.size w w' := by
  obtain ⟨name1, key1, uses1, descs1, data1, strings1, code1, entries1, calls1, places1⟩ := a
  obtain ⟨name2, key2, uses2, descs2, data2, strings2, code2, entries2, calls2, places2⟩ := b
  have ha0 := Lib.hid ha
  have hb0 := Lib.hid hb
  obtain ⟨⟨-, AU1, cU1, rfl, -⟩, ⟨-, AD1, cD1, rfl, -⟩, ⟨-, AC1, cC1, rfl, -⟩, ⟨-, AE1, cE1, rfl, -⟩⟩ := ha
  obtain ⟨⟨-, AU2, cU2, rfl, -⟩, ⟨-, AD2, cD2, rfl, -⟩, ⟨-, AC2, cC2, rfl, -⟩, ⟨-, AE2, cE2, rfl, -⟩⟩ := hb
  simp only [obCells]
  have B2 := ((Below.refl w.heap.size w).alloc (Nat.le_refl _) (.cells #[.string (txt name1), .int .u32 key1, .slice AU1 uses1.length cU1, .slice AD1 descs1.length cD1, .int .i64 data1, .string (txt strings1), .slice AC1 code1.length cC1, .slice AE1 entries1.length cE1, .int .i64 calls1, .int .i64 places1] 49)).alloc (by simp) (.cells #[.string (txt name2), .int .u32 key2, .slice AU2 uses2.length cU2, .slice AD2 descs2.length cD2, .int .i64 data2, .string (txt strings2), .slice AC2 code2.length cC2, .slice AE2 entries2.length cE2, .int .i64 calls2, .int .i64 places2] 49)
  have L1 := Lib.hid ((Blk.new w 49 #[.string (txt name1), .int .u32 key1, .slice AU1 uses1.length cU1, .slice AD1 descs1.length cD1, .int .i64 data1, .string (txt strings1), .slice AC1 code1.length cC1, .slice AE1 entries1.length cE1, .int .i64 calls1, .int .i64 places1]).alloc (.cells #[.string (txt name2), .int .u32 key2, .slice AU2 uses2.length cU2, .slice AD2 descs2.length cD2, .int .i64 data2, .string (txt strings2), .slice AC2 code2.length cC2, .slice AE2 entries2.length cE2, .int .i64 calls2, .int .i64 places2] 49))
  have hs1 : (w.alloc (.cells #[.string (txt name1), .int .u32 key1, .slice AU1 uses1.length cU1, .slice AD1 descs1.length cD1, .int .i64 data1, .string (txt strings1), .slice AC1 code1.length cC1, .slice AE1 entries1.length cE1, .int .i64 calls1, .int .i64 places1] 49)).heap.size = w.heap.size + 1 := by simp
  have L2 := Blk.new (w.alloc (.cells #[.string (txt name1), .int .u32 key1, .slice AU1 uses1.length cU1, .slice AD1 descs1.length cD1, .int .i64 data1, .string (txt strings1), .slice AC1 code1.length cC1, .slice AE1 entries1.length cE1, .int .i64 calls1, .int .i64 places1] 49)) 49 #[.string (txt name2), .int .u32 key2, .slice AU2 uses2.length cU2, .slice AD2 descs2.length cD2, .int .i64 data2, .string (txt strings2), .slice AC2 code2.length cC2, .slice AE2 entries2.length cE2, .int .i64 calls2, .int .i64 places2]
  rw [hs1] at L2
  have L2 := Lib.hid L2
  have P1 := Lib.hid (ha0.out.below B2)
  have P2 := Lib.hid (hb0.out.below B2)
  have B2 := Lib.hid B2
  clear hs1 ha0 hb0
  go_enter Try.func33, Try.ntmps33
  go_upto_region 1 with fail
  generalize hW : (w.alloc (.cells #[.string (txt name1), .int .u32 key1, .slice AU1 uses1.length cU1, .slice AD1 descs1.length cD1, .int .i64 data1, .string (txt strings1), .slice AC1 code1.length cC1, .slice AE1 entries1.length cE1, .int .i64 calls1, .int .i64 places1] 49)).alloc (.cells #[.string (txt name2), .int .u32 key2, .slice AU2 uses2.length cU2, .slice AD2 descs2.length cD2, .int .i64 data2, .string (txt strings2), .slice AC2 code2.length cC2, .slice AE2 entries2.length cE2, .int .i64 calls2, .int .i64 places2] 49) = W at *
  clear hW
  have a0 := L1.out.cell 0
  have b0 := L2.out.cell 0
  have a1 := L1.out.cell 1
  have b1 := L2.out.cell 1
  have a2 := L1.out.cell 2
  have b2 := L2.out.cell 2
  have a3 := L1.out.cell 3
  have b3 := L2.out.cell 3
  have a4 := L1.out.cell 4
  have b4 := L2.out.cell 4
  have a5 := L1.out.cell 5
  have b5 := L2.out.cell 5
  have a6 := L1.out.cell 6
  have b6 := L2.out.cell 6
  have a7 := L1.out.cell 7
  have b7 := L2.out.cell 7
  have a8 := L1.out.cell 8
  have b8 := L2.out.cell 8
  have a9 := L1.out.cell 9
  have b9 := L2.out.cell 9
  simp only [List.getElem?_toArray, List.getElem?_cons_zero, List.getElem?_cons_succ] at a0 b0 a1 b1 a2 b2 a3 b3 a4 b4 a5 b5 a6 b6 a7 b7 a8 b8 a9 b9
  by_cases hx : name1 = name2
  case neg =>
    have hno := Lib.hid (same_no (a := ⟨name1, key1, uses1, descs1, data1, strings1, code1, entries1, calls1, places1⟩) (b := ⟨name2, key2, uses2, descs2, data2, strings2, code2, entries2, calls2, places2⟩) (fun e => by injection e with e0 e1 e2 e3 e4 e5 e6 e7 e8 e9; exact hx e0))
    have hs : ((txt name1).toList == (txt name2).toList) = false := by rw [Bool.eq_false_iff]; exact fun e => hx (txt_inj ((sl_same _ _).1 e))
    have hs2 : ¬ (txt name1).toList = (txt name2).toList := by simpa using hs
    clear hx
    go_wp2_with fail
    go_ret
    exact ⟨ret_b hno.out, B2.out⟩
  subst hx
  by_cases hx : key1 = key2
  case neg =>
    have hno := Lib.hid (same_no (a := ⟨name1, key1, uses1, descs1, data1, strings1, code1, entries1, calls1, places1⟩) (b := ⟨name1, key2, uses2, descs2, data2, strings2, code2, entries2, calls2, places2⟩) (fun e => by injection e with e0 e1 e2 e3 e4 e5 e6 e7 e8 e9; exact hx e1))
    have hs : (key1 == key2) = false := by rw [beq_eq_false_iff_ne]; exact hx
    clear hx
    go_wp2_with fail
    go_ret
    exact ⟨ret_b hno.out, B2.out⟩
  subst hx
  by_cases hx : data1 = data2
  case neg =>
    have hno := Lib.hid (same_no (a := ⟨name1, key1, uses1, descs1, data1, strings1, code1, entries1, calls1, places1⟩) (b := ⟨name1, key1, uses2, descs2, data2, strings2, code2, entries2, calls2, places2⟩) (fun e => by injection e with e0 e1 e2 e3 e4 e5 e6 e7 e8 e9; exact hx e4))
    have hs : (data1 == data2) = false := by rw [beq_eq_false_iff_ne]; exact hx
    clear hx
    go_wp2_with fail
    go_ret
    exact ⟨ret_b hno.out, B2.out⟩
  subst hx
  by_cases hx : strings1 = strings2
  case neg =>
    have hno := Lib.hid (same_no (a := ⟨name1, key1, uses1, descs1, data1, strings1, code1, entries1, calls1, places1⟩) (b := ⟨name1, key1, uses2, descs2, data1, strings2, code2, entries2, calls2, places2⟩) (fun e => by injection e with e0 e1 e2 e3 e4 e5 e6 e7 e8 e9; exact hx e5))
    have hs : ((txt strings1).toList == (txt strings2).toList) = false := by rw [Bool.eq_false_iff]; exact fun e => hx (txt_inj ((sl_same _ _).1 e))
    have hs2 : ¬ (txt strings1).toList = (txt strings2).toList := by simpa using hs
    clear hx
    go_wp2_with fail
    go_ret
    exact ⟨ret_b hno.out, B2.out⟩
  subst hx
  by_cases hx : calls1 = calls2
  case neg =>
    have hno := Lib.hid (same_no (a := ⟨name1, key1, uses1, descs1, data1, strings1, code1, entries1, calls1, places1⟩) (b := ⟨name1, key1, uses2, descs2, data1, strings1, code2, entries2, calls2, places2⟩) (fun e => by injection e with e0 e1 e2 e3 e4 e5 e6 e7 e8 e9; exact hx e8))
    have hs : (calls1 == calls2) = false := by rw [beq_eq_false_iff_ne]; exact hx
    clear hx
    go_wp2_with fail
    go_ret
    exact ⟨ret_b hno.out, B2.out⟩
  subst hx
  by_cases hx : places1 = places2
  case neg =>
    have hno := Lib.hid (same_no (a := ⟨name1, key1, uses1, descs1, data1, strings1, code1, entries1, calls1, places1⟩) (b := ⟨name1, key1, uses2, descs2, data1, strings1, code2, entries2, calls1, places2⟩) (fun e => by injection e with e0 e1 e2 e3 e4 e5 e6 e7 e8 e9; exact hx e9))
    have hs : (places1 == places2) = false := by rw [beq_eq_false_iff_ne]; exact hx
    clear hx
    go_wp2_with fail
    go_ret
    exact ⟨ret_b hno.out, B2.out⟩
  subst hx
  by_cases hx : uses1 = uses2
  case neg =>
    have hno := Lib.hid (same_no (a := ⟨name1, key1, uses1, descs1, data1, strings1, code1, entries1, calls1, places1⟩) (b := ⟨name1, key1, uses2, descs2, data1, strings1, code2, entries2, calls1, places1⟩) (fun e => by injection e with e0 e1 e2 e3 e4 e5 e6 e7 e8 e9; exact hx e2))
    have CX := sl_eq_used (.slice AU1 uses1.length cU1) (.slice AU2 uses2.length cU2) uses1 uses2 W P1.out.uses P2.out.uses
    rw [(show decide (uses1 = uses2) = false from decide_eq_false hx)] at CX
    have CX := Lib.hid CX
    clear hx
    go_wp2_with fail
    refine CX.out.mono ?_
    rintro e W6 ⟨rfl, q6, hq6⟩
    have P1 : RowKit.Hid (ObParts W6 _ _ _ _ _) := Lib.hid (hq6 ▸ P1.out.below (sl_drewN_below _ _))
    have P2 : RowKit.Hid (ObParts W6 _ _ _ _ _) := Lib.hid (hq6 ▸ P2.out.below (sl_drewN_below _ _))
    have B2 : RowKit.Hid (Below _ w W6) := Lib.hid (by rw [hq6]; exact B2.out.trans ((sl_drewN_below W _).mono B2.out.size))
    have a0 := cell_dr hq6 a0
    have b0 := cell_dr hq6 b0
    have a1 := cell_dr hq6 a1
    have b1 := cell_dr hq6 b1
    have a2 := cell_dr hq6 a2
    have b2 := cell_dr hq6 b2
    have a3 := cell_dr hq6 a3
    have b3 := cell_dr hq6 b3
    have a4 := cell_dr hq6 a4
    have b4 := cell_dr hq6 b4
    have a5 := cell_dr hq6 a5
    have b5 := cell_dr hq6 b5
    have a6 := cell_dr hq6 a6
    have b6 := cell_dr hq6 b6
    have a7 := cell_dr hq6 a7
    have b7 := cell_dr hq6 b7
    have a8 := cell_dr hq6 a8
    have b8 := cell_dr hq6 b8
    have a9 := cell_dr hq6 a9
    have b9 := cell_dr hq6 b9
    clear CX hq6
    go_wp2_with fail
    go_ret
    exact ⟨ret_b hno.out, B2.out⟩
  subst hx
  by_cases hx : code1 = code2
  case neg =>
    have hno := Lib.hid (same_no (a := ⟨name1, key1, uses1, descs1, data1, strings1, code1, entries1, calls1, places1⟩) (b := ⟨name1, key1, uses1, descs2, data1, strings1, code2, entries2, calls1, places1⟩) (fun e => by injection e with e0 e1 e2 e3 e4 e5 e6 e7 e8 e9; exact hx e6))
    have CX := sl_eq_used (.slice AU1 uses1.length cU1) (.slice AU2 uses1.length cU2) uses1 uses1 W P1.out.uses P2.out.uses
    rw [(show decide (uses1 = uses1) = true from decide_eq_true rfl)] at CX
    have CX := Lib.hid CX
    go_wp2_with fail
    refine CX.out.mono ?_
    rintro e W6 ⟨rfl, q6, hq6⟩
    have P1 : RowKit.Hid (ObParts W6 _ _ _ _ _) := Lib.hid (hq6 ▸ P1.out.below (sl_drewN_below _ _))
    have P2 : RowKit.Hid (ObParts W6 _ _ _ _ _) := Lib.hid (hq6 ▸ P2.out.below (sl_drewN_below _ _))
    have B2 : RowKit.Hid (Below _ w W6) := Lib.hid (by rw [hq6]; exact B2.out.trans ((sl_drewN_below W _).mono B2.out.size))
    have a0 := cell_dr hq6 a0
    have b0 := cell_dr hq6 b0
    have a1 := cell_dr hq6 a1
    have b1 := cell_dr hq6 b1
    have a2 := cell_dr hq6 a2
    have b2 := cell_dr hq6 b2
    have a3 := cell_dr hq6 a3
    have b3 := cell_dr hq6 b3
    have a4 := cell_dr hq6 a4
    have b4 := cell_dr hq6 b4
    have a5 := cell_dr hq6 a5
    have b5 := cell_dr hq6 b5
    have a6 := cell_dr hq6 a6
    have b6 := cell_dr hq6 b6
    have a7 := cell_dr hq6 a7
    have b7 := cell_dr hq6 b7
    have a8 := cell_dr hq6 a8
    have b8 := cell_dr hq6 b8
    have a9 := cell_dr hq6 a9
    have b9 := cell_dr hq6 b9
    clear CX hq6
    have CX := sl_eq_u32 (.slice AC1 code1.length cC1) (.slice AC2 code2.length cC2) code1 code2 W6 P1.out.code P2.out.code
    rw [(show decide (code1 = code2) = false from decide_eq_false hx)] at CX
    have CX := Lib.hid CX
    clear hx
    go_wp2_with fail
    refine CX.out.mono ?_
    rintro e W7 ⟨rfl, q7, hq7⟩
    have P1 : RowKit.Hid (ObParts W7 _ _ _ _ _) := Lib.hid (hq7 ▸ P1.out.below (sl_drewN_below _ _))
    have P2 : RowKit.Hid (ObParts W7 _ _ _ _ _) := Lib.hid (hq7 ▸ P2.out.below (sl_drewN_below _ _))
    have B2 : RowKit.Hid (Below _ w W7) := Lib.hid (by rw [hq7]; exact B2.out.trans ((sl_drewN_below W6 _).mono B2.out.size))
    have a0 := cell_dr hq7 a0
    have b0 := cell_dr hq7 b0
    have a1 := cell_dr hq7 a1
    have b1 := cell_dr hq7 b1
    have a2 := cell_dr hq7 a2
    have b2 := cell_dr hq7 b2
    have a3 := cell_dr hq7 a3
    have b3 := cell_dr hq7 b3
    have a4 := cell_dr hq7 a4
    have b4 := cell_dr hq7 b4
    have a5 := cell_dr hq7 a5
    have b5 := cell_dr hq7 b5
    have a6 := cell_dr hq7 a6
    have b6 := cell_dr hq7 b6
    have a7 := cell_dr hq7 a7
    have b7 := cell_dr hq7 b7
    have a8 := cell_dr hq7 a8
    have b8 := cell_dr hq7 b8
    have a9 := cell_dr hq7 a9
    have b9 := cell_dr hq7 b9
    clear CX hq7
    go_wp2_with fail
    go_ret
    exact ⟨ret_b hno.out, B2.out⟩
  subst hx
  by_cases hx : entries1 = entries2
  case neg =>
    have hno := Lib.hid (same_no (a := ⟨name1, key1, uses1, descs1, data1, strings1, code1, entries1, calls1, places1⟩) (b := ⟨name1, key1, uses1, descs2, data1, strings1, code1, entries2, calls1, places1⟩) (fun e => by injection e with e0 e1 e2 e3 e4 e5 e6 e7 e8 e9; exact hx e7))
    have CX := sl_eq_used (.slice AU1 uses1.length cU1) (.slice AU2 uses1.length cU2) uses1 uses1 W P1.out.uses P2.out.uses
    rw [(show decide (uses1 = uses1) = true from decide_eq_true rfl)] at CX
    have CX := Lib.hid CX
    go_wp2_with fail
    refine CX.out.mono ?_
    rintro e W6 ⟨rfl, q6, hq6⟩
    have P1 : RowKit.Hid (ObParts W6 _ _ _ _ _) := Lib.hid (hq6 ▸ P1.out.below (sl_drewN_below _ _))
    have P2 : RowKit.Hid (ObParts W6 _ _ _ _ _) := Lib.hid (hq6 ▸ P2.out.below (sl_drewN_below _ _))
    have B2 : RowKit.Hid (Below _ w W6) := Lib.hid (by rw [hq6]; exact B2.out.trans ((sl_drewN_below W _).mono B2.out.size))
    have a0 := cell_dr hq6 a0
    have b0 := cell_dr hq6 b0
    have a1 := cell_dr hq6 a1
    have b1 := cell_dr hq6 b1
    have a2 := cell_dr hq6 a2
    have b2 := cell_dr hq6 b2
    have a3 := cell_dr hq6 a3
    have b3 := cell_dr hq6 b3
    have a4 := cell_dr hq6 a4
    have b4 := cell_dr hq6 b4
    have a5 := cell_dr hq6 a5
    have b5 := cell_dr hq6 b5
    have a6 := cell_dr hq6 a6
    have b6 := cell_dr hq6 b6
    have a7 := cell_dr hq6 a7
    have b7 := cell_dr hq6 b7
    have a8 := cell_dr hq6 a8
    have b8 := cell_dr hq6 b8
    have a9 := cell_dr hq6 a9
    have b9 := cell_dr hq6 b9
    clear CX hq6
    have CX := sl_eq_u32 (.slice AC1 code1.length cC1) (.slice AC2 code1.length cC2) code1 code1 W6 P1.out.code P2.out.code
    rw [(show decide (code1 = code1) = true from decide_eq_true rfl)] at CX
    have CX := Lib.hid CX
    go_wp2_with fail
    refine CX.out.mono ?_
    rintro e W7 ⟨rfl, q7, hq7⟩
    have P1 : RowKit.Hid (ObParts W7 _ _ _ _ _) := Lib.hid (hq7 ▸ P1.out.below (sl_drewN_below _ _))
    have P2 : RowKit.Hid (ObParts W7 _ _ _ _ _) := Lib.hid (hq7 ▸ P2.out.below (sl_drewN_below _ _))
    have B2 : RowKit.Hid (Below _ w W7) := Lib.hid (by rw [hq7]; exact B2.out.trans ((sl_drewN_below W6 _).mono B2.out.size))
    have a0 := cell_dr hq7 a0
    have b0 := cell_dr hq7 b0
    have a1 := cell_dr hq7 a1
    have b1 := cell_dr hq7 b1
    have a2 := cell_dr hq7 a2
    have b2 := cell_dr hq7 b2
    have a3 := cell_dr hq7 a3
    have b3 := cell_dr hq7 b3
    have a4 := cell_dr hq7 a4
    have b4 := cell_dr hq7 b4
    have a5 := cell_dr hq7 a5
    have b5 := cell_dr hq7 b5
    have a6 := cell_dr hq7 a6
    have b6 := cell_dr hq7 b6
    have a7 := cell_dr hq7 a7
    have b7 := cell_dr hq7 b7
    have a8 := cell_dr hq7 a8
    have b8 := cell_dr hq7 b8
    have a9 := cell_dr hq7 a9
    have b9 := cell_dr hq7 b9
    clear CX hq7
    have CX := sl_eq_int (.slice AE1 entries1.length cE1) (.slice AE2 entries2.length cE2) entries1 entries2 W7 P1.out.entries P2.out.entries
    rw [(show decide (entries1 = entries2) = false from decide_eq_false hx)] at CX
    have CX := Lib.hid CX
    clear hx
    go_wp2_with fail
    refine CX.out.mono ?_
    rintro e W8 ⟨rfl, q8, hq8⟩
    have P1 : RowKit.Hid (ObParts W8 _ _ _ _ _) := Lib.hid (hq8 ▸ P1.out.below (sl_drewN_below _ _))
    have P2 : RowKit.Hid (ObParts W8 _ _ _ _ _) := Lib.hid (hq8 ▸ P2.out.below (sl_drewN_below _ _))
    have B2 : RowKit.Hid (Below _ w W8) := Lib.hid (by rw [hq8]; exact B2.out.trans ((sl_drewN_below W7 _).mono B2.out.size))
    have a0 := cell_dr hq8 a0
    have b0 := cell_dr hq8 b0
    have a1 := cell_dr hq8 a1
    have b1 := cell_dr hq8 b1
    have a2 := cell_dr hq8 a2
    have b2 := cell_dr hq8 b2
    have a3 := cell_dr hq8 a3
    have b3 := cell_dr hq8 b3
    have a4 := cell_dr hq8 a4
    have b4 := cell_dr hq8 b4
    have a5 := cell_dr hq8 a5
    have b5 := cell_dr hq8 b5
    have a6 := cell_dr hq8 a6
    have b6 := cell_dr hq8 b6
    have a7 := cell_dr hq8 a7
    have b7 := cell_dr hq8 b7
    have a8 := cell_dr hq8 a8
    have b8 := cell_dr hq8 b8
    have a9 := cell_dr hq8 a9
    have b9 := cell_dr hq8 b9
    clear CX hq8
    go_wp2_with fail
    go_ret
    exact ⟨ret_b hno.out, B2.out⟩
  subst hx
  by_cases hx : descs1 = descs2
  case neg =>
    have hno := Lib.hid (same_no (a := ⟨name1, key1, uses1, descs1, data1, strings1, code1, entries1, calls1, places1⟩) (b := ⟨name1, key1, uses1, descs2, data1, strings1, code1, entries1, calls1, places1⟩) (fun e => by injection e with e0 e1 e2 e3 e4 e5 e6 e7 e8 e9; exact hx e3))
    have CX := sl_eq_used (.slice AU1 uses1.length cU1) (.slice AU2 uses1.length cU2) uses1 uses1 W P1.out.uses P2.out.uses
    rw [(show decide (uses1 = uses1) = true from decide_eq_true rfl)] at CX
    have CX := Lib.hid CX
    go_wp2_with fail
    refine CX.out.mono ?_
    rintro e W6 ⟨rfl, q6, hq6⟩
    have P1 : RowKit.Hid (ObParts W6 _ _ _ _ _) := Lib.hid (hq6 ▸ P1.out.below (sl_drewN_below _ _))
    have P2 : RowKit.Hid (ObParts W6 _ _ _ _ _) := Lib.hid (hq6 ▸ P2.out.below (sl_drewN_below _ _))
    have B2 : RowKit.Hid (Below _ w W6) := Lib.hid (by rw [hq6]; exact B2.out.trans ((sl_drewN_below W _).mono B2.out.size))
    have a0 := cell_dr hq6 a0
    have b0 := cell_dr hq6 b0
    have a1 := cell_dr hq6 a1
    have b1 := cell_dr hq6 b1
    have a2 := cell_dr hq6 a2
    have b2 := cell_dr hq6 b2
    have a3 := cell_dr hq6 a3
    have b3 := cell_dr hq6 b3
    have a4 := cell_dr hq6 a4
    have b4 := cell_dr hq6 b4
    have a5 := cell_dr hq6 a5
    have b5 := cell_dr hq6 b5
    have a6 := cell_dr hq6 a6
    have b6 := cell_dr hq6 b6
    have a7 := cell_dr hq6 a7
    have b7 := cell_dr hq6 b7
    have a8 := cell_dr hq6 a8
    have b8 := cell_dr hq6 b8
    have a9 := cell_dr hq6 a9
    have b9 := cell_dr hq6 b9
    clear CX hq6
    have CX := sl_eq_u32 (.slice AC1 code1.length cC1) (.slice AC2 code1.length cC2) code1 code1 W6 P1.out.code P2.out.code
    rw [(show decide (code1 = code1) = true from decide_eq_true rfl)] at CX
    have CX := Lib.hid CX
    go_wp2_with fail
    refine CX.out.mono ?_
    rintro e W7 ⟨rfl, q7, hq7⟩
    have P1 : RowKit.Hid (ObParts W7 _ _ _ _ _) := Lib.hid (hq7 ▸ P1.out.below (sl_drewN_below _ _))
    have P2 : RowKit.Hid (ObParts W7 _ _ _ _ _) := Lib.hid (hq7 ▸ P2.out.below (sl_drewN_below _ _))
    have B2 : RowKit.Hid (Below _ w W7) := Lib.hid (by rw [hq7]; exact B2.out.trans ((sl_drewN_below W6 _).mono B2.out.size))
    have a0 := cell_dr hq7 a0
    have b0 := cell_dr hq7 b0
    have a1 := cell_dr hq7 a1
    have b1 := cell_dr hq7 b1
    have a2 := cell_dr hq7 a2
    have b2 := cell_dr hq7 b2
    have a3 := cell_dr hq7 a3
    have b3 := cell_dr hq7 b3
    have a4 := cell_dr hq7 a4
    have b4 := cell_dr hq7 b4
    have a5 := cell_dr hq7 a5
    have b5 := cell_dr hq7 b5
    have a6 := cell_dr hq7 a6
    have b6 := cell_dr hq7 b6
    have a7 := cell_dr hq7 a7
    have b7 := cell_dr hq7 b7
    have a8 := cell_dr hq7 a8
    have b8 := cell_dr hq7 b8
    have a9 := cell_dr hq7 a9
    have b9 := cell_dr hq7 b9
    clear CX hq7
    have CX := sl_eq_int (.slice AE1 entries1.length cE1) (.slice AE2 entries1.length cE2) entries1 entries1 W7 P1.out.entries P2.out.entries
    rw [(show decide (entries1 = entries1) = true from decide_eq_true rfl)] at CX
    have CX := Lib.hid CX
    go_wp2_with fail
    refine CX.out.mono ?_
    rintro e W8 ⟨rfl, q8, hq8⟩
    have P1 : RowKit.Hid (ObParts W8 _ _ _ _ _) := Lib.hid (hq8 ▸ P1.out.below (sl_drewN_below _ _))
    have P2 : RowKit.Hid (ObParts W8 _ _ _ _ _) := Lib.hid (hq8 ▸ P2.out.below (sl_drewN_below _ _))
    have B2 : RowKit.Hid (Below _ w W8) := Lib.hid (by rw [hq8]; exact B2.out.trans ((sl_drewN_below W7 _).mono B2.out.size))
    have a0 := cell_dr hq8 a0
    have b0 := cell_dr hq8 b0
    have a1 := cell_dr hq8 a1
    have b1 := cell_dr hq8 b1
    have a2 := cell_dr hq8 a2
    have b2 := cell_dr hq8 b2
    have a3 := cell_dr hq8 a3
    have b3 := cell_dr hq8 b3
    have a4 := cell_dr hq8 a4
    have b4 := cell_dr hq8 b4
    have a5 := cell_dr hq8 a5
    have b5 := cell_dr hq8 b5
    have a6 := cell_dr hq8 a6
    have b6 := cell_dr hq8 b6
    have a7 := cell_dr hq8 a7
    have b7 := cell_dr hq8 b7
    have a8 := cell_dr hq8 a8
    have b8 := cell_dr hq8 b8
    have a9 := cell_dr hq8 a9
    have b9 := cell_dr hq8 b9
    clear CX hq8
    have CX := sl_eq_descs (.slice AD1 descs1.length cD1) (.slice AD2 descs2.length cD2) descs1 descs2 W8 P1.out.descs P2.out.descs
    rw [(show decide (descs1 = descs2) = false from decide_eq_false hx)] at CX
    have CX := Lib.hid CX
    clear hx
    go_wp2_with fail
    refine CX.out.mono ?_
    rintro e W9 ⟨rfl, hbq⟩
    have B2 := Lib.hid (B2.out.trans (hbq.mono B2.out.size))
    clear CX hbq
    go_wp2_with fail
    go_ret
    exact ⟨ret_b hno.out, B2.out⟩
  subst hx
  have CX := sl_eq_used (.slice AU1 uses1.length cU1) (.slice AU2 uses1.length cU2) uses1 uses1 W P1.out.uses P2.out.uses
  rw [(show decide (uses1 = uses1) = true from decide_eq_true rfl)] at CX
  have CX := Lib.hid CX
  go_wp2_with fail
  refine CX.out.mono ?_
  rintro e W6 ⟨rfl, q6, hq6⟩
  have P1 : RowKit.Hid (ObParts W6 _ _ _ _ _) := Lib.hid (hq6 ▸ P1.out.below (sl_drewN_below _ _))
  have P2 : RowKit.Hid (ObParts W6 _ _ _ _ _) := Lib.hid (hq6 ▸ P2.out.below (sl_drewN_below _ _))
  have B2 : RowKit.Hid (Below _ w W6) := Lib.hid (by rw [hq6]; exact B2.out.trans ((sl_drewN_below W _).mono B2.out.size))
  have a0 := cell_dr hq6 a0
  have b0 := cell_dr hq6 b0
  have a1 := cell_dr hq6 a1
  have b1 := cell_dr hq6 b1
  have a2 := cell_dr hq6 a2
  have b2 := cell_dr hq6 b2
  have a3 := cell_dr hq6 a3
  have b3 := cell_dr hq6 b3
  have a4 := cell_dr hq6 a4
  have b4 := cell_dr hq6 b4
  have a5 := cell_dr hq6 a5
  have b5 := cell_dr hq6 b5
  have a6 := cell_dr hq6 a6
  have b6 := cell_dr hq6 b6
  have a7 := cell_dr hq6 a7
  have b7 := cell_dr hq6 b7
  have a8 := cell_dr hq6 a8
  have b8 := cell_dr hq6 b8
  have a9 := cell_dr hq6 a9
  have b9 := cell_dr hq6 b9
  clear CX hq6
  have CX := sl_eq_u32 (.slice AC1 code1.length cC1) (.slice AC2 code1.length cC2) code1 code1 W6 P1.out.code P2.out.code
  rw [(show decide (code1 = code1) = true from decide_eq_true rfl)] at CX
  have CX := Lib.hid CX
  go_wp2_with fail
  refine CX.out.mono ?_
  rintro e W7 ⟨rfl, q7, hq7⟩
  have P1 : RowKit.Hid (ObParts W7 _ _ _ _ _) := Lib.hid (hq7 ▸ P1.out.below (sl_drewN_below _ _))
  have P2 : RowKit.Hid (ObParts W7 _ _ _ _ _) := Lib.hid (hq7 ▸ P2.out.below (sl_drewN_below _ _))
  have B2 : RowKit.Hid (Below _ w W7) := Lib.hid (by rw [hq7]; exact B2.out.trans ((sl_drewN_below W6 _).mono B2.out.size))
  have a0 := cell_dr hq7 a0
  have b0 := cell_dr hq7 b0
  have a1 := cell_dr hq7 a1
  have b1 := cell_dr hq7 b1
  have a2 := cell_dr hq7 a2
  have b2 := cell_dr hq7 b2
  have a3 := cell_dr hq7 a3
  have b3 := cell_dr hq7 b3
  have a4 := cell_dr hq7 a4
  have b4 := cell_dr hq7 b4
  have a5 := cell_dr hq7 a5
  have b5 := cell_dr hq7 b5
  have a6 := cell_dr hq7 a6
  have b6 := cell_dr hq7 b6
  have a7 := cell_dr hq7 a7
  have b7 := cell_dr hq7 b7
  have a8 := cell_dr hq7 a8
  have b8 := cell_dr hq7 b8
  have a9 := cell_dr hq7 a9
  have b9 := cell_dr hq7 b9
  clear CX hq7
  have CX := sl_eq_int (.slice AE1 entries1.length cE1) (.slice AE2 entries1.length cE2) entries1 entries1 W7 P1.out.entries P2.out.entries
  rw [(show decide (entries1 = entries1) = true from decide_eq_true rfl)] at CX
  have CX := Lib.hid CX
  go_wp2_with fail
  refine CX.out.mono ?_
  rintro e W8 ⟨rfl, q8, hq8⟩
  have P1 : RowKit.Hid (ObParts W8 _ _ _ _ _) := Lib.hid (hq8 ▸ P1.out.below (sl_drewN_below _ _))
  have P2 : RowKit.Hid (ObParts W8 _ _ _ _ _) := Lib.hid (hq8 ▸ P2.out.below (sl_drewN_below _ _))
  have B2 : RowKit.Hid (Below _ w W8) := Lib.hid (by rw [hq8]; exact B2.out.trans ((sl_drewN_below W7 _).mono B2.out.size))
  have a0 := cell_dr hq8 a0
  have b0 := cell_dr hq8 b0
  have a1 := cell_dr hq8 a1
  have b1 := cell_dr hq8 b1
  have a2 := cell_dr hq8 a2
  have b2 := cell_dr hq8 b2
  have a3 := cell_dr hq8 a3
  have b3 := cell_dr hq8 b3
  have a4 := cell_dr hq8 a4
  have b4 := cell_dr hq8 b4
  have a5 := cell_dr hq8 a5
  have b5 := cell_dr hq8 b5
  have a6 := cell_dr hq8 a6
  have b6 := cell_dr hq8 b6
  have a7 := cell_dr hq8 a7
  have b7 := cell_dr hq8 b7
  have a8 := cell_dr hq8 a8
  have b8 := cell_dr hq8 b8
  have a9 := cell_dr hq8 a9
  have b9 := cell_dr hq8 b9
  clear CX hq8
  have CX := sl_eq_descs (.slice AD1 descs1.length cD1) (.slice AD2 descs1.length cD2) descs1 descs1 W8 P1.out.descs P2.out.descs
  rw [(show decide (descs1 = descs1) = true from decide_eq_true rfl)] at CX
  have CX := Lib.hid CX
  go_wp2_with fail
  refine CX.out.mono ?_
  rintro e W9 ⟨rfl, hbq⟩
  have B2 := Lib.hid (B2.out.trans (hbq.mono B2.out.size))
  clear CX hbq
  go_wp2_with fail
  go_ret
  exact ⟨ret_b (sameO_self _).symm, B2.out⟩

end Go.Proofs.Ytceflhffilldeaa
