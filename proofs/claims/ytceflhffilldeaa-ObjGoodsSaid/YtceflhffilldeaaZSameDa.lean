/-
  The document's Same, walked.
-/
import Derived.Test.YtceflhffilldeaaZSameO
import Derived.Test.YtceflhffilldeaaZHeld
namespace Go.Proofs.Ytceflhffilldeaa
set_option linter.unusedVariables false
set_option linter.unusedSimpArgs false
open Go.RowKit ObjL

theorem rowOf_at {α : Type} {n : Nat} {is : World → α → Nat → Value → Prop} {w : World} {A : Option Addr} {c : Nat} {l : List α} (h : RowOf n is w (.slice A l.length c) l) : ∀ i (hi : i < l.length), ∃ ad, A = some ad ∧ ad.block < w.heap.size ∧ ∀ j, j < n → ∃ x, w.cell? ((ad.add (i * n)).add j) = some x ∧ is w l[i] j x := by
  obtain ⟨-, A1, c1, e, hc⟩ := h
  injection e with e1 e2 e3
  subst e1
  exact hc
set_option maxRecDepth 100000 in
set_option maxHeartbeats 4000000 in
theorem sd_no0 (a b : Ob) (aU aD aC aE bU bD bC bE : Value) (w : World) (ha : ObParts w a aU aD aC aE) (hb : ObParts w b bU bD bC bE) (hx : ¬ a.name = b.name) :
    Calls Try.prog 28 #[.agg (obCells a aU aD aC aE), .agg (obCells b bU bD bC bE)] w fun e w' => e = .returned (.bool false) ∧ Below w.heap.size w w' := by
  obtain ⟨name1, key1, uses1, descs1, data1, strings1, code1, entries1, calls1, places1⟩ := a
  obtain ⟨name2, key2, uses2, descs2, data2, strings2, code2, entries2, calls2, places2⟩ := b
  dsimp only at hx
  have ha0 := Lib.hid ha
  have hb0 := Lib.hid hb
  obtain ⟨⟨-, AU1, cU1, rfl, -⟩, ⟨-, AD1, cD1, rfl, -⟩, ⟨-, AC1, cC1, rfl, -⟩, ⟨-, AE1, cE1, rfl, -⟩⟩ := ha
  obtain ⟨⟨-, AU2, cU2, rfl, -⟩, ⟨-, AD2, cD2, rfl, -⟩, ⟨-, AC2, cC2, rfl, -⟩, ⟨-, AE2, cE2, rfl, -⟩⟩ := hb
  simp only [obCells]
  have B2 := ((Below.refl w.heap.size w).alloc (Nat.le_refl _) (.cells #[.string (txt name1), .int .u32 key1, .slice AU1 uses1.length cU1, .slice AD1 descs1.length cD1, .int .i64 data1, .string (txt strings1), .slice AC1 code1.length cC1, .slice AE1 entries1.length cE1, .int .i64 calls1, .int .i64 places1] 49)).alloc (by simp) (.cells #[.string (txt name2), .int .u32 key2, .slice AU2 uses2.length cU2, .slice AD2 descs2.length cD2, .int .i64 data2, .string (txt strings2), .slice AC2 code2.length cC2, .slice AE2 entries2.length cE2, .int .i64 calls2, .int .i64 places2] 49)
  have L1 := Lib.hid ((Blk.new w 49 #[.string (txt name1), .int .u32 key1, .slice AU1 uses1.length cU1, .slice AD1 descs1.length cD1, .int .i64 data1, .string (txt strings1), .slice AC1 code1.length cC1, .slice AE1 entries1.length cE1, .int .i64 calls1, .int .i64 places1]).alloc (.cells #[.string (txt name2), .int .u32 key2, .slice AU2 uses2.length cU2, .slice AD2 descs2.length cD2, .int .i64 data2, .string (txt strings2), .slice AC2 code2.length cC2, .slice AE2 entries2.length cE2, .int .i64 calls2, .int .i64 places2] 49))
  have hs1 : (w.alloc (.cells #[.string (txt name1), .int .u32 key1, .slice AU1 uses1.length cU1, .slice AD1 descs1.length cD1, .int .i64 data1, .string (txt strings1), .slice AC1 code1.length cC1, .slice AE1 entries1.length cE1, .int .i64 calls1, .int .i64 places1] 49)).heap.size = w.heap.size + 1 := by simp
  have L2 := Blk.new (w.alloc (.cells #[.string (txt name1), .int .u32 key1, .slice AU1 uses1.length cU1, .slice AD1 descs1.length cD1, .int .i64 data1, .string (txt strings1), .slice AC1 code1.length cC1, .slice AE1 entries1.length cE1, .int .i64 calls1, .int .i64 places1] 49)) 49 #[.string (txt name2), .int .u32 key2, .slice AU2 uses2.length cU2, .slice AD2 descs2.length cD2, .int .i64 data2, .string (txt strings2), .slice AC2 code2.length cC2, .slice AE2 entries2.length cE2, .int .i64 calls2, .int .i64 places2]
  rw [hs1] at L2
  have L2 := Lib.hid L2
  have P1 := Lib.hid (ha0.out.below B2)
  have P2 := Lib.hid (hb0.out.below B2)
  have B2 := Lib.hid B2
  clear hs1 ha0 hb0
  go_enter Try.func28, Try.ntmps28
  go_upto_region 1 with fail
  generalize hW : (w.alloc (.cells #[.string (txt name1), .int .u32 key1, .slice AU1 uses1.length cU1, .slice AD1 descs1.length cD1, .int .i64 data1, .string (txt strings1), .slice AC1 code1.length cC1, .slice AE1 entries1.length cE1, .int .i64 calls1, .int .i64 places1] 49)).alloc (.cells #[.string (txt name2), .int .u32 key2, .slice AU2 uses2.length cU2, .slice AD2 descs2.length cD2, .int .i64 data2, .string (txt strings2), .slice AC2 code2.length cC2, .slice AE2 entries2.length cE2, .int .i64 calls2, .int .i64 places2] 49) = W at *
  clear hW
  have a0 := L1.out.cell 0
  have b0 := L2.out.cell 0
  simp only [List.getElem?_toArray, List.getElem?_cons_zero, List.getElem?_cons_succ] at a0 b0
  have hs : ((txt name1).toList == (txt name2).toList) = false := by rw [Bool.eq_false_iff]; exact fun e => hx (txt_inj ((sl_same _ _).1 e))
  have hs2 : ¬ (txt name1).toList = (txt name2).toList := by simpa using hs
  clear hx
  go_wp2_with fail
  go_ret
  exact ⟨rfl, B2.out⟩

set_option maxRecDepth 100000 in
set_option maxHeartbeats 4000000 in
theorem sd_no1 (a b : Ob) (aU aD aC aE bU bD bC bE : Value) (w : World) (ha : ObParts w a aU aD aC aE) (hb : ObParts w b bU bD bC bE) (h0 : a.name = b.name) (hx : ¬ a.key = b.key) :
    Calls Try.prog 28 #[.agg (obCells a aU aD aC aE), .agg (obCells b bU bD bC bE)] w fun e w' => e = .returned (.bool false) ∧ Below w.heap.size w w' := by
  obtain ⟨name1, key1, uses1, descs1, data1, strings1, code1, entries1, calls1, places1⟩ := a
  obtain ⟨name2, key2, uses2, descs2, data2, strings2, code2, entries2, calls2, places2⟩ := b
  dsimp only at h0 hx
  subst h0
  have ha0 := Lib.hid ha
  have hb0 := Lib.hid hb
  obtain ⟨⟨-, AU1, cU1, rfl, -⟩, ⟨-, AD1, cD1, rfl, -⟩, ⟨-, AC1, cC1, rfl, -⟩, ⟨-, AE1, cE1, rfl, -⟩⟩ := ha
  obtain ⟨⟨-, AU2, cU2, rfl, -⟩, ⟨-, AD2, cD2, rfl, -⟩, ⟨-, AC2, cC2, rfl, -⟩, ⟨-, AE2, cE2, rfl, -⟩⟩ := hb
  simp only [obCells]
  have B2 := ((Below.refl w.heap.size w).alloc (Nat.le_refl _) (.cells #[.string (txt name1), .int .u32 key1, .slice AU1 uses1.length cU1, .slice AD1 descs1.length cD1, .int .i64 data1, .string (txt strings1), .slice AC1 code1.length cC1, .slice AE1 entries1.length cE1, .int .i64 calls1, .int .i64 places1] 49)).alloc (by simp) (.cells #[.string (txt name1), .int .u32 key2, .slice AU2 uses2.length cU2, .slice AD2 descs2.length cD2, .int .i64 data2, .string (txt strings2), .slice AC2 code2.length cC2, .slice AE2 entries2.length cE2, .int .i64 calls2, .int .i64 places2] 49)
  have L1 := Lib.hid ((Blk.new w 49 #[.string (txt name1), .int .u32 key1, .slice AU1 uses1.length cU1, .slice AD1 descs1.length cD1, .int .i64 data1, .string (txt strings1), .slice AC1 code1.length cC1, .slice AE1 entries1.length cE1, .int .i64 calls1, .int .i64 places1]).alloc (.cells #[.string (txt name1), .int .u32 key2, .slice AU2 uses2.length cU2, .slice AD2 descs2.length cD2, .int .i64 data2, .string (txt strings2), .slice AC2 code2.length cC2, .slice AE2 entries2.length cE2, .int .i64 calls2, .int .i64 places2] 49))
  have hs1 : (w.alloc (.cells #[.string (txt name1), .int .u32 key1, .slice AU1 uses1.length cU1, .slice AD1 descs1.length cD1, .int .i64 data1, .string (txt strings1), .slice AC1 code1.length cC1, .slice AE1 entries1.length cE1, .int .i64 calls1, .int .i64 places1] 49)).heap.size = w.heap.size + 1 := by simp
  have L2 := Blk.new (w.alloc (.cells #[.string (txt name1), .int .u32 key1, .slice AU1 uses1.length cU1, .slice AD1 descs1.length cD1, .int .i64 data1, .string (txt strings1), .slice AC1 code1.length cC1, .slice AE1 entries1.length cE1, .int .i64 calls1, .int .i64 places1] 49)) 49 #[.string (txt name1), .int .u32 key2, .slice AU2 uses2.length cU2, .slice AD2 descs2.length cD2, .int .i64 data2, .string (txt strings2), .slice AC2 code2.length cC2, .slice AE2 entries2.length cE2, .int .i64 calls2, .int .i64 places2]
  rw [hs1] at L2
  have L2 := Lib.hid L2
  have P1 := Lib.hid (ha0.out.below B2)
  have P2 := Lib.hid (hb0.out.below B2)
  have B2 := Lib.hid B2
  clear hs1 ha0 hb0
  go_enter Try.func28, Try.ntmps28
  go_upto_region 1 with fail
  generalize hW : (w.alloc (.cells #[.string (txt name1), .int .u32 key1, .slice AU1 uses1.length cU1, .slice AD1 descs1.length cD1, .int .i64 data1, .string (txt strings1), .slice AC1 code1.length cC1, .slice AE1 entries1.length cE1, .int .i64 calls1, .int .i64 places1] 49)).alloc (.cells #[.string (txt name1), .int .u32 key2, .slice AU2 uses2.length cU2, .slice AD2 descs2.length cD2, .int .i64 data2, .string (txt strings2), .slice AC2 code2.length cC2, .slice AE2 entries2.length cE2, .int .i64 calls2, .int .i64 places2] 49) = W at *
  clear hW
  have a0 := L1.out.cell 0
  have b0 := L2.out.cell 0
  have a1 := L1.out.cell 1
  have b1 := L2.out.cell 1
  simp only [List.getElem?_toArray, List.getElem?_cons_zero, List.getElem?_cons_succ] at a0 b0 a1 b1
  have hs : (key1 != key2) = true := by rw [bne_iff_ne]; exact hx
  clear hx
  go_wp2_with fail
  go_ret
  exact ⟨rfl, B2.out⟩

set_option maxRecDepth 100000 in
set_option maxHeartbeats 4000000 in
theorem sd_no2 (a b : Ob) (aU aD aC aE bU bD bC bE : Value) (w : World) (ha : ObParts w a aU aD aC aE) (hb : ObParts w b bU bD bC bE) (h0 : a.name = b.name) (h1 : a.key = b.key) (hx : ¬ a.data = b.data) :
    Calls Try.prog 28 #[.agg (obCells a aU aD aC aE), .agg (obCells b bU bD bC bE)] w fun e w' => e = .returned (.bool false) ∧ Below w.heap.size w w' := by
  obtain ⟨name1, key1, uses1, descs1, data1, strings1, code1, entries1, calls1, places1⟩ := a
  obtain ⟨name2, key2, uses2, descs2, data2, strings2, code2, entries2, calls2, places2⟩ := b
  dsimp only at h0 h1 hx
  subst h0
  subst h1
  have ha0 := Lib.hid ha
  have hb0 := Lib.hid hb
  obtain ⟨⟨-, AU1, cU1, rfl, -⟩, ⟨-, AD1, cD1, rfl, -⟩, ⟨-, AC1, cC1, rfl, -⟩, ⟨-, AE1, cE1, rfl, -⟩⟩ := ha
  obtain ⟨⟨-, AU2, cU2, rfl, -⟩, ⟨-, AD2, cD2, rfl, -⟩, ⟨-, AC2, cC2, rfl, -⟩, ⟨-, AE2, cE2, rfl, -⟩⟩ := hb
  simp only [obCells]
  have B2 := ((Below.refl w.heap.size w).alloc (Nat.le_refl _) (.cells #[.string (txt name1), .int .u32 key1, .slice AU1 uses1.length cU1, .slice AD1 descs1.length cD1, .int .i64 data1, .string (txt strings1), .slice AC1 code1.length cC1, .slice AE1 entries1.length cE1, .int .i64 calls1, .int .i64 places1] 49)).alloc (by simp) (.cells #[.string (txt name1), .int .u32 key1, .slice AU2 uses2.length cU2, .slice AD2 descs2.length cD2, .int .i64 data2, .string (txt strings2), .slice AC2 code2.length cC2, .slice AE2 entries2.length cE2, .int .i64 calls2, .int .i64 places2] 49)
  have L1 := Lib.hid ((Blk.new w 49 #[.string (txt name1), .int .u32 key1, .slice AU1 uses1.length cU1, .slice AD1 descs1.length cD1, .int .i64 data1, .string (txt strings1), .slice AC1 code1.length cC1, .slice AE1 entries1.length cE1, .int .i64 calls1, .int .i64 places1]).alloc (.cells #[.string (txt name1), .int .u32 key1, .slice AU2 uses2.length cU2, .slice AD2 descs2.length cD2, .int .i64 data2, .string (txt strings2), .slice AC2 code2.length cC2, .slice AE2 entries2.length cE2, .int .i64 calls2, .int .i64 places2] 49))
  have hs1 : (w.alloc (.cells #[.string (txt name1), .int .u32 key1, .slice AU1 uses1.length cU1, .slice AD1 descs1.length cD1, .int .i64 data1, .string (txt strings1), .slice AC1 code1.length cC1, .slice AE1 entries1.length cE1, .int .i64 calls1, .int .i64 places1] 49)).heap.size = w.heap.size + 1 := by simp
  have L2 := Blk.new (w.alloc (.cells #[.string (txt name1), .int .u32 key1, .slice AU1 uses1.length cU1, .slice AD1 descs1.length cD1, .int .i64 data1, .string (txt strings1), .slice AC1 code1.length cC1, .slice AE1 entries1.length cE1, .int .i64 calls1, .int .i64 places1] 49)) 49 #[.string (txt name1), .int .u32 key1, .slice AU2 uses2.length cU2, .slice AD2 descs2.length cD2, .int .i64 data2, .string (txt strings2), .slice AC2 code2.length cC2, .slice AE2 entries2.length cE2, .int .i64 calls2, .int .i64 places2]
  rw [hs1] at L2
  have L2 := Lib.hid L2
  have P1 := Lib.hid (ha0.out.below B2)
  have P2 := Lib.hid (hb0.out.below B2)
  have B2 := Lib.hid B2
  clear hs1 ha0 hb0
  go_enter Try.func28, Try.ntmps28
  go_upto_region 1 with fail
  generalize hW : (w.alloc (.cells #[.string (txt name1), .int .u32 key1, .slice AU1 uses1.length cU1, .slice AD1 descs1.length cD1, .int .i64 data1, .string (txt strings1), .slice AC1 code1.length cC1, .slice AE1 entries1.length cE1, .int .i64 calls1, .int .i64 places1] 49)).alloc (.cells #[.string (txt name1), .int .u32 key1, .slice AU2 uses2.length cU2, .slice AD2 descs2.length cD2, .int .i64 data2, .string (txt strings2), .slice AC2 code2.length cC2, .slice AE2 entries2.length cE2, .int .i64 calls2, .int .i64 places2] 49) = W at *
  clear hW
  have a0 := L1.out.cell 0
  have b0 := L2.out.cell 0
  have a1 := L1.out.cell 1
  have b1 := L2.out.cell 1
  have a4 := L1.out.cell 4
  have b4 := L2.out.cell 4
  simp only [List.getElem?_toArray, List.getElem?_cons_zero, List.getElem?_cons_succ] at a0 b0 a1 b1 a4 b4
  have hs : (data1 != data2) = true := by rw [bne_iff_ne]; exact hx
  clear hx
  go_wp2_with fail
  go_ret
  exact ⟨rfl, B2.out⟩

set_option maxRecDepth 100000 in
set_option maxHeartbeats 4000000 in
theorem sd_no3 (a b : Ob) (aU aD aC aE bU bD bC bE : Value) (w : World) (ha : ObParts w a aU aD aC aE) (hb : ObParts w b bU bD bC bE) (h0 : a.name = b.name) (h1 : a.key = b.key) (h2 : a.data = b.data) (hx : ¬ a.strings = b.strings) :
    Calls Try.prog 28 #[.agg (obCells a aU aD aC aE), .agg (obCells b bU bD bC bE)] w fun e w' => e = .returned (.bool false) ∧ Below w.heap.size w w' := by
  obtain ⟨name1, key1, uses1, descs1, data1, strings1, code1, entries1, calls1, places1⟩ := a
  obtain ⟨name2, key2, uses2, descs2, data2, strings2, code2, entries2, calls2, places2⟩ := b
  dsimp only at h0 h1 h2 hx
  subst h0
  subst h1
  subst h2
  have ha0 := Lib.hid ha
  have hb0 := Lib.hid hb
  obtain ⟨⟨-, AU1, cU1, rfl, -⟩, ⟨-, AD1, cD1, rfl, -⟩, ⟨-, AC1, cC1, rfl, -⟩, ⟨-, AE1, cE1, rfl, -⟩⟩ := ha
  obtain ⟨⟨-, AU2, cU2, rfl, -⟩, ⟨-, AD2, cD2, rfl, -⟩, ⟨-, AC2, cC2, rfl, -⟩, ⟨-, AE2, cE2, rfl, -⟩⟩ := hb
  simp only [obCells]
  have B2 := ((Below.refl w.heap.size w).alloc (Nat.le_refl _) (.cells #[.string (txt name1), .int .u32 key1, .slice AU1 uses1.length cU1, .slice AD1 descs1.length cD1, .int .i64 data1, .string (txt strings1), .slice AC1 code1.length cC1, .slice AE1 entries1.length cE1, .int .i64 calls1, .int .i64 places1] 49)).alloc (by simp) (.cells #[.string (txt name1), .int .u32 key1, .slice AU2 uses2.length cU2, .slice AD2 descs2.length cD2, .int .i64 data1, .string (txt strings2), .slice AC2 code2.length cC2, .slice AE2 entries2.length cE2, .int .i64 calls2, .int .i64 places2] 49)
  have L1 := Lib.hid ((Blk.new w 49 #[.string (txt name1), .int .u32 key1, .slice AU1 uses1.length cU1, .slice AD1 descs1.length cD1, .int .i64 data1, .string (txt strings1), .slice AC1 code1.length cC1, .slice AE1 entries1.length cE1, .int .i64 calls1, .int .i64 places1]).alloc (.cells #[.string (txt name1), .int .u32 key1, .slice AU2 uses2.length cU2, .slice AD2 descs2.length cD2, .int .i64 data1, .string (txt strings2), .slice AC2 code2.length cC2, .slice AE2 entries2.length cE2, .int .i64 calls2, .int .i64 places2] 49))
  have hs1 : (w.alloc (.cells #[.string (txt name1), .int .u32 key1, .slice AU1 uses1.length cU1, .slice AD1 descs1.length cD1, .int .i64 data1, .string (txt strings1), .slice AC1 code1.length cC1, .slice AE1 entries1.length cE1, .int .i64 calls1, .int .i64 places1] 49)).heap.size = w.heap.size + 1 := by simp
  have L2 := Blk.new (w.alloc (.cells #[.string (txt name1), .int .u32 key1, .slice AU1 uses1.length cU1, .slice AD1 descs1.length cD1, .int .i64 data1, .string (txt strings1), .slice AC1 code1.length cC1, .slice AE1 entries1.length cE1, .int .i64 calls1, .int .i64 places1] 49)) 49 #[.string (txt name1), .int .u32 key1, .slice AU2 uses2.length cU2, .slice AD2 descs2.length cD2, .int .i64 data1, .string (txt strings2), .slice AC2 code2.length cC2, .slice AE2 entries2.length cE2, .int .i64 calls2, .int .i64 places2]
  rw [hs1] at L2
  have L2 := Lib.hid L2
  have P1 := Lib.hid (ha0.out.below B2)
  have P2 := Lib.hid (hb0.out.below B2)
  have B2 := Lib.hid B2
  clear hs1 ha0 hb0
  go_enter Try.func28, Try.ntmps28
  go_upto_region 1 with fail
  generalize hW : (w.alloc (.cells #[.string (txt name1), .int .u32 key1, .slice AU1 uses1.length cU1, .slice AD1 descs1.length cD1, .int .i64 data1, .string (txt strings1), .slice AC1 code1.length cC1, .slice AE1 entries1.length cE1, .int .i64 calls1, .int .i64 places1] 49)).alloc (.cells #[.string (txt name1), .int .u32 key1, .slice AU2 uses2.length cU2, .slice AD2 descs2.length cD2, .int .i64 data1, .string (txt strings2), .slice AC2 code2.length cC2, .slice AE2 entries2.length cE2, .int .i64 calls2, .int .i64 places2] 49) = W at *
  clear hW
  have a0 := L1.out.cell 0
  have b0 := L2.out.cell 0
  have a1 := L1.out.cell 1
  have b1 := L2.out.cell 1
  have a4 := L1.out.cell 4
  have b4 := L2.out.cell 4
  have a5 := L1.out.cell 5
  have b5 := L2.out.cell 5
  simp only [List.getElem?_toArray, List.getElem?_cons_zero, List.getElem?_cons_succ] at a0 b0 a1 b1 a4 b4 a5 b5
  have hs : ((txt strings1).toList == (txt strings2).toList) = false := by rw [Bool.eq_false_iff]; exact fun e => hx (txt_inj ((sl_same _ _).1 e))
  have hs2 : ¬ (txt strings1).toList = (txt strings2).toList := by simpa using hs
  clear hx
  go_wp2_with fail
  go_ret
  exact ⟨rfl, B2.out⟩

set_option maxRecDepth 100000 in
set_option maxHeartbeats 4000000 in
theorem sd_no4 (a b : Ob) (aU aD aC aE bU bD bC bE : Value) (w : World) (ha : ObParts w a aU aD aC aE) (hb : ObParts w b bU bD bC bE) (h0 : a.name = b.name) (h1 : a.key = b.key) (h2 : a.data = b.data) (h3 : a.strings = b.strings) (hx : ¬ a.calls = b.calls) :
    Calls Try.prog 28 #[.agg (obCells a aU aD aC aE), .agg (obCells b bU bD bC bE)] w fun e w' => e = .returned (.bool false) ∧ Below w.heap.size w w' := by
  obtain ⟨name1, key1, uses1, descs1, data1, strings1, code1, entries1, calls1, places1⟩ := a
  obtain ⟨name2, key2, uses2, descs2, data2, strings2, code2, entries2, calls2, places2⟩ := b
  dsimp only at h0 h1 h2 h3 hx
  subst h0
  subst h1
  subst h2
  subst h3
  have ha0 := Lib.hid ha
  have hb0 := Lib.hid hb
  obtain ⟨⟨-, AU1, cU1, rfl, -⟩, ⟨-, AD1, cD1, rfl, -⟩, ⟨-, AC1, cC1, rfl, -⟩, ⟨-, AE1, cE1, rfl, -⟩⟩ := ha
  obtain ⟨⟨-, AU2, cU2, rfl, -⟩, ⟨-, AD2, cD2, rfl, -⟩, ⟨-, AC2, cC2, rfl, -⟩, ⟨-, AE2, cE2, rfl, -⟩⟩ := hb
  simp only [obCells]
  have B2 := ((Below.refl w.heap.size w).alloc (Nat.le_refl _) (.cells #[.string (txt name1), .int .u32 key1, .slice AU1 uses1.length cU1, .slice AD1 descs1.length cD1, .int .i64 data1, .string (txt strings1), .slice AC1 code1.length cC1, .slice AE1 entries1.length cE1, .int .i64 calls1, .int .i64 places1] 49)).alloc (by simp) (.cells #[.string (txt name1), .int .u32 key1, .slice AU2 uses2.length cU2, .slice AD2 descs2.length cD2, .int .i64 data1, .string (txt strings1), .slice AC2 code2.length cC2, .slice AE2 entries2.length cE2, .int .i64 calls2, .int .i64 places2] 49)
  have L1 := Lib.hid ((Blk.new w 49 #[.string (txt name1), .int .u32 key1, .slice AU1 uses1.length cU1, .slice AD1 descs1.length cD1, .int .i64 data1, .string (txt strings1), .slice AC1 code1.length cC1, .slice AE1 entries1.length cE1, .int .i64 calls1, .int .i64 places1]).alloc (.cells #[.string (txt name1), .int .u32 key1, .slice AU2 uses2.length cU2, .slice AD2 descs2.length cD2, .int .i64 data1, .string (txt strings1), .slice AC2 code2.length cC2, .slice AE2 entries2.length cE2, .int .i64 calls2, .int .i64 places2] 49))
  have hs1 : (w.alloc (.cells #[.string (txt name1), .int .u32 key1, .slice AU1 uses1.length cU1, .slice AD1 descs1.length cD1, .int .i64 data1, .string (txt strings1), .slice AC1 code1.length cC1, .slice AE1 entries1.length cE1, .int .i64 calls1, .int .i64 places1] 49)).heap.size = w.heap.size + 1 := by simp
  have L2 := Blk.new (w.alloc (.cells #[.string (txt name1), .int .u32 key1, .slice AU1 uses1.length cU1, .slice AD1 descs1.length cD1, .int .i64 data1, .string (txt strings1), .slice AC1 code1.length cC1, .slice AE1 entries1.length cE1, .int .i64 calls1, .int .i64 places1] 49)) 49 #[.string (txt name1), .int .u32 key1, .slice AU2 uses2.length cU2, .slice AD2 descs2.length cD2, .int .i64 data1, .string (txt strings1), .slice AC2 code2.length cC2, .slice AE2 entries2.length cE2, .int .i64 calls2, .int .i64 places2]
  rw [hs1] at L2
  have L2 := Lib.hid L2
  have P1 := Lib.hid (ha0.out.below B2)
  have P2 := Lib.hid (hb0.out.below B2)
  have B2 := Lib.hid B2
  clear hs1 ha0 hb0
  go_enter Try.func28, Try.ntmps28
  go_upto_region 1 with fail
  generalize hW : (w.alloc (.cells #[.string (txt name1), .int .u32 key1, .slice AU1 uses1.length cU1, .slice AD1 descs1.length cD1, .int .i64 data1, .string (txt strings1), .slice AC1 code1.length cC1, .slice AE1 entries1.length cE1, .int .i64 calls1, .int .i64 places1] 49)).alloc (.cells #[.string (txt name1), .int .u32 key1, .slice AU2 uses2.length cU2, .slice AD2 descs2.length cD2, .int .i64 data1, .string (txt strings1), .slice AC2 code2.length cC2, .slice AE2 entries2.length cE2, .int .i64 calls2, .int .i64 places2] 49) = W at *
  clear hW
  have a0 := L1.out.cell 0
  have b0 := L2.out.cell 0
  have a1 := L1.out.cell 1
  have b1 := L2.out.cell 1
  have a4 := L1.out.cell 4
  have b4 := L2.out.cell 4
  have a5 := L1.out.cell 5
  have b5 := L2.out.cell 5
  have a8 := L1.out.cell 8
  have b8 := L2.out.cell 8
  simp only [List.getElem?_toArray, List.getElem?_cons_zero, List.getElem?_cons_succ] at a0 b0 a1 b1 a4 b4 a5 b5 a8 b8
  have hs : (calls1 != calls2) = true := by rw [bne_iff_ne]; exact hx
  clear hx
  go_wp2_with fail
  go_ret
  exact ⟨rfl, B2.out⟩

end Go.Proofs.Ytceflhffilldeaa
