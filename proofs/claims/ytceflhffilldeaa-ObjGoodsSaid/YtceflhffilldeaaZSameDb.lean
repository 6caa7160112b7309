/-
  The document's Same, walked.
-/
import Derived.Test.YtceflhffilldeaaZSameDa
import Derived.Test.YtceflhffilldeaaZHeld
namespace Go.Proofs.Ytceflhffilldeaa
set_option linter.unusedVariables false
set_option linter.unusedSimpArgs false
open Go.RowKit ObjL

set_option maxRecDepth 100000 in
set_option maxHeartbeats 4000000 in
theorem sd_no5 (a b : Ob) (aU aD aC aE bU bD bC bE : Value) (w : World) (ha : ObParts w a aU aD aC aE) (hb : ObParts w b bU bD bC bE) (h0 : a.name = b.name) (h1 : a.key = b.key) (h2 : a.data = b.data) (h3 : a.strings = b.strings) (h4 : a.calls = b.calls) (hx : ¬ a.places = b.places) :
    Calls Try.prog 28 #[.agg (obCells a aU aD aC aE), .agg (obCells b bU bD bC bE)] w fun e w' => e = .returned (.bool false) ∧ Below w.heap.size w w' := by
  obtain ⟨name1, key1, uses1, descs1, data1, strings1, code1, entries1, calls1, places1⟩ := a
  obtain ⟨name2, key2, uses2, descs2, data2, strings2, code2, entries2, calls2, places2⟩ := b
  dsimp only at h0 h1 h2 h3 h4 hx
  subst h0
  subst h1
  subst h2
  subst h3
  subst h4
  have ha0 := Lib.hid ha
  have hb0 := Lib.hid hb
  obtain ⟨⟨-, AU1, cU1, rfl, -⟩, ⟨-, AD1, cD1, rfl, -⟩, ⟨-, AC1, cC1, rfl, -⟩, ⟨-, AE1, cE1, rfl, -⟩⟩ := ha
  obtain ⟨⟨-, AU2, cU2, rfl, -⟩, ⟨-, AD2, cD2, rfl, -⟩, ⟨-, AC2, cC2, rfl, -⟩, ⟨-, AE2, cE2, rfl, -⟩⟩ := hb
  simp only [obCells]
  have B2 := ((Below.refl w.heap.size w).alloc (Nat.le_refl _) (.cells #[.string (txt name1), .int .u32 key1, .slice AU1 uses1.length cU1, .slice AD1 descs1.length cD1, .int .i64 data1, .string (txt strings1), .slice AC1 code1.length cC1, .slice AE1 entries1.length cE1, .int .i64 calls1, .int .i64 places1] 49)).alloc (by simp) (.cells #[.string (txt name1), .int .u32 key1, .slice AU2 uses2.length cU2, .slice AD2 descs2.length cD2, .int .i64 data1, .string (txt strings1), .slice AC2 code2.length cC2, .slice AE2 entries2.length cE2, .int .i64 calls1, .int .i64 places2] 49)
  have L1 := Lib.hid ((Blk.new w 49 #[.string (txt name1), .int .u32 key1, .slice AU1 uses1.length cU1, .slice AD1 descs1.length cD1, .int .i64 data1, .string (txt strings1), .slice AC1 code1.length cC1, .slice AE1 entries1.length cE1, .int .i64 calls1, .int .i64 places1]).alloc (.cells #[.string (txt name1), .int .u32 key1, .slice AU2 uses2.length cU2, .slice AD2 descs2.length cD2, .int .i64 data1, .string (txt strings1), .slice AC2 code2.length cC2, .slice AE2 entries2.length cE2, .int .i64 calls1, .int .i64 places2] 49))
  have hs1 : (w.alloc (.cells #[.string (txt name1), .int .u32 key1, .slice AU1 uses1.length cU1, .slice AD1 descs1.length cD1, .int .i64 data1, .string (txt strings1), .slice AC1 code1.length cC1, .slice AE1 entries1.length cE1, .int .i64 calls1, .int .i64 places1] 49)).heap.size = w.heap.size + 1 := by simp
  have L2 := Blk.new (w.alloc (.cells #[.string (txt name1), .int .u32 key1, .slice AU1 uses1.length cU1, .slice AD1 descs1.length cD1, .int .i64 data1, .string (txt strings1), .slice AC1 code1.length cC1, .slice AE1 entries1.length cE1, .int .i64 calls1, .int .i64 places1] 49)) 49 #[.string (txt name1), .int .u32 key1, .slice AU2 uses2.length cU2, .slice AD2 descs2.length cD2, .int .i64 data1, .string (txt strings1), .slice AC2 code2.length cC2, .slice AE2 entries2.length cE2, .int .i64 calls1, .int .i64 places2]
  rw [hs1] at L2
  have L2 := Lib.hid L2
  have P1 := Lib.hid (ha0.out.below B2)
  have P2 := Lib.hid (hb0.out.below B2)
  have B2 := Lib.hid B2
  clear hs1 ha0 hb0
  go_enter Try.func28, Try.ntmps28
  go_upto_region 1 with fail
  generalize hW : (w.alloc (.cells #[.string (txt name1), .int .u32 key1, .slice AU1 uses1.length cU1, .slice AD1 descs1.length cD1, .int .i64 data1, .string (txt strings1), .slice AC1 code1.length cC1, .slice AE1 entries1.length cE1, .int .i64 calls1, .int .i64 places1] 49)).alloc (.cells #[.string (txt name1), .int .u32 key1, .slice AU2 uses2.length cU2, .slice AD2 descs2.length cD2, .int .i64 data1, .string (txt strings1), .slice AC2 code2.length cC2, .slice AE2 entries2.length cE2, .int .i64 calls1, .int .i64 places2] 49) = W at *
  clear hW
  have a0 := L1.out.cell 0
  have b0 := L2.out.cell 0
  have a1 := L1.out.cell 1
  have b1 := L2.out.cell 1
  have a4 := L1.out.cell 4
  have b4 := L2.out.cell 4
  have a5 := L1.out.cell 5
  have b5 := L2.out.cell 5
  have a8 := L1.out.cell 8
  have b8 := L2.out.cell 8
  have a9 := L1.out.cell 9
  have b9 := L2.out.cell 9
  simp only [List.getElem?_toArray, List.getElem?_cons_zero, List.getElem?_cons_succ] at a0 b0 a1 b1 a4 b4 a5 b5 a8 b8 a9 b9
  have hs : (places1 != places2) = true := by rw [bne_iff_ne]; exact hx
  clear hx
  go_wp2_with fail
  go_ret
  exact ⟨rfl, B2.out⟩

set_option maxRecDepth 100000 in
set_option maxHeartbeats 4000000 in
theorem sd_no6 (a b : Ob) (aU aD aC aE bU bD bC bE : Value) (w : World) (ha : ObParts w a aU aD aC aE) (hb : ObParts w b bU bD bC bE) (h0 : a.name = b.name) (h1 : a.key = b.key) (h2 : a.data = b.data) (h3 : a.strings = b.strings) (h4 : a.calls = b.calls) (h5 : a.places = b.places) (hx : ¬ a.uses.length = b.uses.length) :
    Calls Try.prog 28 #[.agg (obCells a aU aD aC aE), .agg (obCells b bU bD bC bE)] w fun e w' => e = .returned (.bool false) ∧ Below w.heap.size w w' := by
  obtain ⟨name1, key1, uses1, descs1, data1, strings1, code1, entries1, calls1, places1⟩ := a
  obtain ⟨name2, key2, uses2, descs2, data2, strings2, code2, entries2, calls2, places2⟩ := b
  dsimp only at h0 h1 h2 h3 h4 h5 hx
  subst h0
  subst h1
  subst h2
  subst h3
  subst h4
  subst h5
  have ha0 := Lib.hid ha
  have hb0 := Lib.hid hb
  obtain ⟨⟨-, AU1, cU1, rfl, -⟩, ⟨-, AD1, cD1, rfl, -⟩, ⟨-, AC1, cC1, rfl, -⟩, ⟨-, AE1, cE1, rfl, -⟩⟩ := ha
  obtain ⟨⟨-, AU2, cU2, rfl, -⟩, ⟨-, AD2, cD2, rfl, -⟩, ⟨-, AC2, cC2, rfl, -⟩, ⟨-, AE2, cE2, rfl, -⟩⟩ := hb
  simp only [obCells]
  have B2 := ((Below.refl w.heap.size w).alloc (Nat.le_refl _) (.cells #[.string (txt name1), .int .u32 key1, .slice AU1 uses1.length cU1, .slice AD1 descs1.length cD1, .int .i64 data1, .string (txt strings1), .slice AC1 code1.length cC1, .slice AE1 entries1.length cE1, .int .i64 calls1, .int .i64 places1] 49)).alloc (by simp) (.cells #[.string (txt name1), .int .u32 key1, .slice AU2 uses2.length cU2, .slice AD2 descs2.length cD2, .int .i64 data1, .string (txt strings1), .slice AC2 code2.length cC2, .slice AE2 entries2.length cE2, .int .i64 calls1, .int .i64 places1] 49)
  have L1 := Lib.hid ((Blk.new w 49 #[.string (txt name1), .int .u32 key1, .slice AU1 uses1.length cU1, .slice AD1 descs1.length cD1, .int .i64 data1, .string (txt strings1), .slice AC1 code1.length cC1, .slice AE1 entries1.length cE1, .int .i64 calls1, .int .i64 places1]).alloc (.cells #[.string (txt name1), .int .u32 key1, .slice AU2 uses2.length cU2, .slice AD2 descs2.length cD2, .int .i64 data1, .string (txt strings1), .slice AC2 code2.length cC2, .slice AE2 entries2.length cE2, .int .i64 calls1, .int .i64 places1] 49))
  have hs1 : (w.alloc (.cells #[.string (txt name1), .int .u32 key1, .slice AU1 uses1.length cU1, .slice AD1 descs1.length cD1, .int .i64 data1, .string (txt strings1), .slice AC1 code1.length cC1, .slice AE1 entries1.length cE1, .int .i64 calls1, .int .i64 places1] 49)).heap.size = w.heap.size + 1 := by simp
  have L2 := Blk.new (w.alloc (.cells #[.string (txt name1), .int .u32 key1, .slice AU1 uses1.length cU1, .slice AD1 descs1.length cD1, .int .i64 data1, .string (txt strings1), .slice AC1 code1.length cC1, .slice AE1 entries1.length cE1, .int .i64 calls1, .int .i64 places1] 49)) 49 #[.string (txt name1), .int .u32 key1, .slice AU2 uses2.length cU2, .slice AD2 descs2.length cD2, .int .i64 data1, .string (txt strings1), .slice AC2 code2.length cC2, .slice AE2 entries2.length cE2, .int .i64 calls1, .int .i64 places1]
  rw [hs1] at L2
  have L2 := Lib.hid L2
  have P1 := Lib.hid (ha0.out.below B2)
  have P2 := Lib.hid (hb0.out.below B2)
  have B2 := Lib.hid B2
  clear hs1 ha0 hb0
  go_enter Try.func28, Try.ntmps28
  go_upto_region 1 with fail
  generalize hW : (w.alloc (.cells #[.string (txt name1), .int .u32 key1, .slice AU1 uses1.length cU1, .slice AD1 descs1.length cD1, .int .i64 data1, .string (txt strings1), .slice AC1 code1.length cC1, .slice AE1 entries1.length cE1, .int .i64 calls1, .int .i64 places1] 49)).alloc (.cells #[.string (txt name1), .int .u32 key1, .slice AU2 uses2.length cU2, .slice AD2 descs2.length cD2, .int .i64 data1, .string (txt strings1), .slice AC2 code2.length cC2, .slice AE2 entries2.length cE2, .int .i64 calls1, .int .i64 places1] 49) = W at *
  clear hW
  have a0 := L1.out.cell 0
  have b0 := L2.out.cell 0
  have a1 := L1.out.cell 1
  have b1 := L2.out.cell 1
  have a2 := L1.out.cell 2
  have b2 := L2.out.cell 2
  have a4 := L1.out.cell 4
  have b4 := L2.out.cell 4
  have a5 := L1.out.cell 5
  have b5 := L2.out.cell 5
  have a8 := L1.out.cell 8
  have b8 := L2.out.cell 8
  have a9 := L1.out.cell 9
  have b9 := L2.out.cell 9
  simp only [List.getElem?_toArray, List.getElem?_cons_zero, List.getElem?_cons_succ] at a0 b0 a1 b1 a2 b2 a4 b4 a5 b5 a8 b8 a9 b9
  have hs : ((uses1.length : Int) != (uses2.length : Int)) = true := by rw [bne_iff_ne]; omega
  clear hx
  go_wp2_with fail
  go_ret
  exact ⟨rfl, B2.out⟩

set_option maxRecDepth 100000 in
set_option maxHeartbeats 4000000 in
theorem sd_no7 (a b : Ob) (aU aD aC aE bU bD bC bE : Value) (w : World) (ha : ObParts w a aU aD aC aE) (hb : ObParts w b bU bD bC bE) (h0 : a.name = b.name) (h1 : a.key = b.key) (h2 : a.data = b.data) (h3 : a.strings = b.strings) (h4 : a.calls = b.calls) (h5 : a.places = b.places) (h6 : a.uses.length = b.uses.length) (hx : ¬ a.descs.length = b.descs.length) :
    Calls Try.prog 28 #[.agg (obCells a aU aD aC aE), .agg (obCells b bU bD bC bE)] w fun e w' => e = .returned (.bool false) ∧ Below w.heap.size w w' := by
  obtain ⟨name1, key1, uses1, descs1, data1, strings1, code1, entries1, calls1, places1⟩ := a
  obtain ⟨name2, key2, uses2, descs2, data2, strings2, code2, entries2, calls2, places2⟩ := b
  dsimp only at h0 h1 h2 h3 h4 h5 h6 hx
  subst h0
  subst h1
  subst h2
  subst h3
  subst h4
  subst h5
  have huses := Lib.hid h6
  have euses : ((uses1.length : Int) != (uses2.length : Int)) = false := by rw [h6]; simp
  clear h6
  have ha0 := Lib.hid ha
  have hb0 := Lib.hid hb
  obtain ⟨⟨-, AU1, cU1, rfl, -⟩, ⟨-, AD1, cD1, rfl, -⟩, ⟨-, AC1, cC1, rfl, -⟩, ⟨-, AE1, cE1, rfl, -⟩⟩ := ha
  obtain ⟨⟨-, AU2, cU2, rfl, -⟩, ⟨-, AD2, cD2, rfl, -⟩, ⟨-, AC2, cC2, rfl, -⟩, ⟨-, AE2, cE2, rfl, -⟩⟩ := hb
  simp only [obCells]
  have B2 := ((Below.refl w.heap.size w).alloc (Nat.le_refl _) (.cells #[.string (txt name1), .int .u32 key1, .slice AU1 uses1.length cU1, .slice AD1 descs1.length cD1, .int .i64 data1, .string (txt strings1), .slice AC1 code1.length cC1, .slice AE1 entries1.length cE1, .int .i64 calls1, .int .i64 places1] 49)).alloc (by simp) (.cells #[.string (txt name1), .int .u32 key1, .slice AU2 uses2.length cU2, .slice AD2 descs2.length cD2, .int .i64 data1, .string (txt strings1), .slice AC2 code2.length cC2, .slice AE2 entries2.length cE2, .int .i64 calls1, .int .i64 places1] 49)
  have L1 := Lib.hid ((Blk.new w 49 #[.string (txt name1), .int .u32 key1, .slice AU1 uses1.length cU1, .slice AD1 descs1.length cD1, .int .i64 data1, .string (txt strings1), .slice AC1 code1.length cC1, .slice AE1 entries1.length cE1, .int .i64 calls1, .int .i64 places1]).alloc (.cells #[.string (txt name1), .int .u32 key1, .slice AU2 uses2.length cU2, .slice AD2 descs2.length cD2, .int .i64 data1, .string (txt strings1), .slice AC2 code2.length cC2, .slice AE2 entries2.length cE2, .int .i64 calls1, .int .i64 places1] 49))
  have hs1 : (w.alloc (.cells #[.string (txt name1), .int .u32 key1, .slice AU1 uses1.length cU1, .slice AD1 descs1.length cD1, .int .i64 data1, .string (txt strings1), .slice AC1 code1.length cC1, .slice AE1 entries1.length cE1, .int .i64 calls1, .int .i64 places1] 49)).heap.size = w.heap.size + 1 := by simp
  have L2 := Blk.new (w.alloc (.cells #[.string (txt name1), .int .u32 key1, .slice AU1 uses1.length cU1, .slice AD1 descs1.length cD1, .int .i64 data1, .string (txt strings1), .slice AC1 code1.length cC1, .slice AE1 entries1.length cE1, .int .i64 calls1, .int .i64 places1] 49)) 49 #[.string (txt name1), .int .u32 key1, .slice AU2 uses2.length cU2, .slice AD2 descs2.length cD2, .int .i64 data1, .string (txt strings1), .slice AC2 code2.length cC2, .slice AE2 entries2.length cE2, .int .i64 calls1, .int .i64 places1]
  rw [hs1] at L2
  have L2 := Lib.hid L2
  have P1 := Lib.hid (ha0.out.below B2)
  have P2 := Lib.hid (hb0.out.below B2)
  have B2 := Lib.hid B2
  clear hs1 ha0 hb0
  go_enter Try.func28, Try.ntmps28
  go_upto_region 1 with fail
  generalize hW : (w.alloc (.cells #[.string (txt name1), .int .u32 key1, .slice AU1 uses1.length cU1, .slice AD1 descs1.length cD1, .int .i64 data1, .string (txt strings1), .slice AC1 code1.length cC1, .slice AE1 entries1.length cE1, .int .i64 calls1, .int .i64 places1] 49)).alloc (.cells #[.string (txt name1), .int .u32 key1, .slice AU2 uses2.length cU2, .slice AD2 descs2.length cD2, .int .i64 data1, .string (txt strings1), .slice AC2 code2.length cC2, .slice AE2 entries2.length cE2, .int .i64 calls1, .int .i64 places1] 49) = W at *
  clear hW
  have a0 := L1.out.cell 0
  have b0 := L2.out.cell 0
  have a1 := L1.out.cell 1
  have b1 := L2.out.cell 1
  have a2 := L1.out.cell 2
  have b2 := L2.out.cell 2
  have a3 := L1.out.cell 3
  have b3 := L2.out.cell 3
  have a4 := L1.out.cell 4
  have b4 := L2.out.cell 4
  have a5 := L1.out.cell 5
  have b5 := L2.out.cell 5
  have a8 := L1.out.cell 8
  have b8 := L2.out.cell 8
  have a9 := L1.out.cell 9
  have b9 := L2.out.cell 9
  simp only [List.getElem?_toArray, List.getElem?_cons_zero, List.getElem?_cons_succ] at a0 b0 a1 b1 a2 b2 a3 b3 a4 b4 a5 b5 a8 b8 a9 b9
  have hs : ((descs1.length : Int) != (descs2.length : Int)) = true := by rw [bne_iff_ne]; omega
  clear hx
  go_wp2_with fail
  go_ret
  exact ⟨rfl, B2.out⟩

end Go.Proofs.Ytceflhffilldeaa

/-
  The document's Same, walked.
-/
namespace Go.Proofs.Ytceflhffilldeaa
set_option linter.unusedVariables false
set_option linter.unusedSimpArgs false
open Go.RowKit ObjL

set_option maxRecDepth 100000 in
set_option maxHeartbeats 4000000 in
theorem sd_no8 (a b : Ob) (aU aD aC aE bU bD bC bE : Value) (w : World) (ha : ObParts w a aU aD aC aE) (hb : ObParts w b bU bD bC bE) (h0 : a.name = b.name) (h1 : a.key = b.key) (h2 : a.data = b.data) (h3 : a.strings = b.strings) (h4 : a.calls = b.calls) (h5 : a.places = b.places) (h6 : a.uses.length = b.uses.length) (h7 : a.descs.length = b.descs.length) (hx : ¬ a.code = b.code) :
    Calls Try.prog 28 #[.agg (obCells a aU aD aC aE), .agg (obCells b bU bD bC bE)] w fun e w' => e = .returned (.bool false) ∧ Below w.heap.size w w' := by
  obtain ⟨name1, key1, uses1, descs1, data1, strings1, code1, entries1, calls1, places1⟩ := a
  obtain ⟨name2, key2, uses2, descs2, data2, strings2, code2, entries2, calls2, places2⟩ := b
  dsimp only at h0 h1 h2 h3 h4 h5 h6 h7 hx
  subst h0
  subst h1
  subst h2
  subst h3
  subst h4
  subst h5
  have huses := Lib.hid h6
  have euses : ((uses1.length : Int) != (uses2.length : Int)) = false := by rw [h6]; simp
  clear h6
  have hdescs := Lib.hid h7
  have edescs : ((descs1.length : Int) != (descs2.length : Int)) = false := by rw [h7]; simp
  clear h7
  have ha0 := Lib.hid ha
  have hb0 := Lib.hid hb
  obtain ⟨⟨-, AU1, cU1, rfl, -⟩, ⟨-, AD1, cD1, rfl, -⟩, ⟨-, AC1, cC1, rfl, -⟩, ⟨-, AE1, cE1, rfl, -⟩⟩ := ha
  obtain ⟨⟨-, AU2, cU2, rfl, -⟩, ⟨-, AD2, cD2, rfl, -⟩, ⟨-, AC2, cC2, rfl, -⟩, ⟨-, AE2, cE2, rfl, -⟩⟩ := hb
  simp only [obCells]
  have B2 := ((Below.refl w.heap.size w).alloc (Nat.le_refl _) (.cells #[.string (txt name1), .int .u32 key1, .slice AU1 uses1.length cU1, .slice AD1 descs1.length cD1, .int .i64 data1, .string (txt strings1), .slice AC1 code1.length cC1, .slice AE1 entries1.length cE1, .int .i64 calls1, .int .i64 places1] 49)).alloc (by simp) (.cells #[.string (txt name1), .int .u32 key1, .slice AU2 uses2.length cU2, .slice AD2 descs2.length cD2, .int .i64 data1, .string (txt strings1), .slice AC2 code2.length cC2, .slice AE2 entries2.length cE2, .int .i64 calls1, .int .i64 places1] 49)
  have L1 := Lib.hid ((Blk.new w 49 #[.string (txt name1), .int .u32 key1, .slice AU1 uses1.length cU1, .slice AD1 descs1.length cD1, .int .i64 data1, .string (txt strings1), .slice AC1 code1.length cC1, .slice AE1 entries1.length cE1, .int .i64 calls1, .int .i64 places1]).alloc (.cells #[.string (txt name1), .int .u32 key1, .slice AU2 uses2.length cU2, .slice AD2 descs2.length cD2, .int .i64 data1, .string (txt strings1), .slice AC2 code2.length cC2, .slice AE2 entries2.length cE2, .int .i64 calls1, .int .i64 places1] 49))
  have hs1 : (w.alloc (.cells #[.string (txt name1), .int .u32 key1, .slice AU1 uses1.length cU1, .slice AD1 descs1.length cD1, .int .i64 data1, .string (txt strings1), .slice AC1 code1.length cC1, .slice AE1 entries1.length cE1, .int .i64 calls1, .int .i64 places1] 49)).heap.size = w.heap.size + 1 := by simp
  have L2 := Blk.new (w.alloc (.cells #[.string (txt name1), .int .u32 key1, .slice AU1 uses1.length cU1, .slice AD1 descs1.length cD1, .int .i64 data1, .string (txt strings1), .slice AC1 code1.length cC1, .slice AE1 entries1.length cE1, .int .i64 calls1, .int .i64 places1] 49)) 49 #[.string (txt name1), .int .u32 key1, .slice AU2 uses2.length cU2, .slice AD2 descs2.length cD2, .int .i64 data1, .string (txt strings1), .slice AC2 code2.length cC2, .slice AE2 entries2.length cE2, .int .i64 calls1, .int .i64 places1]
  rw [hs1] at L2
  have L2 := Lib.hid L2
  have P1 := Lib.hid (ha0.out.below B2)
  have P2 := Lib.hid (hb0.out.below B2)
  have B2 := Lib.hid B2
  clear hs1 ha0 hb0
  go_enter Try.func28, Try.ntmps28
  go_upto_region 1 with fail
  generalize hW : (w.alloc (.cells #[.string (txt name1), .int .u32 key1, .slice AU1 uses1.length cU1, .slice AD1 descs1.length cD1, .int .i64 data1, .string (txt strings1), .slice AC1 code1.length cC1, .slice AE1 entries1.length cE1, .int .i64 calls1, .int .i64 places1] 49)).alloc (.cells #[.string (txt name1), .int .u32 key1, .slice AU2 uses2.length cU2, .slice AD2 descs2.length cD2, .int .i64 data1, .string (txt strings1), .slice AC2 code2.length cC2, .slice AE2 entries2.length cE2, .int .i64 calls1, .int .i64 places1] 49) = W at *
  clear hW
  have a0 := L1.out.cell 0
  have b0 := L2.out.cell 0
  have a1 := L1.out.cell 1
  have b1 := L2.out.cell 1
  have a2 := L1.out.cell 2
  have b2 := L2.out.cell 2
  have a3 := L1.out.cell 3
  have b3 := L2.out.cell 3
  have a4 := L1.out.cell 4
  have b4 := L2.out.cell 4
  have a5 := L1.out.cell 5
  have b5 := L2.out.cell 5
  have a6 := L1.out.cell 6
  have b6 := L2.out.cell 6
  have a8 := L1.out.cell 8
  have b8 := L2.out.cell 8
  have a9 := L1.out.cell 9
  have b9 := L2.out.cell 9
  simp only [List.getElem?_toArray, List.getElem?_cons_zero, List.getElem?_cons_succ] at a0 b0 a1 b1 a2 b2 a3 b3 a4 b4 a5 b5 a6 b6 a8 b8 a9 b9
  have CX := keep_words (.slice AC1 code1.length cC1) (.slice AC2 code2.length cC2) code1 code2 W P1.out.code P2.out.code
  rw [(show decide (code1 = code2) = false from decide_eq_false hx)] at CX
  have CX := Lib.hid CX
  clear hx
  go_wp2_with fail
  refine CX.out.mono ?_
  rintro e W8 ⟨rfl, hq8⟩
  have hb8 := hq8.all_below (B := W.heap.size)
  have P1 : RowKit.Hid (ObParts W8 _ _ _ _ _) := Lib.hid (P1.out.below hb8)
  have P2 : RowKit.Hid (ObParts W8 _ _ _ _ _) := Lib.hid (P2.out.below hb8)
  have B2 : RowKit.Hid (Below _ w W8) := Lib.hid (B2.out.trans (hb8.mono B2.out.size))
  have L1 := Lib.hid (L1.out.below hb8 L1.out.lt)
  have L2 := Lib.hid (L2.out.below hb8 L2.out.lt)
  have a0 := (hq8.cell (p := ⟨w.heap.size, 0, none⟩) trivial).trans a0
  have b0 := (hq8.cell (p := ⟨w.heap.size + 1, 0, none⟩) trivial).trans b0
  have a1 := (hq8.cell (p := ⟨w.heap.size, 1, none⟩) trivial).trans a1
  have b1 := (hq8.cell (p := ⟨w.heap.size + 1, 1, none⟩) trivial).trans b1
  have a2 := (hq8.cell (p := ⟨w.heap.size, 2, none⟩) trivial).trans a2
  have b2 := (hq8.cell (p := ⟨w.heap.size + 1, 2, none⟩) trivial).trans b2
  have a3 := (hq8.cell (p := ⟨w.heap.size, 3, none⟩) trivial).trans a3
  have b3 := (hq8.cell (p := ⟨w.heap.size + 1, 3, none⟩) trivial).trans b3
  have a4 := (hq8.cell (p := ⟨w.heap.size, 4, none⟩) trivial).trans a4
  have b4 := (hq8.cell (p := ⟨w.heap.size + 1, 4, none⟩) trivial).trans b4
  have a5 := (hq8.cell (p := ⟨w.heap.size, 5, none⟩) trivial).trans a5
  have b5 := (hq8.cell (p := ⟨w.heap.size + 1, 5, none⟩) trivial).trans b5
  have a6 := (hq8.cell (p := ⟨w.heap.size, 6, none⟩) trivial).trans a6
  have b6 := (hq8.cell (p := ⟨w.heap.size + 1, 6, none⟩) trivial).trans b6
  have a8 := (hq8.cell (p := ⟨w.heap.size, 8, none⟩) trivial).trans a8
  have b8 := (hq8.cell (p := ⟨w.heap.size + 1, 8, none⟩) trivial).trans b8
  have a9 := (hq8.cell (p := ⟨w.heap.size, 9, none⟩) trivial).trans a9
  have b9 := (hq8.cell (p := ⟨w.heap.size + 1, 9, none⟩) trivial).trans b9
  clear CX hq8 hb8
  go_wp2_with fail
  go_ret
  exact ⟨rfl, B2.out⟩

set_option maxRecDepth 100000 in
set_option maxHeartbeats 4000000 in
theorem sd_no9 (a b : Ob) (aU aD aC aE bU bD bC bE : Value) (w : World) (ha : ObParts w a aU aD aC aE) (hb : ObParts w b bU bD bC bE) (h0 : a.name = b.name) (h1 : a.key = b.key) (h2 : a.data = b.data) (h3 : a.strings = b.strings) (h4 : a.calls = b.calls) (h5 : a.places = b.places) (h6 : a.uses.length = b.uses.length) (h7 : a.descs.length = b.descs.length) (h8 : a.code = b.code) (hx : ¬ a.entries = b.entries) :
    Calls Try.prog 28 #[.agg (obCells a aU aD aC aE), .agg (obCells b bU bD bC bE)] w fun e w' => e = .returned (.bool false) ∧ Below w.heap.size w w' := by
  obtain ⟨name1, key1, uses1, descs1, data1, strings1, code1, entries1, calls1, places1⟩ := a
  obtain ⟨name2, key2, uses2, descs2, data2, strings2, code2, entries2, calls2, places2⟩ := b
  dsimp only at h0 h1 h2 h3 h4 h5 h6 h7 h8 hx
  subst h0
  subst h1
  subst h2
  subst h3
  subst h4
  subst h5
  have huses := Lib.hid h6
  have euses : ((uses1.length : Int) != (uses2.length : Int)) = false := by rw [h6]; simp
  clear h6
  have hdescs := Lib.hid h7
  have edescs : ((descs1.length : Int) != (descs2.length : Int)) = false := by rw [h7]; simp
  clear h7
  subst h8
  have ha0 := Lib.hid ha
  have hb0 := Lib.hid hb
  obtain ⟨⟨-, AU1, cU1, rfl, -⟩, ⟨-, AD1, cD1, rfl, -⟩, ⟨-, AC1, cC1, rfl, -⟩, ⟨-, AE1, cE1, rfl, -⟩⟩ := ha
  obtain ⟨⟨-, AU2, cU2, rfl, -⟩, ⟨-, AD2, cD2, rfl, -⟩, ⟨-, AC2, cC2, rfl, -⟩, ⟨-, AE2, cE2, rfl, -⟩⟩ := hb
  simp only [obCells]
  have B2 := ((Below.refl w.heap.size w).alloc (Nat.le_refl _) (.cells #[.string (txt name1), .int .u32 key1, .slice AU1 uses1.length cU1, .slice AD1 descs1.length cD1, .int .i64 data1, .string (txt strings1), .slice AC1 code1.length cC1, .slice AE1 entries1.length cE1, .int .i64 calls1, .int .i64 places1] 49)).alloc (by simp) (.cells #[.string (txt name1), .int .u32 key1, .slice AU2 uses2.length cU2, .slice AD2 descs2.length cD2, .int .i64 data1, .string (txt strings1), .slice AC2 code1.length cC2, .slice AE2 entries2.length cE2, .int .i64 calls1, .int .i64 places1] 49)
  have L1 := Lib.hid ((Blk.new w 49 #[.string (txt name1), .int .u32 key1, .slice AU1 uses1.length cU1, .slice AD1 descs1.length cD1, .int .i64 data1, .string (txt strings1), .slice AC1 code1.length cC1, .slice AE1 entries1.length cE1, .int .i64 calls1, .int .i64 places1]).alloc (.cells #[.string (txt name1), .int .u32 key1, .slice AU2 uses2.length cU2, .slice AD2 descs2.length cD2, .int .i64 data1, .string (txt strings1), .slice AC2 code1.length cC2, .slice AE2 entries2.length cE2, .int .i64 calls1, .int .i64 places1] 49))
  have hs1 : (w.alloc (.cells #[.string (txt name1), .int .u32 key1, .slice AU1 uses1.length cU1, .slice AD1 descs1.length cD1, .int .i64 data1, .string (txt strings1), .slice AC1 code1.length cC1, .slice AE1 entries1.length cE1, .int .i64 calls1, .int .i64 places1] 49)).heap.size = w.heap.size + 1 := by simp
  have L2 := Blk.new (w.alloc (.cells #[.string (txt name1), .int .u32 key1, .slice AU1 uses1.length cU1, .slice AD1 descs1.length cD1, .int .i64 data1, .string (txt strings1), .slice AC1 code1.length cC1, .slice AE1 entries1.length cE1, .int .i64 calls1, .int .i64 places1] 49)) 49 #[.string (txt name1), .int .u32 key1, .slice AU2 uses2.length cU2, .slice AD2 descs2.length cD2, .int .i64 data1, .string (txt strings1), .slice AC2 code1.length cC2, .slice AE2 entries2.length cE2, .int .i64 calls1, .int .i64 places1]
  rw [hs1] at L2
  have L2 := Lib.hid L2
  have P1 := Lib.hid (ha0.out.below B2)
  have P2 := Lib.hid (hb0.out.below B2)
  have B2 := Lib.hid B2
  clear hs1 ha0 hb0
  go_enter Try.func28, Try.ntmps28
  go_upto_region 1 with fail
  generalize hW : (w.alloc (.cells #[.string (txt name1), .int .u32 key1, .slice AU1 uses1.length cU1, .slice AD1 descs1.length cD1, .int .i64 data1, .string (txt strings1), .slice AC1 code1.length cC1, .slice AE1 entries1.length cE1, .int .i64 calls1, .int .i64 places1] 49)).alloc (.cells #[.string (txt name1), .int .u32 key1, .slice AU2 uses2.length cU2, .slice AD2 descs2.length cD2, .int .i64 data1, .string (txt strings1), .slice AC2 code1.length cC2, .slice AE2 entries2.length cE2, .int .i64 calls1, .int .i64 places1] 49) = W at *
  clear hW
  have a0 := L1.out.cell 0
  have b0 := L2.out.cell 0
  have a1 := L1.out.cell 1
  have b1 := L2.out.cell 1
  have a2 := L1.out.cell 2
  have b2 := L2.out.cell 2
  have a3 := L1.out.cell 3
  have b3 := L2.out.cell 3
  have a4 := L1.out.cell 4
  have b4 := L2.out.cell 4
  have a5 := L1.out.cell 5
  have b5 := L2.out.cell 5
  have a6 := L1.out.cell 6
  have b6 := L2.out.cell 6
  have a7 := L1.out.cell 7
  have b7 := L2.out.cell 7
  have a8 := L1.out.cell 8
  have b8 := L2.out.cell 8
  have a9 := L1.out.cell 9
  have b9 := L2.out.cell 9
  simp only [List.getElem?_toArray, List.getElem?_cons_zero, List.getElem?_cons_succ] at a0 b0 a1 b1 a2 b2 a3 b3 a4 b4 a5 b5 a6 b6 a7 b7 a8 b8 a9 b9
  have CX := keep_words (.slice AC1 code1.length cC1) (.slice AC2 code1.length cC2) code1 code1 W P1.out.code P2.out.code
  rw [(show decide (code1 = code1) = true from decide_eq_true rfl)] at CX
  have CX := Lib.hid CX
  go_wp2_with fail
  refine CX.out.mono ?_
  rintro e W8 ⟨rfl, hq8⟩
  have hb8 := hq8.all_below (B := W.heap.size)
  have P1 : RowKit.Hid (ObParts W8 _ _ _ _ _) := Lib.hid (P1.out.below hb8)
  have P2 : RowKit.Hid (ObParts W8 _ _ _ _ _) := Lib.hid (P2.out.below hb8)
  have B2 : RowKit.Hid (Below _ w W8) := Lib.hid (B2.out.trans (hb8.mono B2.out.size))
  have L1 := Lib.hid (L1.out.below hb8 L1.out.lt)
  have L2 := Lib.hid (L2.out.below hb8 L2.out.lt)
  have a0 := (hq8.cell (p := ⟨w.heap.size, 0, none⟩) trivial).trans a0
  have b0 := (hq8.cell (p := ⟨w.heap.size + 1, 0, none⟩) trivial).trans b0
  have a1 := (hq8.cell (p := ⟨w.heap.size, 1, none⟩) trivial).trans a1
  have b1 := (hq8.cell (p := ⟨w.heap.size + 1, 1, none⟩) trivial).trans b1
  have a2 := (hq8.cell (p := ⟨w.heap.size, 2, none⟩) trivial).trans a2
  have b2 := (hq8.cell (p := ⟨w.heap.size + 1, 2, none⟩) trivial).trans b2
  have a3 := (hq8.cell (p := ⟨w.heap.size, 3, none⟩) trivial).trans a3
  have b3 := (hq8.cell (p := ⟨w.heap.size + 1, 3, none⟩) trivial).trans b3
  have a4 := (hq8.cell (p := ⟨w.heap.size, 4, none⟩) trivial).trans a4
  have b4 := (hq8.cell (p := ⟨w.heap.size + 1, 4, none⟩) trivial).trans b4
  have a5 := (hq8.cell (p := ⟨w.heap.size, 5, none⟩) trivial).trans a5
  have b5 := (hq8.cell (p := ⟨w.heap.size + 1, 5, none⟩) trivial).trans b5
  have a6 := (hq8.cell (p := ⟨w.heap.size, 6, none⟩) trivial).trans a6
  have b6 := (hq8.cell (p := ⟨w.heap.size + 1, 6, none⟩) trivial).trans b6
  have a7 := (hq8.cell (p := ⟨w.heap.size, 7, none⟩) trivial).trans a7
  have b7 := (hq8.cell (p := ⟨w.heap.size + 1, 7, none⟩) trivial).trans b7
  have a8 := (hq8.cell (p := ⟨w.heap.size, 8, none⟩) trivial).trans a8
  have b8 := (hq8.cell (p := ⟨w.heap.size + 1, 8, none⟩) trivial).trans b8
  have a9 := (hq8.cell (p := ⟨w.heap.size, 9, none⟩) trivial).trans a9
  have b9 := (hq8.cell (p := ⟨w.heap.size + 1, 9, none⟩) trivial).trans b9
  clear CX hq8 hb8
  have CX := keep_same (.slice AE1 entries1.length cE1) (.slice AE2 entries2.length cE2) entries1 entries2 W8 P1.out.entries P2.out.entries
  rw [(show decide (entries1 = entries2) = false from decide_eq_false hx)] at CX
  have CX := Lib.hid CX
  clear hx
  go_wp2_with fail
  refine CX.out.mono ?_
  rintro e W9 ⟨rfl, hq9⟩
  have hb9 := hq9.all_below (B := W8.heap.size)
  have P1 : RowKit.Hid (ObParts W9 _ _ _ _ _) := Lib.hid (P1.out.below hb9)
  have P2 : RowKit.Hid (ObParts W9 _ _ _ _ _) := Lib.hid (P2.out.below hb9)
  have B2 : RowKit.Hid (Below _ w W9) := Lib.hid (B2.out.trans (hb9.mono B2.out.size))
  have L1 := Lib.hid (L1.out.below hb9 L1.out.lt)
  have L2 := Lib.hid (L2.out.below hb9 L2.out.lt)
  have a0 := (hq9.cell (p := ⟨w.heap.size, 0, none⟩) trivial).trans a0
  have b0 := (hq9.cell (p := ⟨w.heap.size + 1, 0, none⟩) trivial).trans b0
  have a1 := (hq9.cell (p := ⟨w.heap.size, 1, none⟩) trivial).trans a1
  have b1 := (hq9.cell (p := ⟨w.heap.size + 1, 1, none⟩) trivial).trans b1
  have a2 := (hq9.cell (p := ⟨w.heap.size, 2, none⟩) trivial).trans a2
  have b2 := (hq9.cell (p := ⟨w.heap.size + 1, 2, none⟩) trivial).trans b2
  have a3 := (hq9.cell (p := ⟨w.heap.size, 3, none⟩) trivial).trans a3
  have b3 := (hq9.cell (p := ⟨w.heap.size + 1, 3, none⟩) trivial).trans b3
  have a4 := (hq9.cell (p := ⟨w.heap.size, 4, none⟩) trivial).trans a4
  have b4 := (hq9.cell (p := ⟨w.heap.size + 1, 4, none⟩) trivial).trans b4
  have a5 := (hq9.cell (p := ⟨w.heap.size, 5, none⟩) trivial).trans a5
  have b5 := (hq9.cell (p := ⟨w.heap.size + 1, 5, none⟩) trivial).trans b5
  have a6 := (hq9.cell (p := ⟨w.heap.size, 6, none⟩) trivial).trans a6
  have b6 := (hq9.cell (p := ⟨w.heap.size + 1, 6, none⟩) trivial).trans b6
  have a7 := (hq9.cell (p := ⟨w.heap.size, 7, none⟩) trivial).trans a7
  have b7 := (hq9.cell (p := ⟨w.heap.size + 1, 7, none⟩) trivial).trans b7
  have a8 := (hq9.cell (p := ⟨w.heap.size, 8, none⟩) trivial).trans a8
  have b8 := (hq9.cell (p := ⟨w.heap.size + 1, 8, none⟩) trivial).trans b8
  have a9 := (hq9.cell (p := ⟨w.heap.size, 9, none⟩) trivial).trans a9
  have b9 := (hq9.cell (p := ⟨w.heap.size + 1, 9, none⟩) trivial).trans b9
  clear CX hq9 hb9
  go_wp2_with fail
  go_ret
  exact ⟨rfl, B2.out⟩

end Go.Proofs.Ytceflhffilldeaa
