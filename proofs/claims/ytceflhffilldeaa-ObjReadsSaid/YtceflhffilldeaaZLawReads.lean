/-
  The law ObjReads, walked.
-/
import Derived.Test.YtceflhffilldeaaZPlain
namespace Go.Proofs.Ytceflhffilldeaa
set_option linter.unusedVariables false
set_option linter.unusedSimpArgs false
open Go.RowKit ObjL

set_option maxRecDepth 100000 in
set_option maxHeartbeats 2000000 in
theorem law23_reads (s : List UInt8) (W : World) :
    Calls Try.prog 5 #[.string (txt s)] W fun e w' => e = .returned (.bool true) ∧ Below W.heap.size W w' := by
  have hss := txt_size s
  have BB := Lib.hid (Below.refl W.heap.size W)
  go_enter Try.func5, Try.ntmps5
  by_cases hl : (60000 : Int) < (s.length : Int)
  case pos =>
    go_wp2_with fail
    refine (law23_wakes _).mono ?_
    rintro e w1 ⟨rfl, hb⟩
    replace BB := Lib.hid (BB.out.trans (hb.mono BB.out.size))
    clear hb
    go_wp2_with fail
    go_ret
    exact ⟨rfl, BB.out⟩
  have hsl : s.length ≤ 1000000 := by omega
  go_wp2_with fail
  refine (law23_decode s _ hsl).mono ?_
  rintro e w1 ⟨vU1, vD1, vC1, vE1, rfl, hP1, hf1, hb⟩
  replace BB := Lib.hid (BB.out.trans (hb.mono BB.out.size))
  clear hb
  have hf1h := Lib.hid hf1
  clear hf1
  have P1 := Lib.hid hP1
  obtain ⟨⟨-, AU1, cU1, rfl, -⟩, ⟨-, AD1, cD1, rfl, -⟩, ⟨-, AC1, cC1, rfl, -⟩, ⟨-, AE1, cE1, rfl, -⟩⟩ := hP1
  have hb := (Below.refl w1.heap.size w1).alloc (Nat.le_refl _) (.cells (obCells ((decV s).1) (.slice AU1 (((decV s).1)).uses.length cU1) (.slice AD1 (((decV s).1)).descs.length cD1) (.slice AC1 (((decV s).1)).code.length cC1) (.slice AE1 (((decV s).1)).entries.length cE1)) 49)
  have L1 := Lib.hid (Blk.new w1 49 (obCells ((decV s).1) (.slice AU1 (((decV s).1)).uses.length cU1) (.slice AD1 (((decV s).1)).descs.length cD1) (.slice AC1 (((decV s).1)).code.length cC1) (.slice AE1 (((decV s).1)).entries.length cE1)))
  replace P1 := Lib.hid (P1.out.below hb)
  replace BB := Lib.hid (BB.out.trans (hb.mono BB.out.size))
  clear hb
  have hi1 : RowKit.Hid ((Try.prog.info? 49).map (·.size) = some (obCells ((decV s).1) (.slice AU1 (((decV s).1)).uses.length cU1) (.slice AD1 (((decV s).1)).descs.length cD1) (.slice AC1 (((decV s).1)).code.length cC1) (.slice AE1 (((decV s).1)).entries.length cE1)).size) := Lib.hid (by kernel_rfl)
  have hj1 : RowKit.Hid ((#[.string ⟨#[]⟩, .int .u32 0, .slice none 0 0, .slice none 0 0, .int .i64 0, .string ⟨#[]⟩, .slice none 0 0, .slice none 0 0, .int .i64 0, .int .i64 0] : Array Value).size = (obCells ((decV s).1) (.slice AU1 (((decV s).1)).uses.length cU1) (.slice AD1 (((decV s).1)).descs.length cD1) (.slice AC1 (((decV s).1)).code.length cC1) (.slice AE1 (((decV s).1)).entries.length cE1)).size) := Lib.hid rfl
  have hk1 : RowKit.Hid ((obCells ((decV s).1) (.slice AU1 (((decV s).1)).uses.length cU1) (.slice AD1 (((decV s).1)).descs.length cD1) (.slice AC1 (((decV s).1)).code.length cC1) (.slice AE1 (((decV s).1)).entries.length cE1)).all (·.oneCell') = true) := Lib.hid (by simp [obCells, Value.oneCell'])
  go_wp2_with (refine wpList_store_last rfl 49 (.tmp 3) (.tmp 14) rfl w1 (obCells ((decV s).1) (.slice AU1 (((decV s).1)).uses.length cU1) (.slice AD1 (((decV s).1)).descs.length cD1) (.slice AC1 (((decV s).1)).code.length cC1) (.slice AE1 (((decV s).1)).entries.length cE1)) _ _ rfl rfl rfl hi1.out hj1.out hk1.out ?_)
  refine (law23_rdecode s _ hsl).mono ?_
  rintro e w2 ⟨vU2, vD2, vC2, vE2, rfl, hP2, hf2, hb⟩
  replace L1 := Lib.hid (L1.out.below hb L1.out.lt)
  replace P1 := Lib.hid (P1.out.below hb)
  replace BB := Lib.hid (BB.out.trans (hb.mono BB.out.size))
  clear hb
  generalize w1.heap.size = g1 at *
  have P2 := Lib.hid hP2
  clear hf2
  obtain ⟨⟨-, AU2, cU2, rfl, -⟩, ⟨-, AD2, cD2, rfl, -⟩, ⟨-, AC2, cC2, rfl, -⟩, ⟨-, AE2, cE2, rfl, -⟩⟩ := hP2
  have hb := (Below.refl w2.heap.size w2).alloc (Nat.le_refl _) (.cells (obCells ((decV s).1) (.slice AU2 (((decV s).1)).uses.length cU2) (.slice AD2 (((decV s).1)).descs.length cD2) (.slice AC2 (((decV s).1)).code.length cC2) (.slice AE2 (((decV s).1)).entries.length cE2)) 49)
  have L2 := Lib.hid (Blk.new w2 49 (obCells ((decV s).1) (.slice AU2 (((decV s).1)).uses.length cU2) (.slice AD2 (((decV s).1)).descs.length cD2) (.slice AC2 (((decV s).1)).code.length cC2) (.slice AE2 (((decV s).1)).entries.length cE2)))
  replace L1 := Lib.hid (L1.out.below hb L1.out.lt)
  replace P1 := Lib.hid (P1.out.below hb)
  replace P2 := Lib.hid (P2.out.below hb)
  replace BB := Lib.hid (BB.out.trans (hb.mono BB.out.size))
  clear hb
  have hi2 : RowKit.Hid ((Try.prog.info? 49).map (·.size) = some (obCells ((decV s).1) (.slice AU2 (((decV s).1)).uses.length cU2) (.slice AD2 (((decV s).1)).descs.length cD2) (.slice AC2 (((decV s).1)).code.length cC2) (.slice AE2 (((decV s).1)).entries.length cE2)).size) := Lib.hid (by kernel_rfl)
  have hj2 : RowKit.Hid ((#[.string ⟨#[]⟩, .int .u32 0, .slice none 0 0, .slice none 0 0, .int .i64 0, .string ⟨#[]⟩, .slice none 0 0, .slice none 0 0, .int .i64 0, .int .i64 0] : Array Value).size = (obCells ((decV s).1) (.slice AU2 (((decV s).1)).uses.length cU2) (.slice AD2 (((decV s).1)).descs.length cD2) (.slice AC2 (((decV s).1)).code.length cC2) (.slice AE2 (((decV s).1)).entries.length cE2)).size) := Lib.hid rfl
  have hk2 : RowKit.Hid ((obCells ((decV s).1) (.slice AU2 (((decV s).1)).uses.length cU2) (.slice AD2 (((decV s).1)).descs.length cD2) (.slice AC2 (((decV s).1)).code.length cC2) (.slice AE2 (((decV s).1)).entries.length cE2)).all (·.oneCell') = true) := Lib.hid (by simp [obCells, Value.oneCell'])
  go_wp2_with (first | (refine wpList_store_last rfl 49 (.tmp 5) (.tmp 19) rfl w2 (obCells ((decV s).1) (.slice AU2 (((decV s).1)).uses.length cU2) (.slice AD2 (((decV s).1)).descs.length cD2) (.slice AC2 (((decV s).1)).code.length cC2) (.slice AE2 (((decV s).1)).entries.length cE2)) _ _ rfl rfl rfl hi2.out hj2.out hk2.out ?_) | (refine wpList_load_row_g rfl 49 (.tmp 3) rfl g1 rfl 49 (obCells ((decV s).1) (.slice AU1 (((decV s).1)).uses.length cU1) (.slice AD1 (((decV s).1)).descs.length cD1) (.slice AC1 (((decV s).1)).code.length cC1) (.slice AE1 (((decV s).1)).entries.length cE1)) (0, 0) _ L1.out Try.underlying49 rfl (by kernel_rfl) ?_) | (refine wpList_load_row_g rfl 49 (.tmp 5) rfl w2.heap.size rfl 49 (obCells ((decV s).1) (.slice AU2 (((decV s).1)).uses.length cU2) (.slice AD2 (((decV s).1)).descs.length cD2) (.slice AC2 (((decV s).1)).code.length cC2) (.slice AE2 (((decV s).1)).entries.length cE2)) (0, 0) _ L2.out Try.underlying49 rfl (by kernel_rfl) ?_))
  refine (law23_self ((decV s).1) (.slice AU1 (((decV s).1)).uses.length cU1) (.slice AD1 (((decV s).1)).descs.length cD1) (.slice AC1 (((decV s).1)).code.length cC1) (.slice AE1 (((decV s).1)).entries.length cE1) (.slice AU2 (((decV s).1)).uses.length cU2) (.slice AD2 (((decV s).1)).descs.length cD2) (.slice AC2 (((decV s).1)).code.length cC2) (.slice AE2 (((decV s).1)).entries.length cE2) _ P1.out P2.out).mono ?_
  rintro e w3 ⟨rfl, hb⟩
  replace L1 := Lib.hid (L1.out.below hb L1.out.lt)
  replace L2 := Lib.hid (L2.out.below hb L2.out.lt)
  replace P1 := Lib.hid (P1.out.below hb)
  replace P2 := Lib.hid (P2.out.below hb)
  replace BB := Lib.hid (BB.out.trans (hb.mono BB.out.size))
  clear hb
  generalize w2.heap.size = g2 at *
  go_wp2_with fail
  refine (law23_wakes _).mono ?_
  rintro e w4 ⟨rfl, hb⟩
  replace L1 := Lib.hid (L1.out.below hb L1.out.lt)
  replace L2 := Lib.hid (L2.out.below hb L2.out.lt)
  replace P1 := Lib.hid (P1.out.below hb)
  replace P2 := Lib.hid (P2.out.below hb)
  replace BB := Lib.hid (BB.out.trans (hb.mono BB.out.size))
  clear hb
  go_wp2_with fail
  go_ret
  exact ⟨rfl, BB.out⟩
theorem law23_reads_text (s : ByteArray) (W : World) : Calls Try.prog 5 #[.string s] W fun e w' => e = .returned (.bool true) ∧ Below W.heap.size W w' := by
  have h := law23_reads s.data.toList W
  rw [txt_of] at h
  exact h

end Go.Proofs.Ytceflhffilldeaa
