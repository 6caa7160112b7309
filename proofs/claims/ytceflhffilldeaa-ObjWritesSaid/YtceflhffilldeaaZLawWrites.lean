/-
  The law ObjWrites, walked.
-/
import Derived.Test.YtceflhffilldeaaZPlain
namespace Go.Proofs.Ytceflhffilldeaa
set_option linter.unusedVariables false
set_option linter.unusedSimpArgs false
open Go.RowKit ObjL

set_option maxRecDepth 100000 in
set_option maxHeartbeats 2000000 in
theorem law23_writes (o : Ob) (vU1 vD1 vC1 vE1 : Value) (W : World) (hp1 : ObParts W o vU1 vD1 vC1 vE1) (hf1 : ObFine o) (hz1 : ObSized o) :
    Calls Try.prog 4 #[.agg (obCells o vU1 vD1 vC1 vE1)] W fun e w' => e = .returned (.bool true) ∧ Below W.heap.size W w' := by
  have P1 := Lib.hid hp1
  obtain ⟨⟨-, AU1, cU1, rfl, -⟩, ⟨-, AD1, cD1, rfl, -⟩, ⟨-, AC1, cC1, rfl, -⟩, ⟨-, AE1, cE1, rfl, -⟩⟩ := hp1
  have hf1h := Lib.hid hf1
  have hz1h := Lib.hid hz1
  clear hf1 hz1
  have BB := Lib.hid (Below.refl W.heap.size W)
  have hb := (Below.refl W.heap.size W).alloc (Nat.le_refl _) (.cells (obCells o (.slice AU1 (o).uses.length cU1) (.slice AD1 (o).descs.length cD1) (.slice AC1 (o).code.length cC1) (.slice AE1 (o).entries.length cE1)) 49)
  have L1 := Lib.hid (Blk.new W 49 (obCells o (.slice AU1 (o).uses.length cU1) (.slice AD1 (o).descs.length cD1) (.slice AC1 (o).code.length cC1) (.slice AE1 (o).entries.length cE1)))
  replace P1 := Lib.hid (P1.out.below hb)
  replace BB := Lib.hid (BB.out.trans (hb.mono BB.out.size))
  clear hb
  go_enter Try.func4, Try.ntmps4
  go_upto_region 1 with fail
  generalize hW0 : (W.alloc (.cells (obCells o (.slice AU1 (o).uses.length cU1) (.slice AD1 (o).descs.length cD1) (.slice AC1 (o).code.length cC1) (.slice AE1 (o).entries.length cE1)) 49)) = w1 at *
  clear hW0
  go_wp2_with (refine wpList_load_row_g rfl 49 (.tmp 1) rfl W.heap.size rfl 49 (obCells o (.slice AU1 (o).uses.length cU1) (.slice AD1 (o).descs.length cD1) (.slice AC1 (o).code.length cC1) (.slice AE1 (o).entries.length cE1)) (0, 0) _ L1.out Try.underlying49 rfl (by kernel_rfl) ?_)
  refine (law23_large o (.slice AU1 (o).uses.length cU1) (.slice AD1 (o).descs.length cD1) (.slice AC1 (o).code.length cC1) (.slice AE1 (o).entries.length cE1) w1 P1.out hz1h.out).mono ?_
  rintro e w2 ⟨Lg1, rfl, hcp1, hb⟩
  replace L1 := Lib.hid (L1.out.below hb L1.out.lt)
  replace P1 := Lib.hid (P1.out.below hb)
  replace BB := Lib.hid (BB.out.trans (hb.mono BB.out.size))
  clear hb
  have hcp1h := Lib.hid hcp1
  clear hcp1
  cases Lg1
  case true =>
    go_wp2_with fail
    refine (law23_wakes _).mono ?_
    rintro e w3 ⟨rfl, hb⟩
    replace L1 := Lib.hid (L1.out.below hb L1.out.lt)
    replace P1 := Lib.hid (P1.out.below hb)
    replace BB := Lib.hid (BB.out.trans (hb.mono BB.out.size))
    clear hb
    go_wp2_with fail
    go_ret
    exact ⟨rfl, BB.out⟩
  have hc1 := hcp1h.out rfl
  clear hcp1h
  go_wp2_with (refine wpList_load_row_g rfl 49 (.tmp 1) rfl W.heap.size rfl 49 (obCells o (.slice AU1 (o).uses.length cU1) (.slice AD1 (o).descs.length cD1) (.slice AC1 (o).code.length cC1) (.slice AE1 (o).entries.length cE1)) (0, 0) _ L1.out Try.underlying49 rfl (by kernel_rfl) ?_)
  refine (ref23_copy o (.slice AU1 (o).uses.length cU1) (.slice AD1 (o).descs.length cD1) (.slice AC1 (o).code.length cC1) (.slice AE1 (o).entries.length cE1) w2 P1.out hc1).mono ?_
  rintro e w3 ⟨vU2, vD2, vC2, vE2, rfl, hP2, hb⟩
  replace L1 := Lib.hid (L1.out.below hb L1.out.lt)
  replace P1 := Lib.hid (P1.out.below hb)
  replace BB := Lib.hid (BB.out.trans (hb.mono BB.out.size))
  clear hb
  have P2 := Lib.hid hP2
  obtain ⟨⟨-, AU2, cU2, rfl, -⟩, ⟨-, AD2, cD2, rfl, -⟩, ⟨-, AC2, cC2, rfl, -⟩, ⟨-, AE2, cE2, rfl, -⟩⟩ := hP2
  have hb := (Below.refl w3.heap.size w3).alloc (Nat.le_refl _) (.cells (obCells o (.slice AU2 (o).uses.length cU2) (.slice AD2 (o).descs.length cD2) (.slice AC2 (o).code.length cC2) (.slice AE2 (o).entries.length cE2)) 49)
  have L2 := Lib.hid (Blk.new w3 49 (obCells o (.slice AU2 (o).uses.length cU2) (.slice AD2 (o).descs.length cD2) (.slice AC2 (o).code.length cC2) (.slice AE2 (o).entries.length cE2)))
  replace L1 := Lib.hid (L1.out.below hb L1.out.lt)
  replace P1 := Lib.hid (P1.out.below hb)
  replace P2 := Lib.hid (P2.out.below hb)
  replace BB := Lib.hid (BB.out.trans (hb.mono BB.out.size))
  clear hb
  have hi2 : RowKit.Hid ((Try.prog.info? 49).map (·.size) = some (obCells o (.slice AU2 (o).uses.length cU2) (.slice AD2 (o).descs.length cD2) (.slice AC2 (o).code.length cC2) (.slice AE2 (o).entries.length cE2)).size) := Lib.hid (by kernel_rfl)
  have hj2 : RowKit.Hid ((#[.string ⟨#[]⟩, .int .u32 0, .slice none 0 0, .slice none 0 0, .int .i64 0, .string ⟨#[]⟩, .slice none 0 0, .slice none 0 0, .int .i64 0, .int .i64 0] : Array Value).size = (obCells o (.slice AU2 (o).uses.length cU2) (.slice AD2 (o).descs.length cD2) (.slice AC2 (o).code.length cC2) (.slice AE2 (o).entries.length cE2)).size) := Lib.hid rfl
  have hk2 : RowKit.Hid ((obCells o (.slice AU2 (o).uses.length cU2) (.slice AD2 (o).descs.length cD2) (.slice AC2 (o).code.length cC2) (.slice AE2 (o).entries.length cE2)).all (·.oneCell') = true) := Lib.hid (by simp [obCells, Value.oneCell'])
  obtain ⟨bs, er, hres, -, -⟩ := encRes_is (goodO o) o
  have EN := law23_encode o (.slice AU2 (o).uses.length cU2) (.slice AD2 (o).descs.length cD2) (.slice AC2 (o).code.length cC2) (.slice AE2 (o).entries.length cE2) (w3.alloc (.cells (obCells o (.slice AU2 (o).uses.length cU2) (.slice AD2 (o).descs.length cD2) (.slice AC2 (o).code.length cC2) (.slice AE2 (o).entries.length cE2)) 49)) P2.out hf1h.out
  rw [hres] at EN
  go_wp2_with (first | (refine wpList_store_last rfl 49 (.tmp 3) (.tmp 12) rfl w3 (obCells o (.slice AU2 (o).uses.length cU2) (.slice AD2 (o).descs.length cD2) (.slice AC2 (o).code.length cC2) (.slice AE2 (o).entries.length cE2)) _ _ rfl rfl rfl hi2.out hj2.out hk2.out ?_) | (refine wpList_load_row_g rfl 49 (.tmp 3) rfl w3.heap.size rfl 49 (obCells o (.slice AU2 (o).uses.length cU2) (.slice AD2 (o).descs.length cD2) (.slice AC2 (o).code.length cC2) (.slice AE2 (o).entries.length cE2)) (0, 0) _ L2.out Try.underlying49 rfl (by kernel_rfl) ?_))
  refine (EN).mono ?_
  rintro e w4 ⟨rfl, hb⟩
  replace L1 := Lib.hid (L1.out.below hb L1.out.lt)
  replace L2 := Lib.hid (L2.out.below hb L2.out.lt)
  replace P1 := Lib.hid (P1.out.below hb)
  replace P2 := Lib.hid (P2.out.below hb)
  replace BB := Lib.hid (BB.out.trans (hb.mono BB.out.size))
  clear hb
  clear EN
  generalize w3.heap.size = g2 at *
  have EN := law23_rencode o (.slice AU1 (o).uses.length cU1) (.slice AD1 (o).descs.length cD1) (.slice AC1 (o).code.length cC1) (.slice AE1 (o).entries.length cE1) w4 P1.out hf1h.out
  rw [hres] at EN
  clear hres
  go_wp2_with (refine wpList_load_row_g rfl 49 (.tmp 1) rfl W.heap.size rfl 49 (obCells o (.slice AU1 (o).uses.length cU1) (.slice AD1 (o).descs.length cD1) (.slice AC1 (o).code.length cC1) (.slice AE1 (o).entries.length cE1)) (0, 0) _ L1.out Try.underlying49 rfl (by kernel_rfl) ?_)
  refine (EN).mono ?_
  rintro e w5 ⟨rfl, hb⟩
  replace L1 := Lib.hid (L1.out.below hb L1.out.lt)
  replace L2 := Lib.hid (L2.out.below hb L2.out.lt)
  replace P1 := Lib.hid (P1.out.below hb)
  replace P2 := Lib.hid (P2.out.below hb)
  replace BB := Lib.hid (BB.out.trans (hb.mono BB.out.size))
  clear hb
  clear EN
  go_wp2_with (first | (refine wpList_load_row_g rfl 49 (.tmp 3) rfl g2 rfl 49 (obCells o (.slice AU2 (o).uses.length cU2) (.slice AD2 (o).descs.length cD2) (.slice AC2 (o).code.length cC2) (.slice AE2 (o).entries.length cE2)) (0, 0) _ L2.out Try.underlying49 rfl (by kernel_rfl) ?_) | (refine wpList_load_row_g rfl 49 (.tmp 1) rfl W.heap.size rfl 49 (obCells o (.slice AU1 (o).uses.length cU1) (.slice AD1 (o).descs.length cD1) (.slice AC1 (o).code.length cC1) (.slice AE1 (o).entries.length cE1)) (0, 0) _ L1.out Try.underlying49 rfl (by kernel_rfl) ?_))
  refine (law23_self o (.slice AU2 (o).uses.length cU2) (.slice AD2 (o).descs.length cD2) (.slice AC2 (o).code.length cC2) (.slice AE2 (o).entries.length cE2) (.slice AU1 (o).uses.length cU1) (.slice AD1 (o).descs.length cD1) (.slice AC1 (o).code.length cC1) (.slice AE1 (o).entries.length cE1) w5 P2.out P1.out).mono ?_
  rintro e w6 ⟨rfl, hb⟩
  replace L1 := Lib.hid (L1.out.below hb L1.out.lt)
  replace L2 := Lib.hid (L2.out.below hb L2.out.lt)
  replace P1 := Lib.hid (P1.out.below hb)
  replace P2 := Lib.hid (P2.out.below hb)
  replace BB := Lib.hid (BB.out.trans (hb.mono BB.out.size))
  clear hb
  go_wp2_with fail
  refine (law23_wakes _).mono ?_
  rintro e w7 ⟨rfl, hb⟩
  replace L1 := Lib.hid (L1.out.below hb L1.out.lt)
  replace L2 := Lib.hid (L2.out.below hb L2.out.lt)
  replace P1 := Lib.hid (P1.out.below hb)
  replace P2 := Lib.hid (P2.out.below hb)
  replace BB := Lib.hid (BB.out.trans (hb.mono BB.out.size))
  clear hb
  go_wp2_with fail
  go_ret
  exact ⟨rfl, BB.out⟩

end Go.Proofs.Ytceflhffilldeaa
