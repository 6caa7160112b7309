/-
  The law ObjBack, walked.
-/
import Derived.Test.YtceflhffilldeaaZPlain
namespace Go.Proofs.Ytceflhffilldeaa
set_option linter.unusedVariables false
set_option linter.unusedSimpArgs false
open Go.RowKit ObjL

set_option maxRecDepth 100000 in
set_option maxHeartbeats 2000000 in
theorem law23_back (o : Ob) (vU1 vD1 vC1 vE1 : Value) (s : List UInt8) (W : World) (hp1 : ObParts W o vU1 vD1 vC1 vE1) (hf1 : ObFine o) (hz1 : ObSized o) :
    Calls Try.prog 6 #[.agg (obCells o vU1 vD1 vC1 vE1), .string (txt s)] W fun e w' => e = .returned (.bool true) ∧ Below W.heap.size W w' := by
  have P1 := Lib.hid hp1
  obtain ⟨⟨-, AU1, cU1, rfl, -⟩, ⟨-, AD1, cD1, rfl, -⟩, ⟨-, AC1, cC1, rfl, -⟩, ⟨-, AE1, cE1, rfl, -⟩⟩ := hp1
  have hf1h := Lib.hid hf1
  have hz1h := Lib.hid hz1
  clear hf1 hz1
  have BB := Lib.hid (Below.refl W.heap.size W)
  have hb := (Below.refl W.heap.size W).alloc (Nat.le_refl _) (.cells (obCells o (.slice AU1 (o).uses.length cU1) (.slice AD1 (o).descs.length cD1) (.slice AC1 (o).code.length cC1) (.slice AE1 (o).entries.length cE1)) 49)
  have L1 := Lib.hid (Blk.new W 49 (obCells o (.slice AU1 (o).uses.length cU1) (.slice AD1 (o).descs.length cD1) (.slice AC1 (o).code.length cC1) (.slice AE1 (o).entries.length cE1)))
  replace P1 := Lib.hid (P1.out.below hb)
  replace BB := Lib.hid (BB.out.trans (hb.mono BB.out.size))
  clear hb
  go_enter Try.func6, Try.ntmps6
  go_upto_region 1 with fail
  generalize hW0 : (W.alloc (.cells (obCells o (.slice AU1 (o).uses.length cU1) (.slice AD1 (o).descs.length cD1) (.slice AC1 (o).code.length cC1) (.slice AE1 (o).entries.length cE1)) 49)) = w1 at *
  clear hW0
  have hss := txt_size s
  go_wp2_with (refine wpList_load_row_g rfl 49 (.tmp 2) rfl W.heap.size rfl 49 (obCells o (.slice AU1 (o).uses.length cU1) (.slice AD1 (o).descs.length cD1) (.slice AC1 (o).code.length cC1) (.slice AE1 (o).entries.length cE1)) (0, 0) _ L1.out Try.underlying49 rfl (by kernel_rfl) ?_)
  refine (law23_large o (.slice AU1 (o).uses.length cU1) (.slice AD1 (o).descs.length cD1) (.slice AC1 (o).code.length cC1) (.slice AE1 (o).entries.length cE1) w1 P1.out hz1h.out).mono ?_
  rintro e w2 ⟨Lg1, rfl, hcp1, hb⟩
  replace L1 := Lib.hid (L1.out.below hb L1.out.lt)
  replace P1 := Lib.hid (P1.out.below hb)
  replace BB := Lib.hid (BB.out.trans (hb.mono BB.out.size))
  clear hb
  have hcp1h := Lib.hid hcp1
  clear hcp1
  cases Lg1
  case true =>
    go_wp2_with fail
    refine (law23_wakes _).mono ?_
    rintro e w3 ⟨rfl, hb⟩
    replace L1 := Lib.hid (L1.out.below hb L1.out.lt)
    replace P1 := Lib.hid (P1.out.below hb)
    replace BB := Lib.hid (BB.out.trans (hb.mono BB.out.size))
    clear hb
    go_wp2_with fail
    go_ret
    exact ⟨rfl, BB.out⟩
  have hc1 := hcp1h.out rfl
  clear hcp1h
  by_cases hl : (60000 : Int) < (s.length : Int)
  case pos =>
    go_wp2_with fail
    refine (law23_wakes _).mono ?_
    rintro e w3 ⟨rfl, hb⟩
    replace L1 := Lib.hid (L1.out.below hb L1.out.lt)
    replace P1 := Lib.hid (P1.out.below hb)
    replace BB := Lib.hid (BB.out.trans (hb.mono BB.out.size))
    clear hb
    go_wp2_with fail
    go_ret
    exact ⟨rfl, BB.out⟩
  have hsl : s.length ≤ 1000000 := by omega
  go_wp2_with (refine wpList_load_row_g rfl 49 (.tmp 2) rfl W.heap.size rfl 49 (obCells o (.slice AU1 (o).uses.length cU1) (.slice AD1 (o).descs.length cD1) (.slice AC1 (o).code.length cC1) (.slice AE1 (o).entries.length cE1)) (0, 0) _ L1.out Try.underlying49 rfl (by kernel_rfl) ?_)
  refine (ref23_copy o (.slice AU1 (o).uses.length cU1) (.slice AD1 (o).descs.length cD1) (.slice AC1 (o).code.length cC1) (.slice AE1 (o).entries.length cE1) w2 P1.out hc1).mono ?_
  rintro e w3 ⟨vU2, vD2, vC2, vE2, rfl, hP2, hb⟩
  replace L1 := Lib.hid (L1.out.below hb L1.out.lt)
  replace P1 := Lib.hid (P1.out.below hb)
  replace BB := Lib.hid (BB.out.trans (hb.mono BB.out.size))
  clear hb
  have P2 := Lib.hid hP2
  obtain ⟨⟨-, AU2, cU2, rfl, -⟩, ⟨-, AD2, cD2, rfl, -⟩, ⟨-, AC2, cC2, rfl, -⟩, ⟨-, AE2, cE2, rfl, -⟩⟩ := hP2
  obtain ⟨bs, er, hres, her, hbs⟩ := encRes_is (goodO o) o
  have herh := Lib.hid her
  have hbsh := Lib.hid hbs
  clear her hbs
  have EN := law23_encode o (.slice AU2 (o).uses.length cU2) (.slice AD2 (o).descs.length cD2) (.slice AC2 (o).code.length cC2) (.slice AE2 (o).entries.length cE2) w3 P2.out hf1h.out
  rw [hres] at EN
  have hresh := Lib.hid hres
  clear hres
  go_wp2_with fail
  refine (EN).mono ?_
  rintro e w4 ⟨rfl, hb⟩
  replace L1 := Lib.hid (L1.out.below hb L1.out.lt)
  replace P1 := Lib.hid (P1.out.below hb)
  replace P2 := Lib.hid (P2.out.below hb)
  replace BB := Lib.hid (BB.out.trans (hb.mono BB.out.size))
  clear hb
  clear EN
  by_cases he : er = 0
  · have hbe := hbsh.out he
    have hgl := herh.out.1 he
    subst he
    have hdv := dec_of hgl.1 hgl.2
    rw [← hbe] at hdv
    have hln : bs.length ≤ 1000000 := by have := hgl.2; rw [← hbe] at this; omega
    have DC := law23_decode bs w4 hln
    rw [hdv] at DC
    dsimp only at DC
    clear hbe hgl hdv hln
    go_wp2_with fail
    refine (DC).mono ?_
    rintro e w5 ⟨vU7, vD7, vC7, vE7, rfl, hP7, hf7, hb⟩
    replace L1 := Lib.hid (L1.out.below hb L1.out.lt)
    replace P1 := Lib.hid (P1.out.below hb)
    replace P2 := Lib.hid (P2.out.below hb)
    replace BB := Lib.hid (BB.out.trans (hb.mono BB.out.size))
    clear hb
    clear DC hf7
    have P7 := Lib.hid hP7
    obtain ⟨⟨-, AU7, cU7, rfl, -⟩, ⟨-, AD7, cD7, rfl, -⟩, ⟨-, AC7, cC7, rfl, -⟩, ⟨-, AE7, cE7, rfl, -⟩⟩ := hP7
    have hb := (Below.refl w5.heap.size w5).alloc (Nat.le_refl _) (.cells (obCells o (.slice AU7 (o).uses.length cU7) (.slice AD7 (o).descs.length cD7) (.slice AC7 (o).code.length cC7) (.slice AE7 (o).entries.length cE7)) 49)
    have L7 := Lib.hid (Blk.new w5 49 (obCells o (.slice AU7 (o).uses.length cU7) (.slice AD7 (o).descs.length cD7) (.slice AC7 (o).code.length cC7) (.slice AE7 (o).entries.length cE7)))
    replace L1 := Lib.hid (L1.out.below hb L1.out.lt)
    replace P1 := Lib.hid (P1.out.below hb)
    replace P2 := Lib.hid (P2.out.below hb)
    replace P7 := Lib.hid (P7.out.below hb)
    replace BB := Lib.hid (BB.out.trans (hb.mono BB.out.size))
    clear hb
    have hi7 : RowKit.Hid ((Try.prog.info? 49).map (·.size) = some (obCells o (.slice AU7 (o).uses.length cU7) (.slice AD7 (o).descs.length cD7) (.slice AC7 (o).code.length cC7) (.slice AE7 (o).entries.length cE7)).size) := Lib.hid (by kernel_rfl)
    have hj7 : RowKit.Hid ((#[.string ⟨#[]⟩, .int .u32 0, .slice none 0 0, .slice none 0 0, .int .i64 0, .string ⟨#[]⟩, .slice none 0 0, .slice none 0 0, .int .i64 0, .int .i64 0] : Array Value).size = (obCells o (.slice AU7 (o).uses.length cU7) (.slice AD7 (o).descs.length cD7) (.slice AC7 (o).code.length cC7) (.slice AE7 (o).entries.length cE7)).size) := Lib.hid rfl
    have hk7 : RowKit.Hid ((obCells o (.slice AU7 (o).uses.length cU7) (.slice AD7 (o).descs.length cD7) (.slice AC7 (o).code.length cC7) (.slice AE7 (o).entries.length cE7)).all (·.oneCell') = true) := Lib.hid (by simp [obCells, Value.oneCell'])
    go_wp2_with (first | (refine wpList_store_last rfl 49 (.tmp 7) (.tmp 32) rfl w5 (obCells o (.slice AU7 (o).uses.length cU7) (.slice AD7 (o).descs.length cD7) (.slice AC7 (o).code.length cC7) (.slice AE7 (o).entries.length cE7)) _ _ rfl rfl rfl hi7.out hj7.out hk7.out ?_) | (refine wpList_load_row_g rfl 49 (.tmp 2) rfl W.heap.size rfl 49 (obCells o (.slice AU1 (o).uses.length cU1) (.slice AD1 (o).descs.length cD1) (.slice AC1 (o).code.length cC1) (.slice AE1 (o).entries.length cE1)) (0, 0) _ L1.out Try.underlying49 rfl (by kernel_rfl) ?_) | (refine wpList_load_row_g rfl 49 (.tmp 7) rfl w5.heap.size rfl 49 (obCells o (.slice AU7 (o).uses.length cU7) (.slice AD7 (o).descs.length cD7) (.slice AC7 (o).code.length cC7) (.slice AE7 (o).entries.length cE7)) (0, 0) _ L7.out Try.underlying49 rfl (by kernel_rfl) ?_))
    refine (law23_self o (.slice AU1 (o).uses.length cU1) (.slice AD1 (o).descs.length cD1) (.slice AC1 (o).code.length cC1) (.slice AE1 (o).entries.length cE1) (.slice AU7 (o).uses.length cU7) (.slice AD7 (o).descs.length cD7) (.slice AC7 (o).code.length cC7) (.slice AE7 (o).entries.length cE7) _ P1.out P7.out).mono ?_
    rintro e w6 ⟨rfl, hb⟩
    replace L1 := Lib.hid (L1.out.below hb L1.out.lt)
    replace L7 := Lib.hid (L7.out.below hb L7.out.lt)
    replace P1 := Lib.hid (P1.out.below hb)
    replace P2 := Lib.hid (P2.out.below hb)
    replace P7 := Lib.hid (P7.out.below hb)
    replace BB := Lib.hid (BB.out.trans (hb.mono BB.out.size))
    clear hb
    generalize w5.heap.size = g7 at *
    go_wp2_with fail
    refine (law23_decode s _ hsl).mono ?_
    rintro e w7 ⟨vU9, vD9, vC9, vE9, rfl, hP9, hf9, hb⟩
    replace L1 := Lib.hid (L1.out.below hb L1.out.lt)
    replace L7 := Lib.hid (L7.out.below hb L7.out.lt)
    replace P1 := Lib.hid (P1.out.below hb)
    replace P2 := Lib.hid (P2.out.below hb)
    replace P7 := Lib.hid (P7.out.below hb)
    replace BB := Lib.hid (BB.out.trans (hb.mono BB.out.size))
    clear hb
    cases hd : decO s with
    | none =>
      have hdv : decV s = (zeroOb, 230) := by unfold decV; rw [hd]
      rw [hdv] at hP9 hf9 ⊢
      dsimp only at hP9 hf9 ⊢
      have P9 := Lib.hid hP9
      clear hdv hd hf9
      obtain ⟨⟨-, AU9, cU9, rfl, -⟩, ⟨-, AD9, cD9, rfl, -⟩, ⟨-, AC9, cC9, rfl, -⟩, ⟨-, AE9, cE9, rfl, -⟩⟩ := hP9
      have hb := (Below.refl w7.heap.size w7).alloc (Nat.le_refl _) (.cells (obCells zeroOb (.slice AU9 (zeroOb).uses.length cU9) (.slice AD9 (zeroOb).descs.length cD9) (.slice AC9 (zeroOb).code.length cC9) (.slice AE9 (zeroOb).entries.length cE9)) 49)
      have L9 := Lib.hid (Blk.new w7 49 (obCells zeroOb (.slice AU9 (zeroOb).uses.length cU9) (.slice AD9 (zeroOb).descs.length cD9) (.slice AC9 (zeroOb).code.length cC9) (.slice AE9 (zeroOb).entries.length cE9)))
      replace L1 := Lib.hid (L1.out.below hb L1.out.lt)
      replace L7 := Lib.hid (L7.out.below hb L7.out.lt)
      replace P1 := Lib.hid (P1.out.below hb)
      replace P2 := Lib.hid (P2.out.below hb)
      replace P7 := Lib.hid (P7.out.below hb)
      replace P9 := Lib.hid (P9.out.below hb)
      replace BB := Lib.hid (BB.out.trans (hb.mono BB.out.size))
      clear hb
      have hi9 : RowKit.Hid ((Try.prog.info? 49).map (·.size) = some (obCells zeroOb (.slice AU9 (zeroOb).uses.length cU9) (.slice AD9 (zeroOb).descs.length cD9) (.slice AC9 (zeroOb).code.length cC9) (.slice AE9 (zeroOb).entries.length cE9)).size) := Lib.hid (by kernel_rfl)
      have hj9 : RowKit.Hid ((#[.string ⟨#[]⟩, .int .u32 0, .slice none 0 0, .slice none 0 0, .int .i64 0, .string ⟨#[]⟩, .slice none 0 0, .slice none 0 0, .int .i64 0, .int .i64 0] : Array Value).size = (obCells zeroOb (.slice AU9 (zeroOb).uses.length cU9) (.slice AD9 (zeroOb).descs.length cD9) (.slice AC9 (zeroOb).code.length cC9) (.slice AE9 (zeroOb).entries.length cE9)).size) := Lib.hid rfl
      have hk9 : RowKit.Hid ((obCells zeroOb (.slice AU9 (zeroOb).uses.length cU9) (.slice AD9 (zeroOb).descs.length cD9) (.slice AC9 (zeroOb).code.length cC9) (.slice AE9 (zeroOb).entries.length cE9)).all (·.oneCell') = true) := Lib.hid (by simp [obCells, Value.oneCell'])
      have c6 : (w7.alloc (.cells (obCells zeroOb (.slice AU9 (zeroOb).uses.length cU9) (.slice AD9 (zeroOb).descs.length cD9) (.slice AC9 (zeroOb).code.length cC9) (.slice AE9 (zeroOb).entries.length cE9)) 49)).cell? ⟨w7.heap.size, 6, none⟩ = some (.slice AC9 0 cC9) := L9.out.cell 6
      go_wp2_with (refine wpList_store_last rfl 49 (.tmp 9) (.tmp 45) rfl w7 (obCells zeroOb (.slice AU9 (zeroOb).uses.length cU9) (.slice AD9 (zeroOb).descs.length cD9) (.slice AC9 (zeroOb).code.length cC9) (.slice AE9 (zeroOb).entries.length cE9)) _ _ rfl rfl rfl hi9.out hj9.out hk9.out ?_)
      refine (law23_wakes _).mono ?_
      rintro e w8 ⟨rfl, hb⟩
      replace L1 := Lib.hid (L1.out.below hb L1.out.lt)
      replace L7 := Lib.hid (L7.out.below hb L7.out.lt)
      replace L9 := Lib.hid (L9.out.below hb L9.out.lt)
      replace P1 := Lib.hid (P1.out.below hb)
      replace P2 := Lib.hid (P2.out.below hb)
      replace P7 := Lib.hid (P7.out.below hb)
      replace P9 := Lib.hid (P9.out.below hb)
      replace BB := Lib.hid (BB.out.trans (hb.mono BB.out.size))
      clear hb
      go_wp2_with fail
      go_ret
      exact ⟨rfl, BB.out⟩
    | some o2 =>
      have hdv : decV s = (o2, 0) := by unfold decV; rw [hd]
      rw [hdv] at hP9 hf9 ⊢
      dsimp only at hP9 hf9 ⊢
      have P9 := Lib.hid hP9
      have hf9h := Lib.hid hf9
      have hgo := (decO_some hd).1
      have hres9 := enc_back hd
      clear hdv hd hf9
      obtain ⟨⟨-, AU9, cU9, rfl, -⟩, ⟨-, AD9, cD9, rfl, -⟩, ⟨-, AC9, cC9, rfl, -⟩, ⟨-, AE9, cE9, rfl, -⟩⟩ := hP9
      have hb := (Below.refl w7.heap.size w7).alloc (Nat.le_refl _) (.cells (obCells o2 (.slice AU9 (o2).uses.length cU9) (.slice AD9 (o2).descs.length cD9) (.slice AC9 (o2).code.length cC9) (.slice AE9 (o2).entries.length cE9)) 49)
      have L9 := Lib.hid (Blk.new w7 49 (obCells o2 (.slice AU9 (o2).uses.length cU9) (.slice AD9 (o2).descs.length cD9) (.slice AC9 (o2).code.length cC9) (.slice AE9 (o2).entries.length cE9)))
      replace L1 := Lib.hid (L1.out.below hb L1.out.lt)
      replace L7 := Lib.hid (L7.out.below hb L7.out.lt)
      replace P1 := Lib.hid (P1.out.below hb)
      replace P2 := Lib.hid (P2.out.below hb)
      replace P7 := Lib.hid (P7.out.below hb)
      replace P9 := Lib.hid (P9.out.below hb)
      replace BB := Lib.hid (BB.out.trans (hb.mono BB.out.size))
      clear hb
      have hi9 : RowKit.Hid ((Try.prog.info? 49).map (·.size) = some (obCells o2 (.slice AU9 (o2).uses.length cU9) (.slice AD9 (o2).descs.length cD9) (.slice AC9 (o2).code.length cC9) (.slice AE9 (o2).entries.length cE9)).size) := Lib.hid (by kernel_rfl)
      have hj9 : RowKit.Hid ((#[.string ⟨#[]⟩, .int .u32 0, .slice none 0 0, .slice none 0 0, .int .i64 0, .string ⟨#[]⟩, .slice none 0 0, .slice none 0 0, .int .i64 0, .int .i64 0] : Array Value).size = (obCells o2 (.slice AU9 (o2).uses.length cU9) (.slice AD9 (o2).descs.length cD9) (.slice AC9 (o2).code.length cC9) (.slice AE9 (o2).entries.length cE9)).size) := Lib.hid rfl
      have hk9 : RowKit.Hid ((obCells o2 (.slice AU9 (o2).uses.length cU9) (.slice AD9 (o2).descs.length cD9) (.slice AC9 (o2).code.length cC9) (.slice AE9 (o2).entries.length cE9)).all (·.oneCell') = true) := Lib.hid (by simp [obCells, Value.oneCell'])
      have EN := law23_encode o2 (.slice AU9 (o2).uses.length cU9) (.slice AD9 (o2).descs.length cD9) (.slice AC9 (o2).code.length cC9) (.slice AE9 (o2).entries.length cE9) _ P9.out hf9h.out
      rw [hres9] at EN
      have GO := fun W (h : ObParts W o2 (.slice AU9 (o2).uses.length cU9) (.slice AD9 (o2).descs.length cD9) (.slice AC9 (o2).code.length cC9) (.slice AE9 (o2).entries.length cE9)) => obj_good o2 (.slice AU9 (o2).uses.length cU9) (.slice AD9 (o2).descs.length cD9) (.slice AC9 (o2).code.length cC9) (.slice AE9 (o2).entries.length cE9) W h hf9h.out
      rw [hgo] at GO
      have GOh := Lib.hid GO
      clear GO hgo hres9
      go_wp2_with (first | (refine wpList_store_last rfl 49 (.tmp 9) (.tmp 45) rfl w7 (obCells o2 (.slice AU9 (o2).uses.length cU9) (.slice AD9 (o2).descs.length cD9) (.slice AC9 (o2).code.length cC9) (.slice AE9 (o2).entries.length cE9)) _ _ rfl rfl rfl hi9.out hj9.out hk9.out ?_) | (refine wpList_load_row_g rfl 49 (.tmp 9) rfl w7.heap.size rfl 49 (obCells o2 (.slice AU9 (o2).uses.length cU9) (.slice AD9 (o2).descs.length cD9) (.slice AC9 (o2).code.length cC9) (.slice AE9 (o2).entries.length cE9)) (0, 0) _ L9.out Try.underlying49 rfl (by kernel_rfl) ?_))
      refine (EN).mono ?_
      rintro e w8 ⟨rfl, hb⟩
      replace L1 := Lib.hid (L1.out.below hb L1.out.lt)
      replace L7 := Lib.hid (L7.out.below hb L7.out.lt)
      replace L9 := Lib.hid (L9.out.below hb L9.out.lt)
      replace P1 := Lib.hid (P1.out.below hb)
      replace P2 := Lib.hid (P2.out.below hb)
      replace P7 := Lib.hid (P7.out.below hb)
      replace P9 := Lib.hid (P9.out.below hb)
      replace BB := Lib.hid (BB.out.trans (hb.mono BB.out.size))
      clear hb
      clear EN
      generalize w7.heap.size = g9 at *
      go_wp2_with (refine wpList_load_row_g rfl 49 (.tmp 9) rfl g9 rfl 49 (obCells o2 (.slice AU9 (o2).uses.length cU9) (.slice AD9 (o2).descs.length cD9) (.slice AC9 (o2).code.length cC9) (.slice AE9 (o2).entries.length cE9)) (0, 0) _ L9.out Try.underlying49 rfl (by kernel_rfl) ?_)
      refine (GOh.out _ P9.out).mono ?_
      rintro e w9 ⟨rfl, hb⟩
      replace L1 := Lib.hid (L1.out.below hb L1.out.lt)
      replace L7 := Lib.hid (L7.out.below hb L7.out.lt)
      replace L9 := Lib.hid (L9.out.below hb L9.out.lt)
      replace P1 := Lib.hid (P1.out.below hb)
      replace P2 := Lib.hid (P2.out.below hb)
      replace P7 := Lib.hid (P7.out.below hb)
      replace P9 := Lib.hid (P9.out.below hb)
      replace BB := Lib.hid (BB.out.trans (hb.mono BB.out.size))
      clear hb
      go_wp2_with fail
      refine (law23_wakes _).mono ?_
      rintro e w10 ⟨rfl, hb⟩
      replace L1 := Lib.hid (L1.out.below hb L1.out.lt)
      replace L7 := Lib.hid (L7.out.below hb L7.out.lt)
      replace L9 := Lib.hid (L9.out.below hb L9.out.lt)
      replace P1 := Lib.hid (P1.out.below hb)
      replace P2 := Lib.hid (P2.out.below hb)
      replace P7 := Lib.hid (P7.out.below hb)
      replace P9 := Lib.hid (P9.out.below hb)
      replace BB := Lib.hid (BB.out.trans (hb.mono BB.out.size))
      clear hb
      go_wp2_with fail
      go_ret
      exact ⟨rfl, BB.out⟩
  · have he2 : (er == 0) = false := by rw [beq_eq_false_iff_ne]; exact he
    clear he
    go_wp2_with fail
    refine (law23_decode s _ hsl).mono ?_
    rintro e w5 ⟨vU9, vD9, vC9, vE9, rfl, hP9, hf9, hb⟩
    replace L1 := Lib.hid (L1.out.below hb L1.out.lt)
    replace P1 := Lib.hid (P1.out.below hb)
    replace P2 := Lib.hid (P2.out.below hb)
    replace BB := Lib.hid (BB.out.trans (hb.mono BB.out.size))
    clear hb
    cases hd : decO s with
    | none =>
      have hdv : decV s = (zeroOb, 230) := by unfold decV; rw [hd]
      rw [hdv] at hP9 hf9 ⊢
      dsimp only at hP9 hf9 ⊢
      have P9 := Lib.hid hP9
      clear hdv hd hf9
      obtain ⟨⟨-, AU9, cU9, rfl, -⟩, ⟨-, AD9, cD9, rfl, -⟩, ⟨-, AC9, cC9, rfl, -⟩, ⟨-, AE9, cE9, rfl, -⟩⟩ := hP9
      have hb := (Below.refl w5.heap.size w5).alloc (Nat.le_refl _) (.cells (obCells zeroOb (.slice AU9 (zeroOb).uses.length cU9) (.slice AD9 (zeroOb).descs.length cD9) (.slice AC9 (zeroOb).code.length cC9) (.slice AE9 (zeroOb).entries.length cE9)) 49)
      have L9 := Lib.hid (Blk.new w5 49 (obCells zeroOb (.slice AU9 (zeroOb).uses.length cU9) (.slice AD9 (zeroOb).descs.length cD9) (.slice AC9 (zeroOb).code.length cC9) (.slice AE9 (zeroOb).entries.length cE9)))
      replace L1 := Lib.hid (L1.out.below hb L1.out.lt)
      replace P1 := Lib.hid (P1.out.below hb)
      replace P2 := Lib.hid (P2.out.below hb)
      replace P9 := Lib.hid (P9.out.below hb)
      replace BB := Lib.hid (BB.out.trans (hb.mono BB.out.size))
      clear hb
      have hi9 : RowKit.Hid ((Try.prog.info? 49).map (·.size) = some (obCells zeroOb (.slice AU9 (zeroOb).uses.length cU9) (.slice AD9 (zeroOb).descs.length cD9) (.slice AC9 (zeroOb).code.length cC9) (.slice AE9 (zeroOb).entries.length cE9)).size) := Lib.hid (by kernel_rfl)
      have hj9 : RowKit.Hid ((#[.string ⟨#[]⟩, .int .u32 0, .slice none 0 0, .slice none 0 0, .int .i64 0, .string ⟨#[]⟩, .slice none 0 0, .slice none 0 0, .int .i64 0, .int .i64 0] : Array Value).size = (obCells zeroOb (.slice AU9 (zeroOb).uses.length cU9) (.slice AD9 (zeroOb).descs.length cD9) (.slice AC9 (zeroOb).code.length cC9) (.slice AE9 (zeroOb).entries.length cE9)).size) := Lib.hid rfl
      have hk9 : RowKit.Hid ((obCells zeroOb (.slice AU9 (zeroOb).uses.length cU9) (.slice AD9 (zeroOb).descs.length cD9) (.slice AC9 (zeroOb).code.length cC9) (.slice AE9 (zeroOb).entries.length cE9)).all (·.oneCell') = true) := Lib.hid (by simp [obCells, Value.oneCell'])
      have c6 : (w5.alloc (.cells (obCells zeroOb (.slice AU9 (zeroOb).uses.length cU9) (.slice AD9 (zeroOb).descs.length cD9) (.slice AC9 (zeroOb).code.length cC9) (.slice AE9 (zeroOb).entries.length cE9)) 49)).cell? ⟨w5.heap.size, 6, none⟩ = some (.slice AC9 0 cC9) := L9.out.cell 6
      go_wp2_with (refine wpList_store_last rfl 49 (.tmp 9) (.tmp 45) rfl w5 (obCells zeroOb (.slice AU9 (zeroOb).uses.length cU9) (.slice AD9 (zeroOb).descs.length cD9) (.slice AC9 (zeroOb).code.length cC9) (.slice AE9 (zeroOb).entries.length cE9)) _ _ rfl rfl rfl hi9.out hj9.out hk9.out ?_)
      refine (law23_wakes _).mono ?_
      rintro e w6 ⟨rfl, hb⟩
      replace L1 := Lib.hid (L1.out.below hb L1.out.lt)
      replace L9 := Lib.hid (L9.out.below hb L9.out.lt)
      replace P1 := Lib.hid (P1.out.below hb)
      replace P2 := Lib.hid (P2.out.below hb)
      replace P9 := Lib.hid (P9.out.below hb)
      replace BB := Lib.hid (BB.out.trans (hb.mono BB.out.size))
      clear hb
      go_wp2_with fail
      go_ret
      exact ⟨rfl, BB.out⟩
    | some o2 =>
      have hdv : decV s = (o2, 0) := by unfold decV; rw [hd]
      rw [hdv] at hP9 hf9 ⊢
      dsimp only at hP9 hf9 ⊢
      have P9 := Lib.hid hP9
      have hf9h := Lib.hid hf9
      have hgo := (decO_some hd).1
      have hres9 := enc_back hd
      clear hdv hd hf9
      obtain ⟨⟨-, AU9, cU9, rfl, -⟩, ⟨-, AD9, cD9, rfl, -⟩, ⟨-, AC9, cC9, rfl, -⟩, ⟨-, AE9, cE9, rfl, -⟩⟩ := hP9
      have hb := (Below.refl w5.heap.size w5).alloc (Nat.le_refl _) (.cells (obCells o2 (.slice AU9 (o2).uses.length cU9) (.slice AD9 (o2).descs.length cD9) (.slice AC9 (o2).code.length cC9) (.slice AE9 (o2).entries.length cE9)) 49)
      have L9 := Lib.hid (Blk.new w5 49 (obCells o2 (.slice AU9 (o2).uses.length cU9) (.slice AD9 (o2).descs.length cD9) (.slice AC9 (o2).code.length cC9) (.slice AE9 (o2).entries.length cE9)))
      replace L1 := Lib.hid (L1.out.below hb L1.out.lt)
      replace P1 := Lib.hid (P1.out.below hb)
      replace P2 := Lib.hid (P2.out.below hb)
      replace P9 := Lib.hid (P9.out.below hb)
      replace BB := Lib.hid (BB.out.trans (hb.mono BB.out.size))
      clear hb
      have hi9 : RowKit.Hid ((Try.prog.info? 49).map (·.size) = some (obCells o2 (.slice AU9 (o2).uses.length cU9) (.slice AD9 (o2).descs.length cD9) (.slice AC9 (o2).code.length cC9) (.slice AE9 (o2).entries.length cE9)).size) := Lib.hid (by kernel_rfl)
      have hj9 : RowKit.Hid ((#[.string ⟨#[]⟩, .int .u32 0, .slice none 0 0, .slice none 0 0, .int .i64 0, .string ⟨#[]⟩, .slice none 0 0, .slice none 0 0, .int .i64 0, .int .i64 0] : Array Value).size = (obCells o2 (.slice AU9 (o2).uses.length cU9) (.slice AD9 (o2).descs.length cD9) (.slice AC9 (o2).code.length cC9) (.slice AE9 (o2).entries.length cE9)).size) := Lib.hid rfl
      have hk9 : RowKit.Hid ((obCells o2 (.slice AU9 (o2).uses.length cU9) (.slice AD9 (o2).descs.length cD9) (.slice AC9 (o2).code.length cC9) (.slice AE9 (o2).entries.length cE9)).all (·.oneCell') = true) := Lib.hid (by simp [obCells, Value.oneCell'])
      have EN := law23_encode o2 (.slice AU9 (o2).uses.length cU9) (.slice AD9 (o2).descs.length cD9) (.slice AC9 (o2).code.length cC9) (.slice AE9 (o2).entries.length cE9) _ P9.out hf9h.out
      rw [hres9] at EN
      have GO := fun W (h : ObParts W o2 (.slice AU9 (o2).uses.length cU9) (.slice AD9 (o2).descs.length cD9) (.slice AC9 (o2).code.length cC9) (.slice AE9 (o2).entries.length cE9)) => obj_good o2 (.slice AU9 (o2).uses.length cU9) (.slice AD9 (o2).descs.length cD9) (.slice AC9 (o2).code.length cC9) (.slice AE9 (o2).entries.length cE9) W h hf9h.out
      rw [hgo] at GO
      have GOh := Lib.hid GO
      clear GO hgo hres9
      go_wp2_with (first | (refine wpList_store_last rfl 49 (.tmp 9) (.tmp 45) rfl w5 (obCells o2 (.slice AU9 (o2).uses.length cU9) (.slice AD9 (o2).descs.length cD9) (.slice AC9 (o2).code.length cC9) (.slice AE9 (o2).entries.length cE9)) _ _ rfl rfl rfl hi9.out hj9.out hk9.out ?_) | (refine wpList_load_row_g rfl 49 (.tmp 9) rfl w5.heap.size rfl 49 (obCells o2 (.slice AU9 (o2).uses.length cU9) (.slice AD9 (o2).descs.length cD9) (.slice AC9 (o2).code.length cC9) (.slice AE9 (o2).entries.length cE9)) (0, 0) _ L9.out Try.underlying49 rfl (by kernel_rfl) ?_))
      refine (EN).mono ?_
      rintro e w6 ⟨rfl, hb⟩
      replace L1 := Lib.hid (L1.out.below hb L1.out.lt)
      replace L9 := Lib.hid (L9.out.below hb L9.out.lt)
      replace P1 := Lib.hid (P1.out.below hb)
      replace P2 := Lib.hid (P2.out.below hb)
      replace P9 := Lib.hid (P9.out.below hb)
      replace BB := Lib.hid (BB.out.trans (hb.mono BB.out.size))
      clear hb
      clear EN
      generalize w5.heap.size = g9 at *
      go_wp2_with (refine wpList_load_row_g rfl 49 (.tmp 9) rfl g9 rfl 49 (obCells o2 (.slice AU9 (o2).uses.length cU9) (.slice AD9 (o2).descs.length cD9) (.slice AC9 (o2).code.length cC9) (.slice AE9 (o2).entries.length cE9)) (0, 0) _ L9.out Try.underlying49 rfl (by kernel_rfl) ?_)
      refine (GOh.out _ P9.out).mono ?_
      rintro e w7 ⟨rfl, hb⟩
      replace L1 := Lib.hid (L1.out.below hb L1.out.lt)
      replace L9 := Lib.hid (L9.out.below hb L9.out.lt)
      replace P1 := Lib.hid (P1.out.below hb)
      replace P2 := Lib.hid (P2.out.below hb)
      replace P9 := Lib.hid (P9.out.below hb)
      replace BB := Lib.hid (BB.out.trans (hb.mono BB.out.size))
      clear hb
      go_wp2_with fail
      refine (law23_wakes _).mono ?_
      rintro e w8 ⟨rfl, hb⟩
      replace L1 := Lib.hid (L1.out.below hb L1.out.lt)
      replace L9 := Lib.hid (L9.out.below hb L9.out.lt)
      replace P1 := Lib.hid (P1.out.below hb)
      replace P2 := Lib.hid (P2.out.below hb)
      replace P9 := Lib.hid (P9.out.below hb)
      replace BB := Lib.hid (BB.out.trans (hb.mono BB.out.size))
      clear hb
      go_wp2_with fail
      go_ret
      exact ⟨rfl, BB.out⟩
theorem law23_back_text (o : Ob) (a b c d : Value) (s : ByteArray) (W : World) (h1 : ObParts W o a b c d) (h2 : ObFine o) (h3 : ObSized o) : Calls Try.prog 6 #[.agg (obCells o a b c d), .string s] W fun e w' => e = .returned (.bool true) ∧ Below W.heap.size W w' := by
  have h := law23_back o a b c d s.data.toList W h1 h2 h3
  rw [txt_of] at h
  exact h

end Go.Proofs.Ytceflhffilldeaa
