/-
  The law ObjCuts, walked.
-/
import Derived.Test.YtceflhffilldeaaZPlain
namespace Go.Proofs.Ytceflhffilldeaa
set_option linter.unusedVariables false
set_option linter.unusedSimpArgs false
open Go.RowKit ObjL

set_option maxRecDepth 100000 in
set_option maxHeartbeats 2000000 in
theorem law23_cuts (o : Ob) (vU1 vD1 vC1 vE1 : Value) (n more : Int) (hn : I64 n) (hm : 0 ≤ more ∧ more ≤ 255) (W : World) (hp1 : ObParts W o vU1 vD1 vC1 vE1) (hf1 : ObFine o) (hz1 : ObSized o) :
    Calls Try.prog 7 #[.agg (obCells o vU1 vD1 vC1 vE1), .int .i64 n, .int .u8 more] W fun e w' => e = .returned (.bool true) ∧ Below W.heap.size W w' := by
  have P1 := Lib.hid hp1
  obtain ⟨⟨-, AU1, cU1, rfl, -⟩, ⟨-, AD1, cD1, rfl, -⟩, ⟨-, AC1, cC1, rfl, -⟩, ⟨-, AE1, cE1, rfl, -⟩⟩ := hp1
  have hf1h := Lib.hid hf1
  have hz1h := Lib.hid hz1
  clear hf1 hz1
  have BB := Lib.hid (Below.refl W.heap.size W)
  have hb := (Below.refl W.heap.size W).alloc (Nat.le_refl _) (.cells (obCells o (.slice AU1 (o).uses.length cU1) (.slice AD1 (o).descs.length cD1) (.slice AC1 (o).code.length cC1) (.slice AE1 (o).entries.length cE1)) 49)
  have L1 := Lib.hid (Blk.new W 49 (obCells o (.slice AU1 (o).uses.length cU1) (.slice AD1 (o).descs.length cD1) (.slice AC1 (o).code.length cC1) (.slice AE1 (o).entries.length cE1)))
  replace P1 := Lib.hid (P1.out.below hb)
  replace BB := Lib.hid (BB.out.trans (hb.mono BB.out.size))
  clear hb
  go_enter Try.func7, Try.ntmps7
  go_upto_region 1 with fail
  generalize hW0 : (W.alloc (.cells (obCells o (.slice AU1 (o).uses.length cU1) (.slice AD1 (o).descs.length cD1) (.slice AC1 (o).code.length cC1) (.slice AE1 (o).entries.length cE1)) 49)) = w1 at *
  clear hW0
  obtain ⟨c, rfl⟩ : ∃ c : UInt8, more = (c.toNat : Int) := ⟨UInt8.ofNat more.toNat, by simp [UInt8.toNat_ofNat]; omega⟩
  go_wp2_with (refine wpList_load_row_g rfl 49 (.tmp 3) rfl W.heap.size rfl 49 (obCells o (.slice AU1 (o).uses.length cU1) (.slice AD1 (o).descs.length cD1) (.slice AC1 (o).code.length cC1) (.slice AE1 (o).entries.length cE1)) (0, 0) _ L1.out Try.underlying49 rfl (by kernel_rfl) ?_)
  refine (law23_large o (.slice AU1 (o).uses.length cU1) (.slice AD1 (o).descs.length cD1) (.slice AC1 (o).code.length cC1) (.slice AE1 (o).entries.length cE1) w1 P1.out hz1h.out).mono ?_
  rintro e w2 ⟨Lg1, rfl, hcp1, hb⟩
  replace L1 := Lib.hid (L1.out.below hb L1.out.lt)
  replace P1 := Lib.hid (P1.out.below hb)
  replace BB := Lib.hid (BB.out.trans (hb.mono BB.out.size))
  clear hb
  have hcp1h := Lib.hid hcp1
  clear hcp1
  cases Lg1
  case true =>
    go_wp2_with fail
    refine (law23_wakes _).mono ?_
    rintro e w3 ⟨rfl, hb⟩
    replace L1 := Lib.hid (L1.out.below hb L1.out.lt)
    replace P1 := Lib.hid (P1.out.below hb)
    replace BB := Lib.hid (BB.out.trans (hb.mono BB.out.size))
    clear hb
    go_wp2_with fail
    go_ret
    exact ⟨rfl, BB.out⟩
  have hc1 := hcp1h.out rfl
  clear hcp1h
  go_wp2_with (refine wpList_load_row_g rfl 49 (.tmp 3) rfl W.heap.size rfl 49 (obCells o (.slice AU1 (o).uses.length cU1) (.slice AD1 (o).descs.length cD1) (.slice AC1 (o).code.length cC1) (.slice AE1 (o).entries.length cE1)) (0, 0) _ L1.out Try.underlying49 rfl (by kernel_rfl) ?_)
  refine (ref23_copy o (.slice AU1 (o).uses.length cU1) (.slice AD1 (o).descs.length cD1) (.slice AC1 (o).code.length cC1) (.slice AE1 (o).entries.length cE1) w2 P1.out hc1).mono ?_
  rintro e w3 ⟨vU2, vD2, vC2, vE2, rfl, hP2, hb⟩
  replace L1 := Lib.hid (L1.out.below hb L1.out.lt)
  replace P1 := Lib.hid (P1.out.below hb)
  replace BB := Lib.hid (BB.out.trans (hb.mono BB.out.size))
  clear hb
  have P2 := Lib.hid hP2
  obtain ⟨⟨-, AU2, cU2, rfl, -⟩, ⟨-, AD2, cD2, rfl, -⟩, ⟨-, AC2, cC2, rfl, -⟩, ⟨-, AE2, cE2, rfl, -⟩⟩ := hP2
  obtain ⟨bs, er, hres, her, hbs⟩ := encRes_is (goodO o) o
  have herh := Lib.hid her
  have hbsh := Lib.hid hbs
  clear her hbs
  have EN := law23_encode o (.slice AU2 (o).uses.length cU2) (.slice AD2 (o).descs.length cD2) (.slice AC2 (o).code.length cC2) (.slice AE2 (o).entries.length cE2) w3 P2.out hf1h.out
  rw [hres] at EN
  have hresh := Lib.hid hres
  clear hres
  go_wp2_with fail
  refine (EN).mono ?_
  rintro e w4 ⟨rfl, hb⟩
  replace L1 := Lib.hid (L1.out.below hb L1.out.lt)
  replace P1 := Lib.hid (P1.out.below hb)
  replace P2 := Lib.hid (P2.out.below hb)
  replace BB := Lib.hid (BB.out.trans (hb.mono BB.out.size))
  clear hb
  clear EN
  by_cases he : er = 0
  · have hbe := hbsh.out he
    have hgl := herh.out.1 he
    subst he
    have hne := encO_ne o
    have hcut := fun K => decO_cut (o := o) hgl.1 (k := K)
    have hmore := decO_more (o := o) hgl.1
    have hln := hgl.2
    rw [← hbe] at hne hcut hmore hln
    have hcuth := Lib.hid hcut
    have hmoreh := Lib.hid hmore
    clear hbe hgl hcut hmore
    have hss := txt_size bs
    have h0 : 0 < bs.length := List.length_pos_iff.2 hne
    have hq3 : (txt bs).toList.isEmpty = false := by
      rw [List.isEmpty_eq_false_iff]
      intro e
      exact hne (txt_inj ((sl_same (txt bs) (txt [])).1 (by rw [txt_nil, e]; rfl)))
    have hq : ((txt bs).toList == []) = false := by
      rw [Bool.eq_false_iff]
      intro e
      exact hne (txt_inj ((sl_same (txt bs) (txt [])).1 (by rw [txt_nil]; exact e)))
    have hq2 : ¬ (txt bs).toList = [] := by simpa using hq
    clear hne
    have hnz : ¬ (bs.length : Int) = 0 := by omega
    have hwl : IntKind.u64.wrap (bs.length : Int) = bs.length := by rw [IntKind.wrap_u64]; omega
    go_upto_region 9 with fail
    obtain ⟨K, hK, hKl⟩ := cut_at n h0 hln
    rw [hK]
    clear hK
    generalize IntKind.u64.wrap n = un at *
    have hK1 : (K : Int) ≤ (bs.length : Int) := by omega
    have hK0 : (0 : Int) ≤ (K : Int) := by omega
    have e1 := txt_part bs 0 K
    rw [List.drop_zero] at e1
    have hdv := dec_none (hcuth.out K hKl)
    have DC := law23_decode (bs.take K) w4 (by rw [List.length_take]; omega)
    rw [hdv] at DC
    dsimp only at DC
    clear hdv
    go_wp2_with fail
    refine (DC).mono ?_
    rintro e w5 ⟨vU7, vD7, vC7, vE7, rfl, hP7, hf7, hb⟩
    replace L1 := Lib.hid (L1.out.below hb L1.out.lt)
    replace P1 := Lib.hid (P1.out.below hb)
    replace P2 := Lib.hid (P2.out.below hb)
    replace BB := Lib.hid (BB.out.trans (hb.mono BB.out.size))
    clear hb
    clear DC hf7
    have P7 := Lib.hid hP7
    obtain ⟨⟨-, AU7, cU7, rfl, -⟩, ⟨-, AD7, cD7, rfl, -⟩, ⟨-, AC7, cC7, rfl, -⟩, ⟨-, AE7, cE7, rfl, -⟩⟩ := hP7
    have hb := (Below.refl w5.heap.size w5).alloc (Nat.le_refl _) (.cells (obCells zeroOb (.slice AU7 (zeroOb).uses.length cU7) (.slice AD7 (zeroOb).descs.length cD7) (.slice AC7 (zeroOb).code.length cC7) (.slice AE7 (zeroOb).entries.length cE7)) 49)
    have L7 := Lib.hid (Blk.new w5 49 (obCells zeroOb (.slice AU7 (zeroOb).uses.length cU7) (.slice AD7 (zeroOb).descs.length cD7) (.slice AC7 (zeroOb).code.length cC7) (.slice AE7 (zeroOb).entries.length cE7)))
    replace L1 := Lib.hid (L1.out.below hb L1.out.lt)
    replace P1 := Lib.hid (P1.out.below hb)
    replace P2 := Lib.hid (P2.out.below hb)
    replace P7 := Lib.hid (P7.out.below hb)
    replace BB := Lib.hid (BB.out.trans (hb.mono BB.out.size))
    clear hb
    have hi7 : RowKit.Hid ((Try.prog.info? 49).map (·.size) = some (obCells zeroOb (.slice AU7 (zeroOb).uses.length cU7) (.slice AD7 (zeroOb).descs.length cD7) (.slice AC7 (zeroOb).code.length cC7) (.slice AE7 (zeroOb).entries.length cE7)).size) := Lib.hid (by kernel_rfl)
    have hj7 : RowKit.Hid ((#[.string ⟨#[]⟩, .int .u32 0, .slice none 0 0, .slice none 0 0, .int .i64 0, .string ⟨#[]⟩, .slice none 0 0, .slice none 0 0, .int .i64 0, .int .i64 0] : Array Value).size = (obCells zeroOb (.slice AU7 (zeroOb).uses.length cU7) (.slice AD7 (zeroOb).descs.length cD7) (.slice AC7 (zeroOb).code.length cC7) (.slice AE7 (zeroOb).entries.length cE7)).size) := Lib.hid rfl
    have hk7 : RowKit.Hid ((obCells zeroOb (.slice AU7 (zeroOb).uses.length cU7) (.slice AD7 (zeroOb).descs.length cD7) (.slice AC7 (zeroOb).code.length cC7) (.slice AE7 (zeroOb).entries.length cE7)).all (·.oneCell') = true) := Lib.hid (by simp [obCells, Value.oneCell'])
    have hb := (Below.refl (w5.alloc (.cells (obCells zeroOb (.slice AU7 (zeroOb).uses.length cU7) (.slice AD7 (zeroOb).descs.length cD7) (.slice AC7 (zeroOb).code.length cC7) (.slice AE7 (zeroOb).entries.length cE7)) 49)).heap.size (w5.alloc (.cells (obCells zeroOb (.slice AU7 (zeroOb).uses.length cU7) (.slice AD7 (zeroOb).descs.length cD7) (.slice AC7 (zeroOb).code.length cC7) (.slice AE7 (zeroOb).entries.length cE7)) 49))).alloc (Nat.le_refl _) (.cells #[.int .u8 (c.toNat : Int)] 5)
    have cB := Blk.new (w5.alloc (.cells (obCells zeroOb (.slice AU7 (zeroOb).uses.length cU7) (.slice AD7 (zeroOb).descs.length cD7) (.slice AC7 (zeroOb).code.length cC7) (.slice AE7 (zeroOb).entries.length cE7)) 49)) 5 #[.int .u8 (c.toNat : Int)]
    have hs9 : (w5.alloc (.cells (obCells zeroOb (.slice AU7 (zeroOb).uses.length cU7) (.slice AD7 (zeroOb).descs.length cD7) (.slice AC7 (zeroOb).code.length cC7) (.slice AE7 (zeroOb).entries.length cE7)) 49)).heap.size = w5.heap.size + 1 := by simp
    rw [hs9] at cB
    have hcv := run_convert_bytes_back (P := Try.prog) ((w5.alloc (.cells (obCells zeroOb (.slice AU7 (zeroOb).uses.length cU7) (.slice AD7 (zeroOb).descs.length cD7) (.slice AC7 (zeroOb).code.length cC7) (.slice AE7 (zeroOb).entries.length cE7)) 49)).alloc (.cells #[.int .u8 (c.toNat : Int)] 5)) 40 9 5 ⟨w5.heap.size + 1, 0, none⟩ 1 [c] Try.underlying40 Try.underlying5 Try.underlying9 (fun j hj => by
      have : j = 0 := by simp at hj; omega
      subst this
      exact cB.cell 0)
    have hcv : (convert 40 9 (.slice (some ⟨w5.heap.size + 1, 0, none⟩) 1 1)).run Try.prog ((w5.alloc (.cells (obCells zeroOb (.slice AU7 (zeroOb).uses.length cU7) (.slice AD7 (zeroOb).descs.length cD7) (.slice AC7 (zeroOb).code.length cC7) (.slice AE7 (zeroOb).entries.length cE7)) 49)).alloc (.cells #[.int .u8 (c.toNat : Int)] 5)) = .ok (.string (txt [c])) ((w5.alloc (.cells (obCells zeroOb (.slice AU7 (zeroOb).uses.length cU7) (.slice AD7 (zeroOb).descs.length cD7) (.slice AC7 (zeroOb).code.length cC7) (.slice AE7 (zeroOb).entries.length cE7)) 49)).alloc (.cells #[.int .u8 (c.toNat : Int)] 5)) := hcv
    clear cB hs9
    replace L1 := Lib.hid (L1.out.below hb L1.out.lt)
    replace L7 := Lib.hid (L7.out.below hb L7.out.lt)
    replace P1 := Lib.hid (P1.out.below hb)
    replace P2 := Lib.hid (P2.out.below hb)
    replace P7 := Lib.hid (P7.out.below hb)
    replace BB := Lib.hid (BB.out.trans (hb.mono BB.out.size))
    clear hb
    have e2 : txt bs ++ txt [c] = txt (bs ++ [c]) := txt_app bs [c]
    have s1c : (txt [c]).size = 1 := rfl
    have hdv := dec_none (hmoreh.out c)
    have DC := law23_decode (bs ++ [c]) ((w5.alloc (.cells (obCells zeroOb (.slice AU7 (zeroOb).uses.length cU7) (.slice AD7 (zeroOb).descs.length cD7) (.slice AC7 (zeroOb).code.length cC7) (.slice AE7 (zeroOb).entries.length cE7)) 49)).alloc (.cells #[.int .u8 (c.toNat : Int)] 5)) (by simp; omega)
    rw [hdv] at DC
    dsimp only at DC
    clear hdv
    go_wp2_with (refine wpList_store_last rfl 49 (.tmp 10) (.tmp 44) rfl w5 (obCells zeroOb (.slice AU7 (zeroOb).uses.length cU7) (.slice AD7 (zeroOb).descs.length cD7) (.slice AC7 (zeroOb).code.length cC7) (.slice AE7 (zeroOb).entries.length cE7)) _ _ rfl rfl rfl hi7.out hj7.out hk7.out ?_)
    refine (DC).mono ?_
    rintro e w6 ⟨vU6, vD6, vC6, vE6, rfl, hP6, hf6, hb⟩
    replace L1 := Lib.hid (L1.out.below hb L1.out.lt)
    replace L7 := Lib.hid (L7.out.below hb L7.out.lt)
    replace P1 := Lib.hid (P1.out.below hb)
    replace P2 := Lib.hid (P2.out.below hb)
    replace P7 := Lib.hid (P7.out.below hb)
    replace BB := Lib.hid (BB.out.trans (hb.mono BB.out.size))
    clear hb
    clear DC hf6 hcv
    generalize w5.heap.size = g7 at *
    have P6 := Lib.hid hP6
    obtain ⟨⟨-, AU6, cU6, rfl, -⟩, ⟨-, AD6, cD6, rfl, -⟩, ⟨-, AC6, cC6, rfl, -⟩, ⟨-, AE6, cE6, rfl, -⟩⟩ := hP6
    have hb := (Below.refl w6.heap.size w6).alloc (Nat.le_refl _) (.cells (obCells zeroOb (.slice AU6 (zeroOb).uses.length cU6) (.slice AD6 (zeroOb).descs.length cD6) (.slice AC6 (zeroOb).code.length cC6) (.slice AE6 (zeroOb).entries.length cE6)) 49)
    have L6 := Lib.hid (Blk.new w6 49 (obCells zeroOb (.slice AU6 (zeroOb).uses.length cU6) (.slice AD6 (zeroOb).descs.length cD6) (.slice AC6 (zeroOb).code.length cC6) (.slice AE6 (zeroOb).entries.length cE6)))
    replace L1 := Lib.hid (L1.out.below hb L1.out.lt)
    replace L7 := Lib.hid (L7.out.below hb L7.out.lt)
    replace P1 := Lib.hid (P1.out.below hb)
    replace P2 := Lib.hid (P2.out.below hb)
    replace P7 := Lib.hid (P7.out.below hb)
    replace P6 := Lib.hid (P6.out.below hb)
    replace BB := Lib.hid (BB.out.trans (hb.mono BB.out.size))
    clear hb
    have hi6 : RowKit.Hid ((Try.prog.info? 49).map (·.size) = some (obCells zeroOb (.slice AU6 (zeroOb).uses.length cU6) (.slice AD6 (zeroOb).descs.length cD6) (.slice AC6 (zeroOb).code.length cC6) (.slice AE6 (zeroOb).entries.length cE6)).size) := Lib.hid (by kernel_rfl)
    have hj6 : RowKit.Hid ((#[.string ⟨#[]⟩, .int .u32 0, .slice none 0 0, .slice none 0 0, .int .i64 0, .string ⟨#[]⟩, .slice none 0 0, .slice none 0 0, .int .i64 0, .int .i64 0] : Array Value).size = (obCells zeroOb (.slice AU6 (zeroOb).uses.length cU6) (.slice AD6 (zeroOb).descs.length cD6) (.slice AC6 (zeroOb).code.length cC6) (.slice AE6 (zeroOb).entries.length cE6)).size) := Lib.hid rfl
    have hk6 : RowKit.Hid ((obCells zeroOb (.slice AU6 (zeroOb).uses.length cU6) (.slice AD6 (zeroOb).descs.length cD6) (.slice AC6 (zeroOb).code.length cC6) (.slice AE6 (zeroOb).entries.length cE6)).all (·.oneCell') = true) := Lib.hid (by simp [obCells, Value.oneCell'])
    go_wp2_with (refine wpList_store_last rfl 49 (.tmp 12) (.tmp 53) rfl w6 (obCells zeroOb (.slice AU6 (zeroOb).uses.length cU6) (.slice AD6 (zeroOb).descs.length cD6) (.slice AC6 (zeroOb).code.length cC6) (.slice AE6 (zeroOb).entries.length cE6)) _ _ rfl rfl rfl hi6.out hj6.out hk6.out ?_)
    refine (law23_wakes _).mono ?_
    rintro e w7 ⟨rfl, hb⟩
    replace L1 := Lib.hid (L1.out.below hb L1.out.lt)
    replace L7 := Lib.hid (L7.out.below hb L7.out.lt)
    replace L6 := Lib.hid (L6.out.below hb L6.out.lt)
    replace P1 := Lib.hid (P1.out.below hb)
    replace P2 := Lib.hid (P2.out.below hb)
    replace P7 := Lib.hid (P7.out.below hb)
    replace P6 := Lib.hid (P6.out.below hb)
    replace BB := Lib.hid (BB.out.trans (hb.mono BB.out.size))
    clear hb
    go_wp2_with fail
    go_ret
    exact ⟨rfl, BB.out⟩
  · have t0 := txt_nil
    have he2 : (er == 0) = false := by rw [beq_eq_false_iff_ne]; exact he
    have he3 : (er != 0) = true := by rw [bne_iff_ne]; exact he
    obtain rfl := encRes_no hresh.out he
    clear he
    go_wp2_with fail
    refine (law23_wakes _).mono ?_
    rintro e w5 ⟨rfl, hb⟩
    replace L1 := Lib.hid (L1.out.below hb L1.out.lt)
    replace P1 := Lib.hid (P1.out.below hb)
    replace P2 := Lib.hid (P2.out.below hb)
    replace BB := Lib.hid (BB.out.trans (hb.mono BB.out.size))
    clear hb
    go_wp2_with fail
    go_ret
    exact ⟨rfl, BB.out⟩

end Go.Proofs.Ytceflhffilldeaa
