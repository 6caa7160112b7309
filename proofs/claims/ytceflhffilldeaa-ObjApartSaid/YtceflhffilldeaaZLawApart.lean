/-
  The law ObjApart, walked.
-/
import Derived.Test.YtceflhffilldeaaZPlain
namespace Go.Proofs.Ytceflhffilldeaa
set_option linter.unusedVariables false
set_option linter.unusedSimpArgs false
open Go.RowKit ObjL

set_option maxRecDepth 100000 in
set_option maxHeartbeats 2000000 in
theorem law23_apart (o p : Ob) (vU1 vD1 vC1 vE1 vU2 vD2 vC2 vE2 : Value) (W : World) (hp1 : ObParts W o vU1 vD1 vC1 vE1) (hf1 : ObFine o) (hz1 : ObSized o) (hp2 : ObParts W p vU2 vD2 vC2 vE2) (hf2 : ObFine p) (hz2 : ObSized p) :
    Calls Try.prog 9 #[.agg (obCells o vU1 vD1 vC1 vE1), .agg (obCells p vU2 vD2 vC2 vE2)] W fun e w' => e = .returned (.bool true) ∧ Below W.heap.size W w' := by
  have P1 := Lib.hid hp1
  obtain ⟨⟨-, AU1, cU1, rfl, -⟩, ⟨-, AD1, cD1, rfl, -⟩, ⟨-, AC1, cC1, rfl, -⟩, ⟨-, AE1, cE1, rfl, -⟩⟩ := hp1
  have hf1h := Lib.hid hf1
  have hz1h := Lib.hid hz1
  clear hf1 hz1
  have P2 := Lib.hid hp2
  obtain ⟨⟨-, AU2, cU2, rfl, -⟩, ⟨-, AD2, cD2, rfl, -⟩, ⟨-, AC2, cC2, rfl, -⟩, ⟨-, AE2, cE2, rfl, -⟩⟩ := hp2
  have hf2h := Lib.hid hf2
  have hz2h := Lib.hid hz2
  clear hf2 hz2
  have BB := Lib.hid (Below.refl W.heap.size W)
  have hb := (Below.refl W.heap.size W).alloc (Nat.le_refl _) (.cells (obCells o (.slice AU1 (o).uses.length cU1) (.slice AD1 (o).descs.length cD1) (.slice AC1 (o).code.length cC1) (.slice AE1 (o).entries.length cE1)) 49)
  have L1 := Lib.hid (Blk.new W 49 (obCells o (.slice AU1 (o).uses.length cU1) (.slice AD1 (o).descs.length cD1) (.slice AC1 (o).code.length cC1) (.slice AE1 (o).entries.length cE1)))
  replace P1 := Lib.hid (P1.out.below hb)
  replace P2 := Lib.hid (P2.out.below hb)
  replace BB := Lib.hid (BB.out.trans (hb.mono BB.out.size))
  clear hb
  have hb := (Below.refl (W.alloc (.cells (obCells o (.slice AU1 (o).uses.length cU1) (.slice AD1 (o).descs.length cD1) (.slice AC1 (o).code.length cC1) (.slice AE1 (o).entries.length cE1)) 49)).heap.size (W.alloc (.cells (obCells o (.slice AU1 (o).uses.length cU1) (.slice AD1 (o).descs.length cD1) (.slice AC1 (o).code.length cC1) (.slice AE1 (o).entries.length cE1)) 49))).alloc (Nat.le_refl _) (.cells (obCells p (.slice AU2 (p).uses.length cU2) (.slice AD2 (p).descs.length cD2) (.slice AC2 (p).code.length cC2) (.slice AE2 (p).entries.length cE2)) 49)
  have L2 := Lib.hid (Blk.new (W.alloc (.cells (obCells o (.slice AU1 (o).uses.length cU1) (.slice AD1 (o).descs.length cD1) (.slice AC1 (o).code.length cC1) (.slice AE1 (o).entries.length cE1)) 49)) 49 (obCells p (.slice AU2 (p).uses.length cU2) (.slice AD2 (p).descs.length cD2) (.slice AC2 (p).code.length cC2) (.slice AE2 (p).entries.length cE2)))
  replace L1 := Lib.hid (L1.out.below hb L1.out.lt)
  replace P1 := Lib.hid (P1.out.below hb)
  replace P2 := Lib.hid (P2.out.below hb)
  replace BB := Lib.hid (BB.out.trans (hb.mono BB.out.size))
  clear hb
  have hs1 : (W.alloc (.cells (obCells o (.slice AU1 (o).uses.length cU1) (.slice AD1 (o).descs.length cD1) (.slice AC1 (o).code.length cC1) (.slice AE1 (o).entries.length cE1)) 49)).heap.size = W.heap.size + 1 := by simp
  rw [hs1] at L2
  clear hs1
  go_enter Try.func9, Try.ntmps9
  go_upto_region 1 with fail
  generalize hW0 : ((W.alloc (.cells (obCells o (.slice AU1 (o).uses.length cU1) (.slice AD1 (o).descs.length cD1) (.slice AC1 (o).code.length cC1) (.slice AE1 (o).entries.length cE1)) 49)).alloc (.cells (obCells p (.slice AU2 (p).uses.length cU2) (.slice AD2 (p).descs.length cD2) (.slice AC2 (p).code.length cC2) (.slice AE2 (p).entries.length cE2)) 49)) = w1 at *
  clear hW0
  go_wp2_with (refine wpList_load_row_g rfl 49 (.tmp 2) rfl W.heap.size rfl 49 (obCells o (.slice AU1 (o).uses.length cU1) (.slice AD1 (o).descs.length cD1) (.slice AC1 (o).code.length cC1) (.slice AE1 (o).entries.length cE1)) (0, 0) _ L1.out Try.underlying49 rfl (by kernel_rfl) ?_)
  refine (law23_large o (.slice AU1 (o).uses.length cU1) (.slice AD1 (o).descs.length cD1) (.slice AC1 (o).code.length cC1) (.slice AE1 (o).entries.length cE1) w1 P1.out hz1h.out).mono ?_
  rintro e w2 ⟨Lg1, rfl, hcp1, hb⟩
  replace L1 := Lib.hid (L1.out.below hb L1.out.lt)
  replace L2 := Lib.hid (L2.out.below hb L2.out.lt)
  replace P1 := Lib.hid (P1.out.below hb)
  replace P2 := Lib.hid (P2.out.below hb)
  replace BB := Lib.hid (BB.out.trans (hb.mono BB.out.size))
  clear hb
  have hcp1h := Lib.hid hcp1
  clear hcp1
  cases Lg1
  case true =>
    go_wp2_with fail
    refine (law23_wakes _).mono ?_
    rintro e w3 ⟨rfl, hb⟩
    replace L1 := Lib.hid (L1.out.below hb L1.out.lt)
    replace L2 := Lib.hid (L2.out.below hb L2.out.lt)
    replace P1 := Lib.hid (P1.out.below hb)
    replace P2 := Lib.hid (P2.out.below hb)
    replace BB := Lib.hid (BB.out.trans (hb.mono BB.out.size))
    clear hb
    go_wp2_with fail
    go_ret
    exact ⟨rfl, BB.out⟩
  have hc1 := hcp1h.out rfl
  clear hcp1h
  go_wp2_with (refine wpList_load_row_g rfl 49 (.tmp 3) rfl (W.heap.size + 1) rfl 49 (obCells p (.slice AU2 (p).uses.length cU2) (.slice AD2 (p).descs.length cD2) (.slice AC2 (p).code.length cC2) (.slice AE2 (p).entries.length cE2)) (0, 0) _ L2.out Try.underlying49 rfl (by kernel_rfl) ?_)
  refine (law23_large p (.slice AU2 (p).uses.length cU2) (.slice AD2 (p).descs.length cD2) (.slice AC2 (p).code.length cC2) (.slice AE2 (p).entries.length cE2) w2 P2.out hz2h.out).mono ?_
  rintro e w3 ⟨Lg2, rfl, hcp2, hb⟩
  replace L1 := Lib.hid (L1.out.below hb L1.out.lt)
  replace L2 := Lib.hid (L2.out.below hb L2.out.lt)
  replace P1 := Lib.hid (P1.out.below hb)
  replace P2 := Lib.hid (P2.out.below hb)
  replace BB := Lib.hid (BB.out.trans (hb.mono BB.out.size))
  clear hb
  have hcp2h := Lib.hid hcp2
  clear hcp2
  cases Lg2
  case true =>
    go_wp2_with fail
    refine (law23_wakes _).mono ?_
    rintro e w4 ⟨rfl, hb⟩
    replace L1 := Lib.hid (L1.out.below hb L1.out.lt)
    replace L2 := Lib.hid (L2.out.below hb L2.out.lt)
    replace P1 := Lib.hid (P1.out.below hb)
    replace P2 := Lib.hid (P2.out.below hb)
    replace BB := Lib.hid (BB.out.trans (hb.mono BB.out.size))
    clear hb
    go_wp2_with fail
    go_ret
    exact ⟨rfl, BB.out⟩
  have hc2 := hcp2h.out rfl
  clear hcp2h
  go_wp2_with (refine wpList_load_row_g rfl 49 (.tmp 2) rfl W.heap.size rfl 49 (obCells o (.slice AU1 (o).uses.length cU1) (.slice AD1 (o).descs.length cD1) (.slice AC1 (o).code.length cC1) (.slice AE1 (o).entries.length cE1)) (0, 0) _ L1.out Try.underlying49 rfl (by kernel_rfl) ?_)
  refine (ref23_copy o (.slice AU1 (o).uses.length cU1) (.slice AD1 (o).descs.length cD1) (.slice AC1 (o).code.length cC1) (.slice AE1 (o).entries.length cE1) w3 P1.out hc1).mono ?_
  rintro e w4 ⟨vU3, vD3, vC3, vE3, rfl, hP3, hb⟩
  replace L1 := Lib.hid (L1.out.below hb L1.out.lt)
  replace L2 := Lib.hid (L2.out.below hb L2.out.lt)
  replace P1 := Lib.hid (P1.out.below hb)
  replace P2 := Lib.hid (P2.out.below hb)
  replace BB := Lib.hid (BB.out.trans (hb.mono BB.out.size))
  clear hb
  have P3 := Lib.hid hP3
  obtain ⟨⟨-, AU3, cU3, rfl, -⟩, ⟨-, AD3, cD3, rfl, -⟩, ⟨-, AC3, cC3, rfl, -⟩, ⟨-, AE3, cE3, rfl, -⟩⟩ := hP3
  obtain ⟨bs1, er1, hres1, her1, hbs1⟩ := encRes_is (goodO o) o
  have her1h := Lib.hid her1
  have hbs1h := Lib.hid hbs1
  clear her1 hbs1
  have EN := law23_encode o (.slice AU3 (o).uses.length cU3) (.slice AD3 (o).descs.length cD3) (.slice AC3 (o).code.length cC3) (.slice AE3 (o).entries.length cE3) w4 P3.out hf1h.out
  rw [hres1] at EN
  have hres1h := Lib.hid hres1
  clear hres1
  go_wp2_with fail
  refine (EN).mono ?_
  rintro e w5 ⟨rfl, hb⟩
  replace L1 := Lib.hid (L1.out.below hb L1.out.lt)
  replace L2 := Lib.hid (L2.out.below hb L2.out.lt)
  replace P1 := Lib.hid (P1.out.below hb)
  replace P2 := Lib.hid (P2.out.below hb)
  replace P3 := Lib.hid (P3.out.below hb)
  replace BB := Lib.hid (BB.out.trans (hb.mono BB.out.size))
  clear hb
  clear EN
  go_wp2_with (refine wpList_load_row_g rfl 49 (.tmp 3) rfl (W.heap.size + 1) rfl 49 (obCells p (.slice AU2 (p).uses.length cU2) (.slice AD2 (p).descs.length cD2) (.slice AC2 (p).code.length cC2) (.slice AE2 (p).entries.length cE2)) (0, 0) _ L2.out Try.underlying49 rfl (by kernel_rfl) ?_)
  refine (ref23_copy p (.slice AU2 (p).uses.length cU2) (.slice AD2 (p).descs.length cD2) (.slice AC2 (p).code.length cC2) (.slice AE2 (p).entries.length cE2) w5 P2.out hc2).mono ?_
  rintro e w6 ⟨vU4, vD4, vC4, vE4, rfl, hP4, hb⟩
  replace L1 := Lib.hid (L1.out.below hb L1.out.lt)
  replace L2 := Lib.hid (L2.out.below hb L2.out.lt)
  replace P1 := Lib.hid (P1.out.below hb)
  replace P2 := Lib.hid (P2.out.below hb)
  replace P3 := Lib.hid (P3.out.below hb)
  replace BB := Lib.hid (BB.out.trans (hb.mono BB.out.size))
  clear hb
  have P4 := Lib.hid hP4
  obtain ⟨⟨-, AU4, cU4, rfl, -⟩, ⟨-, AD4, cD4, rfl, -⟩, ⟨-, AC4, cC4, rfl, -⟩, ⟨-, AE4, cE4, rfl, -⟩⟩ := hP4
  obtain ⟨bs2, er2, hres2, her2, hbs2⟩ := encRes_is (goodO p) p
  have her2h := Lib.hid her2
  have hbs2h := Lib.hid hbs2
  clear her2 hbs2
  have EN := law23_encode p (.slice AU4 (p).uses.length cU4) (.slice AD4 (p).descs.length cD4) (.slice AC4 (p).code.length cC4) (.slice AE4 (p).entries.length cE4) w6 P4.out hf2h.out
  rw [hres2] at EN
  have hres2h := Lib.hid hres2
  clear hres2
  go_wp2_with fail
  refine (EN).mono ?_
  rintro e w7 ⟨rfl, hb⟩
  replace L1 := Lib.hid (L1.out.below hb L1.out.lt)
  replace L2 := Lib.hid (L2.out.below hb L2.out.lt)
  replace P1 := Lib.hid (P1.out.below hb)
  replace P2 := Lib.hid (P2.out.below hb)
  replace P3 := Lib.hid (P3.out.below hb)
  replace P4 := Lib.hid (P4.out.below hb)
  replace BB := Lib.hid (BB.out.trans (hb.mono BB.out.size))
  clear hb
  clear EN
  by_cases he1 : er1 = 0
  case neg =>
    have t0 := txt_nil
    have he1a : (er1 == 0) = false := by rw [beq_eq_false_iff_ne]; exact he1
    have he1b : (er1 != 0) = true := by rw [bne_iff_ne]; exact he1
    obtain rfl := encRes_no hres1h.out he1
    clear he1
    by_cases he2 : er2 = 0
    · subst he2
      go_wp2_with fail
      refine (law23_wakes _).mono ?_
      rintro e w8 ⟨rfl, hb⟩
      replace L1 := Lib.hid (L1.out.below hb L1.out.lt)
      replace L2 := Lib.hid (L2.out.below hb L2.out.lt)
      replace P1 := Lib.hid (P1.out.below hb)
      replace P2 := Lib.hid (P2.out.below hb)
      replace P3 := Lib.hid (P3.out.below hb)
      replace P4 := Lib.hid (P4.out.below hb)
      replace BB := Lib.hid (BB.out.trans (hb.mono BB.out.size))
      clear hb
      go_wp2_with fail
      go_ret
      exact ⟨rfl, BB.out⟩
    · have he2a : (er2 == 0) = false := by rw [beq_eq_false_iff_ne]; exact he2
      have he2b : (er2 != 0) = true := by rw [bne_iff_ne]; exact he2
      obtain rfl := encRes_no hres2h.out he2
      clear he2
      go_wp2_with fail
      refine (law23_wakes _).mono ?_
      rintro e w8 ⟨rfl, hb⟩
      replace L1 := Lib.hid (L1.out.below hb L1.out.lt)
      replace L2 := Lib.hid (L2.out.below hb L2.out.lt)
      replace P1 := Lib.hid (P1.out.below hb)
      replace P2 := Lib.hid (P2.out.below hb)
      replace P3 := Lib.hid (P3.out.below hb)
      replace P4 := Lib.hid (P4.out.below hb)
      replace BB := Lib.hid (BB.out.trans (hb.mono BB.out.size))
      clear hb
      go_wp2_with fail
      go_ret
      exact ⟨rfl, BB.out⟩
  by_cases he2 : er2 = 0
  case neg =>
    have t0 := txt_nil
    have he2a : (er2 == 0) = false := by rw [beq_eq_false_iff_ne]; exact he2
    have he2b : (er2 != 0) = true := by rw [bne_iff_ne]; exact he2
    obtain rfl := encRes_no hres2h.out he2
    clear he2
    subst he1
    go_wp2_with fail
    refine (law23_wakes _).mono ?_
    rintro e w8 ⟨rfl, hb⟩
    replace L1 := Lib.hid (L1.out.below hb L1.out.lt)
    replace L2 := Lib.hid (L2.out.below hb L2.out.lt)
    replace P1 := Lib.hid (P1.out.below hb)
    replace P2 := Lib.hid (P2.out.below hb)
    replace P3 := Lib.hid (P3.out.below hb)
    replace P4 := Lib.hid (P4.out.below hb)
    replace BB := Lib.hid (BB.out.trans (hb.mono BB.out.size))
    clear hb
    go_wp2_with fail
    go_ret
    exact ⟨rfl, BB.out⟩
  have hb1e := hbs1h.out he1
  have hb2e := hbs2h.out he2
  have hg1 := (her1h.out.1 he1).1
  have hg2 := (her2h.out.1 he2).1
  subst he1 he2
  have hsame : decide (bs1 = bs2) = sameO o p := by
    rw [Bool.eq_iff_iff, decide_eq_true_eq, sameO_iff, hb1e, hb2e]
    exact enc_same hg1 hg2
  have hsm := Lib.hid hsame
  clear hb1e hb2e hg1 hg2 hsame
  have SD := fun W (h1 : ObParts W o (.slice AU1 (o).uses.length cU1) (.slice AD1 (o).descs.length cD1) (.slice AC1 (o).code.length cC1) (.slice AE1 (o).entries.length cE1)) (h2 : ObParts W p (.slice AU2 (p).uses.length cU2) (.slice AD2 (p).descs.length cD2) (.slice AC2 (p).code.length cC2) (.slice AE2 (p).entries.length cE2)) => ref23_same o p _ _ _ _ _ _ _ _ W h1 h2
  have SP := fun W (h1 : ObParts W o (.slice AU1 (o).uses.length cU1) (.slice AD1 (o).descs.length cD1) (.slice AC1 (o).code.length cC1) (.slice AE1 (o).entries.length cE1)) (h2 : ObParts W p (.slice AU2 (p).uses.length cU2) (.slice AD2 (p).descs.length cD2) (.slice AC2 (p).code.length cC2) (.slice AE2 (p).entries.length cE2)) => obj_same o p _ _ _ _ _ _ _ _ W h1 h2
  have SDh := Lib.hid SD
  have SPh := Lib.hid SP
  clear SD SP
  by_cases hbb : bs1 = bs2
  · have hso : sameO o p = true := by rw [← hsm.out]; exact decide_eq_true hbb
    subst hbb
    have SDv := SDh.out
    have SPv := SPh.out
    rw [hso] at SDv SPv
    have SDw := Lib.hid SDv
    have SPw := Lib.hid SPv
    clear SDv SPv hso
    go_wp2_with (first | (refine wpList_load_row_g rfl 49 (.tmp 2) rfl W.heap.size rfl 49 (obCells o (.slice AU1 (o).uses.length cU1) (.slice AD1 (o).descs.length cD1) (.slice AC1 (o).code.length cC1) (.slice AE1 (o).entries.length cE1)) (0, 0) _ L1.out Try.underlying49 rfl (by kernel_rfl) ?_) | (refine wpList_load_row_g rfl 49 (.tmp 3) rfl (W.heap.size + 1) rfl 49 (obCells p (.slice AU2 (p).uses.length cU2) (.slice AD2 (p).descs.length cD2) (.slice AC2 (p).code.length cC2) (.slice AE2 (p).entries.length cE2)) (0, 0) _ L2.out Try.underlying49 rfl (by kernel_rfl) ?_))
    refine (SDw.out _ P1.out P2.out).mono ?_
    rintro e w8 ⟨rfl, hb⟩
    replace L1 := Lib.hid (L1.out.below hb L1.out.lt)
    replace L2 := Lib.hid (L2.out.below hb L2.out.lt)
    replace P1 := Lib.hid (P1.out.below hb)
    replace P2 := Lib.hid (P2.out.below hb)
    replace P3 := Lib.hid (P3.out.below hb)
    replace P4 := Lib.hid (P4.out.below hb)
    replace BB := Lib.hid (BB.out.trans (hb.mono BB.out.size))
    clear hb
    go_wp2_with (first | (refine wpList_load_row_g rfl 49 (.tmp 2) rfl W.heap.size rfl 49 (obCells o (.slice AU1 (o).uses.length cU1) (.slice AD1 (o).descs.length cD1) (.slice AC1 (o).code.length cC1) (.slice AE1 (o).entries.length cE1)) (0, 0) _ L1.out Try.underlying49 rfl (by kernel_rfl) ?_) | (refine wpList_load_row_g rfl 49 (.tmp 3) rfl (W.heap.size + 1) rfl 49 (obCells p (.slice AU2 (p).uses.length cU2) (.slice AD2 (p).descs.length cD2) (.slice AC2 (p).code.length cC2) (.slice AE2 (p).entries.length cE2)) (0, 0) _ L2.out Try.underlying49 rfl (by kernel_rfl) ?_))
    refine (SPw.out _ P1.out P2.out).mono ?_
    rintro e w9 ⟨rfl, hb⟩
    replace L1 := Lib.hid (L1.out.below hb L1.out.lt)
    replace L2 := Lib.hid (L2.out.below hb L2.out.lt)
    replace P1 := Lib.hid (P1.out.below hb)
    replace P2 := Lib.hid (P2.out.below hb)
    replace P3 := Lib.hid (P3.out.below hb)
    replace P4 := Lib.hid (P4.out.below hb)
    replace BB := Lib.hid (BB.out.trans (hb.mono BB.out.size))
    clear hb
    go_wp2_with fail
    refine (law23_wakes _).mono ?_
    rintro e w10 ⟨rfl, hb⟩
    replace L1 := Lib.hid (L1.out.below hb L1.out.lt)
    replace L2 := Lib.hid (L2.out.below hb L2.out.lt)
    replace P1 := Lib.hid (P1.out.below hb)
    replace P2 := Lib.hid (P2.out.below hb)
    replace P3 := Lib.hid (P3.out.below hb)
    replace P4 := Lib.hid (P4.out.below hb)
    replace BB := Lib.hid (BB.out.trans (hb.mono BB.out.size))
    clear hb
    go_wp2_with fail
    go_ret
    exact ⟨rfl, BB.out⟩
  · have hso : sameO o p = false := by rw [← hsm.out]; exact decide_eq_false hbb
    have hq : ((txt bs1).toList == (txt bs2).toList) = false := by rw [Bool.eq_false_iff]; exact fun e => hbb (txt_inj ((sl_same _ _).1 e))
    have hq2 : ¬ (txt bs1).toList = (txt bs2).toList := by simpa using hq
    clear hbb
    have SDv := SDh.out
    have SPv := SPh.out
    rw [hso] at SDv SPv
    have SDw := Lib.hid SDv
    have SPw := Lib.hid SPv
    clear SDv SPv hso
    go_wp2_with (first | (refine wpList_load_row_g rfl 49 (.tmp 2) rfl W.heap.size rfl 49 (obCells o (.slice AU1 (o).uses.length cU1) (.slice AD1 (o).descs.length cD1) (.slice AC1 (o).code.length cC1) (.slice AE1 (o).entries.length cE1)) (0, 0) _ L1.out Try.underlying49 rfl (by kernel_rfl) ?_) | (refine wpList_load_row_g rfl 49 (.tmp 3) rfl (W.heap.size + 1) rfl 49 (obCells p (.slice AU2 (p).uses.length cU2) (.slice AD2 (p).descs.length cD2) (.slice AC2 (p).code.length cC2) (.slice AE2 (p).entries.length cE2)) (0, 0) _ L2.out Try.underlying49 rfl (by kernel_rfl) ?_))
    refine (SDw.out _ P1.out P2.out).mono ?_
    rintro e w8 ⟨rfl, hb⟩
    replace L1 := Lib.hid (L1.out.below hb L1.out.lt)
    replace L2 := Lib.hid (L2.out.below hb L2.out.lt)
    replace P1 := Lib.hid (P1.out.below hb)
    replace P2 := Lib.hid (P2.out.below hb)
    replace P3 := Lib.hid (P3.out.below hb)
    replace P4 := Lib.hid (P4.out.below hb)
    replace BB := Lib.hid (BB.out.trans (hb.mono BB.out.size))
    clear hb
    go_wp2_with (first | (refine wpList_load_row_g rfl 49 (.tmp 2) rfl W.heap.size rfl 49 (obCells o (.slice AU1 (o).uses.length cU1) (.slice AD1 (o).descs.length cD1) (.slice AC1 (o).code.length cC1) (.slice AE1 (o).entries.length cE1)) (0, 0) _ L1.out Try.underlying49 rfl (by kernel_rfl) ?_) | (refine wpList_load_row_g rfl 49 (.tmp 3) rfl (W.heap.size + 1) rfl 49 (obCells p (.slice AU2 (p).uses.length cU2) (.slice AD2 (p).descs.length cD2) (.slice AC2 (p).code.length cC2) (.slice AE2 (p).entries.length cE2)) (0, 0) _ L2.out Try.underlying49 rfl (by kernel_rfl) ?_))
    refine (SPw.out _ P1.out P2.out).mono ?_
    rintro e w9 ⟨rfl, hb⟩
    replace L1 := Lib.hid (L1.out.below hb L1.out.lt)
    replace L2 := Lib.hid (L2.out.below hb L2.out.lt)
    replace P1 := Lib.hid (P1.out.below hb)
    replace P2 := Lib.hid (P2.out.below hb)
    replace P3 := Lib.hid (P3.out.below hb)
    replace P4 := Lib.hid (P4.out.below hb)
    replace BB := Lib.hid (BB.out.trans (hb.mono BB.out.size))
    clear hb
    go_wp2_with fail
    refine (law23_wakes _).mono ?_
    rintro e w10 ⟨rfl, hb⟩
    replace L1 := Lib.hid (L1.out.below hb L1.out.lt)
    replace L2 := Lib.hid (L2.out.below hb L2.out.lt)
    replace P1 := Lib.hid (P1.out.below hb)
    replace P2 := Lib.hid (P2.out.below hb)
    replace P3 := Lib.hid (P3.out.below hb)
    replace P4 := Lib.hid (P4.out.below hb)
    replace BB := Lib.hid (BB.out.trans (hb.mono BB.out.size))
    clear hb
    go_wp2_with fail
    go_ret
    exact ⟨rfl, BB.out⟩

end Go.Proofs.Ytceflhffilldeaa
