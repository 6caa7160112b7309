/-
  The law ObjGoods, walked.
-/
import Derived.Test.YtceflhffilldeaaZPlain
namespace Go.Proofs.Ytceflhffilldeaa
set_option linter.unusedVariables false
set_option linter.unusedSimpArgs false
open Go.RowKit ObjL

set_option maxRecDepth 100000 in
set_option maxHeartbeats 2000000 in
theorem law23_goods (o p : Ob) (vU1 vD1 vC1 vE1 vU2 vD2 vC2 vE2 : Value) (W : World) (hp1 : ObParts W o vU1 vD1 vC1 vE1) (hf1 : ObFine o) (hz1 : ObSized o) (hp2 : ObParts W p vU2 vD2 vC2 vE2) (hf2 : ObFine p) (hz2 : ObSized p) :
    Calls Try.prog 8 #[.agg (obCells o vU1 vD1 vC1 vE1), .agg (obCells p vU2 vD2 vC2 vE2)] W fun e w' => e = .returned (.bool true) ∧ Below W.heap.size W w' := by
  have P1 := Lib.hid hp1
  obtain ⟨⟨-, AU1, cU1, rfl, -⟩, ⟨-, AD1, cD1, rfl, -⟩, ⟨-, AC1, cC1, rfl, -⟩, ⟨-, AE1, cE1, rfl, -⟩⟩ := hp1
  have hf1h := Lib.hid hf1
  have hz1h := Lib.hid hz1
  clear hf1 hz1
  have P2 := Lib.hid hp2
  obtain ⟨⟨-, AU2, cU2, rfl, -⟩, ⟨-, AD2, cD2, rfl, -⟩, ⟨-, AC2, cC2, rfl, -⟩, ⟨-, AE2, cE2, rfl, -⟩⟩ := hp2
  have hf2h := Lib.hid hf2
  have hz2h := Lib.hid hz2
  clear hf2 hz2
  have BB := Lib.hid (Below.refl W.heap.size W)
  have hb := (Below.refl W.heap.size W).alloc (Nat.le_refl _) (.cells (obCells o (.slice AU1 (o).uses.length cU1) (.slice AD1 (o).descs.length cD1) (.slice AC1 (o).code.length cC1) (.slice AE1 (o).entries.length cE1)) 49)
  have L1 := Lib.hid (Blk.new W 49 (obCells o (.slice AU1 (o).uses.length cU1) (.slice AD1 (o).descs.length cD1) (.slice AC1 (o).code.length cC1) (.slice AE1 (o).entries.length cE1)))
  replace P1 := Lib.hid (P1.out.below hb)
  replace P2 := Lib.hid (P2.out.below hb)
  replace BB := Lib.hid (BB.out.trans (hb.mono BB.out.size))
  clear hb
  have hb := (Below.refl (W.alloc (.cells (obCells o (.slice AU1 (o).uses.length cU1) (.slice AD1 (o).descs.length cD1) (.slice AC1 (o).code.length cC1) (.slice AE1 (o).entries.length cE1)) 49)).heap.size (W.alloc (.cells (obCells o (.slice AU1 (o).uses.length cU1) (.slice AD1 (o).descs.length cD1) (.slice AC1 (o).code.length cC1) (.slice AE1 (o).entries.length cE1)) 49))).alloc (Nat.le_refl _) (.cells (obCells p (.slice AU2 (p).uses.length cU2) (.slice AD2 (p).descs.length cD2) (.slice AC2 (p).code.length cC2) (.slice AE2 (p).entries.length cE2)) 49)
  have L2 := Lib.hid (Blk.new (W.alloc (.cells (obCells o (.slice AU1 (o).uses.length cU1) (.slice AD1 (o).descs.length cD1) (.slice AC1 (o).code.length cC1) (.slice AE1 (o).entries.length cE1)) 49)) 49 (obCells p (.slice AU2 (p).uses.length cU2) (.slice AD2 (p).descs.length cD2) (.slice AC2 (p).code.length cC2) (.slice AE2 (p).entries.length cE2)))
  replace L1 := Lib.hid (L1.out.below hb L1.out.lt)
  replace P1 := Lib.hid (P1.out.below hb)
  replace P2 := Lib.hid (P2.out.below hb)
  replace BB := Lib.hid (BB.out.trans (hb.mono BB.out.size))
  clear hb
  have hs1 : (W.alloc (.cells (obCells o (.slice AU1 (o).uses.length cU1) (.slice AD1 (o).descs.length cD1) (.slice AC1 (o).code.length cC1) (.slice AE1 (o).entries.length cE1)) 49)).heap.size = W.heap.size + 1 := by simp
  rw [hs1] at L2
  clear hs1
  go_enter Try.func8, Try.ntmps8
  go_upto_region 1 with fail
  generalize hW0 : ((W.alloc (.cells (obCells o (.slice AU1 (o).uses.length cU1) (.slice AD1 (o).descs.length cD1) (.slice AC1 (o).code.length cC1) (.slice AE1 (o).entries.length cE1)) 49)).alloc (.cells (obCells p (.slice AU2 (p).uses.length cU2) (.slice AD2 (p).descs.length cD2) (.slice AC2 (p).code.length cC2) (.slice AE2 (p).entries.length cE2)) 49)) = w1 at *
  clear hW0
  go_wp2_with (refine wpList_load_row_g rfl 49 (.tmp 2) rfl W.heap.size rfl 49 (obCells o (.slice AU1 (o).uses.length cU1) (.slice AD1 (o).descs.length cD1) (.slice AC1 (o).code.length cC1) (.slice AE1 (o).entries.length cE1)) (0, 0) _ L1.out Try.underlying49 rfl (by kernel_rfl) ?_)
  refine (law23_large o (.slice AU1 (o).uses.length cU1) (.slice AD1 (o).descs.length cD1) (.slice AC1 (o).code.length cC1) (.slice AE1 (o).entries.length cE1) w1 P1.out hz1h.out).mono ?_
  rintro e w2 ⟨Lg1, rfl, hcp1, hb⟩
  replace L1 := Lib.hid (L1.out.below hb L1.out.lt)
  replace L2 := Lib.hid (L2.out.below hb L2.out.lt)
  replace P1 := Lib.hid (P1.out.below hb)
  replace P2 := Lib.hid (P2.out.below hb)
  replace BB := Lib.hid (BB.out.trans (hb.mono BB.out.size))
  clear hb
  have hcp1h := Lib.hid hcp1
  clear hcp1
  cases Lg1
  case true =>
    go_wp2_with fail
    refine (law23_wakes _).mono ?_
    rintro e w3 ⟨rfl, hb⟩
    replace L1 := Lib.hid (L1.out.below hb L1.out.lt)
    replace L2 := Lib.hid (L2.out.below hb L2.out.lt)
    replace P1 := Lib.hid (P1.out.below hb)
    replace P2 := Lib.hid (P2.out.below hb)
    replace BB := Lib.hid (BB.out.trans (hb.mono BB.out.size))
    clear hb
    go_wp2_with fail
    go_ret
    exact ⟨rfl, BB.out⟩
  have hc1 := hcp1h.out rfl
  clear hcp1h
  go_wp2_with (refine wpList_load_row_g rfl 49 (.tmp 3) rfl (W.heap.size + 1) rfl 49 (obCells p (.slice AU2 (p).uses.length cU2) (.slice AD2 (p).descs.length cD2) (.slice AC2 (p).code.length cC2) (.slice AE2 (p).entries.length cE2)) (0, 0) _ L2.out Try.underlying49 rfl (by kernel_rfl) ?_)
  refine (law23_large p (.slice AU2 (p).uses.length cU2) (.slice AD2 (p).descs.length cD2) (.slice AC2 (p).code.length cC2) (.slice AE2 (p).entries.length cE2) w2 P2.out hz2h.out).mono ?_
  rintro e w3 ⟨Lg2, rfl, hcp2, hb⟩
  replace L1 := Lib.hid (L1.out.below hb L1.out.lt)
  replace L2 := Lib.hid (L2.out.below hb L2.out.lt)
  replace P1 := Lib.hid (P1.out.below hb)
  replace P2 := Lib.hid (P2.out.below hb)
  replace BB := Lib.hid (BB.out.trans (hb.mono BB.out.size))
  clear hb
  have hcp2h := Lib.hid hcp2
  clear hcp2
  cases Lg2
  case true =>
    go_wp2_with fail
    refine (law23_wakes _).mono ?_
    rintro e w4 ⟨rfl, hb⟩
    replace L1 := Lib.hid (L1.out.below hb L1.out.lt)
    replace L2 := Lib.hid (L2.out.below hb L2.out.lt)
    replace P1 := Lib.hid (P1.out.below hb)
    replace P2 := Lib.hid (P2.out.below hb)
    replace BB := Lib.hid (BB.out.trans (hb.mono BB.out.size))
    clear hb
    go_wp2_with fail
    go_ret
    exact ⟨rfl, BB.out⟩
  have hc2 := hcp2h.out rfl
  clear hcp2h
  go_wp2_with (refine wpList_load_row_g rfl 49 (.tmp 2) rfl W.heap.size rfl 49 (obCells o (.slice AU1 (o).uses.length cU1) (.slice AD1 (o).descs.length cD1) (.slice AC1 (o).code.length cC1) (.slice AE1 (o).entries.length cE1)) (0, 0) _ L1.out Try.underlying49 rfl (by kernel_rfl) ?_)
  refine (ref23_copy o (.slice AU1 (o).uses.length cU1) (.slice AD1 (o).descs.length cD1) (.slice AC1 (o).code.length cC1) (.slice AE1 (o).entries.length cE1) w3 P1.out hc1).mono ?_
  rintro e w4 ⟨vU5, vD5, vC5, vE5, rfl, hP5, hb⟩
  replace L1 := Lib.hid (L1.out.below hb L1.out.lt)
  replace L2 := Lib.hid (L2.out.below hb L2.out.lt)
  replace P1 := Lib.hid (P1.out.below hb)
  replace P2 := Lib.hid (P2.out.below hb)
  replace BB := Lib.hid (BB.out.trans (hb.mono BB.out.size))
  clear hb
  have P5 := Lib.hid hP5
  obtain ⟨⟨-, AU5, cU5, rfl, -⟩, ⟨-, AD5, cD5, rfl, -⟩, ⟨-, AC5, cC5, rfl, -⟩, ⟨-, AE5, cE5, rfl, -⟩⟩ := hP5
  have hb := (Below.refl w4.heap.size w4).alloc (Nat.le_refl _) (.cells (obCells o (.slice AU5 (o).uses.length cU5) (.slice AD5 (o).descs.length cD5) (.slice AC5 (o).code.length cC5) (.slice AE5 (o).entries.length cE5)) 49)
  have L5 := Lib.hid (Blk.new w4 49 (obCells o (.slice AU5 (o).uses.length cU5) (.slice AD5 (o).descs.length cD5) (.slice AC5 (o).code.length cC5) (.slice AE5 (o).entries.length cE5)))
  replace L1 := Lib.hid (L1.out.below hb L1.out.lt)
  replace L2 := Lib.hid (L2.out.below hb L2.out.lt)
  replace P1 := Lib.hid (P1.out.below hb)
  replace P2 := Lib.hid (P2.out.below hb)
  replace P5 := Lib.hid (P5.out.below hb)
  replace BB := Lib.hid (BB.out.trans (hb.mono BB.out.size))
  clear hb
  have hi5 : RowKit.Hid ((Try.prog.info? 49).map (·.size) = some (obCells o (.slice AU5 (o).uses.length cU5) (.slice AD5 (o).descs.length cD5) (.slice AC5 (o).code.length cC5) (.slice AE5 (o).entries.length cE5)).size) := Lib.hid (by kernel_rfl)
  have hj5 : RowKit.Hid ((#[.string ⟨#[]⟩, .int .u32 0, .slice none 0 0, .slice none 0 0, .int .i64 0, .string ⟨#[]⟩, .slice none 0 0, .slice none 0 0, .int .i64 0, .int .i64 0] : Array Value).size = (obCells o (.slice AU5 (o).uses.length cU5) (.slice AD5 (o).descs.length cD5) (.slice AC5 (o).code.length cC5) (.slice AE5 (o).entries.length cE5)).size) := Lib.hid rfl
  have hk5 : RowKit.Hid ((obCells o (.slice AU5 (o).uses.length cU5) (.slice AD5 (o).descs.length cD5) (.slice AC5 (o).code.length cC5) (.slice AE5 (o).entries.length cE5)).all (·.oneCell') = true) := Lib.hid (by simp [obCells, Value.oneCell'])
  go_wp2_with (refine wpList_store_last rfl 49 (.tmp 5) (.tmp 14) rfl w4 (obCells o (.slice AU5 (o).uses.length cU5) (.slice AD5 (o).descs.length cD5) (.slice AC5 (o).code.length cC5) (.slice AE5 (o).entries.length cE5)) _ _ rfl rfl rfl hi5.out hj5.out hk5.out ?_)
  generalize w4.heap.size = g5 at *
  generalize hw5 : (w4.alloc (.cells (obCells o (.slice AU5 (o).uses.length cU5) (.slice AD5 (o).descs.length cD5) (.slice AC5 (o).code.length cC5) (.slice AE5 (o).entries.length cE5)) 49)) = w5 at *
  clear hw5
  have HS : RowKit.Hid (∀ V, Below w5.heap.size w5 V → Blk V W.heap.size 49 (obCells o (.slice AU1 (o).uses.length cU1) (.slice AD1 (o).descs.length cD1) (.slice AC1 (o).code.length cC1) (.slice AE1 (o).entries.length cE1)) ∧ Blk V (W.heap.size + 1) 49 (obCells p (.slice AU2 (p).uses.length cU2) (.slice AD2 (p).descs.length cD2) (.slice AC2 (p).code.length cC2) (.slice AE2 (p).entries.length cE2)) ∧ Blk V g5 49 (obCells o (.slice AU5 (o).uses.length cU5) (.slice AD5 (o).descs.length cD5) (.slice AC5 (o).code.length cC5) (.slice AE5 (o).entries.length cE5))) := Lib.hid (fun V h => ⟨L1.out.below h L1.out.lt, L2.out.below h L2.out.lt, L5.out.below h L5.out.lt⟩)
  have BA := BB
  have Q1 : RowKit.Hid (∀ V, Below w5.heap.size w5 V → ObParts V o (.slice AU1 (o).uses.length cU1) (.slice AD1 (o).descs.length cD1) (.slice AC1 (o).code.length cC1) (.slice AE1 (o).entries.length cE1)) := Lib.hid (fun V h => P1.out.below h)
  have Q2 : RowKit.Hid (∀ V, Below w5.heap.size w5 V → ObParts V p (.slice AU2 (p).uses.length cU2) (.slice AD2 (p).descs.length cD2) (.slice AC2 (p).code.length cC2) (.slice AE2 (p).entries.length cE2)) := Lib.hid (fun V h => P2.out.below h)
  have Q5 : RowKit.Hid (∀ V, Below w5.heap.size w5 V → ObParts V o (.slice AU5 (o).uses.length cU5) (.slice AD5 (o).descs.length cD5) (.slice AC5 (o).code.length cC5) (.slice AE5 (o).entries.length cE5)) := Lib.hid (fun V h => P5.out.below h)
  clear BB L1 L2 L5 P1 P2 P5
  refine wp_region_F (fun w' => Blk w' W.heap.size 49 (obCells o (.slice AU1 (o).uses.length cU1) (.slice AD1 (o).descs.length cD1) (.slice AC1 (o).code.length cC1) (.slice AE1 (o).entries.length cE1)) ∧ Blk w' (W.heap.size + 1) 49 (obCells p (.slice AU2 (p).uses.length cU2) (.slice AD2 (p).descs.length cD2) (.slice AC2 (p).code.length cC2) (.slice AE2 (p).entries.length cE2)) ∧ Blk w' g5 49 (obCells o (.slice AU5 (o).uses.length cU5) (.slice AD5 (o).descs.length cD5) (.slice AC5 (o).code.length cC5) (.slice AE5 (o).entries.length cE5))) 24 (by kernel_rfl) ?_
  have B := Lib.hid ((Below.refl w5.heap.size w5).drew)
  have S0 := HS.out _ B.out
  refine wpAnyF_takeY 0 rfl (by kernel_rfl) (by kernel_rfl) (by kernel_rfl) (by kernel_rfl) (fun _ _ _ h => h) (yieldsIf_load_mid rfl 49 (.tmp 5) rfl g5 0 rfl (obCells o (.slice AU5 (o).uses.length cU5) (.slice AD5 (o).descs.length cD5) (.slice AC5 (o).code.length cC5) (.slice AE5 (o).entries.length cE5)).toList _ (fun wS hSw => blk_range hSw.2.2) Try.underlying49 rfl (by kernel_rfl)) S0 ?_
  try simp only [Act.put, List.setIfInBounds_toArray, List.set_cons_zero, List.set_cons_succ]
  refine wpAnyF_takeY 2 rfl (by kernel_rfl) (by kernel_rfl) (by kernel_rfl) (by kernel_rfl) (fun _ _ _ h => h) (yieldsIf_load_mid rfl 49 (.tmp 2) rfl W.heap.size 0 rfl (obCells o (.slice AU1 (o).uses.length cU1) (.slice AD1 (o).descs.length cD1) (.slice AC1 (o).code.length cC1) (.slice AE1 (o).entries.length cE1)).toList _ (fun wS hSw => blk_range hSw.1) Try.underlying49 rfl (by kernel_rfl)) S0 ?_
  try simp only [Act.put, List.setIfInBounds_toArray, List.set_cons_zero, List.set_cons_succ]
  generalize hgd : goodO o = gd at *
  have hgdh := Lib.hid hgd
  clear hgd
  refine wpAnyF_ready [1] (by kernel_rfl) (by simp) (ReadyF.consL rfl (fun K hK => ?_) ReadyF.nil)
  go_simp
  refine (obj_good o (.slice AU5 (o).uses.length cU5) (.slice AD5 (o).descs.length cD5) (.slice AC5 (o).code.length cC5) (.slice AE5 (o).entries.length cE5) _ (Q5.out _ B.out) hf1h.out).mono ?_
  rintro e V1 ⟨he, hb⟩
  rw [hgdh.out] at he
  subst he
  have B' := Lib.hid (B.out.trans (hb.mono B.out.size))
  have S0' := HS.out _ B'.out
  refine hK.out _ _ (fun _ => S0') ?_
  clear hK K S0 B hb
  have B := B'
  have S0 := S0'
  clear B' S0'
  try simp only [Act.put, List.setIfInBounds_toArray, List.set_cons_zero, List.set_cons_succ]
  refine wpAnyF_ready [3] (by kernel_rfl) (by simp) (ReadyF.consL rfl (fun K hK => ?_) ReadyF.nil)
  go_simp
  refine (ref23_good o (.slice AU1 (o).uses.length cU1) (.slice AD1 (o).descs.length cD1) (.slice AC1 (o).code.length cC1) (.slice AE1 (o).entries.length cE1) _ (Q1.out _ B.out) hf1h.out).mono ?_
  rintro e V3 ⟨he, hb⟩
  rw [hgdh.out] at he
  subst he
  have B' := Lib.hid (B.out.trans (hb.mono B.out.size))
  have S0' := HS.out _ B'.out
  refine hK.out _ _ (fun _ => S0') ?_
  clear hK K S0 B hb
  have B := B'
  have S0 := S0'
  clear B' S0'
  try simp only [Act.put, List.setIfInBounds_toArray, List.set_cons_zero, List.set_cons_succ]
  refine wpAnyF_takeL 4 (v := ?_) rfl (by kernel_rfl) (by kernel_rfl) (by kernel_rfl) (by kernel_rfl) (fun _ _ _ h => h) (by rfl) ?_ S0 ?_
  rotate_left 1
  · (intro wS hSw; (try dsimp only at hSw); obtain ⟨hSa, hSb, hSc⟩ := hSw; go_simp; first | done | with_reducible rfl)
  try simp only [Act.put, List.setIfInBounds_toArray, List.set_cons_zero, List.set_cons_succ]
  refine wpAnyF_takeL 5 (v := ?_) rfl (by kernel_rfl) (by kernel_rfl) (by kernel_rfl) (by kernel_rfl) (fun _ _ _ h => h) (by rfl) ?_ S0 ?_
  rotate_left 1
  · (intro wS hSw; (try dsimp only at hSw); obtain ⟨hSa, hSb, hSc⟩ := hSw; go_simp; first | done | with_reducible rfl)
  try simp only [Act.put, List.setIfInBounds_toArray, List.set_cons_zero, List.set_cons_succ]
  refine wpAnyF_takeY 6 rfl (by kernel_rfl) (by kernel_rfl) (by kernel_rfl) (by kernel_rfl) (fun _ _ _ h => h) (yieldsIf_load_mid rfl 49 (.tmp 2) rfl W.heap.size 0 rfl (obCells o (.slice AU1 (o).uses.length cU1) (.slice AD1 (o).descs.length cD1) (.slice AC1 (o).code.length cC1) (.slice AE1 (o).entries.length cE1)).toList _ (fun wS hSw => blk_range hSw.1) Try.underlying49 rfl (by kernel_rfl)) S0 ?_
  try simp only [Act.put, List.setIfInBounds_toArray, List.set_cons_zero, List.set_cons_succ]
  refine wpAnyF_takeY 8 rfl (by kernel_rfl) (by kernel_rfl) (by kernel_rfl) (by kernel_rfl) (fun _ _ _ h => h) (yieldsIf_load_mid rfl 49 (.tmp 3) rfl (W.heap.size + 1) 0 rfl (obCells p (.slice AU2 (p).uses.length cU2) (.slice AD2 (p).descs.length cD2) (.slice AC2 (p).code.length cC2) (.slice AE2 (p).entries.length cE2)).toList _ (fun wS hSw => blk_range hSw.2.1) Try.underlying49 rfl (by kernel_rfl)) S0 ?_
  try simp only [Act.put, List.setIfInBounds_toArray, List.set_cons_zero, List.set_cons_succ]
  refine wpAnyF_takeY 11 rfl (by kernel_rfl) (by kernel_rfl) (by kernel_rfl) (by kernel_rfl) (fun _ _ _ h => h) (yieldsIf_load_mid rfl 49 (.tmp 2) rfl W.heap.size 0 rfl (obCells o (.slice AU1 (o).uses.length cU1) (.slice AD1 (o).descs.length cD1) (.slice AC1 (o).code.length cC1) (.slice AE1 (o).entries.length cE1)).toList _ (fun wS hSw => blk_range hSw.1) Try.underlying49 rfl (by kernel_rfl)) S0 ?_
  try simp only [Act.put, List.setIfInBounds_toArray, List.set_cons_zero, List.set_cons_succ]
  refine wpAnyF_takeY 12 rfl (by kernel_rfl) (by kernel_rfl) (by kernel_rfl) (by kernel_rfl) (fun _ _ _ h => h) (yieldsIf_load_mid rfl 49 (.tmp 3) rfl (W.heap.size + 1) 0 rfl (obCells p (.slice AU2 (p).uses.length cU2) (.slice AD2 (p).descs.length cD2) (.slice AC2 (p).code.length cC2) (.slice AE2 (p).entries.length cE2)).toList _ (fun wS hSw => blk_range hSw.2.1) Try.underlying49 rfl (by kernel_rfl)) S0 ?_
  try simp only [Act.put, List.setIfInBounds_toArray, List.set_cons_zero, List.set_cons_succ]
  refine wpAnyF_ready [7] (by kernel_rfl) (by simp) (ReadyF.consL rfl (fun K hK => ?_) ReadyF.nil)
  go_simp
  refine (ref23_copy o (.slice AU1 (o).uses.length cU1) (.slice AD1 (o).descs.length cD1) (.slice AC1 (o).code.length cC1) (.slice AE1 (o).entries.length cE1) _ (Q1.out _ B.out) hc1).mono ?_
  rintro e V7 ⟨vU7, vD7, vC7, vE7, rfl, hP7, hb⟩
  have B' := Lib.hid (B.out.trans (hb.mono B.out.size))
  have S0' := HS.out _ B'.out
  refine hK.out _ _ (fun _ => S0') ?_
  have P7 := Lib.hid hP7
  clear hP7
  clear hK K S0 B hb
  have B := B'
  have S0 := S0'
  clear B' S0'
  try simp only [Act.put, List.setIfInBounds_toArray, List.set_cons_zero, List.set_cons_succ]
  refine wpAnyF_ready [9] (by kernel_rfl) (by simp) (ReadyF.consL rfl (fun K hK => ?_) ReadyF.nil)
  go_simp
  refine (ref23_copy p (.slice AU2 (p).uses.length cU2) (.slice AD2 (p).descs.length cD2) (.slice AC2 (p).code.length cC2) (.slice AE2 (p).entries.length cE2) _ (Q2.out _ B.out) hc2).mono ?_
  rintro e V9 ⟨vU9, vD9, vC9, vE9, rfl, hP9, hb⟩
  have B' := Lib.hid (B.out.trans (hb.mono B.out.size))
  have S0' := HS.out _ B'.out
  refine hK.out _ _ (fun _ => S0') ?_
  have P9 := Lib.hid hP9
  have P7 := Lib.hid (P7.out.below hb)
  clear hP9
  clear hK K S0 B hb
  have B := B'
  have S0 := S0'
  clear B' S0'
  try simp only [Act.put, List.setIfInBounds_toArray, List.set_cons_zero, List.set_cons_succ]
  generalize hsm : sameO o p = sm at *
  have hsmh := Lib.hid hsm
  clear hsm
  refine wpAnyF_ready [10] (by kernel_rfl) (by simp) (ReadyF.consL rfl (fun K hK => ?_) ReadyF.nil)
  go_simp
  refine (obj_same o p _ _ _ _ _ _ _ _ _ P7.out P9.out).mono ?_
  rintro e V10 ⟨he, hb⟩
  rw [hsmh.out] at he
  subst he
  have B' := Lib.hid (B.out.trans (hb.mono B.out.size))
  have S0' := HS.out _ B'.out
  refine hK.out _ _ (fun _ => S0') ?_
  clear hK K S0 B hb
  have B := B'
  have S0 := S0'
  clear B' S0'
  try simp only [Act.put, List.setIfInBounds_toArray, List.set_cons_zero, List.set_cons_succ]
  refine wpAnyF_ready [13] (by kernel_rfl) (by simp) (ReadyF.consL rfl (fun K hK => ?_) ReadyF.nil)
  go_simp
  refine (ref23_same o p _ _ _ _ _ _ _ _ _ (Q1.out _ B.out) (Q2.out _ B.out)).mono ?_
  rintro e V13 ⟨he, hb⟩
  rw [hsmh.out] at he
  subst he
  have B' := Lib.hid (B.out.trans (hb.mono B.out.size))
  have S0' := HS.out _ B'.out
  refine hK.out _ _ (fun _ => S0') ?_
  clear hK K S0 B hb
  have B := B'
  have S0 := S0'
  clear B' S0'
  try simp only [Act.put, List.setIfInBounds_toArray, List.set_cons_zero, List.set_cons_succ]
  refine wpAnyF_takeL 14 (v := ?_) rfl (by kernel_rfl) (by kernel_rfl) (by kernel_rfl) (by kernel_rfl) (fun _ _ _ h => h) (by rfl) ?_ S0 ?_
  rotate_left 1
  · (intro wS hSw; (try dsimp only at hSw); obtain ⟨hSa, hSb, hSc⟩ := hSw; go_simp; first | done | with_reducible rfl)
  try simp only [Act.put, List.setIfInBounds_toArray, List.set_cons_zero, List.set_cons_succ]
  refine wpAnyF_takeL 15 (v := ?_) rfl (by kernel_rfl) (by kernel_rfl) (by kernel_rfl) (by kernel_rfl) (fun _ _ _ h => h) (by rfl) ?_ S0 ?_
  rotate_left 1
  · (intro wS hSw; (try dsimp only at hSw); obtain ⟨hSa, hSb, hSc⟩ := hSw; go_simp; first | done | with_reducible rfl)
  try simp only [Act.put, List.setIfInBounds_toArray, List.set_cons_zero, List.set_cons_succ]
  refine wpAnyF_takeL 16 (v := ?_) rfl (by kernel_rfl) (by kernel_rfl) (by kernel_rfl) (by kernel_rfl) (fun _ _ _ h => h) (by rfl) ?_ S0 ?_
  rotate_left 1
  · (intro wS hSw; (try dsimp only at hSw); obtain ⟨hSa, hSb, hSc⟩ := hSw; go_simp; first | done | with_reducible rfl)
  try simp only [Act.put, List.setIfInBounds_toArray, List.set_cons_zero, List.set_cons_succ]
  refine wpAnyF_takeY 17 rfl (by kernel_rfl) (by kernel_rfl) (by kernel_rfl) (by kernel_rfl) (fun _ _ _ h => h) (yieldsIf_load_mid rfl 49 (.tmp 5) rfl g5 0 rfl (obCells o (.slice AU5 (o).uses.length cU5) (.slice AD5 (o).descs.length cD5) (.slice AC5 (o).code.length cC5) (.slice AE5 (o).entries.length cE5)).toList _ (fun wS hSw => blk_range hSw.2.2) Try.underlying49 rfl (by kernel_rfl)) S0 ?_
  try simp only [Act.put, List.setIfInBounds_toArray, List.set_cons_zero, List.set_cons_succ]
  refine wpAnyF_takeY 18 rfl (by kernel_rfl) (by kernel_rfl) (by kernel_rfl) (by kernel_rfl) (fun _ _ _ h => h) (yieldsIf_load_mid rfl 49 (.tmp 2) rfl W.heap.size 0 rfl (obCells o (.slice AU1 (o).uses.length cU1) (.slice AD1 (o).descs.length cD1) (.slice AC1 (o).code.length cC1) (.slice AE1 (o).entries.length cE1)).toList _ (fun wS hSw => blk_range hSw.1) Try.underlying49 rfl (by kernel_rfl)) S0 ?_
  try simp only [Act.put, List.setIfInBounds_toArray, List.set_cons_zero, List.set_cons_succ]
  refine wpAnyF_ready [19] (by kernel_rfl) (by simp) (ReadyF.consL rfl (fun K hK => ?_) ReadyF.nil)
  go_simp
  refine (law23_self o _ _ _ _ _ _ _ _ _ (Q5.out _ B.out) (Q1.out _ B.out)).mono ?_
  rintro e V19 ⟨rfl, hb⟩
  have B' := Lib.hid (B.out.trans (hb.mono B.out.size))
  have S0' := HS.out _ B'.out
  refine hK.out _ _ (fun _ => S0') ?_
  clear hK K S0 B hb
  have B := B'
  have S0 := S0'
  clear B' S0'
  try simp only [Act.put, List.setIfInBounds_toArray, List.set_cons_zero, List.set_cons_succ]
  refine wpAnyF_takeL 20 (v := ?_) rfl (by kernel_rfl) (by kernel_rfl) (by kernel_rfl) (by kernel_rfl) (fun _ _ _ h => h) (by rfl) ?_ S0 ?_
  rotate_left 1
  · (intro wS hSw; (try dsimp only at hSw); obtain ⟨hSa, hSb, hSc⟩ := hSw; go_simp; first | done | with_reducible rfl)
  try simp only [Act.put, List.setIfInBounds_toArray, List.set_cons_zero, List.set_cons_succ]
  refine wpAnyF_takeL 21 (v := ?_) rfl (by kernel_rfl) (by kernel_rfl) (by kernel_rfl) (by kernel_rfl) (fun _ _ _ h => h) (by rfl) ?_ S0 ?_
  rotate_left 1
  · (intro wS hSw; (try dsimp only at hSw); obtain ⟨hSa, hSb, hSc⟩ := hSw; go_simp; first | done | with_reducible rfl)
  try simp only [Act.put, List.setIfInBounds_toArray, List.set_cons_zero, List.set_cons_succ]
  refine wpAnyF_ready [22] (by kernel_rfl) (by simp) (ReadyF.consL rfl (fun K hK => ?_) ReadyF.nil)
  go_simp
  refine (law23_wakes _).mono ?_
  rintro e V22 ⟨rfl, hb⟩
  have B' := Lib.hid (B.out.trans (hb.mono B.out.size))
  have S0' := HS.out _ B'.out
  refine hK.out _ _ (fun _ => S0') ?_
  clear hK K S0 B hb
  have B := B'
  have S0 := S0'
  clear B' S0'
  try simp only [Act.put, List.setIfInBounds_toArray, List.set_cons_zero, List.set_cons_succ]
  refine wpAnyF_takeL 23 (v := ?_) rfl (by kernel_rfl) (by kernel_rfl) (by kernel_rfl) (by kernel_rfl) (fun _ _ _ h => h) (by rfl) ?_ S0 ?_
  rotate_left 1
  · (intro wS hSw; (try dsimp only at hSw); obtain ⟨hSa, hSb, hSc⟩ := hSw; go_simp; first | done | with_reducible rfl)
  try simp only [Act.put, List.setIfInBounds_toArray, List.set_cons_zero, List.set_cons_succ]
  refine wpAnyF_ready [24] (by kernel_rfl) (by simp) (ReadyF.consL rfl (fun K hK => ?_) ReadyF.nil)
  go_simp
  refine hK.out _ _ (fun h => absurd rfl h) ?_
  clear hK K
  try simp only [Act.put, List.setIfInBounds_toArray, List.set_cons_zero, List.set_cons_succ]
  refine wpAnyF_done (by kernel_rfl) ?_ _
  go_wp2_with fail
  go_ret
  exact ⟨rfl, BA.out.trans (B.out.mono BA.out.size)⟩

end Go.Proofs.Ytceflhffilldeaa
