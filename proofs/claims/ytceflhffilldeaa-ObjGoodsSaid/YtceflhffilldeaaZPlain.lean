/-
  The statements' Plain and what wakes, walked.
-/
import Derived.Test.YtceflhffilldeaaZLarge
import Derived.Test.YtceflhffilldeaaZEncD
import Derived.Test.YtceflhffilldeaaZDecD
import Derived.Test.YtceflhffilldeaaZRiscDec
import Derived.Test.YtceflhffilldeaaZKept
import Derived.Test.YtceflhffilldeaaZLaw
import Derived.Deep.MidRow
import Derived.Deep.AppendLies
import Derived.Deep.Onto
import Derived.OwnWalk
import Derived.Laws.IdiomStrings
namespace Go.Proofs.Ytceflhffilldeaa
set_option linter.unusedVariables false
set_option linter.unusedSimpArgs false
open Go.RowKit ObjL

theorem row_one {k : IntKind} {w : World} {g : Nat} {t : TypeId} {x : Int} (h : Blk w g t #[.int k x]) : Row k w (.slice (some ⟨g, 0, none⟩) 1 1) [x] :=
  ⟨by simp, some ⟨g, 0, none⟩, 1, rfl, fun i hi => ⟨⟨g, 0, none⟩, rfl, h.lt, by
    have : i = 0 := by simp at hi; omega
    subst this
    exact h.cell 0⟩⟩
set_option maxRecDepth 100000 in
theorem law23_plain (w : World) :
    Calls Try.prog 38 #[] w fun e w' => ∃ vC vE, e = .returned (.agg (obCells plainOb nilS nilS vC vE)) ∧ ObParts w' plainOb nilS nilS vC vE ∧ Below w.heap.size w w' := by
  have ZB := Lib.hid (Blk.new w 49 #[.string ⟨#[]⟩, .int .u32 0, .slice none 0 0, .slice none 0 0, .int .i64 0, .string ⟨#[]⟩, .slice none 0 0, .slice none 0 0, .int .i64 0, .int .i64 0])
  have BZ := Lib.hid ((Below.refl w.heap.size w).alloc (Nat.le_refl _) (.cells #[.string ⟨#[]⟩, .int .u32 0, .slice none 0 0, .slice none 0 0, .int .i64 0, .string ⟨#[]⟩, .slice none 0 0, .slice none 0 0, .int .i64 0, .int .i64 0] 49))
  have hs0 : (w.alloc (.cells #[.string ⟨#[]⟩, .int .u32 0, .slice none 0 0, .slice none 0 0, .int .i64 0, .string ⟨#[]⟩, .slice none 0 0, .slice none 0 0, .int .i64 0, .int .i64 0] 49)).heap.size = w.heap.size + 1 := by simp
  go_enter Try.func38, Try.ntmps38
  go_upto_region 1 with fail
  generalize w.alloc (.cells #[.string ⟨#[]⟩, .int .u32 0, .slice none 0 0, .slice none 0 0, .int .i64 0, .string ⟨#[]⟩, .slice none 0 0, .slice none 0 0, .int .i64 0, .int .i64 0] 49) = w0 at *
  have Z1 := ZB.out.alloc (.cells #[.int .u32 3338665999] 43)
  have C1 := Blk.new w0 43 #[.int .u32 3338665999]
  rw [hs0] at C1
  have hz1 : w.heap.size ≤ w0.heap.size := BZ.out.size
  have X1 := BZ.out.alloc hz1 (.cells #[.int .u32 3338665999] 43)
  have hs1 : (w0.alloc (.cells #[.int .u32 3338665999] 43)).heap.size = w.heap.size + 2 := by simp [hs0]
  have Z1 := Lib.hid Z1
  have C1 := Lib.hid C1
  have X1 := Lib.hid X1
  refine wp_region_lit ?_
  refine wpList_plain rfl (fun K6 hK6 => ?_)
  go_simp
  refine hK6 _ _ ?_
  clear hK6 K6
  try rw [hs0]
  generalize w0.alloc (.cells #[.int .u32 3338665999] 43) = w1 at *
  have Z2 := Lib.hid (Z1.out.alloc (.cells #[.int .i64 0] 3))
  have C2 := Lib.hid (C1.out.alloc (.cells #[.int .i64 0] 3))
  have E2 := Blk.new w1 3 #[.int .i64 0]
  rw [hs1] at E2
  have E2 := Lib.hid E2
  have X2 := Lib.hid (X1.out.alloc (by omega) (.cells #[.int .i64 0] 3))
  refine wpList_plain rfl (fun K6 hK6 => ?_)
  go_simp
  refine hK6 _ _ ?_
  clear hK6 K6
  try rw [hs1]
  generalize w1.alloc (.cells #[.int .i64 0] 3) = w2 at *
  refine wpList_build rfl 49 _ rfl (by kernel_rfl) ?_
  refine wpList_store_row rfl 49 (.tmp 0) (.tmp 3) rfl w.heap.size #[.string (txt [65]), .int .u32 1, .slice none 0 0, .slice none 0 0, .int .i64 0, .string (txt []), .slice (some ⟨w.heap.size + 1, 0, none⟩) 1 1, .slice (some ⟨w.heap.size + 2, 0, none⟩) 1 1, .int .i64 (-1), .int .i64 (-1)] rfl (by kernel_rfl) 49 _ Z2.out (by kernel_rfl) rfl (by kernel_rfl) ?_
  try simp only [Act.put, List.setIfInBounds_toArray, List.set_cons_zero, List.set_cons_succ]
  have hb := Lib.hid (below_setRow X2.out (Nat.le_refl _) #[.string (txt [65]), .int .u32 1, .slice none 0 0, .slice none 0 0, .int .i64 0, .string (txt []), .slice (some ⟨w.heap.size + 1, 0, none⟩) 1 1, .slice (some ⟨w.heap.size + 2, 0, none⟩) 1 1, .int .i64 (-1), .int .i64 (-1)])
  have hg := setRow_heap _ w.heap.size _ #[.string (txt [65]), .int .u32 1, .slice none 0 0, .slice none 0 0, .int .i64 0, .string (txt []), .slice (some ⟨w.heap.size + 1, 0, none⟩) 1 1, .slice (some ⟨w.heap.size + 2, 0, none⟩) 1 1, .int .i64 (-1), .int .i64 (-1)] 49 (0, 0) Z2.out
  have KS := (KeepB.refl (fun t => t == 49) w2).setRow_ Z2.out (by decide) #[.string (txt [65]), .int .u32 1, .slice none 0 0, .slice none 0 0, .int .i64 0, .string (txt []), .slice (some ⟨w.heap.size + 1, 0, none⟩) 1 1, .slice (some ⟨w.heap.size + 2, 0, none⟩) 1 1, .int .i64 (-1), .int .i64 (-1)]
  have hP := Lib.hid (show ObParts (w2.setRow w.heap.size #[.string (txt [65]), .int .u32 1, .slice none 0 0, .slice none 0 0, .int .i64 0, .string (txt []), .slice (some ⟨w.heap.size + 1, 0, none⟩) 1 1, .slice (some ⟨w.heap.size + 2, 0, none⟩) 1 1, .int .i64 (-1), .int .i64 (-1)]) plainOb nilS nilS (.slice (some ⟨w.heap.size + 1, 0, none⟩) 1 1) (.slice (some ⟨w.heap.size + 2, 0, none⟩) 1 1) from
    ⟨RowOf.nil_, RowOf.nil_, row_one (C2.out.keepB KS (by decide)), row_one (E2.out.keepB KS (by decide))⟩)
  clear KS
  generalize World.setRow _ _ _ = Wz at *
  have hl := run_loadVar_row Wz w.heap.size 49 49 _ (0, 0) _ hg Try.underlying49 rfl (by kernel_rfl)
  have hl := Lib.hid hl
  clear hg
  go_wp2_with fail
  have hl := hl.out
  refine bodyPost_ret (v := .agg #[.string (txt [65]), .int .u32 1, .slice none 0 0, .slice none 0 0, .int .i64 0, .string (txt []), .slice (some ⟨w.heap.size + 1, 0, none⟩) 1 1, .slice (some ⟨w.heap.size + 2, 0, none⟩) 1 1, .int .i64 (-1), .int .i64 (-1)]) ?_ rfl ⟨_, _, rfl, hP.out, hb.out⟩
  simp only [results, Try.results38]
  simp [hl, asAddr, obCells]
  try rfl

theorem enc_plain : encRes true plainOb = .tuple #[.string (txt (encO plainOb)), .int .i64 0] := by
  unfold encRes
  rw [if_pos rfl, if_neg (by rw [plain_len]; decide)]
theorem dec_plain : decO (encO plainOb) = some plainOb := decO_enc plain_good (by rw [plain_len]; decide)
theorem plain_fine : ObFine plainOb := ⟨by decide, by decide, by simp [plainOb], by simp [plainOb], by simp [plainOb, I64], by decide, by simp [plainOb], by simp [plainOb, I64], by simp [plainOb, I64], by simp [plainOb, I64]⟩
theorem none_fine : ObFine zeroOb := ⟨by decide, by decide, by simp [zeroOb], by simp [zeroOb], by simp [zeroOb, I64], by decide, by simp [zeroOb], by simp [zeroOb, I64], by simp [zeroOb, I64], by simp [zeroOb, I64]⟩
theorem none_parts (w : World) : ObParts w zeroOb nilS nilS nilS nilS := ⟨RowOf.nil_, RowOf.nil_, Row.nil_, Row.nil_⟩
theorem law23_bad_good (w : World) : Calls Try.prog 31 #[.agg #[.string ⟨#[]⟩, .int .u32 0, .slice none 0 0, .slice none 0 0, .int .i64 0, .string ⟨#[]⟩, .slice none 0 0, .slice none 0 0, .int .i64 0, .int .i64 0]] w fun e w' => e = .returned (.bool false) ∧ Below w.heap.size w w' :=
  (obj_good zeroOb nilS nilS nilS nilS w (none_parts w) none_fine).mono fun e w' h => ⟨h.1.trans (by rw [show goodO zeroOb = false from none_good]), h.2⟩
theorem law23_encode (o : Ob) (vU vD vC vE : Value) (w : World) (hp : ObParts w o vU vD vC vE) (hf : ObFine o) :
    Calls Try.prog 26 #[.agg (obCells o vU vD vC vE)] w fun e w' => e = .returned (encRes (goodO o) o) ∧ Below w.heap.size w w' :=
  obj_encode o vU vD vC vE w hp (goodO o) good_wr (fun W h => obj_good o vU vD vC vE W h hf)
set_option maxRecDepth 100000 in
set_option maxHeartbeats 2000000 in
theorem law23_wakes (w : World) :
    Calls Try.prog 24 #[] w fun e w' => e = .returned (.bool true) ∧ Below w.heap.size w w' := by
  go_enter Try.func24, Try.ntmps24
  go_wp2_with fail
  refine (law23_plain w).mono ?_
  rintro e w1 ⟨vC, vE, rfl, hP1, hb1⟩
  have EN := law23_encode plainOb nilS nilS vC vE w1 hP1 plain_fine
  rw [plain_good, enc_plain] at EN
  have hlen := plain_len
  have hdec := Lib.hid dec_plain
  have EN := Lib.hid EN
  have hb1h := Lib.hid hb1
  clear hP1 hb1
  generalize encO plainOb = ep at *
  go_wp2_with fail
  refine EN.out.mono ?_
  rintro e w2 ⟨rfl, hb2⟩
  have hb2h := Lib.hid (hb1h.out.trans (hb2.mono hb1h.out.size))
  have DE := Lib.hid (obj_decode ep w2 (by omega))
  clear EN hb2 hb1h
  go_wp2_with fail
  refine DE.out.mono ?_
  rintro e w3 ⟨hend, hb3⟩
  clear DE
  have hb3h := Lib.hid (hb2h.out.trans (hb3.mono hb2h.out.size))
  clear hb3 hb2h
  rcases hend with ⟨o, vU, vD, vC2, vE2, hd, hf, rfl, hP3⟩ | ⟨hd, rfl⟩
  case inr => rw [hdec.out] at hd; cases hd
  obtain rfl : plainOb = o := by rw [hdec.out] at hd; injection hd
  have hP3h := Lib.hid hP3
  obtain ⟨⟨-, AU, cU, rfl, -⟩, ⟨-, AD, cD, rfl, -⟩, ⟨-, AC, cC, rfl, -⟩, ⟨-, AE, cE, rfl, -⟩⟩ := hP3
  clear hd hf hdec
  have hszp := txt_size ep
  rw [hlen] at hszp
  have hcl : obCells plainOb (.slice AU plainOb.uses.length cU) (.slice AD plainOb.descs.length cD) (.slice AC plainOb.code.length cC) (.slice AE plainOb.entries.length cE) = #[.string (txt [65]), .int .u32 1, .slice AU 0 cU, .slice AD 0 cD, .int .i64 0, .string (txt []), .slice AC 1 cC, .slice AE 1 cE, .int .i64 (-1), .int .i64 (-1)] := rfl
  rw [hcl]
  clear hcl hlen
  have ZB := Lib.hid (Blk.new w3 49 #[.string (txt [65]), .int .u32 1, .slice AU 0 cU, .slice AD 0 cD, .int .i64 0, .string (txt []), .slice AC 1 cC, .slice AE 1 cE, .int .i64 (-1), .int .i64 (-1)])
  have BZ := Lib.hid (hb3h.out.alloc hb3h.out.size (.cells #[.string (txt [65]), .int .u32 1, .slice AU 0 cU, .slice AD 0 cD, .int .i64 0, .string (txt []), .slice AC 1 cC, .slice AE 1 cE, .int .i64 (-1), .int .i64 (-1)] 49))
  have PZ := Lib.hid (hP3h.out.below ((Below.refl w3.heap.size w3).alloc (Nat.le_refl _) (.cells #[.string (txt [65]), .int .u32 1, .slice AU 0 cU, .slice AD 0 cD, .int .i64 0, .string (txt []), .slice AC 1 cC, .slice AE 1 cE, .int .i64 (-1), .int .i64 (-1)] 49)))
  have hi : RowKit.Hid ((Try.prog.info? 49).map (·.size) = some (#[.string (txt [65]), .int .u32 1, .slice AU 0 cU, .slice AD 0 cD, .int .i64 0, .string (txt []), .slice AC 1 cC, .slice AE 1 cE, .int .i64 (-1), .int .i64 (-1)] : Array Value).size) := Lib.hid (by kernel_rfl)
  go_wp2_with (refine wpList_store_last rfl 49 (.tmp 3) (.tmp 13) rfl w3 #[.string (txt [65]), .int .u32 1, .slice AU 0 cU, .slice AD 0 cD, .int .i64 0, .string (txt []), .slice AC 1 cC, .slice AE 1 cE, .int .i64 (-1), .int .i64 (-1)] _ _ rfl rfl rfl hi.out rfl rfl ?_)
  generalize w3.alloc (.cells #[.string (txt [65]), .int .u32 1, .slice AU 0 cU, .slice AD 0 cD, .int .i64 0, .string (txt []), .slice AC 1 cC, .slice AE 1 cE, .int .i64 (-1), .int .i64 (-1)] 49) = w4 at *
  generalize w3.heap.size = g at *
  have HS : ∀ V, Below w4.heap.size w4 V → V.cell? ⟨g, 0, none⟩ = some (.string (txt [65])) ∧ V.cell? ⟨g, 1, none⟩ = some (.int .u32 1) ∧ V.cell? ⟨g, 2, none⟩ = some (.slice AU 0 cU) ∧ V.cell? ⟨g, 3, none⟩ = some (.slice AD 0 cD) ∧ V.cell? ⟨g, 4, none⟩ = some (.int .i64 0) ∧ V.cell? ⟨g, 5, none⟩ = some (.string (txt [])) ∧ V.cell? ⟨g, 6, none⟩ = some (.slice AC 1 cC) ∧ V.cell? ⟨g, 7, none⟩ = some (.slice AE 1 cE) ∧ V.cell? ⟨g, 8, none⟩ = some (.int .i64 (-1)) ∧ V.cell? ⟨g, 9, none⟩ = some (.int .i64 (-1)) := fun V h => by
    have h1 := ZB.out.below h ZB.out.lt
    exact ⟨h1.cell 0, h1.cell 1, h1.cell 2, h1.cell 3, h1.cell 4, h1.cell 5, h1.cell 6, h1.cell 7, h1.cell 8, h1.cell 9⟩
  refine wp_region_F (fun w' => w'.cell? ⟨g, 0, none⟩ = some (.string (txt [65])) ∧ w'.cell? ⟨g, 1, none⟩ = some (.int .u32 1) ∧ w'.cell? ⟨g, 2, none⟩ = some (.slice AU 0 cU) ∧ w'.cell? ⟨g, 3, none⟩ = some (.slice AD 0 cD) ∧ w'.cell? ⟨g, 4, none⟩ = some (.int .i64 0) ∧ w'.cell? ⟨g, 5, none⟩ = some (.string (txt [])) ∧ w'.cell? ⟨g, 6, none⟩ = some (.slice AC 1 cC) ∧ w'.cell? ⟨g, 7, none⟩ = some (.slice AE 1 cE) ∧ w'.cell? ⟨g, 8, none⟩ = some (.int .i64 (-1)) ∧ w'.cell? ⟨g, 9, none⟩ = some (.int .i64 (-1))) 21 (by kernel_rfl) ?_
  have S0 := HS _ (Below.refl w4.heap.size w4).drew
  have B0 := Lib.hid ((Below.refl w4.heap.size w4).drew)
  refine wpAnyF_takeL 0 (v := ?_) rfl (by kernel_rfl) (by kernel_rfl) (by kernel_rfl) (by kernel_rfl) (fun _ _ _ h => h) (by rfl) ?_ S0 ?_
  rotate_left 1
  · (intro wS hSw; (try dsimp only at hSw); obtain ⟨hSa, hSb, hSc, hSd, hSe, hSf, hSg⟩ := hSw; go_simp; first | done | with_reducible rfl)
  try simp only [Act.put, List.setIfInBounds_toArray, List.set_cons_zero, List.set_cons_succ]
  refine wpAnyF_takeL 1 (v := ?_) rfl (by kernel_rfl) (by kernel_rfl) (by kernel_rfl) (by kernel_rfl) (fun _ _ _ h => h) (by rfl) ?_ S0 ?_
  rotate_left 1
  · (intro wS hSw; (try dsimp only at hSw); obtain ⟨hSa, hSb, hSc, hSd, hSe, hSf, hSg⟩ := hSw; go_simp; first | done | with_reducible rfl)
  try simp only [Act.put, List.setIfInBounds_toArray, List.set_cons_zero, List.set_cons_succ]
  refine wpAnyF_takeL 2 (v := ?_) rfl (by kernel_rfl) (by kernel_rfl) (by kernel_rfl) (by kernel_rfl) (fun _ _ _ h => h) (by rfl) ?_ S0 ?_
  rotate_left 1
  · (intro wS hSw; (try dsimp only at hSw); obtain ⟨hSa, hSb, hSc, hSd, hSe, hSf, hSg⟩ := hSw; go_simp; first | done | with_reducible rfl)
  try simp only [Act.put, List.setIfInBounds_toArray, List.set_cons_zero, List.set_cons_succ]
  refine wpAnyF_takeL 3 (v := ?_) rfl (by kernel_rfl) (by kernel_rfl) (by kernel_rfl) (by kernel_rfl) (fun _ _ _ h => h) (by rfl) ?_ S0 ?_
  rotate_left 1
  · (intro wS hSw; (try dsimp only at hSw); obtain ⟨hSa, hSb, hSc, hSd, hSe, hSf, hSg⟩ := hSw; go_simp; first | done | with_reducible rfl)
  try simp only [Act.put, List.setIfInBounds_toArray, List.set_cons_zero, List.set_cons_succ]
  refine wpAnyF_takeL 4 (v := ?_) rfl (by kernel_rfl) (by kernel_rfl) (by kernel_rfl) (by kernel_rfl) (fun _ _ _ h => h) (by rfl) ?_ S0 ?_
  rotate_left 1
  · (intro wS hSw; (try dsimp only at hSw); obtain ⟨hSa, hSb, hSc, hSd, hSe, hSf, hSg⟩ := hSw; go_simp; first | done | with_reducible rfl)
  try simp only [Act.put, List.setIfInBounds_toArray, List.set_cons_zero, List.set_cons_succ]
  refine wpAnyF_takeL 5 (v := ?_) rfl (by kernel_rfl) (by kernel_rfl) (by kernel_rfl) (by kernel_rfl) (fun _ _ _ h => h) (by rfl) ?_ S0 ?_
  rotate_left 1
  · (intro wS hSw; (try dsimp only at hSw); obtain ⟨hSa, hSb, hSc, hSd, hSe, hSf, hSg⟩ := hSw; go_simp; first | done | with_reducible rfl)
  try simp only [Act.put, List.setIfInBounds_toArray, List.set_cons_zero, List.set_cons_succ]
  refine wpAnyF_takeL 6 (v := ?_) rfl (by kernel_rfl) (by kernel_rfl) (by kernel_rfl) (by kernel_rfl) (fun _ _ _ h => h) (by rfl) ?_ S0 ?_
  rotate_left 1
  · (intro wS hSw; (try dsimp only at hSw); obtain ⟨hSa, hSb, hSc, hSd, hSe, hSf, hSg⟩ := hSw; go_simp; first | done | with_reducible rfl)
  try simp only [Act.put, List.setIfInBounds_toArray, List.set_cons_zero, List.set_cons_succ]
  refine wpAnyF_takeL 7 (v := ?_) rfl (by kernel_rfl) (by kernel_rfl) (by kernel_rfl) (by kernel_rfl) (fun _ _ _ h => h) (by rfl) ?_ S0 ?_
  rotate_left 1
  · (intro wS hSw; (try dsimp only at hSw); obtain ⟨hSa, hSb, hSc, hSd, hSe, hSf, hSg⟩ := hSw; go_simp; first | done | with_reducible rfl)
  try simp only [Act.put, List.setIfInBounds_toArray, List.set_cons_zero, List.set_cons_succ]
  refine wpAnyF_takeL 8 (v := ?_) rfl (by kernel_rfl) (by kernel_rfl) (by kernel_rfl) (by kernel_rfl) (fun _ _ _ h => h) (by rfl) ?_ S0 ?_
  rotate_left 1
  · (intro wS hSw; (try dsimp only at hSw); obtain ⟨hSa, hSb, hSc, hSd, hSe, hSf, hSg⟩ := hSw; go_simp; first | done | with_reducible rfl)
  try simp only [Act.put, List.setIfInBounds_toArray, List.set_cons_zero, List.set_cons_succ]
  refine wpAnyF_takeL 9 (v := ?_) rfl (by kernel_rfl) (by kernel_rfl) (by kernel_rfl) (by kernel_rfl) (fun _ _ _ h => h) (by rfl) ?_ S0 ?_
  rotate_left 1
  · (intro wS hSw; (try dsimp only at hSw); obtain ⟨hSa, hSb, hSc, hSd, hSe, hSf, hSg⟩ := hSw; go_simp; first | done | with_reducible rfl)
  try simp only [Act.put, List.setIfInBounds_toArray, List.set_cons_zero, List.set_cons_succ]
  refine wpAnyF_takeL 10 (v := ?_) rfl (by kernel_rfl) (by kernel_rfl) (by kernel_rfl) (by kernel_rfl) (fun _ _ _ h => h) (by rfl) ?_ S0 ?_
  rotate_left 1
  · (intro wS hSw; (try dsimp only at hSw); obtain ⟨hSa, hSb, hSc, hSd, hSe, hSf, hSg⟩ := hSw; go_simp; first | done | with_reducible rfl)
  try simp only [Act.put, List.setIfInBounds_toArray, List.set_cons_zero, List.set_cons_succ]
  refine wpAnyF_takeL 11 (v := ?_) rfl (by kernel_rfl) (by kernel_rfl) (by kernel_rfl) (by kernel_rfl) (fun _ _ _ h => h) (by rfl) ?_ S0 ?_
  rotate_left 1
  · (intro wS hSw; (try dsimp only at hSw); obtain ⟨hSa, hSb, hSc, hSd, hSe, hSf, hSg⟩ := hSw; go_simp; first | done | with_reducible rfl)
  try simp only [Act.put, List.setIfInBounds_toArray, List.set_cons_zero, List.set_cons_succ]
  refine wpAnyF_takeL 12 (v := ?_) rfl (by kernel_rfl) (by kernel_rfl) (by kernel_rfl) (by kernel_rfl) (fun _ _ _ h => h) (by rfl) ?_ S0 ?_
  rotate_left 1
  · (intro wS hSw; (try dsimp only at hSw); obtain ⟨hSa, hSb, hSc, hSd, hSe, hSf, hSg⟩ := hSw; go_simp; first | done | with_reducible rfl)
  try simp only [Act.put, List.setIfInBounds_toArray, List.set_cons_zero, List.set_cons_succ]
  refine wpAnyF_ready [13] (by kernel_rfl) (by simp) (ReadyF.consL rfl (fun K hK => ?_) ReadyF.nil)
  go_simp
  refine (law23_plain w4.drew).mono ?_
  rintro e w5 ⟨vC3, vE3, rfl, hP5, hb5⟩
  have B5 := Lib.hid (B0.out.trans (hb5.mono B0.out.size))
  have SM := ref23_same plainOb plainOb (.slice AU 0 cU) (.slice AD 0 cD) (.slice AC 1 cC) (.slice AE 1 cE) nilS nilS vC3 vE3 w5 (PZ.out.below B5.out) hP5
  rw [sameO_self] at SM
  have SM := Lib.hid SM
  have S1 := HS _ B5.out
  refine hK.out _ _ (fun _ => S1) ?_
  clear hK K S0 B0 hP5 hb5
  try simp only [Act.put, List.setIfInBounds_toArray, List.set_cons_zero, List.set_cons_succ]
  refine wpAnyF_ready [14] (by kernel_rfl) (by simp) (ReadyF.consL rfl (fun K hK => ?_) ReadyF.nil)
  go_simp
  refine SM.out.mono ?_
  rintro e w6 ⟨rfl, hb6⟩
  have B6 := Lib.hid (B5.out.trans (hb6.mono B5.out.size))
  have S2 := HS _ B6.out
  refine hK.out _ _ (fun _ => S2) ?_
  clear hK K S1 B5 hb6 SM
  try simp only [Act.put, List.setIfInBounds_toArray, List.set_cons_zero, List.set_cons_succ]
  refine wpAnyF_takeL 15 (v := ?_) rfl (by kernel_rfl) (by kernel_rfl) (by kernel_rfl) (by kernel_rfl) (fun _ _ _ h => h) (by rfl) ?_ S2 ?_
  rotate_left 1
  · (intro wS hSw; (try dsimp only at hSw); obtain ⟨hSa, hSb, hSc, hSd, hSe, hSf, hSg⟩ := hSw; go_simp; first | done | with_reducible rfl)
  try simp only [Act.put, List.setIfInBounds_toArray, List.set_cons_zero, List.set_cons_succ]
  refine wpAnyF_takeL 16 (v := ?_) rfl (by kernel_rfl) (by kernel_rfl) (by kernel_rfl) (by kernel_rfl) (fun _ _ _ h => h) (by rfl) ?_ S2 ?_
  rotate_left 1
  · (intro wS hSw; (try dsimp only at hSw); obtain ⟨hSa, hSb, hSc, hSd, hSe, hSf, hSg⟩ := hSw; go_simp; first | done | with_reducible rfl)
  try simp only [Act.put, List.setIfInBounds_toArray, List.set_cons_zero, List.set_cons_succ]
  refine wpAnyF_ready [17] (by kernel_rfl) (by simp) (ReadyF.consL rfl (fun K hK => ?_) ReadyF.nil)
  go_simp
  refine hK.out _ _ (fun _ => S2) ?_
  clear hK K
  try simp only [Act.put, List.setIfInBounds_toArray, List.set_cons_zero, List.set_cons_succ]
  refine wpAnyF_ready [18] (by kernel_rfl) (by simp) (ReadyF.consL rfl (fun K hK => ?_) ReadyF.nil)
  go_simp
  have hbu : (Try.prog.built 49 []).getD #[] = #[.string ⟨#[]⟩, .int .u32 0, .slice none 0 0, .slice none 0 0, .int .i64 0, .string ⟨#[]⟩, .slice none 0 0, .slice none 0 0, .int .i64 0, .int .i64 0] := by kernel_rfl
  try rw [hbu]
  refine (law23_bad_good w6).mono ?_
  rintro e w7 ⟨rfl, hb7⟩
  have B7 := Lib.hid (B6.out.trans (hb7.mono B6.out.size))
  have S3 := HS _ B7.out
  refine hK.out _ _ (fun _ => S3) ?_
  clear hK K S2 B6 hb7 hbu
  try simp only [Act.put, List.setIfInBounds_toArray, List.set_cons_zero, List.set_cons_succ]
  refine wpAnyF_takeL 19 (v := ?_) rfl (by kernel_rfl) (by kernel_rfl) (by kernel_rfl) (by kernel_rfl) (fun _ _ _ h => h) (by rfl) ?_ S3 ?_
  rotate_left 1
  · (intro wS hSw; (try dsimp only at hSw); obtain ⟨hSa, hSb, hSc, hSd, hSe, hSf, hSg⟩ := hSw; go_simp; first | done | with_reducible rfl)
  try simp only [Act.put, List.setIfInBounds_toArray, List.set_cons_zero, List.set_cons_succ]
  refine wpAnyF_takeL 20 (v := ?_) rfl (by kernel_rfl) (by kernel_rfl) (by kernel_rfl) (by kernel_rfl) (fun _ _ _ h => h) (by rfl) ?_ S3 ?_
  rotate_left 1
  · (intro wS hSw; (try dsimp only at hSw); obtain ⟨hSa, hSb, hSc, hSd, hSe, hSf, hSg⟩ := hSw; go_simp; first | done | with_reducible rfl)
  try simp only [Act.put, List.setIfInBounds_toArray, List.set_cons_zero, List.set_cons_succ]
  refine wpAnyF_ready [21] (by kernel_rfl) (by simp) (ReadyF.consL rfl (fun K hK => ?_) ReadyF.nil)
  go_simp
  refine hK.out _ _ (fun h => absurd rfl h) ?_
  clear hK K
  try simp only [Act.put, List.setIfInBounds_toArray, List.set_cons_zero, List.set_cons_succ]
  refine wpAnyF_done (by kernel_rfl) ?_ _
  go_wp2_with fail
  go_ret
  exact ⟨rfl, BZ.out.trans (B7.out.mono BZ.out.size)⟩

end Go.Proofs.Ytceflhffilldeaa

/-
  How a run begins: the program's image.words and Boot, walked.
-/
namespace Go.Proofs.Ytceflhffilldeaa
set_option linter.unusedVariables false
set_option linter.unusedSimpArgs false
open Go.RowKit Bw

/-- Block g begins with these instructions. -/
def InsAt (w : World) (g : Nat) (xs : List Ins) : Prop := g < w.heap.size ∧ ∀ k x, xs[k]? = some x → w.rangeAt g (k * 8) x.cells.toList
theorem InsAt.below {w w' : World} {g : Nat} {xs : List Ins} (h : InsAt w g xs) {B : Nat} (hb : Below B w w') (hg : g < B) : InsAt w' g xs :=
  ⟨Nat.lt_of_lt_of_le h.1 hb.size, fun k x hx j v hv => (hb.cell (p := ⟨g, k * 8 + j, none⟩) hg).trans (h.2 k x hx j v hv)⟩
theorem ins_size (x : Ins) : (Try.prog.info? 115).map (·.size) = some x.cells.size := by
  have h : (Try.prog.info? 115).map (·.size) = some 8 := by kernel_rfl
  rw [h]; rfl
theorem ins_size' (x : Ins) : (Try.prog.info? 115).map (·.size) = some x.cells.toList.length := ins_size x
theorem ins_one (x : Ins) : x.cells.all (·.oneCell') = true := by simp [Ins.cells, Value.oneCell']
theorem wpList_store_last {P : Program} {ops : Array Oper} {rest : List Oper} {o : Oper} {a : Act} {w : World} {Q : Exit → Act → World → Prop} (hgd : o.guard = none) (ty : TypeId) (x y : Operand) (ho : o.op = .store ty x y)
    (w1 : World) (cells old : Array Value) (t : TypeId) (hw : w = w1.alloc (.cells old t)) (hx : a.eval x = .pointer (some ⟨w1.heap.size, 0, none⟩)) (hy : a.eval y = .agg cells)
    (hi : (P.info? ty).map (·.size) = some cells.size) (hold : old.size = cells.size) (h1 : cells.all (·.oneCell') = true)
    (h : wpList P ops Q rest (a.put o.dst undef) (w1.alloc (.cells cells t))) : wpList P ops Q (o :: rest) a w := by
  subst hw
  refine wpList_store_row hgd ty x y ho w1.heap.size cells hx hy t old (heap_alloc_new w1 _) hi hold h1 ?_
  rw [show (w1.alloc (.cells old t)).setRow w1.heap.size cells = w1.alloc (.cells cells t) by
    unfold World.setRow World.alloc
    congr 1
    apply Array.ext_getElem?
    intro i
    rw [Array.getElem?_modify]
    by_cases h : w1.heap.size = i
    · subst h; simp
    · rw [if_neg h]
      simp only [Array.getElem?_push]
      rw [if_neg (fun e => h e.symm), if_neg (fun e => h e.symm)]]
  exact h

theorem u32_info : (Try.prog.info? 43).map (fun i => (i.zero, i.size, i.bytes)) = some (some (.int .u32 0), 1, 4) := by kernel_rfl

theorem block_add0 (g j : Nat) : (⟨g, 0, none⟩ : Addr).add j = ⟨g, j, none⟩ := by rw [Addr.add_mid]; simp
theorem news1 (w : World) (t : TypeId) (v : Value) : ∀ (j : Nat) (u : Value), [v][j]? = some u → (w.alloc (.cells #[v] t)).cell? ((⟨w.heap.size, 0, none⟩ : Addr).add j) = some u := by
  intro j u hj
  rw [block_add0, cell_of_row _ _ j _ _ _ (heap_alloc_new w (.cells #[v] t))]
  simpa using hj
theorem own_below {w w' : World} {base : Nat} {e : TypeId} {size n : Nat} {v : Value} {xs : List Value} (h : w.ownsRow base e size v n xs) (hb : Below w.heap.size w w') : w'.ownsRow base e size v n xs := by
  refine ⟨h.1, ?_⟩
  rcases h.2 with h2 | ⟨g, cap, cur, hv, hg, hh, r⟩
  · exact Or.inl h2
  · exact Or.inr ⟨g, cap, cur, hv, hg, (hb.block g (Array.getElem?_eq_some_iff.1 hh).1).trans hh, r⟩

end Go.Proofs.Ytceflhffilldeaa

/-
  What the laws of layer 23 share.
-/
namespace Go.Proofs.Ytceflhffilldeaa
set_option linter.unusedVariables false
set_option linter.unusedSimpArgs false
open Go.RowKit ObjL

theorem wpList_load_row_g {P : Program} {ops : Array Oper} {rest : List Oper} {o : Oper} {a : Act} {w : World} {Q : Exit → Act → World → Prop} (hw : Region.wanted o (yielded ops a.tmps) = true) (ty : TypeId) (x : Operand) (ho : o.op = .load ty x)
    (g : Nat) (hx : a.eval x = .pointer (some ⟨g, 0, none⟩)) (t : TypeId) (cs : Array Value) (fr : Nat × Nat) (d : TypeDesc) (hg : w.heap[g]? = some (.cells cs t fr))
    (hu : P.underlying ty = some d) (hd : (match d with | .struct _ | .array _ _ => true | _ => false) = true) (hi : (P.info? ty).map (·.size) = some cs.size)
    (h : wpList P ops Q rest (a.put o.dst (.agg cs)) w) : wpList P ops Q (o :: rest) a w :=
  wpList_step fun K hK => by
    rw [if_pos hw]
    exact wp_load_row ty x ho g hx t cs fr d hg hu hd hi (hK _ _ h)
theorem encRes_no {g : Bool} {o : Ob} {bs : List UInt8} {er : Int} (h : encRes g o = .tuple #[.string (txt bs), .int .i64 er]) (he : er ≠ 0) : bs = [] := by
  unfold encRes at h
  split at h
  · split at h
    · injection h with h; injection h with h; injection h with h1 h2; injection h1 with h1; exact (txt_inj h1).symm
    · injection h with h; injection h with h; injection h with h1 h2; injection h2 with h2 _; injection h2 with _ h2; exact absurd h2.symm he
  · injection h with h; injection h with h; injection h with h1 h2; injection h1 with h1; exact (txt_inj h1).symm
/-- What Decode answers, as one value. -/
def decV (s : List UInt8) : Ob × Int := match decO s with | some o => (o, 0) | none => (zeroOb, 230)
theorem decEnd_v {s : List UInt8} {e : Ending} {w : World} (h : DecEnd s e w) : ∃ vU vD vC vE, e = .returned (.tuple #[.agg (obCells (decV s).1 vU vD vC vE), .int .i64 (decV s).2]) ∧ ObParts w (decV s).1 vU vD vC vE ∧ ObFine (decV s).1 := by
  rcases h with ⟨o, vU, vD, vC, vE, h1, h2, h3, h4⟩ | ⟨h1, h2⟩
  · unfold decV
    rw [h1]
    exact ⟨vU, vD, vC, vE, h3, h4, h2⟩
  · unfold decV
    rw [h1]
    exact ⟨nilS, nilS, nilS, nilS, h2, none_parts w, none_fine⟩
theorem law23_decode (s : List UInt8) (w : World) (hs : s.length ≤ 1000000) : Calls Try.prog 29 #[.string (txt s)] w fun e w' => ∃ vU vD vC vE, e = .returned (.tuple #[.agg (obCells (decV s).1 vU vD vC vE), .int .i64 (decV s).2]) ∧ ObParts w' (decV s).1 vU vD vC vE ∧ ObFine (decV s).1 ∧ Below w.heap.size w w' :=
  (obj_decode s w hs).mono fun e w' h => by
    obtain ⟨a, b, c, d, h1, h2, h3⟩ := decEnd_v h.1
    exact ⟨a, b, c, d, h1, h2, h3, h.2⟩
theorem law23_rdecode (s : List UInt8) (w : World) (hs : s.length ≤ 1000000) : Calls Try.prog 30 #[.string (txt s)] w fun e w' => ∃ vU vD vC vE, e = .returned (.tuple #[.agg (obCells (decV s).1 vU vD vC vE), .int .i64 (decV s).2]) ∧ ObParts w' (decV s).1 vU vD vC vE ∧ ObFine (decV s).1 ∧ Below w.heap.size w w' :=
  (ref23_decode s w hs).mono fun e w' h => by
    obtain ⟨a, b, c, d, h1, h2, h3⟩ := decEnd_v h.1
    exact ⟨a, b, c, d, h1, h2, h3, h.2⟩
theorem law23_rencode (o : Ob) (vU vD vC vE : Value) (w : World) (hp : ObParts w o vU vD vC vE) (hf : ObFine o) :
    Calls Try.prog 27 #[.agg (obCells o vU vD vC vE)] w fun e w' => e = .returned (encRes (goodO o) o) ∧ Below w.heap.size w w' :=
  ref23_encode o vU vD vC vE w hp (goodO o) good_wr (fun W h => ref23_good o vU vD vC vE W h hf)
theorem law23_self (o : Ob) (a b c d a' b' c' d' : Value) (w : World) (h : ObParts w o a b c d) (k : ObParts w o a' b' c' d') :
    Calls Try.prog 28 #[.agg (obCells o a b c d), .agg (obCells o a' b' c' d')] w fun e w' => e = .returned (.bool true) ∧ Below w.heap.size w w' :=
  (ref23_same o o _ _ _ _ _ _ _ _ w h k).mono fun e w' h => ⟨h.1.trans (by rw [sameO_self]), h.2⟩
theorem dec_of {o : Ob} (h : goodO o = true) (hl : (encO o).length ≤ 131072) : decV (encO o) = (o, 0) := by
  unfold decV
  rw [decO_enc h hl]

theorem txt_app (a b : List UInt8) : txt a ++ txt b = txt (a ++ b) := by
  apply ByteArray.ext
  simp [txt]
theorem txt_nil : (txt []).toList = [] := by rw [ByteArray.toList_eq]; rfl
theorem cut_at (n : Int) {L : Nat} (h : 0 < L) (hL : L ≤ 131072) : ∃ K : Nat, wrap64 ((IntKind.u64.wrap n).tmod (L : Int)) = (K : Int) ∧ K < L := by
  have h1 : 0 ≤ IntKind.u64.wrap n := by rw [IntKind.wrap_u64]; omega
  have h2 := Int.tmod_nonneg (L : Int) h1
  have h3 := Int.tmod_lt_of_pos (IntKind.u64.wrap n) (show (0:Int) < L by omega)
  refine ⟨((IntKind.u64.wrap n).tmod L).toNat, ?_, by omega⟩
  unfold wrap64
  omega
theorem dec_none {s : List UInt8} (h : decO s = none) : decV s = (zeroOb, 230) := by unfold decV; rw [h]
theorem enc_back {s : List UInt8} {o : Ob} (h : decO s = some o) : encRes (goodO o) o = .tuple #[.string (txt s), .int .i64 0] := by
  obtain ⟨h1, h2, h3⟩ := decO_some h
  unfold encRes
  rw [if_pos h1, h2, if_neg (by omega)]
theorem blk_range {w : World} {g : Nat} {t : TypeId} {cs : Array Value} (h : Blk w g t cs) : w.rangeAt g 0 cs.toList := fun j v hv => by
  rw [Nat.zero_add, h.cell j, ← hv, Array.getElem?_toList]

end Go.Proofs.Ytceflhffilldeaa
