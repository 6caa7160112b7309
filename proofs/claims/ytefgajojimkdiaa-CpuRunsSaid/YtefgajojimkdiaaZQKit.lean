/-
  Runs of the document's machine, and of images by the document: walked.
-/
import Derived.Test.YtefgajojimkdiaaZQRun
import Derived.Test.YtefgajojimkdiaaZRunKit
import Derived.Test.YtefgajojimkdiaaZCpuKit
namespace Go.Proofs.Ytefgajojimkdiaa
set_option linter.unusedVariables false
set_option linter.unusedSimpArgs false
open Go.RowKit Bw

/-- What the document's Run leaves: the machine, with a slice of its own; all other blocks. -/
def QRan (N : Nat) (w : World) (p mp ap d : Nat) (ov : Value) (st : Int) (m' : Mc) (w' : World) : Prop :=
  ∃ ov', QMach w' p mp ap d ov' st m' ∧ Kept (Others w p ap ov) w w' ∧ Below N w w' ∧ ∀ b, ov'.ownBlock = some b → N ≤ b
theorem QRan.of {N : Nat} {w w' : World} {p mp ap d : Nat} {ov : Value} {st : Int} {m' : Mc} (hst : QStored (Others w p ap ov) p mp ap d st m' w w') (hN : N ≤ w.heap.size) (hp : N ≤ p) (ha : N ≤ ap) (ho : ∀ b, ov.ownBlock = some b → N ≤ b) : QRan N w p mp ap d ov st m' w' := by
  obtain ⟨ov', hM, hK, hF, hS⟩ := hst
  refine ⟨ov', hM, hK, hK.to_below fun k hlt => ⟨by omega, by omega, by omega, fun e => by have := ho k e; omega⟩, fun b hb => ?_⟩
  obtain ⟨ext, hrow⟩ := hM.mem.row
  have n1 := own_blk_ne hM.out hM.blk (by decide) b hb
  have n2 := own_blk_ne hM.out hrow (by decide) b hb
  have n3 := hF.2.2 b hb
  rcases Nat.lt_or_ge b w.heap.size with h1 | h1
  · by_cases h2 : ov.ownBlock = some b
    · exact ho b h2
    · exact absurd ⟨h1, fun e => n1 e.symm, fun e => n2 e.symm, h2⟩ n3
  · omega
theorem QRan.below {N : Nat} {w w' : World} {p mp ap d : Nat} {ov : Value} {st : Int} {m' : Mc} (h : QRan N w p mp ap d ov st m' w') : Below N w w' := by
  obtain ⟨ov', _, _, h3, _⟩ := h
  exact h3
theorem q_run_n (hR : QSteps) (N n : Nat) (p mp ap d : Nat) (ov : Value) (st0 : Int) (m : Mc) (w : World) (h : QMach w p mp ap d ov st0 m) (hn : (n : Int) ≤ 4194304) (hN : N ≤ w.heap.size) (hp : N ≤ p) (ha : N ≤ ap) (ho : ∀ b, ov.ownBlock = some b → N ≤ b) :
    Calls Try.prog 26 #[.pointer (some ⟨p, 0, none⟩), .int .i64 n] w fun e w' => e = .returned (.tuple #[(m.run n).oc (m.steps n), .int .i64 0]) ∧ QRan N w p mp ap d ov (m.steps n) (m.run n) w' :=
  (q_run_of hR (Others w p ap ov) n p mp ap d ov st0 m w h hn (Others.free w p ap ov) (fun k hk => hk.1)).mono fun _ _ hh => ⟨hh.1, QRan.of hh.2 hN hp ha ho⟩

set_option maxHeartbeats 1000000 in
theorem q_run_none (p : Nat) (n : Int) (w : World) (hn : n < 0 ∨ 4194304 < n) :
    Calls Try.prog 26 #[.pointer (some ⟨p, 0, none⟩), .int .i64 n] w fun e w' => e = .returned (.tuple #[.agg #[.int .i64 0, .int .i64 0, .string ⟨#[]⟩, .int .i64 0, .int .i64 0], .int .i64 1]) ∧ Below w.heap.size w w' := by
  by_cases h0 : n < 0
  · clear hn
    go_enter Try.func26, Try.ntmps26
    go_wp2_with fail
    refine bodyPost_ret (by simp only [results, Try.results26]; go_simp) rfl ⟨rfl, ?_⟩
    exact (Below.refl _ _).alloc (Nat.le_refl _) _
  · have h1 : 4194304 < n := by omega
    clear hn
    go_enter Try.func26, Try.ntmps26
    go_wp2_with fail
    refine bodyPost_ret (by simp only [results, Try.results26]; go_simp) rfl ⟨rfl, ?_⟩
    exact (Below.refl _ _).alloc (Nat.le_refl _) _

set_option maxRecDepth 100000 in
set_option maxHeartbeats 2000000 in
theorem q27_run (hR : QSteps) (n : Nat) (l : List Int) (st : Int) (s : ByteArray) (vW vM : Value) (w : World) (h : Row .u32 w vW l) (hu : ∀ x ∈ l, Mc.W32 x) (h0 : Mc.noStart l st s = 0) (hn : (n : Int) ≤ 4194304) :
    Calls Try.prog 33 #[.agg #[vW, .int .i64 st, vM], .string s, .int .i64 n] w fun e w' => e = .returned (.tuple #[((Mc.start l st s).run n).oc ((Mc.start l st s).steps n), .int .i64 0]) ∧ Below w.heap.size w w' := by
  obtain ⟨hl, hs, hs0, hs1⟩ := cpu_start_any l st s h0
  have B1 : Below w.heap.size w (w.alloc (.cells #[vW, .int .i64 st, vM] 68)) := (Below.refl _ _).alloc (Nat.le_refl _) _
  have B2 := B1.alloc B1.size (.cells #[.int .i64 0, .int .i64 0, .string ⟨#[]⟩, .int .i64 0, .int .i64 0] 28)
  have h' := Lib.hid (h.below B2)
  have BO := Lib.hid (Blk.new (w.alloc (.cells #[vW, .int .i64 st, vM] 68)) 28 #[.int .i64 0, .int .i64 0, .string ⟨#[]⟩, .int .i64 0, .int .i64 0])
  have CN := fun W hW => Lib.hid (q_new l st s vW W hW hu hl hs hs0 hs1)
  have sz : (w.alloc (.cells #[vW, .int .i64 st, vM] 68)).heap.size = w.heap.size + 1 := by simp
  rw [sz] at BO
  have hgB : w.heap.size + 1 < ((w.alloc (.cells #[vW, .int .i64 st, vM] 68)).alloc (.cells #[.int .i64 0, .int .i64 0, .string ⟨#[]⟩, .int .i64 0, .int .i64 0] 28)).heap.size := by simp
  have hgB := Lib.hid hgB
  have hB2 := Lib.hid B2
  clear hu h0 B1 B2 sz
  go_enter Try.func33, Try.ntmps33
  go_wp2_with fail
  generalize hW : (w.alloc (.cells #[vW, .int .i64 st, vM] 68)).alloc (.cells #[.int .i64 0, .int .i64 0, .string ⟨#[]⟩, .int .i64 0, .int .i64 0] 28) = W at *
  clear hW
  refine (CN W h'.out).out.mono ?_
  rintro e w2 ⟨p, mp, ap, c3, rfl, hp, hmp, hap, hM, hb⟩
  have BO2 := Lib.hid (BO.out.below hb hgB.out)
  have B3 := Lib.hid (hB2.out.trans (hb.mono hB2.out.size))
  have RU := Lib.hid (q_run_n hR W.heap.size n p mp ap c3 _ _ _ w2 hM hn hb.size hp hap (own_nil _))
  have hM := Lib.hid hM
  have hbs := Lib.hid hb.size
  clear hp hmp hap hb CN
  go_wp2_with fail
  refine RU.out.mono ?_
  rintro e w3 ⟨rfl, hran⟩
  rw [oc_form]
  have BO3 := BO2.out.below hran.below hgB.out
  have b0 := BO3.cell 0
  have b1 := BO3.cell 1
  have b2 := BO3.cell 2
  have b3 := BO3.cell 3
  have b4 := BO3.cell 4
  simp only [List.getElem?_toArray, List.getElem?_cons_zero, List.getElem?_cons_succ] at b0 b1 b2 b3 b4
  have g0 := BO3.frozen 0
  have g1 := BO3.frozen 1
  have g2 := BO3.frozen 2
  have g3 := BO3.frozen 3
  have g4 := BO3.frozen 4
  have hz := BO3.lt
  have B4 := Lib.hid (B3.out.trans (hran.below.mono hB2.out.size))
  clear BO3 hran BO2 BO
  go_wp2_with fail
  refine bodyPost_ret (by simp only [results, Try.results33]; go_simp; rfl) rfl ⟨?_, ?_⟩
  · rw [oc_form]
  · exact (((((B4.out.setCell (p := ⟨w.heap.size + 1, 0, none⟩) (by simp) _).setCell (p := ⟨w.heap.size + 1, 1, none⟩) (by simp) _).setCell (p := ⟨w.heap.size + 1, 2, none⟩) (by simp) _).setCell (p := ⟨w.heap.size + 1, 3, none⟩) (by simp) _).setCell (p := ⟨w.heap.size + 1, 4, none⟩) (by simp) _)

set_option maxRecDepth 100000 in
set_option maxHeartbeats 2000000 in
theorem q27_run_none (n : Int) (l : List Int) (st : Int) (s : ByteArray) (vW vM : Value) (w : World) (h : Row .u32 w vW l) (h0 : Mc.noStart l st s ≠ 0) (hs : s.size ≤ 9223372036854775807) :
    Calls Try.prog 33 #[.agg #[vW, .int .i64 st, vM], .string s, .int .i64 n] w fun e w' => e = .returned (.tuple #[.agg #[.int .i64 0, .int .i64 0, .string ⟨#[]⟩, .int .i64 0, .int .i64 0], .int .i64 (Mc.noStart l st s)]) ∧ Below w.heap.size w w' := by
  have B1 : Below w.heap.size w (w.alloc (.cells #[vW, .int .i64 st, vM] 68)) := (Below.refl _ _).alloc (Nat.le_refl _) _
  have B2 := B1.alloc B1.size (.cells #[.int .i64 0, .int .i64 0, .string ⟨#[]⟩, .int .i64 0, .int .i64 0] 28)
  have h' := Lib.hid (h.below B2)
  have BO := Lib.hid (Blk.new (w.alloc (.cells #[vW, .int .i64 st, vM] 68)) 28 #[.int .i64 0, .int .i64 0, .string ⟨#[]⟩, .int .i64 0, .int .i64 0])
  have CN := fun W hW => Lib.hid (q_new_none l st s vW W hW h0 hs)
  have sz : (w.alloc (.cells #[vW, .int .i64 st, vM] 68)).heap.size = w.heap.size + 1 := by simp
  rw [sz] at BO
  have hgB : w.heap.size + 1 < ((w.alloc (.cells #[vW, .int .i64 st, vM] 68)).alloc (.cells #[.int .i64 0, .int .i64 0, .string ⟨#[]⟩, .int .i64 0, .int .i64 0] 28)).heap.size := by simp
  have hgB := Lib.hid hgB
  have hB2 := Lib.hid B2
  clear B1 B2 sz
  generalize Mc.noStart l st s = er at *
  have h0' : (er == 0) = false := by rw [beq_eq_false_iff_ne]; exact h0
  go_enter Try.func33, Try.ntmps33
  go_wp2_with fail
  generalize hW : (w.alloc (.cells #[vW, .int .i64 st, vM] 68)).alloc (.cells #[.int .i64 0, .int .i64 0, .string ⟨#[]⟩, .int .i64 0, .int .i64 0] 28) = W at *
  clear hW
  refine (CN W h'.out).out.mono ?_
  rintro e w2 ⟨rfl, hb⟩
  have BO3 := BO.out.below hb hgB.out
  have b0 := BO3.cell 0
  have b1 := BO3.cell 1
  have b2 := BO3.cell 2
  have b3 := BO3.cell 3
  have b4 := BO3.cell 4
  simp only [List.getElem?_toArray, List.getElem?_cons_zero, List.getElem?_cons_succ] at b0 b1 b2 b3 b4
  have g0 := BO3.frozen 0
  have g1 := BO3.frozen 1
  have g2 := BO3.frozen 2
  have g3 := BO3.frozen 3
  have g4 := BO3.frozen 4
  have hz := BO3.lt
  have B4 := Lib.hid (hB2.out.trans (hb.mono hB2.out.size))
  clear BO3 BO CN hb
  go_wp2_with fail
  refine bodyPost_ret (by simp only [results, Try.results33]; go_simp) rfl ⟨rfl, ?_⟩
  exact (((((B4.out.setCell (p := ⟨w.heap.size + 1, 0, none⟩) (by simp) _).setCell (p := ⟨w.heap.size + 1, 1, none⟩) (by simp) _).setCell (p := ⟨w.heap.size + 1, 2, none⟩) (by simp) _).setCell (p := ⟨w.heap.size + 1, 3, none⟩) (by simp) _).setCell (p := ⟨w.heap.size + 1, 4, none⟩) (by simp) _)

set_option maxRecDepth 100000 in
set_option maxHeartbeats 2000000 in
theorem run_run_bad (n : Int) (l : List Int) (st : Int) (s : ByteArray) (vW vM : Value) (w : World) (h : Row .u32 w vW l) (hu : ∀ x ∈ l, Mc.W32 x) (h0 : Mc.noStart l st s = 0) (hn : n < 0 ∨ 4194304 < n) :
    Calls Try.prog 32 #[.agg #[vW, .int .i64 st, vM], .string s, .int .i64 n] w fun e w' => e = .returned (.tuple #[.agg #[.int .i64 0, .int .i64 0, .string ⟨#[]⟩, .int .i64 0, .int .i64 0], .int .i64 1]) ∧ Below w.heap.size w w' := by
  obtain ⟨hl, hs, hs0, hs1⟩ := cpu_start_any l st s h0
  have B1 : Below w.heap.size w (w.alloc (.cells #[vW, .int .i64 st, vM] 68)) := (Below.refl _ _).alloc (Nat.le_refl _) _
  have B2 := B1.alloc B1.size (.cells #[.int .i64 0, .int .i64 0, .string ⟨#[]⟩, .int .i64 0, .int .i64 0] 28)
  have h' := Lib.hid (h.below B2)
  have BO := Lib.hid (Blk.new (w.alloc (.cells #[vW, .int .i64 st, vM] 68)) 28 #[.int .i64 0, .int .i64 0, .string ⟨#[]⟩, .int .i64 0, .int .i64 0])
  have CN := fun W hW => Lib.hid (cpu_new l st s vW W hW hu hl hs hs0 hs1)
  have sz : (w.alloc (.cells #[vW, .int .i64 st, vM] 68)).heap.size = w.heap.size + 1 := by simp
  rw [sz] at BO
  have hgB : w.heap.size + 1 < ((w.alloc (.cells #[vW, .int .i64 st, vM] 68)).alloc (.cells #[.int .i64 0, .int .i64 0, .string ⟨#[]⟩, .int .i64 0, .int .i64 0] 28)).heap.size := by simp
  have hgB := Lib.hid hgB
  have hB2 := Lib.hid B2
  have hn := Lib.hid hn
  clear hu h0 B1 B2 sz
  go_enter Try.func32, Try.ntmps32
  go_wp2_with fail
  generalize hW : (w.alloc (.cells #[vW, .int .i64 st, vM] 68)).alloc (.cells #[.int .i64 0, .int .i64 0, .string ⟨#[]⟩, .int .i64 0, .int .i64 0] 28) = W at *
  clear hW
  refine (CN W h'.out).out.mono ?_
  rintro e w2 ⟨p, mp, ap, rfl, hp, hmp, hap, hM, hb⟩
  have BO2 := Lib.hid (BO.out.below hb hgB.out)
  have B3 := Lib.hid (hB2.out.trans (hb.mono hB2.out.size))
  have RU := Lib.hid (cpu_run_none p n w2 hn.out)
  clear hM
  have hbs := Lib.hid hb.size
  clear hp hmp hap hb CN
  go_wp2_with fail
  refine RU.out.mono ?_
  rintro e w3 ⟨rfl, hran0⟩
  have hran := hran0.mono hbs.out
  clear hran0
  have BO3 := BO2.out.below hran hgB.out
  have b0 := BO3.cell 0
  have b1 := BO3.cell 1
  have b2 := BO3.cell 2
  have b3 := BO3.cell 3
  have b4 := BO3.cell 4
  simp only [List.getElem?_toArray, List.getElem?_cons_zero, List.getElem?_cons_succ] at b0 b1 b2 b3 b4
  have g0 := BO3.frozen 0
  have g1 := BO3.frozen 1
  have g2 := BO3.frozen 2
  have g3 := BO3.frozen 3
  have g4 := BO3.frozen 4
  have hz := BO3.lt
  have B4 := Lib.hid (B3.out.trans (hran.mono hB2.out.size))
  clear BO3 hran BO2 BO
  go_wp2_with fail
  refine bodyPost_ret (by simp only [results, Try.results32]; go_simp) rfl ⟨rfl, ?_⟩
  exact (((((B4.out.setCell (p := ⟨w.heap.size + 1, 0, none⟩) (by simp) _).setCell (p := ⟨w.heap.size + 1, 1, none⟩) (by simp) _).setCell (p := ⟨w.heap.size + 1, 2, none⟩) (by simp) _).setCell (p := ⟨w.heap.size + 1, 3, none⟩) (by simp) _).setCell (p := ⟨w.heap.size + 1, 4, none⟩) (by simp) _)

set_option maxRecDepth 100000 in
set_option maxHeartbeats 2000000 in
theorem q27_run_bad (n : Int) (l : List Int) (st : Int) (s : ByteArray) (vW vM : Value) (w : World) (h : Row .u32 w vW l) (hu : ∀ x ∈ l, Mc.W32 x) (h0 : Mc.noStart l st s = 0) (hn : n < 0 ∨ 4194304 < n) :
    Calls Try.prog 33 #[.agg #[vW, .int .i64 st, vM], .string s, .int .i64 n] w fun e w' => e = .returned (.tuple #[.agg #[.int .i64 0, .int .i64 0, .string ⟨#[]⟩, .int .i64 0, .int .i64 0], .int .i64 1]) ∧ Below w.heap.size w w' := by
  obtain ⟨hl, hs, hs0, hs1⟩ := cpu_start_any l st s h0
  have B1 : Below w.heap.size w (w.alloc (.cells #[vW, .int .i64 st, vM] 68)) := (Below.refl _ _).alloc (Nat.le_refl _) _
  have B2 := B1.alloc B1.size (.cells #[.int .i64 0, .int .i64 0, .string ⟨#[]⟩, .int .i64 0, .int .i64 0] 28)
  have h' := Lib.hid (h.below B2)
  have BO := Lib.hid (Blk.new (w.alloc (.cells #[vW, .int .i64 st, vM] 68)) 28 #[.int .i64 0, .int .i64 0, .string ⟨#[]⟩, .int .i64 0, .int .i64 0])
  have CN := fun W hW => Lib.hid (q_new l st s vW W hW hu hl hs hs0 hs1)
  have sz : (w.alloc (.cells #[vW, .int .i64 st, vM] 68)).heap.size = w.heap.size + 1 := by simp
  rw [sz] at BO
  have hgB : w.heap.size + 1 < ((w.alloc (.cells #[vW, .int .i64 st, vM] 68)).alloc (.cells #[.int .i64 0, .int .i64 0, .string ⟨#[]⟩, .int .i64 0, .int .i64 0] 28)).heap.size := by simp
  have hgB := Lib.hid hgB
  have hB2 := Lib.hid B2
  have hn := Lib.hid hn
  clear hu h0 B1 B2 sz
  go_enter Try.func33, Try.ntmps33
  go_wp2_with fail
  generalize hW : (w.alloc (.cells #[vW, .int .i64 st, vM] 68)).alloc (.cells #[.int .i64 0, .int .i64 0, .string ⟨#[]⟩, .int .i64 0, .int .i64 0] 28) = W at *
  clear hW
  refine (CN W h'.out).out.mono ?_
  rintro e w2 ⟨p, mp, ap, c3, rfl, hp, hmp, hap, hM, hb⟩
  have BO2 := Lib.hid (BO.out.below hb hgB.out)
  have B3 := Lib.hid (hB2.out.trans (hb.mono hB2.out.size))
  have RU := Lib.hid (q_run_none p n w2 hn.out)
  clear hM
  have hbs := Lib.hid hb.size
  clear hp hmp hap hb CN
  go_wp2_with fail
  refine RU.out.mono ?_
  rintro e w3 ⟨rfl, hran0⟩
  have hran := hran0.mono hbs.out
  clear hran0
  have BO3 := BO2.out.below hran hgB.out
  have b0 := BO3.cell 0
  have b1 := BO3.cell 1
  have b2 := BO3.cell 2
  have b3 := BO3.cell 3
  have b4 := BO3.cell 4
  simp only [List.getElem?_toArray, List.getElem?_cons_zero, List.getElem?_cons_succ] at b0 b1 b2 b3 b4
  have g0 := BO3.frozen 0
  have g1 := BO3.frozen 1
  have g2 := BO3.frozen 2
  have g3 := BO3.frozen 3
  have g4 := BO3.frozen 4
  have hz := BO3.lt
  have B4 := Lib.hid (B3.out.trans (hran.mono hB2.out.size))
  clear BO3 hran BO2 BO
  go_wp2_with fail
  refine bodyPost_ret (by simp only [results, Try.results33]; go_simp) rfl ⟨rfl, ?_⟩
  exact (((((B4.out.setCell (p := ⟨w.heap.size + 1, 0, none⟩) (by simp) _).setCell (p := ⟨w.heap.size + 1, 1, none⟩) (by simp) _).setCell (p := ⟨w.heap.size + 1, 2, none⟩) (by simp) _).setCell (p := ⟨w.heap.size + 1, 3, none⟩) (by simp) _).setCell (p := ⟨w.heap.size + 1, 4, none⟩) (by simp) _)

end Go.Proofs.Ytefgajojimkdiaa
