/-
  The document's Reader: Num, walked.
-/
import Derived.Test.YtceflhffilldeaaZReadD
import Derived.Test.YtceflhffilldeaaZReadN
import Derived.Deep.CutBlock
import Derived.Test.YtceflhffilldeaaZObjG
namespace Go.Proofs.Ytceflhffilldeaa
set_option linter.unusedVariables false
set_option linter.unusedSimpArgs false
open Go.RowKit ObjL Bw

theorem wd_num_no (B p : Nat) (acc : List UInt8) (x : Int) (sp : Bool) (w : World) (h : WdIs B w p acc sp) (hx : fits x = false) (hx1 : -9223372036854775808 ≤ x) (hx2 : x ≤ 9223372036854775807) :
    Calls Try.prog 47 #[.pointer (some ⟨p, 0, none⟩), .int .i64 x] w fun e w' => e = .returned (.tuple #[]) ∧ Below B w w' := by
  obtain ⟨h0, v, h1, h2⟩ := h
  have c1 := h1.cell 1
  have f1 := h1.frozen 1
  simp only [List.getElem?_toArray, List.getElem?_cons_zero, List.getElem?_cons_succ] at c1
  have FT := fun W => Lib.hid (ref01_fits x 32 W hx1 hx2)
  rw [fits32, hx] at FT
  clear h1 h2
  go_enter Try.func47, Try.ntmps47
  go_wp2_with fail
  refine (FT _).out.mono ?_
  rintro e w1 ⟨rfl, rfl⟩
  go_wp2_with fail
  refine bodyPost_ret (results_none rfl _ _ _) rfl ?_
  exact ⟨rfl, (Below.refl _ _).setCell h0 _⟩
theorem rf_byte_nil (p : Nat) (s : List UInt8) (w : World) (h : RdIs rfT w p s (some [])) (hs : s.length ≤ 1000000) :
    Calls Try.prog 106 #[.pointer (some ⟨p, 0, none⟩)] w fun e w' => e = .returned (.int .i64 0) ∧ RdIs rfT w' p s none ∧ RdK p w w' := by
  have RW := Lib.hid (rf_raw p s (some []) 1 w h hs ⟨by decide, by decide⟩)
  clear h
  go_enter Try.func106, Try.ntmps106
  go_wp2_with fail
  refine RW.out.mono ?_
  rintro e w1 ⟨t, st', rfl, h1, h2, h3, h4⟩
  have hst : st' = none := by
    cases st' with
    | none => rfl
    | some r => exact absurd h1 (by simp [Took, rRaw])
  subst hst
  have c2 : w1.cell? ⟨p, 2, none⟩ = some (.bool true) := rd_flag h2
  have h2 := Lib.hid h2
  clear h4
  unfold tVal
  go_wp2_with fail
  go_ret
  exact ⟨rfl, h2.out, h3⟩
theorem rf_byte_cons (p : Nat) (s r : List UInt8) (c : UInt8) (w : World) (h : RdIs rfT w p s (some (c :: r))) (hs : s.length ≤ 1000000) :
    Calls Try.prog 106 #[.pointer (some ⟨p, 0, none⟩)] w fun e w' => e = .returned (.int .i64 (c.toNat : Int)) ∧ RdIs rfT w' p s (some r) ∧ RdK p w w' :=
  (rf_byte p s _ w h hs).mono fun e w' hh => by
    obtain ⟨x, st', rfl, h1, h2, h3, -⟩ := hh
    have h1 : some (c, r) = st'.map fun r => (x, r) := h1
    cases st' with
    | none => cases h1
    | some r' =>
      simp only [Option.map_some] at h1
      injection h1 with h1
      injection h1 with e1 e2
      subst e1 e2
      exact ⟨rfl, h2, h3⟩
theorem rd_setpos {w : World} {p : Nat} {s : List UInt8} {st : Lft} {a : Nat} (h : RdIs rfT w p s st) (ha : a ≤ s.length) : RdIs rfT ((w.setCell ⟨p, 2, none⟩ (.bool true)).setCell ⟨p, 1, none⟩ (.int .i64 (a : Int))) p s none := by
  obtain ⟨a0, bad, h1, h2, h3⟩ := h
  exact ⟨a, true, (h1.set_ 2 _).set_ 1 _, ha, rfl⟩
theorem rd_cells {T : TypeId} {w : World} {p : Nat} {s : List UInt8} {st : Lft} (h : RdIs T w p s st) : (∃ x, w.cell? ⟨p, 1, none⟩ = some (.int .i64 x)) ∧ w.cell? ⟨p, 2, none⟩ = some (.bool st.isNone) ∧ w.frozen? ⟨p, 1, none⟩ = false ∧ w.frozen? ⟨p, 2, none⟩ = false := by
  refine ⟨?_, rd_flag h, ?_, ?_⟩
  · obtain ⟨a0, bad, h1, h2, h3⟩ := h; exact ⟨_, h1.cell 1⟩
  · obtain ⟨a0, bad, h1, h2, h3⟩ := h; exact h1.frozen 1
  · obtain ⟨a0, bad, h1, h2, h3⟩ := h; exact h1.frozen 2

set_option maxRecDepth 100000 in
set_option maxHeartbeats 4000000 in
theorem rf_num (p : Nat) (s : List UInt8) (st : Lft) (w : World) (h : RdIs rfT w p s st) (hs : s.length ≤ 1000000) :
    Calls Try.prog 65 #[.pointer (some ⟨p, 0, none⟩)] w (RdEnd rfT p s rNum (Value.int .i64) nOk st w) := by
  obtain ⟨a, bad, hB, ha, rfl⟩ := h
  have c1 : w.cell? ⟨p, 1, none⟩ = some (.int .i64 (a : Int)) := hB.cell 1
  have haH := Lib.hid ha
  have hRd : RdIs rfT w p s (if bad = true then none else some (s.drop a)) := ⟨a, bad, hB, ha, rfl⟩
  have hpl := Lib.hid hB.lt
  clear hB ha
  have hRd := Lib.hid hRd
  obtain ⟨st0, hst0⟩ : ∃ st0 : Lft, (if bad = true then none else some (s.drop a)) = st0 := ⟨_, rfl⟩
  rw [hst0] at hRd ⊢
  clear hst0
  go_enter Try.func65, Try.ntmps65
  go_wp2_with fail
  clear c1
  go_loopw [4, 5, 6] (fun n m sc wr => ∃ (k : Nat) (y z : Int), n = .int .i64 y ∧ m = .int .i64 k ∧ sc = .int .i64 z ∧ k ≤ 5 ∧ RowKit.Hid (RdK p w wr) ∧
    RowKit.Hid ((k = 5 ∧ (∃ st, RdIs rfT wr p s st) ∧ Took rNum st0 0 none) ∨ (st0 = none ∧ RdIs rfT wr p s none) ∨ ∃ l, st0 = some l ∧ k ≤ l.length ∧ z = wide7 k ∧ 0 ≤ y ∧ y < wide7 k ∧ RdIs rfT wr p s (some (l.drop k)) ∧ grp 5 l = comb k y (grp (5 - k) (l.drop k)))) (fun _ m _ _ => 5 - (intOf m).toNat)
  case atStart =>
    refine ⟨0, 0, 1, rfl, rfl, rfl, by omega, Lib.hid (RdK.refl _ _), Lib.hid (Or.inr ?_)⟩
    cases st0 with
    | none => exact Or.inl ⟨rfl, hRd.out⟩
    | some l => exact Or.inr ⟨l, rfl, by omega, rfl, by omega, by decide, hRd.out, by rw [comb_zero]; rfl⟩
  case round =>
    obtain ⟨k, y, z, rfl, rfl, rfl, hk5, hK, hcase⟩ := hrel
    have hbadEnd : RowKit.Hid (∀ W st, RdIs rfT W p s st → RdK p w W → Took rNum st0 0 none → RdEnd rfT p s rNum (Value.int .i64) nOk st0 w (.returned (.int .i64 0)) ((W.setCell ⟨p, 2, none⟩ (.bool true)).setCell ⟨p, 1, none⟩ (.int .i64 (a : Int)))) := Lib.hid (fun W st h1 h2 h3 => RdEnd.mk 0 none rfl h3 (rd_setpos h1 haH.out) ((h2.set_ 2 _).set_ 1 _) ⟨by decide, by decide⟩)
    rcases hcase.out with ⟨rfl, ⟨st1, hR⟩, htk⟩ | ⟨rfl, hR⟩ | ⟨l, rfl, hkl, rfl, hy0, hy1, hR, hg⟩
    · obtain ⟨⟨x1, c1⟩, c2, f1, f2⟩ := rd_cells hR
      have htk := Lib.hid htk
      have hR := Lib.hid hR
      clear hcase
      go_wp2_with fail
      go_ret
      exact hbadEnd.out wr _ hR.out hK.out htk.out
    · obtain ⟨⟨x1, c1⟩, c2, f1, f2⟩ := rd_cells hR
      have c2 : wr.cell? ⟨p, 2, none⟩ = some (.bool true) := c2
      have hR := Lib.hid hR
      clear hcase
      by_cases h5 : (k : Int) < 5
      · go_wp2_with fail
        go_ret
        exact hbadEnd.out wr _ hR.out hK.out (Took.bad _ _)
      · go_wp2_with fail
        go_ret
        exact hbadEnd.out wr _ hR.out hK.out (Took.bad _ _)
    · obtain ⟨⟨x1, c1⟩, c2, f1, f2⟩ := rd_cells hR
      have c2 : wr.cell? ⟨p, 2, none⟩ = some (.bool false) := c2
      have hR := Lib.hid hR
      have hg := Lib.hid hg
      clear hcase
      by_cases h5 : (k : Int) < 5
      · have hf1 : 5 - k = 4 - k + 1 := by omega
        by_cases hlt : k < l.length
        · have hcb := (l[k]).toNat_lt
          have hon := fun h => Lib.hid (comb_on (y := y) (f := 4 - k) hlt h)
          have hen := fun h => Lib.hid (comb_end (y := y) (f := 4 - k) hlt h)
          rw [hf1] at hg
          have hRc : RdIs rfT wr p s (some (l[k] :: l.drop (k + 1))) := by rw [← List.drop_eq_getElem_cons hlt]; exact hR.out
          have BY := Lib.hid (rf_byte_cons p s _ _ wr hRc hs)
          clear hRc
          generalize l[k] = c at *
          have hwb := wide7_le (k + 1) (by omega)
          have hwp := wide7_pos k
          have hw1 : wide7 (k + 1) = 128 * wide7 k := rfl
          obtain ⟨D, hD⟩ : ∃ D : Int, (if c.toNat < 128 then (c.toNat : Int) else (c.toNat : Int) - 128) = D := ⟨_, rfl⟩
          have hD0 : 0 ≤ D ∧ D < 128 := by rw [← hD]; split <;> omega
          have htm : ((c.toNat : Int)).tmod 128 = D := by
            rw [Int.tmod_eq_emod_of_nonneg (by omega), ← hD]
            split <;> omega
          have hDH := Lib.hid hD
          have hvb : 0 ≤ y + wide7 k * D ∧ y + wide7 k * D < wide7 (k + 1) := by
            have h1 := Int.mul_nonneg (Int.le_of_lt hwp) hD0.1
            have h2 := Int.mul_le_mul_of_nonneg_left (show D ≤ 127 by omega) (Int.le_of_lt hwp)
            omega
          have hmsub : RowKit.Hid (wide7 k * (D - 128) = wide7 k * D - wide7 (k + 1)) := Lib.hid (by rw [Int.mul_sub]; omega)
          clear hD hf1 c1 f1 f2
          obtain ⟨z, hz⟩ : ∃ z, wide7 k = z := ⟨_, rfl⟩
          have hzH := Lib.hid hz
          rw [hz] at hwp hw1 ⊢
          have hw1H := Lib.hid hw1
          have hzb : 128 * z ≤ 34359738368 := by omega
          clear hz hw1 hwb
          go_wp2_with fail
          refine BY.out.mono ?_
          rintro e w1 ⟨rfl, hR1, hK1⟩
          have hR1a := Lib.hid hR1
          have hK1a := Lib.hid (hK.out.trans hK1)
          clear hR1 hK1 BY hR
          go_upto_region 7 with fail
          go_cut [4] from 26 to 31 (fun n wx => n = .int .i64 (y + wide7 k * D) ∧ wx = w1)
          case first =>
            have hdz : RowKit.Hid (D * z = wide7 k * D) := Lib.hid (by rw [hzH.out, Int.mul_comm])
            have hq1 : 0 ≤ D * z := Int.mul_nonneg hD0.1 (Int.le_of_lt hwp)
            have hq2 : D * z ≤ 34359738368 := by have := hdz.out; have := hvb.2; have := hw1H.out; omega
            have hq3 : y ≤ 34359738368 := by have := hdz.out; have := hvb.2; have := hw1H.out; omega
            clear hg hon hen hbadEnd hvb hmsub
            have hwr2 : IntKind.i64.wrap (y + D * z) = y + D * z := by rw [IntKind.wrap_i64]; omega
            have hwr1 : IntKind.i64.wrap (D * z) = D * z := by rw [IntKind.wrap_i64]; omega
            go_wp2_with fail
            go_meet
            exact ⟨congrArg (Value.int .i64) (by rw [← hdz.out]), rfl⟩
          case rest =>
            obtain ⟨rfl, hww⟩ := hcut
            subst hww
            by_cases hc : 128 ≤ (c.toNat : Int)
            · have hDc : D = (c.toNat : Int) - 128 := by rw [← hDH.out, if_neg (by omega)]
              have hnx := Lib.hid (hg.out.trans (hon (by omega)).out)
              rw [← hDc] at hnx
              have hnx2 : RowKit.Hid (grp 5 l = comb (k + 1) (y + wide7 k * D) (grp (5 - (k + 1)) (l.drop (k + 1)))) := Lib.hid (by have := hnx.out; rw [show 5 - (k + 1) = 4 - k by omega]; exact this)
              have hvbH := Lib.hid hvb
              have hzk : RowKit.Hid (z * 128 = wide7 (k + 1)) := Lib.hid (by have := hw1H.out; omega)
              have hc1 : ¬ (c.toNat : Int) < 128 := by omega
              clear hg hon hen hbadEnd hnx hDc hvb htm
              generalize y + wide7 k * D = v1 at *
              go_wp2_with fail
              exact ⟨⟨k + 1, v1, z * 128, rfl, by first | rfl | go_num, rfl, by omega, hK1a, Lib.hid (Or.inr (Or.inr ⟨l, rfl, by omega, hzk.out, hvbH.out.1, hvbH.out.2, hR1a.out, hnx2.out⟩))⟩, by simp [intOf]; omega⟩
            · have hc1 : (c.toNat : Int) < 128 := by omega
              have hDc : D = (c.toNat : Int) := by rw [← hDH.out, if_pos (by omega)]
              have hend := Lib.hid (hg.out.trans (hen (by omega)).out)
              clear hg hon hen hc
              by_cases hc6 : c.toNat < 64
              · rw [if_pos hc6] at hend
                rw [← hDc] at hend
                have hc7 : ¬ 64 ≤ (c.toNat : Int) := by omega
                have hv64 : -1152921504606846976 ≤ y + wide7 k * D ∧ y + wide7 k * D ≤ 1152921504606846976 := by have := hw1H.out; omega
                clear hDc hvb htm hmsub
                generalize y + wide7 k * D = v at *
                have FT := fun W => Lib.hid (ref01_fits v 32 W (by omega) (by omega))
                rw [fits32] at FT
                have hW0 := Lib.hid (show WdIs wc.heap.size (wc.alloc (.cells #[.slice none 0 0, .bool false] 90)) wc.heap.size [] false from ⟨Nat.le_refl _, .slice none 0 0, Blk.new wc _ _, World.ownsRow_nil _ _ _ _⟩)
                have hBl := Lib.hid ((Below.refl wc.heap.size wc).alloc (Nat.le_refl _) (.cells #[.slice none 0 0, .bool false] 90))
                cases hft : fits v
                · have WN := Lib.hid (wd_num_no _ _ _ v false _ hW0.out hft (by omega) (by omega))
                  have hres := Lib.hid (Took.no (x := (0 : Int)) (num_bad hend.out (fun h => by rw [hft] at h; cases h.1)))
                  rw [hft] at FT
                  clear hft
                  go_wp2_with fail
                  refine WN.out.mono ?_
                  rintro e w2 ⟨rfl, hb2⟩
                  have hb3 := Lib.hid (hBl.out.trans hb2)
                  have hR2 := hR1a.out.below hb3.out
                  have c2 : w2.cell? ⟨p, 2, none⟩ = some (.bool false) := rd_flag hR2
                  have hR2 := Lib.hid hR2
                  clear hb2
                  go_wp2_with fail
                  refine (FT _).out.mono ?_
                  rintro e w3 ⟨rfl, rfl⟩
                  go_wp2_with fail
                  exact ⟨⟨5, _, _, rfl, rfl, rfl, by omega, Lib.hid (hK1a.out.trans (RdK.of_below hb3.out)), Lib.hid (Or.inl ⟨rfl, ⟨_, hR2.out⟩, hres.out⟩)⟩, by simp [intOf]; try omega⟩
                · have WN := Lib.hid (wd_num _ _ _ v false _ hW0.out (by simp) (by simp) hft)
                  rw [List.nil_append] at WN
                  have hfH := Lib.hid hft
                  rw [hft] at FT
                  clear hft
                  go_wp2_with fail
                  refine WN.out.mono ?_
                  rintro e w2 ⟨rfl, hW2, hb2⟩
                  have hb3 := Lib.hid (hBl.out.trans hb2)
                  have hR2 := hR1a.out.below hb3.out
                  have c2 : w2.cell? ⟨p, 2, none⟩ = some (.bool false) := rd_flag hR2
                  have hR2 := Lib.hid hR2
                  obtain ⟨-, vv, hB2, hO2⟩ := hW2
                  obtain ⟨A2, k2, rfl⟩ := own_slice hO2
                  have d0 : w2.cell? ⟨wc.heap.size, 0, none⟩ = some (.slice A2 (numB v).length k2) := hB2.cell 0
                  clear hb2 hB2 hO2
                  by_cases hlen : (numB v).length = k + 1
                  · have hres := Lib.hid (num_ok hend.out ⟨hfH.out, hlen⟩)
                    have hlen' : ((numB v).length : Int) = (k : Int) + 1 := by omega
                    clear hlen
                    go_wp2_with fail
                    refine (FT _).out.mono ?_
                    rintro e w3 ⟨rfl, rfl⟩
                    go_wp2_with fail
                    go_ret
                    exact RdEnd.mk v (some (l.drop (k + 1))) rfl (Took.yes hres.out) hR2.out (hK1a.out.trans (RdK.of_below hb3.out)) (fits_nOk hfH.out)
                  · have hres := Lib.hid (Took.no (x := (0 : Int)) (num_bad hend.out (fun h => hlen h.2)))
                    have hlen2 : ¬ ((numB v).length : Int) = (k : Int) + 1 := by omega
                    clear hlen
                    go_wp2_with fail
                    refine (FT _).out.mono ?_
                    rintro e w3 ⟨rfl, rfl⟩
                    go_wp2_with fail
                    exact ⟨⟨5, _, _, rfl, rfl, rfl, by omega, Lib.hid (hK1a.out.trans (RdK.of_below hb3.out)), Lib.hid (Or.inl ⟨rfl, ⟨_, hR2.out⟩, hres.out⟩)⟩, by simp [intOf]; try omega⟩
              · rw [if_neg hc6] at hend
                rw [← hDc] at hend
                have hc7 : 64 ≤ (c.toNat : Int) := by omega
                have hv64 : -1152921504606846976 ≤ y + wide7 k * (D - 128) ∧ y + wide7 k * (D - 128) ≤ 1152921504606846976 := by have := hw1H.out; have := hmsub.out; omega
                have hvv : y + wide7 k * D - z * 128 = y + wide7 k * (D - 128) := by have := hw1H.out; have := hmsub.out; omega
                have hvb2 : 0 ≤ y + wide7 k * D ∧ y + wide7 k * D ≤ 34359738368 := by have := hw1H.out; omega
                clear hDc hvb htm hmsub
                generalize y + wide7 k * (D - 128) = v at *
                generalize y + wide7 k * D = v1 at *
                have FT := fun W => Lib.hid (ref01_fits v 32 W (by omega) (by omega))
                rw [fits32] at FT
                have hW0 := Lib.hid (show WdIs wc.heap.size (wc.alloc (.cells #[.slice none 0 0, .bool false] 90)) wc.heap.size [] false from ⟨Nat.le_refl _, .slice none 0 0, Blk.new wc _ _, World.ownsRow_nil _ _ _ _⟩)
                have hBl := Lib.hid ((Below.refl wc.heap.size wc).alloc (Nat.le_refl _) (.cells #[.slice none 0 0, .bool false] 90))
                cases hft : fits v
                · have WN := Lib.hid (wd_num_no _ _ _ v false _ hW0.out hft (by omega) (by omega))
                  have hres := Lib.hid (Took.no (x := (0 : Int)) (num_bad hend.out (fun h => by rw [hft] at h; cases h.1)))
                  rw [hft] at FT
                  clear hft
                  go_wp2_with fail
                  refine WN.out.mono ?_
                  rintro e w2 ⟨rfl, hb2⟩
                  have hb3 := Lib.hid (hBl.out.trans hb2)
                  have hR2 := hR1a.out.below hb3.out
                  have c2 : w2.cell? ⟨p, 2, none⟩ = some (.bool false) := rd_flag hR2
                  have hR2 := Lib.hid hR2
                  clear hb2
                  go_wp2_with fail
                  refine (FT _).out.mono ?_
                  rintro e w3 ⟨rfl, rfl⟩
                  go_wp2_with fail
                  exact ⟨⟨5, _, _, rfl, rfl, rfl, by omega, Lib.hid (hK1a.out.trans (RdK.of_below hb3.out)), Lib.hid (Or.inl ⟨rfl, ⟨_, hR2.out⟩, hres.out⟩)⟩, by simp [intOf]; try omega⟩
                · have WN := Lib.hid (wd_num _ _ _ v false _ hW0.out (by simp) (by simp) hft)
                  rw [List.nil_append] at WN
                  have hfH := Lib.hid hft
                  rw [hft] at FT
                  clear hft
                  go_wp2_with fail
                  refine WN.out.mono ?_
                  rintro e w2 ⟨rfl, hW2, hb2⟩
                  have hb3 := Lib.hid (hBl.out.trans hb2)
                  have hR2 := hR1a.out.below hb3.out
                  have c2 : w2.cell? ⟨p, 2, none⟩ = some (.bool false) := rd_flag hR2
                  have hR2 := Lib.hid hR2
                  obtain ⟨-, vv, hB2, hO2⟩ := hW2
                  obtain ⟨A2, k2, rfl⟩ := own_slice hO2
                  have d0 : w2.cell? ⟨wc.heap.size, 0, none⟩ = some (.slice A2 (numB v).length k2) := hB2.cell 0
                  clear hb2 hB2 hO2
                  by_cases hlen : (numB v).length = k + 1
                  · have hres := Lib.hid (num_ok hend.out ⟨hfH.out, hlen⟩)
                    have hlen' : ((numB v).length : Int) = (k : Int) + 1 := by omega
                    clear hlen
                    go_wp2_with fail
                    refine (FT _).out.mono ?_
                    rintro e w3 ⟨rfl, rfl⟩
                    go_wp2_with fail
                    go_ret
                    exact RdEnd.mk v (some (l.drop (k + 1))) rfl (Took.yes hres.out) hR2.out (hK1a.out.trans (RdK.of_below hb3.out)) (fits_nOk hfH.out)
                  · have hres := Lib.hid (Took.no (x := (0 : Int)) (num_bad hend.out (fun h => hlen h.2)))
                    have hlen2 : ¬ ((numB v).length : Int) = (k : Int) + 1 := by omega
                    clear hlen
                    go_wp2_with fail
                    refine (FT _).out.mono ?_
                    rintro e w3 ⟨rfl, rfl⟩
                    go_wp2_with fail
                    exact ⟨⟨5, _, _, rfl, rfl, rfl, by omega, Lib.hid (hK1a.out.trans (RdK.of_below hb3.out)), Lib.hid (Or.inl ⟨rfl, ⟨_, hR2.out⟩, hres.out⟩)⟩, by simp [intOf]; try omega⟩
        · have hres := Lib.hid (num_none (hg.out.trans (comb_none (by omega))))
          have hnil : l.drop k = [] := List.drop_eq_nil_of_le (by omega)
          have BY := Lib.hid (rf_byte_nil p s wr (by have := hR.out; rw [hnil] at this; exact this) hs)
          have hwb := wide7_le k (by omega)
          have hwp := wide7_pos k
          have hwb1 := wide7_le (k + 1) (by omega)
          have hw1 : wide7 (k + 1) = 128 * wide7 k := rfl
          have hzb : 128 * wide7 k ≤ 34359738368 := by omega
          have hyb : y ≤ 34359738368 := by omega
          clear hg c1 f1 f2 hf1 hwb1 hw1
          generalize wide7 k = z at *
          have WB : RowKit.Hid (∀ w1 : World, Calls Try.prog 47 #[.pointer (some ⟨w1.heap.size, 0, none⟩), .int .i64 y] (w1.alloc (.cells #[.slice none 0 0, .bool false] 90)) fun e w' => e = .returned (.tuple #[]) ∧ Below w1.heap.size w1 w') := Lib.hid (fun w1 => by
            have hW0 : WdIs w1.heap.size (w1.alloc (.cells #[.slice none 0 0, .bool false] 90)) w1.heap.size [] false := ⟨Nat.le_refl _, .slice none 0 0, Blk.new w1 _ _, World.ownsRow_nil _ _ _ _⟩
            cases hft : fits y
            · exact (wd_num_no _ _ _ y false _ hW0 hft (by omega) (by omega)).mono fun e w' h => ⟨h.1, ((Below.refl w1.heap.size w1).alloc (Nat.le_refl _) _).trans h.2⟩
            · exact (wd_num _ _ _ y false _ hW0 (by simp) (by simp) hft).mono fun e w' h => ⟨h.1, ((Below.refl w1.heap.size w1).alloc (Nat.le_refl _) _).trans h.2.2⟩)
          go_wp2_with fail
          refine BY.out.mono ?_
          rintro e w1 ⟨rfl, hR1, hK1⟩
          have hR1a := Lib.hid hR1
          have hK1a := Lib.hid (hK.out.trans hK1)
          clear hR1 hK1 BY hR
          go_wp2_with fail
          refine (WB.out w1).mono ?_
          rintro e w2 ⟨rfl, hb2⟩
          have hb3 := Lib.hid hb2
          have hR2 := hR1a.out.below hb3.out
          have c2 : w2.cell? ⟨p, 2, none⟩ = some (.bool true) := rd_flag hR2
          have hR2 := Lib.hid hR2
          clear hb2
          go_wp2_with fail
          exact ⟨⟨5, _, _, rfl, rfl, rfl, by omega, Lib.hid (hK1a.out.trans (RdK.of_below hb3.out)), Lib.hid (Or.inl ⟨rfl, ⟨_, hR2.out⟩, Took.no hres.out⟩)⟩, by simp [intOf]; try omega⟩
      · obtain rfl : k = 5 := by omega
        have hres := Lib.hid (num_none (hg.out.trans (show comb 5 y (grp 0 (l.drop 5)) = none from rfl)))
        clear hg
        go_wp2_with fail
        go_ret
        exact hbadEnd.out wr _ hR.out hK.out (Took.no hres.out)

end Go.Proofs.Ytceflhffilldeaa

/-
  The document's Decode: its counts.
-/
namespace Go.Proofs.Ytceflhffilldeaa
set_option linter.unusedVariables false
set_option linter.unusedSimpArgs false
open Go.RowKit ObjL

set_option maxRecDepth 100000 in
theorem rf_count (p : Nat) (s : List UInt8) (st : Lft) (lim : Int) (w : World) (h : RdIs rfT w p s st) (hs : s.length ≤ 1000000) (hl : 0 ≤ lim) :
    Calls Try.prog 63 #[.pointer (some ⟨p, 0, none⟩), .int .i64 lim] w (RdEnd rfT p s (cnt true lim) (Value.int .i64) (fun m => 0 ≤ m ∧ m ≤ lim) st w) := by
  have RN := Lib.hid (rf_num p s st w h hs)
  clear h
  go_enter Try.func63, Try.ntmps63
  go_wp2_with fail
  refine RN.out.mono ?_
  rintro e w1 ⟨n, st1, rfl, h1, h2, h3, h4⟩
  have SP := Lib.hid (rf_spoil p s st1 w1 h2)
  have g1 := Lib.hid h1
  have g2 := Lib.hid h2
  have g3 := Lib.hid h3
  clear h1 h2 h3 h4
  by_cases ha : n < 0
  · go_wp2_with fail
    refine SP.out.mono ?_
    rintro e w2 ⟨rfl, k1, k2⟩
    go_wp2_with fail
    go_ret
    exact RdEnd.mk 0 none rfl (took_cnt_out g1.out (by omega) 0) k1 (g3.out.trans k2) ⟨by omega, by omega⟩
  · by_cases hb : lim < n
    · go_wp2_with fail
      refine SP.out.mono ?_
      rintro e w2 ⟨rfl, k1, k2⟩
      go_wp2_with fail
      go_ret
      exact RdEnd.mk 0 none rfl (took_cnt_out g1.out (by omega) 0) k1 (g3.out.trans k2) ⟨by omega, by omega⟩
    · go_wp2_with fail
      go_ret
      exact RdEnd.mk n st1 rfl (took_cnt_in g1.out ⟨by omega, by omega⟩) g2.out g3.out ⟨by omega, by omega⟩
end Go.Proofs.Ytceflhffilldeaa
