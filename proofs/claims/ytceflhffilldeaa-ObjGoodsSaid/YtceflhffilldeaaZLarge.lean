/-
  The statements' Large, walked: what is not large may be copied.
-/
import Derived.Test.YtceflhffilldeaaZCopyD
import Derived.Test.YtceflhffilldeaaZOpen
import Derived.Test.YtceflhffilldeaaZSameDc
import Derived.Test.YtceflhffilldeaaZObjG
namespace Go.Proofs.Ytceflhffilldeaa
set_option linter.unusedVariables false
set_option linter.unusedSimpArgs false
open Go.RowKit ObjL

/-- What Large answers: what is not large may be copied. -/
def LargeEnd (o : Ob) (w : World) (e : Ending) (w' : World) : Prop := ∃ L, e = .returned (.bool L) ∧ (L = false → CopyOk o) ∧ Below w.heap.size w w'
theorem LargeEnd.mk {o : Ob} {w w' : World} {v : Value} (L : Bool) (h : v = .bool L) (h2 : L = false → CopyOk o) (h3 : Below w.heap.size w w') : LargeEnd o w (.returned v) w' := ⟨L, by rw [h], h2, h3⟩
set_option maxRecDepth 100000 in
set_option maxHeartbeats 4000000 in
theorem law23_large (o : Ob) (vU vD vC vE : Value) (w : World) (hp : ObParts w o vU vD vC vE) (hzz : ObSized o) :
    Calls Try.prog 23 #[.agg (obCells o vU vD vC vE)] w (LargeEnd o w) := by
  have hp0 := Lib.hid hp
  obtain ⟨⟨-, AU, cU, rfl, -⟩, ⟨-, AD, cD, rfl, -⟩, ⟨-, AC, cC, rfl, -⟩, ⟨-, AE, cE, rfl, -⟩⟩ := hp
  have B2 := (Below.refl w.heap.size w).alloc (Nat.le_refl _) (.cells (obCells o (.slice AU o.uses.length cU) (.slice AD o.descs.length cD) (.slice AC o.code.length cC) (.slice AE o.entries.length cE)) 49)
  have L1 := Lib.hid (Blk.new w 49 (obCells o (.slice AU o.uses.length cU) (.slice AD o.descs.length cD) (.slice AC o.code.length cC) (.slice AE o.entries.length cE)))
  have P1 := Lib.hid (hp0.out.below B2)
  have B2 := Lib.hid B2
  have hz := Lib.hid hzz
  clear hp0
  go_enter Try.func23, Try.ntmps23
  go_upto_region 1 with fail
  generalize hW : w.alloc (.cells (obCells o (.slice AU o.uses.length cU) (.slice AD o.descs.length cD) (.slice AC o.code.length cC) (.slice AE o.entries.length cE)) 49) = W at *
  clear hW
  go_upto_block 0 with fail
  go_cut [3, 4] from 6 to 26 (fun n i wx => ∃ (x : Nat), n = .int .i64 x ∧ RowKit.Hid ((x ≤ 60000 → o.descs.length ≤ x ∧ ∀ j, j < o.descs.length → (o.descs.getD j (0, [])).2.length ≤ x) ∧ x ≤ 140737488420000 ∧ Below W.heap.size W wx))
  case first =>
    go_wp2_with fail
    go_loopw [3, 4] (fun n i wr => ∃ (k x : Nat), i = .int .i64 k ∧ n = .int .i64 x ∧ k ≤ o.descs.length ∧ RowKit.Hid (k ≤ x ∧ (∀ j, j < k → (o.descs.getD j (0, [])).2.length ≤ x) ∧ x ≤ 140737488420000 ∧ Below W.heap.size W wr)) (fun _ i _ => o.descs.length - (intOf i).toNat)
    case atStart => exact ⟨0, 0, rfl, rfl, by omega, Lib.hid ⟨by omega, fun j hj => by omega, by omega, Below.refl _ _⟩⟩
    case round =>
      obtain ⟨k, x, rfl, rfl, hk, hI⟩ := hrel
      have hb3 := hI.out.2.2.2
      have c3 : wr.cell? ⟨w.heap.size, 3, none⟩ = some (.slice AD o.descs.length cD) := (L1.out.below hb3 L1.out.lt).cell 3
      have hul : o.descs.length ≤ 140737488351232 := by have := hz.out.descs; omega
      have hx60 : x ≤ 140737488420000 := by have := hI.out.2.2.1; omega
      clear hb3
      by_cases hlt : (k : Int) < (o.descs.length : Int)
      · by_cases hle : (x : Int) ≤ 60000
        · have hkl : k < o.descs.length := by omega
          obtain ⟨ad, hAd, had, x1⟩ := rowOf_at P1.out.descs k hkl
          subst hAd
          obtain ⟨y1, x4, p1⟩ := x1 1 (by decide)
          obtain ⟨-, A9, c9, e9, -⟩ := p1.2 rfl
          subst e9
          have hel : o.descs[k].2.length ≤ 140737488351232 := by have := hz.out.desc _ (List.getElem_mem hkl); omega
          have X4 : wr.cell? ⟨(ad.add (k * 2)).block, (ad.add (k * 2)).off + 1, none⟩ = some (.slice A9 o.descs[k].2.length c9) := (hI.out.2.2.2.cell (p := ⟨(ad.add (k * 2)).block, (ad.add (k * 2)).off + 1, none⟩) (by show (ad.add (k * 2)).block < _; rw [block_add]; exact had)).trans x4
          have hgd : o.descs.getD k (0, []) = o.descs[k] := by simp [List.getD, hkl]
          clear x1 x4 p1
          have hgd := Lib.hid hgd
          generalize o.descs[k] = dk at *
          generalize hln : dk.2.length = ln at *
          have hlnh := Lib.hid hln
          clear hln
          have w1 : IntKind.i64.wrap (1 + (ln : Int)) = 1 + (ln : Int) := by rw [IntKind.wrap_i64]; omega
          have w2 : IntKind.i64.wrap ((x : Int) + (1 + (ln : Int))) = (x : Int) + (1 + (ln : Int)) := by rw [IntKind.wrap_i64]; omega
          go_wp2_with fail
          refine ⟨⟨k + 1, x + (1 + ln), by go_num, by push_cast; rfl, by omega, Lib.hid ⟨by have := hI.out.1; omega, fun j hj' => ?_, by omega, hI.out.2.2.2⟩⟩, by simp [intOf]; omega⟩
          rcases Nat.lt_or_ge j k with h | h
          · exact Nat.le_trans (hI.out.2.1 j h) (by omega)
          · obtain rfl : j = k := by omega
            rw [hgd.out, hlnh.out]; omega
        · go_wp2_with fail
          go_meet
          exact ⟨x, rfl, Lib.hid ⟨fun h => by omega, by omega, hI.out.2.2.2⟩⟩
      · go_wp2_with fail
        go_meet
        have hkn : k = o.descs.length := by omega
        exact ⟨x, rfl, Lib.hid ⟨fun h => ⟨by rw [← hkn]; exact hI.out.1, by rw [← hkn]; exact hI.out.2.1⟩, by omega, hI.out.2.2.2⟩⟩
  case rest =>
    obtain ⟨x0, rfl, hC⟩ := hcut
    go_wp2_with fail
    go_loopw [3, 5] (fun n i wr => ∃ (k x : Nat), i = .int .i64 k ∧ n = .int .i64 x ∧ k ≤ o.uses.length ∧ RowKit.Hid (k + x0 ≤ x ∧ (∀ j, j < k → (o.uses.getD j ([], 0)).1.length ≤ x) ∧ x ≤ 140737488420000 ∧ Below W.heap.size W wr)) (fun _ i _ => o.uses.length - (intOf i).toNat)
    case atStart => exact ⟨0, x0, rfl, rfl, by omega, Lib.hid ⟨by omega, fun j hj => by omega, hC.out.2.1, hC.out.2.2⟩⟩
    case round =>
      have hOKg : ∀ (k x : Nat), k ≤ o.uses.length → (k = o.uses.length ∨ 60000 < x) → (k + x0 ≤ x ∧ (∀ j, j < k → (o.uses.getD j ([], 0)).1.length ≤ x) ∧ x ≤ 140737488420000 ∧ Below W.heap.size W wr) → (x : Int) ≤ 60000 → (o.code.length : Int) ≤ 9000 → (o.entries.length : Int) ≤ 1000 → CopyOk o := fun k x h1 h2 h3 h4 h5 h6 => by
        have hk : k = o.uses.length := by omega
        have hx0 : x0 ≤ 60000 := by omega
        obtain ⟨d1, d2⟩ := hC.out.1 hx0
        refine ⟨by omega, by omega, by omega, by omega, fun d hd => ?_⟩
        obtain ⟨i, hi, rfl⟩ := List.getElem_of_mem hd
        have := d2 i hi
        simp only [List.getD, List.getElem?_eq_getElem hi, Option.getD_some] at this
        omega
      have hOKg := Lib.hid hOKg
      obtain ⟨k, x, rfl, rfl, hk, hI⟩ := hrel
      have hb3 := hI.out.2.2.2
      have c3 : wr.cell? ⟨w.heap.size, 2, none⟩ = some (.slice AU o.uses.length cU) := (L1.out.below hb3 L1.out.lt).cell 2
      have hul : o.uses.length ≤ 140737488351232 := by have := hz.out.uses; omega
      have hx60 : x ≤ 140737488420000 := by have := hI.out.2.2.1; omega
      clear hb3
      by_cases hlt : (k : Int) < (o.uses.length : Int)
      · by_cases hle : (x : Int) ≤ 60000
        · have hkl : k < o.uses.length := by omega
          obtain ⟨ad, hAd, had, x1⟩ := rowOf_at P1.out.uses k hkl
          subst hAd
          obtain ⟨y1, x4, p1⟩ := x1 0 (by decide)
          have e9 := p1.1 rfl
          subst e9
          have hel : o.uses[k].1.length ≤ 140737488351232 := hz.out.use _ (List.getElem_mem hkl)
          have X4 : wr.cell? (ad.add (k * 2)) = some (.string (txt o.uses[k].1)) := (hI.out.2.2.2.cell (p := ad.add (k * 2)) (by rw [block_add]; exact had)).trans x4
          have hss := txt_size o.uses[k].1
          have hgd : o.uses.getD k ([], 0) = o.uses[k] := by simp [List.getD, hkl]
          clear x1 x4 p1
          have hgd := Lib.hid hgd
          generalize o.uses[k] = dk at *
          generalize hln : dk.1.length = ln at *
          have hlnh := Lib.hid hln
          clear hln
          have w1 : IntKind.i64.wrap (1 + (ln : Int)) = 1 + (ln : Int) := by rw [IntKind.wrap_i64]; omega
          have w2 : IntKind.i64.wrap ((x : Int) + (1 + (ln : Int))) = (x : Int) + (1 + (ln : Int)) := by rw [IntKind.wrap_i64]; omega
          go_wp2_with fail
          refine ⟨⟨k + 1, x + (1 + ln), by go_num, by push_cast; rfl, by omega, Lib.hid ⟨by have := hI.out.1; omega, fun j hj' => ?_, by omega, hI.out.2.2.2⟩⟩, by simp [intOf]; omega⟩
          rcases Nat.lt_or_ge j k with h | h
          · exact Nat.le_trans (hI.out.2.1 j h) (by omega)
          · obtain rfl : j = k := by omega
            rw [hgd.out, hlnh.out]; omega
        · go_upto_region 10 with fail
          have bE : Below w.heap.size w wr := B2.out.trans (hI.out.2.2.2.mono B2.out.size)
          clear hI c3
          go_wp2_with fail
          go_ret
          exact LargeEnd.mk true rfl (by simp) bE
      · go_upto_region 10 with fail
        have hbL := hI.out.2.2.2
        have hOKf := hOKg.out k x hk (by omega) hI.out
        clear hI c3
        have bE : Below w.heap.size w wr := B2.out.trans (hbL.mono B2.out.size)
        have a6 : wr.cell? ⟨w.heap.size, 6, none⟩ = some (.slice AC o.code.length cC) := (L1.out.below hbL L1.out.lt).cell 6
        have a5 : wr.cell? ⟨w.heap.size, 5, none⟩ = some (.string (txt o.strings)) := (L1.out.below hbL L1.out.lt).cell 5
        have a7 : wr.cell? ⟨w.heap.size, 7, none⟩ = some (.slice AE o.entries.length cE) := (L1.out.below hbL L1.out.lt).cell 7
        have a0 : wr.cell? ⟨w.heap.size, 0, none⟩ = some (.string (txt o.name)) := (L1.out.below hbL L1.out.lt).cell 0
        have s5 := txt_size o.strings
        have s0 := txt_size o.name
        clear hbL
        by_cases g1 : (60000 : Int) < (x : Int)
        · go_wp2_with fail
          go_ret
          exact LargeEnd.mk true rfl (by simp) bE
        · by_cases g2 : (3000 : Int) < (o.code.length : Int)
          · by_cases g3 : (o.code.length : Int) ≤ 8192
            · go_wp2_with fail
              go_ret
              exact LargeEnd.mk true rfl (by simp) bE
            · by_cases g4 : (9000 : Int) < (o.code.length : Int)
              · go_wp2_with fail
                go_ret
                exact LargeEnd.mk true rfl (by simp) bE
              · by_cases h3 : (60000 : Int) < (o.strings.length : Int)
                · go_wp2_with fail
                  go_ret
                  exact LargeEnd.mk true rfl (by simp) bE
                · by_cases h2 : (1000 : Int) < (o.entries.length : Int)
                  · go_wp2_with fail
                    go_ret
                    exact LargeEnd.mk true rfl (by simp) bE
                  · by_cases h1 : (1000 : Int) < (o.name.length : Int)
                    · go_wp2_with fail
                      go_ret
                      exact LargeEnd.mk true rfl (by simp) bE
                    · have hOK := Lib.hid (hOKf (by omega) (by omega) (by omega))
                      go_wp2_with fail
                      go_ret
                      exact LargeEnd.mk false rfl (fun _ => hOK.out) bE
          · have g4 : ¬ (9000 : Int) < (o.code.length : Int) := by omega
            by_cases h3 : (60000 : Int) < (o.strings.length : Int)
            · go_wp2_with fail
              go_ret
              exact LargeEnd.mk true rfl (by simp) bE
            · by_cases h2 : (1000 : Int) < (o.entries.length : Int)
              · go_wp2_with fail
                go_ret
                exact LargeEnd.mk true rfl (by simp) bE
              · by_cases h1 : (1000 : Int) < (o.name.length : Int)
                · go_wp2_with fail
                  go_ret
                  exact LargeEnd.mk true rfl (by simp) bE
                · have hOK := Lib.hid (hOKf (by omega) (by omega) (by omega))
                  go_wp2_with fail
                  go_ret
                  exact LargeEnd.mk false rfl (fun _ => hOK.out) bE

end Go.Proofs.Ytceflhffilldeaa

/-
  The statements' plain object. No walk.
-/
namespace Go.Proofs.Ytceflhffilldeaa
set_option linter.unusedVariables false
set_option linter.unusedSimpArgs false
open Go.RowKit ObjL

def plainOb : Ob := ⟨[65], 1, [], [], 0, [], [3338665999], [0], -1, -1⟩
set_option maxRecDepth 100000 in
theorem plain_good : goodO plainOb = true := by decide
set_option maxRecDepth 100000 in
theorem plain_len : (encO plainOb).length = 24 := by decide
theorem none_good : goodO ⟨[], 0, [], [], 0, [], [], [], 0, 0⟩ = false := by decide
end Go.Proofs.Ytceflhffilldeaa
