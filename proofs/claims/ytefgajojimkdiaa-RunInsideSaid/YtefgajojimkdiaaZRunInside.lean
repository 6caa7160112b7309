/-
  The statement RunInside: its walk.
-/
import Derived.Test.YtefgajojimkdiaaZRunKit
import Derived.Deep.RegionHeld3
import Derived.WalkMore
namespace Go.Proofs.Ytefgajojimkdiaa
set_option linter.unusedVariables false
set_option linter.unusedSimpArgs false
open Go.RowKit Bw

/-- Where the code of the i-th module ends. -/
def insEnd (l : List Int) (n : Nat) (D : Nat → Int) (i : Nat) : Int := if i + 1 < n then D (i + 1) else if 4 < l.length then l.getD 4 0 / 4 else 0
/-- Is a place in the i-th module's code? -/
def insHit (l : List Int) (n : Nat) (D C : Nat → Int) (at_ : Int) (i : Nat) : Bool := decide (C i ≤ at_) && decide (at_ < insEnd l n D i)
def insAny (l : List Int) (n : Nat) (D C : Nat → Int) (at_ : Int) (k : Nat) : Bool := (List.range k).any (insHit l n D C at_)
/-- Is it in how the image begins? -/
def insHead (n : Nat) (D : Nat → Int) (at_ : Int) : Bool := decide (0 < n) && decide (8 ≤ at_) && decide (at_ < D 0)
theorem insAny_succ (l : List Int) (n : Nat) (D C : Nat → Int) (at_ : Int) (k : Nat) : insAny l n D C at_ (k + 1) = (insAny l n D C at_ k || insHit l n D C at_ k) := by
  simp [insAny, List.range_succ]
theorem insAny_le {l : List Int} {n : Nat} {D C : Nat → Int} {at_ : Int} {k m : Nat} (hk : k ≤ m) (h : insAny l n D C at_ k = true) : insAny l n D C at_ m = true := by
  simp only [insAny, List.any_eq_true, List.mem_range] at h ⊢
  obtain ⟨i, hi, hh⟩ := h
  exact ⟨i, by omega, hh⟩

set_option maxRecDepth 100000 in
set_option maxHeartbeats 4000000 in
theorem ref27_inside (l : List Int) (n : Nat) (D C : Nat → Int) (st at_ : Int) (vW vM : Value) (w : World) (h : Row .u32 w vW l) (hM : MRow w vM n D C) (hu : ∀ x ∈ l, Mc.W32 x) (hn : n ≤ 100) :
    Calls Try.prog 35 #[.agg #[vW, .int .i64 st, vM], .int .i64 at_] w fun e w' => e = .returned (.bool (insAny l n D C at_ n || insHead n D at_)) ∧ Below w.heap.size w w' := by
  have B1 : Below w.heap.size w (w.alloc (.cells #[vW, .int .i64 st, vM] 68)) := (Below.refl _ _).alloc (Nat.le_refl _) _
  have h1 := Lib.hid (h.below B1)
  have M1 := Lib.hid (hM.below B1)
  have B1 := Lib.hid B1
  have hu := Lib.hid hu
  have hn' : (n : Int) ≤ 100 := by omega
  obtain ⟨hm, A, c, rfl, hc⟩ := h
  obtain ⟨hm2, A2, c2, rfl, hc2⟩ := hM
  clear hc hc2
  go_enter Try.func35, Try.ntmps35
  go_wp2_with fail
  have I0 := Blk.new w 68 #[.slice A l.length c, .int .i64 st, .slice A2 n c2]
  generalize hW : w.alloc (.cells #[.slice A l.length c, .int .i64 st, .slice A2 n c2] 68) = W at *
  clear hW
  have c0 := I0.cell 0
  have c2 := I0.cell 2
  simp only [List.getElem?_toArray, List.getElem?_cons_zero, List.getElem?_cons_succ] at c0 c2
  have I0 := Lib.hid I0
  go_loop [5] (fun i => ∃ k : Nat, i = .int .i64 k ∧ k ≤ n ∧ RowKit.Hid (insAny l n D C at_ k = false)) (fun i => n - (intOf i).toNat)
  case atStart => exact ⟨0, rfl, by omega, Lib.hid rfl⟩
  case round =>
    obtain ⟨k, rfl, hk, hno⟩ := hrel
    by_cases hlt : (k : Int) < (n : Int)
    · have hkn : k < n := by omega
      obtain ⟨_, A2', c2', e2, hc2⟩ := M1.out
      injection e2 with e2 _ e3
      subst e2 e3
      obtain ⟨ad, rfl, had, hD, hC⟩ := hc2 k hkn
      have xC : W.cell? ⟨(ad.add (k * 6)).block, (ad.add (k * 6)).off + 5, none⟩ = some (.int .i64 (C k)) := hC
      have hsucc := Lib.hid (insAny_succ l n D C at_ k)
      obtain ⟨K1, hK1⟩ : ∃ K1 : Nat, k + 1 = K1 := ⟨_, rfl⟩
      have hkw : IntKind.i64.wrap ((k : Int) + 1) = (K1 : Int) := by rw [IntKind.wrap_i64]; omega
      obtain ⟨E, hE⟩ : ∃ E, insEnd l n D k = E := ⟨_, rfl⟩
      have hhit : RowKit.Hid (insHit l n D C at_ k = (decide (C k ≤ at_) && decide (at_ < E))) := Lib.hid (by rw [insHit, hE])
      have hK1' := Lib.hid hK1
      have hfin : ∀ b : Bool, (decide (C k ≤ at_) && decide (at_ < E)) = b → RowKit.Hid (insAny l n D C at_ K1 = b) := fun b hb => Lib.hid (by rw [← hK1, hsucc.out, hno.out, hhit.out, hb, Bool.false_or])
      have hfin := Lib.hid hfin
      generalize C k = CK at *
      by_cases hk1 : (K1 : Int) < (n : Int)
      · obtain ⟨ad', e1, _, hD1, _⟩ := hc2 K1 (by omega)
        injection e1 with e1
        subst e1
        have hED : E = D K1 := by rw [← hE, insEnd, hK1, if_pos (by omega)]
        have xD : W.cell? ⟨(ad.add (K1 * 6)).block, (ad.add (K1 * 6)).off + 2, none⟩ = some (.int .i64 E) := by rw [hED]; exact hD1
        clear hE hED hD hC hc2 hD1 hK1 hhit hsucc
        have hkK := hK1'.out
        by_cases h1 : CK ≤ at_
        · by_cases h2 : at_ < E
          · clear hkK
            go_wp2_with fail
            go_ret
            have hf := hfin.out true (by simp [h1, h2])
            have hkK := hK1'.out
            exact ⟨by rw [insAny_le (m := n) (by omega) hf.out, Bool.true_or]; rfl, B1.out⟩
          · clear hkK
            go_wp2_with fail
            have hkK := hK1'.out
            exact ⟨⟨K1, rfl, by omega, hfin.out false (by simp [h2])⟩, by simp only [intOf]; omega⟩
        · clear hkK
          go_wp2_with fail
          have hkK := hK1'.out
          exact ⟨⟨K1, rfl, by omega, hfin.out false (by simp [h1])⟩, by simp only [intOf]; omega⟩
      · clear hD hC
        by_cases h4 : 4 < l.length
        · have h4' : (4 : Int) < (l.length : Int) := by omega
          obtain ⟨_, Aw, cw, e2, hcw⟩ := h1.out
          injection e2 with e2 _ e3
          subst e2 e3
          obtain ⟨aw, rfl, haw, hcell⟩ := hcw 4 h4
          have hwb := hu.out (l.getD 4 0) (by simp [List.getD, h4])
          have hED : E = l.getD 4 0 / 4 := by rw [← hE, insEnd, hK1, if_neg (by omega), if_pos h4]
          unfold Mc.W32 at hwb
          generalize l.getD 4 0 = w4 at *
          have x4 : W.cell? ⟨aw.block, aw.off + 4, none⟩ = some (.int .u32 w4) := hcell
          have q1 : w4.tdiv 4 = E := by rw [hED]; exact Int.tdiv_eq_ediv_of_nonneg hwb.1
          have q1' : w4 / 4 = E := hED.symm
          have q2 : IntKind.u32.wrap E = E := by rw [IntKind.wrap_u32]; omega
          have q3 : IntKind.i64.wrap E = E := by rw [IntKind.wrap_i64]; omega
          clear hE hED hcell hcw hwb hc2 hK1 hhit hsucc
          have hkK := hK1'.out
          by_cases h1 : CK ≤ at_
          · by_cases h2 : at_ < E
            · clear hkK
              go_wp2_with fail
              go_ret
              have hf := hfin.out true (by simp [h1, h2])
              have hkK := hK1'.out
              exact ⟨by rw [insAny_le (m := n) (by omega) hf.out, Bool.true_or]; rfl, B1.out⟩
            · clear hkK
              go_wp2_with fail
              have hkK := hK1'.out
              exact ⟨⟨K1, rfl, by omega, hfin.out false (by simp [h2])⟩, by simp only [intOf]; omega⟩
          · clear hkK
            go_wp2_with fail
            have hkK := hK1'.out
            exact ⟨⟨K1, rfl, by omega, hfin.out false (by simp [h1])⟩, by simp only [intOf]; omega⟩
        · have h4' : ¬ (4 : Int) < (l.length : Int) := by omega
          have hED : E = 0 := by rw [← hE, insEnd, hK1, if_neg (by omega), if_neg h4]
          subst hED
          clear hE hc2 hK1 hhit hsucc
          have hkK := hK1'.out
          by_cases h1 : CK ≤ at_
          · by_cases h2 : at_ < 0
            · clear hkK
              go_wp2_with fail
              go_ret
              have hf := hfin.out true (by simp [h1, h2])
              have hkK := hK1'.out
              exact ⟨by rw [insAny_le (m := n) (by omega) hf.out, Bool.true_or]; rfl, B1.out⟩
            · clear hkK
              go_wp2_with fail
              have hkK := hK1'.out
              exact ⟨⟨K1, rfl, by omega, hfin.out false (by simp [h2])⟩, by simp only [intOf]; omega⟩
          · clear hkK
            go_wp2_with fail
            have hkK := hK1'.out
            exact ⟨⟨K1, rfl, by omega, hfin.out false (by simp [h1])⟩, by simp only [intOf]; omega⟩
    · have hkn : k = n := by omega
      subst hkn
      have hlt' : ¬ (k : Int) < (k : Int) := by omega
      by_cases h0 : k = 0
      · subst h0
        go_wp2_with fail
        go_ret
        exact ⟨by rw [hno.out]; rfl, B1.out⟩
      · have hpos : (0 : Int) < (k : Int) := by omega
        obtain ⟨_, A2', c2', e2, hc2⟩ := M1.out
        injection e2 with e2 _ e3
        subst e2 e3
        obtain ⟨ad, rfl, had, hD, _⟩ := hc2 0 (by omega)
        have xD : W.cell? ⟨ad.block, ad.off + 2, none⟩ = some (.int .i64 (D 0)) := by simpa [Addr.add] using hD
        have hh' : insHead k D at_ = (decide (8 ≤ at_) && decide (at_ < D 0)) := by rw [insHead, decide_eq_true (by omega : 0 < k), Bool.true_and]
        have hh := Lib.hid hh'
        clear hh'
        generalize D 0 = D0 at *
        clear hD hc2
        by_cases h1 : (8 : Int) ≤ at_
        · by_cases h2 : at_ < D0
          · go_wp2_with fail
            go_ret
            exact ⟨by rw [hno.out, hh.out]; simp [h1, h2], B1.out⟩
          · go_wp2_with fail
            go_ret
            exact ⟨by rw [hno.out, hh.out]; simp [h1, h2], B1.out⟩
        · go_wp2_with fail
          go_ret
          exact ⟨by rw [hno.out, hh.out]; simp; omega, B1.out⟩

end Go.Proofs.Ytefgajojimkdiaa

/-
  The program's Inside, walked; the statement RunInside's walk.
-/
namespace Go.Proofs.Ytefgajojimkdiaa
set_option linter.unusedVariables false
set_option linter.unusedSimpArgs false
open Go.RowKit Bw

set_option maxRecDepth 100000 in
set_option maxHeartbeats 4000000 in
theorem run_inside (l : List Int) (n : Nat) (D C : Nat → Int) (st at_ : Int) (vW vM : Value) (w : World) (h : Row .u32 w vW l) (hM : MRow w vM n D C) (hu : ∀ x ∈ l, Mc.W32 x) (hn : n ≤ 100) :
    Calls Try.prog 34 #[.agg #[vW, .int .i64 st, vM], .int .i64 at_] w fun e w' => e = .returned (.bool (insAny l n D C at_ n || insHead n D at_)) ∧ Below w.heap.size w w' := by
  have B1 : Below w.heap.size w (w.alloc (.cells #[vW, .int .i64 st, vM] 68)) := (Below.refl _ _).alloc (Nat.le_refl _) _
  have h1 := Lib.hid (h.below B1)
  have M1 := Lib.hid (hM.below B1)
  have B1 := Lib.hid B1
  have hu := Lib.hid hu
  have hn' : (n : Int) ≤ 100 := by omega
  obtain ⟨hm, A, c, rfl, hc⟩ := h
  obtain ⟨hm2, A2, c2, rfl, hc2⟩ := hM
  clear hc hc2
  go_enter Try.func34, Try.ntmps34
  go_wp2_with fail
  have I0 := Blk.new w 68 #[.slice A l.length c, .int .i64 st, .slice A2 n c2]
  generalize hW : w.alloc (.cells #[.slice A l.length c, .int .i64 st, .slice A2 n c2] 68) = W at *
  clear hW
  have c0 := I0.cell 0
  have c2 := I0.cell 2
  simp only [List.getElem?_toArray, List.getElem?_cons_zero, List.getElem?_cons_succ] at c0 c2
  have I0 := Lib.hid I0
  go_step3
  go_wp2_with fail
  go_step3
  go_wp2_with fail
  go_loop [5, 11] (fun o i => o = .bool false ∧ ∃ k : Nat, i = .int .i64 k ∧ k ≤ n ∧ RowKit.Hid (insAny l n D C at_ k = false ∧ (0 < k → insHead n D at_ = false))) (fun _ i => n - (intOf i).toNat)
  case atStart => exact ⟨rfl, 0, rfl, by omega, Lib.hid ⟨rfl, fun h => absurd h (by omega)⟩⟩
  case round =>
    obtain ⟨rfl, k, rfl, hk, hno⟩ := hrel
    by_cases hlt : (k : Int) < (n : Int)
    · have hkn : k < n := by omega
      obtain ⟨_, A2', c2', e2, hc2⟩ := M1.out
      injection e2 with e2 _ e3
      subst e2 e3
      obtain ⟨ad, rfl, had, hD, hC⟩ := hc2 k hkn
      obtain ⟨ad', e1, _, hD0, _⟩ := hc2 0 (by omega)
      injection e1 with e1
      subst e1
      have xD0 : W.cell? ⟨ad.block, ad.off + 2, none⟩ = some (.int .i64 (D 0)) := by simpa [Addr.add] using hD0
      have xC : W.cell? ⟨(ad.add (k * 6)).block, (ad.add (k * 6)).off + 5, none⟩ = some (.int .i64 (C k)) := hC
      have hsucc := Lib.hid (insAny_succ l n D C at_ k)
      obtain ⟨K1, hK1⟩ : ∃ K1 : Nat, k + 1 = K1 := ⟨_, rfl⟩
      have hkw : IntKind.i64.wrap ((k : Int) + 1) = (K1 : Int) := by rw [IntKind.wrap_i64]; omega
      obtain ⟨E, hE⟩ : ∃ E, insEnd l n D k = E := ⟨_, rfl⟩
      have hhit : RowKit.Hid (insHit l n D C at_ k = (decide (C k ≤ at_) && decide (at_ < E))) := Lib.hid (by rw [insHit, hE])
      have hK1' := Lib.hid hK1
      have hfin0 : ∀ b : Bool, (decide (C k ≤ at_) && decide (at_ < E)) = b → RowKit.Hid (insAny l n D C at_ K1 = b) := fun b hb => Lib.hid (by rw [← hK1, hsucc.out, hno.out.1, hhit.out, hb, Bool.false_or])
      have hfin := Lib.hid hfin0
      have hhead : RowKit.Hid (insHead n D at_ = (decide (8 ≤ at_) && decide (at_ < D 0))) := Lib.hid (by rw [insHead, decide_eq_true (by omega : 0 < n), Bool.true_and])
      clear hfin0 hD hC hD0
      obtain ⟨CK, hCK⟩ : ∃ CK, C k = CK := ⟨_, rfl⟩
      rw [hCK] at xC hfin hhit
      obtain ⟨D0, hD0⟩ : ∃ D0, D 0 = D0 := ⟨_, rfl⟩
      rw [hD0] at xD0 hhead
      clear hCK hD0
      by_cases kz : k = 0
      · have hkz : ((k : Int) == 0) = true := by rw [beq_iff_eq]; omega
        have kz' := Lib.hid kz
        clear kz
        by_cases c8 : (8 : Int) ≤ at_
        · by_cases cD : at_ < D0
          · clear hE hc2 hK1 hhit hsucc
            go_wp2_with fail
            go_ret
            exact ⟨by rw [hhead.out]; simp [c8, cD], B1.out⟩
          · have hhn : RowKit.Hid (insHead n D at_ = false) := Lib.hid (by rw [hhead.out]; simp [cD])
            clear hhead
            by_cases hk1 : (K1 : Int) < (n : Int)
            · obtain ⟨ad', e1, _, hD1, _⟩ := hc2 K1 (by omega)
              injection e1 with e1
              subst e1
              have hED : E = D K1 := by rw [← hE, insEnd, hK1, if_pos (by omega)]
              have xD : W.cell? ⟨(ad.add (K1 * 6)).block, (ad.add (K1 * 6)).off + 2, none⟩ = some (.int .i64 E) := by rw [hED]; exact hD1
              clear hE hED hc2 hD1 hK1 hhit hsucc
              have hkK := hK1'.out
              by_cases h1 : CK ≤ at_
              · by_cases h2 : at_ < E
                · clear hkK
                  go_wp2_with fail
                  go_ret
                  have hf := hfin.out true (by simp [h1, h2])
                  have hkK := hK1'.out
                  exact ⟨by rw [insAny_le (m := n) (by omega) hf.out, Bool.true_or]; rfl, B1.out⟩
                · clear hkK
                  go_wp2_with fail
                  have hkK := hK1'.out
                  exact ⟨⟨rfl, K1, rfl, by omega, Lib.hid ⟨(hfin.out false (by simp [h2])).out, fun _ => hhn.out⟩⟩, by simp only [intOf]; omega⟩
              · clear hkK
                go_wp2_with fail
                have hkK := hK1'.out
                exact ⟨⟨rfl, K1, rfl, by omega, Lib.hid ⟨(hfin.out false (by simp [h1])).out, fun _ => hhn.out⟩⟩, by simp only [intOf]; omega⟩
            · by_cases h4 : 4 < l.length
              · have h4' : (4 : Int) < (l.length : Int) := by omega
                obtain ⟨_, Aw, cw, e2, hcw⟩ := h1.out
                injection e2 with e2 _ e3
                subst e2 e3
                obtain ⟨aw, rfl, haw, hcell⟩ := hcw 4 h4
                have hwb := hu.out (l.getD 4 0) (by simp [List.getD, h4])
                have hED : E = l.getD 4 0 / 4 := by rw [← hE, insEnd, hK1, if_neg (by omega), if_pos h4]
                unfold Mc.W32 at hwb
                generalize l.getD 4 0 = w4 at *
                have x4 : W.cell? ⟨aw.block, aw.off + 4, none⟩ = some (.int .u32 w4) := hcell
                have q1 : w4.tdiv 4 = E := by rw [hED]; exact Int.tdiv_eq_ediv_of_nonneg hwb.1
                have q1' : w4 / 4 = E := hED.symm
                have q2 : IntKind.u32.wrap E = E := by rw [IntKind.wrap_u32]; omega
                have q3 : IntKind.i64.wrap E = E := by rw [IntKind.wrap_i64]; omega
                clear hE hED hcell hcw hwb hc2 hK1 hhit hsucc
                have hkK := hK1'.out
                by_cases h1 : CK ≤ at_
                · by_cases h2 : at_ < E
                  · clear hkK
                    go_wp2_with fail
                    go_ret
                    have hf := hfin.out true (by simp [h1, h2])
                    have hkK := hK1'.out
                    exact ⟨by rw [insAny_le (m := n) (by omega) hf.out, Bool.true_or]; rfl, B1.out⟩
                  · clear hkK
                    go_wp2_with fail
                    have hkK := hK1'.out
                    exact ⟨⟨rfl, K1, rfl, by omega, Lib.hid ⟨(hfin.out false (by simp [h2])).out, fun _ => hhn.out⟩⟩, by simp only [intOf]; omega⟩
                · clear hkK
                  go_wp2_with fail
                  have hkK := hK1'.out
                  exact ⟨⟨rfl, K1, rfl, by omega, Lib.hid ⟨(hfin.out false (by simp [h1])).out, fun _ => hhn.out⟩⟩, by simp only [intOf]; omega⟩
              · have h4' : ¬ (4 : Int) < (l.length : Int) := by omega
                have hED : E = 0 := by rw [← hE, insEnd, hK1, if_neg (by omega), if_neg h4]
                subst hED
                clear hE hc2 hK1 hhit hsucc
                have hkK := hK1'.out
                by_cases h1 : CK ≤ at_
                · by_cases h2 : at_ < 0
                  · omega
                  · clear hkK
                    go_wp2_with fail
                    have hkK := hK1'.out
                    exact ⟨⟨rfl, K1, rfl, by omega, Lib.hid ⟨(hfin.out false (by simp [h2])).out, fun _ => hhn.out⟩⟩, by simp only [intOf]; omega⟩
                · clear hkK
                  go_wp2_with fail
                  have hkK := hK1'.out
                  exact ⟨⟨rfl, K1, rfl, by omega, Lib.hid ⟨(hfin.out false (by simp [h1])).out, fun _ => hhn.out⟩⟩, by simp only [intOf]; omega⟩
        · have hhn : RowKit.Hid (insHead n D at_ = false) := Lib.hid (by rw [hhead.out, decide_eq_false c8, Bool.false_and])
          clear hhead
          by_cases hk1 : (K1 : Int) < (n : Int)
          · obtain ⟨ad', e1, _, hD1, _⟩ := hc2 K1 (by omega)
            injection e1 with e1
            subst e1
            have hED : E = D K1 := by rw [← hE, insEnd, hK1, if_pos (by omega)]
            have xD : W.cell? ⟨(ad.add (K1 * 6)).block, (ad.add (K1 * 6)).off + 2, none⟩ = some (.int .i64 E) := by rw [hED]; exact hD1
            clear hE hED hc2 hD1 hK1 hhit hsucc
            have hkK := hK1'.out
            by_cases h1 : CK ≤ at_
            · by_cases h2 : at_ < E
              · clear hkK
                go_wp2_with fail
                go_ret
                have hf := hfin.out true (by simp [h1, h2])
                have hkK := hK1'.out
                exact ⟨by rw [insAny_le (m := n) (by omega) hf.out, Bool.true_or]; rfl, B1.out⟩
              · clear hkK
                go_wp2_with fail
                have hkK := hK1'.out
                exact ⟨⟨rfl, K1, rfl, by omega, Lib.hid ⟨(hfin.out false (by simp [h2])).out, fun _ => hhn.out⟩⟩, by simp only [intOf]; omega⟩
            · clear hkK
              go_wp2_with fail
              have hkK := hK1'.out
              exact ⟨⟨rfl, K1, rfl, by omega, Lib.hid ⟨(hfin.out false (by simp [h1])).out, fun _ => hhn.out⟩⟩, by simp only [intOf]; omega⟩
          · by_cases h4 : 4 < l.length
            · have h4' : (4 : Int) < (l.length : Int) := by omega
              obtain ⟨_, Aw, cw, e2, hcw⟩ := h1.out
              injection e2 with e2 _ e3
              subst e2 e3
              obtain ⟨aw, rfl, haw, hcell⟩ := hcw 4 h4
              have hwb := hu.out (l.getD 4 0) (by simp [List.getD, h4])
              have hED : E = l.getD 4 0 / 4 := by rw [← hE, insEnd, hK1, if_neg (by omega), if_pos h4]
              unfold Mc.W32 at hwb
              generalize l.getD 4 0 = w4 at *
              have x4 : W.cell? ⟨aw.block, aw.off + 4, none⟩ = some (.int .u32 w4) := hcell
              have q1 : w4.tdiv 4 = E := by rw [hED]; exact Int.tdiv_eq_ediv_of_nonneg hwb.1
              have q1' : w4 / 4 = E := hED.symm
              have q2 : IntKind.u32.wrap E = E := by rw [IntKind.wrap_u32]; omega
              have q3 : IntKind.i64.wrap E = E := by rw [IntKind.wrap_i64]; omega
              clear hE hED hcell hcw hwb hc2 hK1 hhit hsucc
              have hkK := hK1'.out
              by_cases h1 : CK ≤ at_
              · by_cases h2 : at_ < E
                · clear hkK
                  go_wp2_with fail
                  go_ret
                  have hf := hfin.out true (by simp [h1, h2])
                  have hkK := hK1'.out
                  exact ⟨by rw [insAny_le (m := n) (by omega) hf.out, Bool.true_or]; rfl, B1.out⟩
                · clear hkK
                  go_wp2_with fail
                  have hkK := hK1'.out
                  exact ⟨⟨rfl, K1, rfl, by omega, Lib.hid ⟨(hfin.out false (by simp [h2])).out, fun _ => hhn.out⟩⟩, by simp only [intOf]; omega⟩
              · clear hkK
                go_wp2_with fail
                have hkK := hK1'.out
                exact ⟨⟨rfl, K1, rfl, by omega, Lib.hid ⟨(hfin.out false (by simp [h1])).out, fun _ => hhn.out⟩⟩, by simp only [intOf]; omega⟩
            · have h4' : ¬ (4 : Int) < (l.length : Int) := by omega
              have hED : E = 0 := by rw [← hE, insEnd, hK1, if_neg (by omega), if_neg h4]
              subst hED
              clear hE hc2 hK1 hhit hsucc
              have hkK := hK1'.out
              by_cases h1 : CK ≤ at_
              · by_cases h2 : at_ < 0
                · clear hkK
                  go_wp2_with fail
                  go_ret
                  have hf := hfin.out true (by simp [h1, h2])
                  have hkK := hK1'.out
                  exact ⟨by rw [insAny_le (m := n) (by omega) hf.out, Bool.true_or]; rfl, B1.out⟩
                · clear hkK
                  go_wp2_with fail
                  have hkK := hK1'.out
                  exact ⟨⟨rfl, K1, rfl, by omega, Lib.hid ⟨(hfin.out false (by simp [h2])).out, fun _ => hhn.out⟩⟩, by simp only [intOf]; omega⟩
              · clear hkK
                go_wp2_with fail
                have hkK := hK1'.out
                exact ⟨⟨rfl, K1, rfl, by omega, Lib.hid ⟨(hfin.out false (by simp [h1])).out, fun _ => hhn.out⟩⟩, by simp only [intOf]; omega⟩
      · have hhn : RowKit.Hid (insHead n D at_ = false) := Lib.hid (hno.out.2 (by omega))
        have hkz : ((k : Int) == 0) = false := by rw [beq_eq_false_iff_ne]; omega
        clear hhead
        by_cases hk1 : (K1 : Int) < (n : Int)
        · obtain ⟨ad', e1, _, hD1, _⟩ := hc2 K1 (by omega)
          injection e1 with e1
          subst e1
          have hED : E = D K1 := by rw [← hE, insEnd, hK1, if_pos (by omega)]
          have xD : W.cell? ⟨(ad.add (K1 * 6)).block, (ad.add (K1 * 6)).off + 2, none⟩ = some (.int .i64 E) := by rw [hED]; exact hD1
          clear hE hED hc2 hD1 hK1 hhit hsucc
          have hkK := hK1'.out
          by_cases h1 : CK ≤ at_
          · by_cases h2 : at_ < E
            · clear hkK
              go_wp2_with fail
              go_ret
              have hf := hfin.out true (by simp [h1, h2])
              have hkK := hK1'.out
              exact ⟨by rw [insAny_le (m := n) (by omega) hf.out, Bool.true_or]; rfl, B1.out⟩
            · clear hkK
              go_wp2_with fail
              have hkK := hK1'.out
              exact ⟨⟨rfl, K1, rfl, by omega, Lib.hid ⟨(hfin.out false (by simp [h2])).out, fun _ => hhn.out⟩⟩, by simp only [intOf]; omega⟩
          · clear hkK
            go_wp2_with fail
            have hkK := hK1'.out
            exact ⟨⟨rfl, K1, rfl, by omega, Lib.hid ⟨(hfin.out false (by simp [h1])).out, fun _ => hhn.out⟩⟩, by simp only [intOf]; omega⟩
        · by_cases h4 : 4 < l.length
          · have h4' : (4 : Int) < (l.length : Int) := by omega
            obtain ⟨_, Aw, cw, e2, hcw⟩ := h1.out
            injection e2 with e2 _ e3
            subst e2 e3
            obtain ⟨aw, rfl, haw, hcell⟩ := hcw 4 h4
            have hwb := hu.out (l.getD 4 0) (by simp [List.getD, h4])
            have hED : E = l.getD 4 0 / 4 := by rw [← hE, insEnd, hK1, if_neg (by omega), if_pos h4]
            unfold Mc.W32 at hwb
            generalize l.getD 4 0 = w4 at *
            have x4 : W.cell? ⟨aw.block, aw.off + 4, none⟩ = some (.int .u32 w4) := hcell
            have q1 : w4.tdiv 4 = E := by rw [hED]; exact Int.tdiv_eq_ediv_of_nonneg hwb.1
            have q1' : w4 / 4 = E := hED.symm
            have q2 : IntKind.u32.wrap E = E := by rw [IntKind.wrap_u32]; omega
            have q3 : IntKind.i64.wrap E = E := by rw [IntKind.wrap_i64]; omega
            clear hE hED hcell hcw hwb hc2 hK1 hhit hsucc
            have hkK := hK1'.out
            by_cases h1 : CK ≤ at_
            · by_cases h2 : at_ < E
              · clear hkK
                go_wp2_with fail
                go_ret
                have hf := hfin.out true (by simp [h1, h2])
                have hkK := hK1'.out
                exact ⟨by rw [insAny_le (m := n) (by omega) hf.out, Bool.true_or]; rfl, B1.out⟩
              · clear hkK
                go_wp2_with fail
                have hkK := hK1'.out
                exact ⟨⟨rfl, K1, rfl, by omega, Lib.hid ⟨(hfin.out false (by simp [h2])).out, fun _ => hhn.out⟩⟩, by simp only [intOf]; omega⟩
            · clear hkK
              go_wp2_with fail
              have hkK := hK1'.out
              exact ⟨⟨rfl, K1, rfl, by omega, Lib.hid ⟨(hfin.out false (by simp [h1])).out, fun _ => hhn.out⟩⟩, by simp only [intOf]; omega⟩
          · have h4' : ¬ (4 : Int) < (l.length : Int) := by omega
            have hED : E = 0 := by rw [← hE, insEnd, hK1, if_neg (by omega), if_neg h4]
            subst hED
            clear hE hc2 hK1 hhit hsucc
            have hkK := hK1'.out
            by_cases h1 : CK ≤ at_
            · by_cases h2 : at_ < 0
              · clear hkK
                go_wp2_with fail
                go_ret
                have hf := hfin.out true (by simp [h1, h2])
                have hkK := hK1'.out
                exact ⟨by rw [insAny_le (m := n) (by omega) hf.out, Bool.true_or]; rfl, B1.out⟩
              · clear hkK
                go_wp2_with fail
                have hkK := hK1'.out
                exact ⟨⟨rfl, K1, rfl, by omega, Lib.hid ⟨(hfin.out false (by simp [h2])).out, fun _ => hhn.out⟩⟩, by simp only [intOf]; omega⟩
            · clear hkK
              go_wp2_with fail
              have hkK := hK1'.out
              exact ⟨⟨rfl, K1, rfl, by omega, Lib.hid ⟨(hfin.out false (by simp [h1])).out, fun _ => hhn.out⟩⟩, by simp only [intOf]; omega⟩
    · have hkn : k = n := by omega
      subst hkn
      have hlt' : ¬ (k : Int) < (k : Int) := by omega
      have hh : insHead k D at_ = false := by
        by_cases h0 : k = 0
        · rw [insHead, h0]; rfl
        · exact hno.out.2 (by omega)
      have hh := Lib.hid hh
      go_wp2_with fail
      go_ret
      exact ⟨by rw [hno.out.1, hh.out]; rfl, B1.out⟩

end Go.Proofs.Ytefgajojimkdiaa

/-
  The statement RunInside: its walk, out of the contracts.
-/
namespace Go.Proofs.Ytefgajojimkdiaa
set_option linter.unusedVariables false
set_option linter.unusedSimpArgs false
open Go.RowKit Bw

/-- What the statement's last region keeps: an image's cells. -/
def Im3 (W : World) (g : Nat) (vW : Value) (st : Int) (vM : Value) (w' : World) : Prop := Below W.heap.size W w' ∧ w'.cell? ⟨g, 0, none⟩ = some vW ∧ w'.cell? ⟨g, 1, none⟩ = some (.int .i64 st) ∧ w'.cell? ⟨g, 2, none⟩ = some vM
theorem im3_drew {W : World} {g : Nat} {vW vM : Value} {st : Int} (c0 : W.cell? ⟨g, 0, none⟩ = some vW) (c1 : W.cell? ⟨g, 1, none⟩ = some (.int .i64 st)) (c2 : W.cell? ⟨g, 2, none⟩ = some vM) : Im3 W g vW st vM W.drew := ⟨(Below.refl _ _).drew, c0, c1, c2⟩
theorem im3_call {W w1 w2 : World} {g : Nat} {vW vM : Value} {st : Int} (hb : Below w1.heap.size w1 w2) (hg : g < W.heap.size) (h : Im3 W g vW st vM w1) : Im3 W g vW st vM w2 := by
  obtain ⟨h1, h2, h3, h4⟩ := h
  have hg1 := Nat.lt_of_lt_of_le hg h1.size
  exact ⟨h1.trans (hb.mono h1.size), (hb.cell (p := ⟨g, 0, none⟩) hg1).trans h2, (hb.cell (p := ⟨g, 1, none⟩) hg1).trans h3, (hb.cell (p := ⟨g, 2, none⟩) hg1).trans h4⟩
theorem Im3.b {W w' : World} {g : Nat} {vW vM : Value} {st : Int} (h : Im3 W g vW st vM w') : Below W.heap.size W w' := h.1

set_option maxRecDepth 100000 in
set_option maxHeartbeats 4000000 in
theorem law27_inside (at_ : Int) (l : List Int) (st : Int) (n : Nat) (D C : Nat → Int) (vW vM : Value) (w : World) (h : Row .u32 w vW l) (hM : MRow w vM n D C) (hu : ∀ x ∈ l, Mc.W32 x) :
    Calls Try.prog 13 #[.agg #[vW, .int .i64 st, vM], .int .i64 at_] w fun e w' => e = .returned (.bool true) ∧ Below w.heap.size w w' := by
  have B0 := Lib.hid ((Below.refl w.heap.size w).alloc (Nat.le_refl _) (.cells #[vW, .int .i64 st, vM] 68))
  have LG := fun W hW hM => Lib.hid (law27_large l n D C st vW vM W hW hM)
  have R0 := Lib.hid (h.below B0.out)
  have M0 := Lib.hid (hM.below B0.out)
  have I0 := Lib.hid (Blk.new w 68 #[vW, .int .i64 st, vM])
  have hu := Lib.hid hu
  clear h hM
  by_cases hL : bigImage l.length n = true
  · rw [hL] at LG
    go_enter Try.func13, Try.ntmps13
    go_wp2_with (go_at_call 30; refine (LG _ R0.out M0.out).out.mono ?_; rintro e w1 ⟨rfl, hb1⟩)
    have B1 := Lib.hid (B0.out.trans (hb1.mono B0.out.size))
    go_wp2_with (go_at_call 31; refine (law27_wakes _).mono ?_; rintro e w9 ⟨rfl, hb9⟩)
    go_ret
    exact ⟨rfl, B1.out.trans (hb9.mono B1.out.size)⟩
  have hL := Bool.eq_false_iff.2 hL
  rw [hL] at LG
  have hn : n ≤ 100 := by
    have := of_decide_eq_false hL
    omega
  clear hL
  have IP := fun W hW hM => Lib.hid (run_inside l n D C st at_ vW vM W hW hM hu.out hn)
  have IR := fun W hW hM => Lib.hid (ref27_inside l n D C st at_ vW vM W hW hM hu.out hn)
  generalize (insAny l n D C at_ n || insHead n D at_) = ans at *
  go_enter Try.func13, Try.ntmps13
  go_wp2_with (go_at_call 30; refine (LG _ R0.out M0.out).out.mono ?_; rintro e w1 ⟨rfl, hb1⟩)
  have B1 := Lib.hid (B0.out.trans (hb1.mono B0.out.size))
  have I1 := I0.out.below hb1 I0.out.lt
  have R1 := Lib.hid (R0.out.below hb1)
  have M1 := Lib.hid (M0.out.below hb1)
  have c0 := I1.cell 0
  have c1 := I1.cell 1
  have c2 := I1.cell 2
  simp only [List.getElem?_toArray, List.getElem?_cons_zero, List.getElem?_cons_succ] at c0 c1 c2
  have hg1 := I1.lt
  have S0 := im3_drew c0 c1 c2
  clear hb1 I1 I0 R0 M0 B0 LG
  go_region_held3 (fun w' => Below w1.heap.size w1 w' ∧ w'.cell? ⟨w.heap.size, 0, none⟩ = some vW ∧ w'.cell? ⟨w.heap.size, 1, none⟩ = some (.int .i64 st) ∧ w'.cell? ⟨w.heap.size, 2, none⟩ = some vM)
    (first | exact S0 | exact im3_call hb6 hg1 (im3_call hb5 hg1 (im3_call hb4 hg1 S0)) | exact im3_call hb5 hg1 (im3_call hb4 hg1 S0) | exact im3_call hb4 hg1 S0)
    (first
      | (go_at_call 34; refine (IP _ (R1.out.below S0.b) (M1.out.below S0.b)).out.mono ?_; rintro e w4 ⟨rfl, hb4⟩)
      | (go_at_call 35; refine (IR _ (R1.out.below (im3_call hb4 hg1 S0).b) (M1.out.below (im3_call hb4 hg1 S0).b)).out.mono ?_; rintro e w5 ⟨rfl, hb5⟩)
      | (go_at_call 31; refine (law27_wakes _).mono ?_; rintro e w6 ⟨rfl, hb6⟩))
  go_wp2_with fail
  go_ret
  exact ⟨rfl, B1.out.trans ((im3_call hb6 hg1 (im3_call hb5 hg1 (im3_call hb4 hg1 S0))).b.mono B1.out.size)⟩

end Go.Proofs.Ytefgajojimkdiaa
