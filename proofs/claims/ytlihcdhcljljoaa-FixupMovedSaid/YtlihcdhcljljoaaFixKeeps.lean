/-
  The statement FixupKeeps: its walk, out of the contracts.
-/
import Derived.Test.YtlihcdhcljljoaaFixWalks
import Derived.Test.YtlihcdhcljljoaaFixPlaces
import Derived.Test.YtlihcdhcljljoaaFixLaw3
import Derived.Deep.RegionHeld3
namespace Go.Proofs.Ytlihcdhcljljoaa
set_option linter.unusedVariables false
set_option linter.unusedSimpArgs false
open Go.RowKit Bw

/-- Two integers in a block of their own. -/
def S2 (w : World) (a b : Int) (w' : World) : Prop :=
  Below w.heap.size w w' ∧ w.heap.size < w'.heap.size ∧ w'.cell? ⟨w.heap.size, 0, none⟩ = some (.int .i64 a) ∧ w'.cell? ⟨w.heap.size, 1, none⟩ = some (.int .i64 b)
theorem k2_start (w : World) (a b : Int) (t : TypeId) : S2 w a b (w.alloc (.cells #[.int .i64 a, .int .i64 b] t)).drew := by
  have h := Blk.new w t #[.int .i64 a, .int .i64 b]
  refine ⟨((Below.refl _ _).alloc (Nat.le_refl _) _).drew, by simp, ?_, ?_⟩
  · exact (h.drew.cell 0).trans rfl
  · exact (h.drew.cell 1).trans rfl
theorem k2_call {w W w2 : World} {a b : Int} (hb : Below W.heap.size W w2) (hS : S2 w a b W) : S2 w a b w2 := by
  obtain ⟨s1, s2, s3, s4⟩ := hS
  exact ⟨s1.trans (hb.mono s1.size), Nat.lt_of_lt_of_le s2 hb.size, (hb.cell (p := ⟨w.heap.size, 0, none⟩) s2).trans s3, (hb.cell (p := ⟨w.heap.size, 1, none⟩) s2).trans s4⟩
theorem k2_below {w W : World} {a b : Int} (hS : S2 w a b W) : Below w.heap.size w W := hS.1
theorem k2_drew {w W : World} {a b : Int} (hS : S2 w a b W) : S2 w a b W.drew := ⟨hS.1.drew, hS.2.1, hS.2.2.1, hS.2.2.2⟩
theorem k2_alloc {w W : World} {a b : Int} (o : Obj) (hS : S2 w a b W) : S2 w a b (W.alloc o) := k2_call ((Below.refl _ _).alloc (Nat.le_refl _) o) hS

theorem kc_set {W : World} {a : Addr} {g i : Nat} {v : Value} {x : Value} (hne : a.block ≠ g) (h : W.cell? a = some x) : (W.setCell ⟨g, i, none⟩ v).cell? a = some x :=
  (World.cell?_setCell_far W ⟨g, i, none⟩ a v (fun e => hne e.symm)).trans h
/-- Is a word one of a link of these? -/
def marked (l : List Int) (i : Nat) : Bool := l.any fun p => p.toNat == i || p.toNat + 1 == i
theorem marked_nil (i : Nat) : marked [] i = false := rfl
theorem marked_next (l : List Int) (k i : Nat) (hk : k < l.length) : marked (l.take (k + 1)) i = (marked (l.take k) i || ((l.getD k 0).toNat == i || (l.getD k 0).toNat + 1 == i)) := by
  rw [List.take_add_one, List.getElem?_eq_getElem hk]
  simp only [marked, List.any_append, Option.toList, List.any_cons, List.any_nil, Bool.or_false, List.getD_eq_getElem?_getD, List.getElem?_eq_getElem hk, Option.getD_some]
theorem marked_iff (l : List Int) (i : Nat) : marked l i = true ↔ ∃ p ∈ l, p.toNat = i ∨ p.toNat + 1 = i := by
  simp [marked]
def bitOf (b : Bool) : Int := if b = true then 1 else 0
theorem mark_step (M l : List Int) (k n pn : Nat) (hk : k < l.length) (hn : M.length = n) (hp : pn + 1 < n) (hpn : (l.getD k 0).toNat = pn) (hM : ∀ i, i < n → M.getD i 0 = bitOf (marked (l.take k) i)) :
    ∀ i, i < n → ((M.set pn 1).set (pn + 1) 1).getD i 0 = bitOf (marked (l.take (k + 1)) i) := by
  intro i hi
  rw [marked_next l k i hk, hpn]
  by_cases h1 : pn = i
  · subst h1
    rw [Fx.getD_set_other _ _ _ _ (by omega), Fx.getD_set_same _ _ _ (by omega)]
    simp [bitOf]
  · by_cases h2 : pn + 1 = i
    · subst h2
      rw [Fx.getD_set_same _ _ _ (by simp; omega)]
      simp [bitOf]
    · rw [Fx.getD_set_other _ _ _ _ h2, Fx.getD_set_other _ _ _ _ h1, hM i hi,
        show (pn == i) = false by rw [beq_eq_false_iff_ne]; exact h1, show (pn + 1 == i) = false by rw [beq_eq_false_iff_ne]; exact h2, Bool.or_false, Bool.or_false]
theorem zeros_mark (n : Nat) : ∀ i, i < n → (List.replicate n (0 : Int)).getD i 0 = bitOf (marked ([] : List Int) i) := by
  intro i hi
  simp [List.getD, hi, marked, bitOf]

set_option maxRecDepth 100000 in
set_option maxHeartbeats 4000000 in
theorem law22_keeps (code : List Int) (h0 h1 : Int) (n : Nat) (f : Nat → Nat → Int) (v vl : Value) (w : World) (hv : Row .u32 w v code) (hu : U32s code) (hp : PRow w vl n f) (hi : ∀ i j, i < n → j < 4 → In64 (f i j))
    (g0 : -9223372036854775808 ≤ h0) (g1 : h0 ≤ 9223372036854775807) (g2 : -9223372036854775808 ≤ h1) (g3 : h1 ≤ 9223372036854775807) :
    Calls Try.prog 6 #[v, .agg #[.int .i64 h0, .int .i64 h1], vl] w fun e w' => e = .returned (.bool true) ∧ Below w.heap.size w w' := by
  have hv' := Lib.hid hv
  obtain ⟨hm, A, c, rfl, -⟩ := hv
  have hp := Lib.hid hp
  have hi := Lib.hid hi
  have B0 : Below w.heap.size w (w.alloc (.cells #[.int .i64 h0, .int .i64 h1] 23)) := (Below.refl _ _).alloc (Nat.le_refl _) _
  by_cases hl : (5000 : Int) < code.length
  · go_enter Try.func6, Try.ntmps6
    go_wp2_with fail
    refine (law22_wakes _).mono ?_
    rintro e w1 ⟨rfl, hb⟩
    go_wp2_with fail
    go_ret
    exact ⟨rfl, B0.trans (hb.mono B0.size)⟩
  have hl : (code.length : Int) ≤ 5000 := by omega
  have hl1 : code.length ≤ 65536 := by omega
  have hl2 : code.length ≤ 1000000 := by omega
  have S1 := k2_start w h0 h1 23
  go_enter Try.func6, Try.ntmps6
  go_wp2_with fail
  go_region_held3 (fun w' => Below w.heap.size w w' ∧ w.heap.size < w'.heap.size ∧ w'.cell? ⟨w.heap.size, 0, none⟩ = some (.int .i64 h0) ∧ w'.cell? ⟨w.heap.size, 1, none⟩ = some (.int .i64 h1))
    (first | exact S1 | exact k2_alloc _ (by assumption) | exact k2_call (by assumption) S1 | exact k2_call (by assumption) (by assumption))
    (first
      | (go_at_call 20; refine (fix_chain code h0 _ _ (row_of_own ho2) hu hl1 g0 g1).mono ?_; rintro e w3 ⟨⟨v3, rfl, hown3⟩, hb3⟩)
      | (refine step_clone (w.alloc (.cells #[.int .i64 h0, .int .i64 h1] 23)).drew rfl (.tmp 21) (.tmp 22) 26 30 rfl .u32 4 Try.underlying26 clone_u32 (by omega) code _ (w.heap.size + 1) (by simp) rfl rfl (hv'.out.below B0.drew) hl2 ?_; intro gg c2 w2 ho2 hb2 _ _))
  have S3 : S2 w h0 h1 w3 := by assumption
  have B3 := Lib.hid S3.1
  have hown3 := Lib.hid hown3
  obtain ⟨-, A3, c3, rfl, -⟩ := row_of_own hown3.out
  clear hb2 hb3 ho2 S1 B0
  go_wp2_with fail
  go_region_held3 (fun w' => Below w.heap.size w w' ∧ w.heap.size < w'.heap.size ∧ w'.cell? ⟨w.heap.size, 0, none⟩ = some (.int .i64 h0) ∧ w'.cell? ⟨w.heap.size, 1, none⟩ = some (.int .i64 h1))
    (first | exact k2_drew S3 | exact k2_alloc _ (by assumption) | exact k2_call (by assumption) (k2_drew S3) | exact k2_call (by assumption) (by assumption))
    (first
      | (refine step_clone w3.drew rfl (.tmp 30) (.tmp 31) 26 30 rfl .u32 4 Try.underlying26 clone_u32 (by omega) code _ w3.heap.size rfl rfl rfl (hv'.out.below B3.out.drew) hl2 ?_; intro gg4 c4 w4 ho4 hb4 _ _)
      | (go_at_call 25; refine (law22_places n f vl _ (hp.out.below (k2_below (by assumption))) hi.out).mono ?_; rintro e w5 ⟨b5, rfl, hm5, _, hb5⟩)
      | (go_at_call 24; refine (fix_fill code h0 h1 _ _ 300 _ _ ((row_of_own ho4).below hb5) hu hl1 (Or.inr ⟨b5, rfl, hm5⟩) g0 g1 g2 g3).mono ?_; rintro e w6 ⟨⟨v6, rfl, hown6⟩, hb6⟩))
  have S6 : S2 w h0 h1 w6 := by assumption
  have B6 := Lib.hid S6.1
  have q4 := hb4.size
  have q5 := hb5.size
  have q6 := hb6.size
  have T6 : RowKit.Hid (Row .i64 w6 (.slice A3 (Fx.clist code h0).length c3) (Fx.clist code h0)) := Lib.hid ((((row_of_own hown3.out).below (w' := w3.drew) ((Below.refl _ _).drew)).below hb4 |>.below hb5).below hb6)
  have R6 := Lib.hid (row_of_own hown6)
  have C6 := Lib.hid (hv'.out.below B6.out)
  clear S3 S6 hb4 hb5 hb6 hown3 hown6 ho4 hm5 q4 q5 q6 B3
  generalize pmap f (min n 300) = D at *
  cases hfl : Fx.fill code h0 h1 (pval D) (phas D) with
  | none =>
    obtain ⟨e1, e2⟩ := ferr_none hfl
    rw [e1]
    rw [e2] at R6
    obtain ⟨-, A6, c6, rfl, -⟩ := R6.out
    clear e1 e2
    generalize Fx.cerr code h0 = ce at *
    generalize Fx.clist code h0 = cl at *
    simp only [List.length_nil]
    go_wp2_with fail
    refine (law22_wakes _).mono ?_
    rintro e w7 ⟨rfl, hb7⟩
    go_wp2_with fail
    go_ret
    exact ⟨rfl, B6.out.trans (hb7.mono B6.out.size)⟩
  | some out =>
    obtain ⟨e1, e2⟩ := ferr_some hfl
    obtain ⟨l, hch, -, -⟩ := Fx.fill_some hfl
    obtain ⟨d1, d2⟩ := cerr_some hch
    obtain ⟨hol, hkeep⟩ := Fx.fill_keeps hu hfl hch
    have hins := Lib.hid (Fx.chain_good hch).inside
    have hkeep := Lib.hid hkeep
    rw [e1, d1]
    rw [e2] at R6
    rw [d2] at T6
    rw [d2]
    obtain ⟨-, A6, c6, rfl, -⟩ := R6.out
    rw [hol]
    clear e1 e2 d1 d2 hfl hch
    obtain ⟨i0, hi0, hz0, hz1, hz2⟩ := info_parts int_info_
    have B6s := B6.out.size
    go_wp2_with (first | (at_make; refine wpList_make_full _ rfl (.tmp 64) (.tmp 64) 22 rfl w6.heap.size 3 i0 _ 1 Try.underlying22 hi0 hz0 hz1 .i64 .i64 _ _ code.length rfl rfl rfl rfl (by rw [hz2]; omega) (by simp only [maxLen]; omega) (Nat.le_refl _) ?_; intro w7 hown7 hg7))
    have hown7 : RowKit.Hid (w7.ownsRow w6.heap.size 3 1 (.slice (some ⟨w6.heap.size, 0, none⟩) code.length code.length) code.length ((List.replicate code.length (0 : Int)).map (Value.int .i64))) := Lib.hid (by
      have e : (Value.int .i64 0).cells = #[Value.int .i64 0] := rfl
      rw [e, toList_madeCells_one, Nat.mul_one] at hown7
      rw [List.map_replicate]
      exact hown7)
    have b7 : Below w6.heap.size w6 w7 := (Below.refl _ _).grown hg7 (Nat.le_refl _) (fun k hk => by cases hk)
    clear hg7 B6s
    generalize hgF : w6.heap.size = gF at *
    have hTl : l.length ≤ 9223372036854775807 := T6.out.1
    have hgF' : RowKit.Hid (w6.heap.size = gF) := Lib.hid hgF
    clear hgF
    go_loopw [12] (fun i wr => ∃ (k : Nat) (M : List Int), i = .int .i64 k ∧ k ≤ l.length ∧ M.length = code.length ∧ RowKit.Hid (wr.ownsRow gF 3 1 (.slice (some ⟨gF, 0, none⟩) code.length code.length) code.length (M.map (Value.int .i64))) ∧ RowKit.Hid (∀ i, i < code.length → M.getD i 0 = bitOf (marked (l.take k) i)) ∧ Below gF w6 wr) (fun i _ => l.length - (intOf i).toNat)
    case atStart => exact ⟨0, _, rfl, by omega, by simp, hown7, Lib.hid (zeros_mark _), b7⟩
    case round =>
      clear hown7 b7
      obtain ⟨k, M, rfl, hk, hM, hown, hmk, hb⟩ := hrel
      have Bk := B6.out
      by_cases hlt : (k : Int) < (l.length : Int)
      · have hklt : k < l.length := by omega
        obtain ⟨-, A3', c3', e3, hcl⟩ := T6.out
        injection e3 with e3 _ e4
        subst e3 e4
        obtain ⟨al, rfl, hal, hcl⟩ := hcl k hklt
        have hlg : al.block < gF := by have := hgF'.out; omega
        have hcl : wr.cell? (al.add k) = some (.int .i64 (l.getD k 0)) := (hb.cell (p := al.add k) (by rw [block_add]; exact hlg)).trans hcl
        have hpi := hins.out (l.getD k 0) (by simp [List.getD, hklt])
        have hstep := fun pn h1 h2 => Lib.hid (mark_step M l k code.length pn hklt hM h1 h2 hmk.out)
        generalize l.getD k 0 = p at *
        obtain ⟨pn, rfl⟩ : ∃ pn : Nat, p = pn := ⟨p.toNat, by omega⟩
        rw [Int.toNat_natCast] at hpi hstep
        have hM' := Lib.hid (hstep pn hpi.2 rfl)
        obtain ⟨-, hp1⟩ := hpi
        have hp2 : (pn : Int) + 1 < code.length := by omega
        have ca := hown.out.cellAt pn (by omega)
        have cb := hown.out.cellAt (pn + 1) (by omega)
        have fa := hown.out.frozenAt pn
        have fb := hown.out.frozenAt (pn + 1)
        rw [List.getElem?_map, List.getElem?_eq_getElem (by omega)] at ca cb
        simp only [Option.map_some] at ca cb
        have O1 := (hown.out.drew.stored pn (.int .i64 1)).1
        have O2 := (O1.stored (pn + 1) (.int .i64 1)).1
        rw [← List.map_set, ← List.map_set] at O2
        have O2 := Lib.hid O2
        have B2 : Below gF w6 ((wr.drew.setCell ⟨gF, pn, none⟩ (.int .i64 1)).setCell ⟨gF, pn + 1, none⟩ (.int .i64 1)) := (hb.drew.setCell (p := ⟨gF, pn, none⟩) (Nat.le_refl _) _).setCell (p := ⟨gF, pn + 1, none⟩) (Nat.le_refl _) _
        have hMl : ((M.set pn 1).set (pn + 1) 1).length = code.length := by simp [hM]
        clear hstep hown O1 T6 C6 R6 hkeep
        go_wp2_with fail
        have hx0 : (0 : Int) ≤ pn := by omega
        have hx1 : (pn : Int) < code.length := by omega
        have hx2 : (0 : Int) ≤ (pn : Int) + 1 := by omega
        have hw : IntKind.i64.wrap ((pn : Int) + 1) = (pn : Int) + 1 := by rw [IntKind.wrap_i64]; omega
        have hne : (al.add k).block ≠ gF := by rw [block_add]; omega
        go_region_held3 (fun w' => w'.cell? (al.add k) = some (.int .i64 pn)) (first | exact hcl | exact kc_set hne (by assumption)) (fail)
        go_wp2_with fail
        exact ⟨⟨k + 1, _, by go_num, by omega, hMl, O2, hM', B2⟩, by simp [intOf]; omega⟩
      · obtain rfl : k = l.length := by omega
        have hmk2 : ∀ i, i < code.length → M.getD i 0 = bitOf (marked l i) := by have := hmk.out; rwa [List.take_length] at this
        have hcase : RowKit.Hid (∀ i, i < code.length → (M.getD i 0 = 0 ∧ out.getD i 0 = code.getD i 0) ∨ (M.getD i 0 = 1 ∧ Ins.derr (out.getD i 0) = 0 ∧ 0 ≤ out.getD i 0 ∧ out.getD i 0 < 4294967296)) := Lib.hid (fun i hi => by
          have h1 := hmk2 i hi
          have h2 := hkeep.out i hi
          cases hmi : marked l i with
          | false =>
            rw [hmi] at h1
            refine Or.inl ⟨h1, h2.1 fun p hp => ?_⟩
            have : ¬ ∃ p ∈ l, p.toNat = i ∨ p.toNat + 1 = i := fun h => by rw [(marked_iff l i).2 h] at hmi; cases hmi
            exact ⟨fun e => this ⟨p, hp, Or.inl e⟩, fun e => this ⟨p, hp, Or.inr e⟩⟩
          | true =>
            rw [hmi] at h1
            exact Or.inr ⟨h1, h2.2 ((marked_iff l i).1 hmi)⟩)
        have bw : Below w6.heap.size w6 wr := by have := hgF'.out; rw [this]; exact hb
        have RC := Lib.hid (C6.out.below bw)
        have RO := Lib.hid (R6.out.below bw)
        have RM0 := row_of_own hown.out
        have RM : RowKit.Hid (Row .i64 wr (.slice (some ⟨gF, 0, none⟩) M.length code.length) M) := Lib.hid (by rw [hM]; exact RM0)
        clear RM0
        have Bwr : Below w.heap.size w wr := Bk.trans (bw.mono Bk.size)
        clear hmk hmk2 hkeep hins T6 R6 C6 hown bw hb Bk
        generalize wr = wa at *
        go_wp2_with fail
        go_loopw [13] (fun i wr => ∃ k : Nat, i = .int .i64 k ∧ k ≤ code.length ∧ Below wa.heap.size wa wr) (fun i _ => code.length - (intOf i).toNat)
        case atStart => exact ⟨0, rfl, by omega, Below.refl _ _⟩
        case round =>
          obtain ⟨j, rfl, hj, hb8⟩ := hrel
          have Bw8 : Below w.heap.size w wr := Bwr.trans (hb8.mono Bwr.size)
          by_cases hlt2 : (j : Int) < (code.length : Int)
          · have hjl : j < code.length := by omega
            have hjm : j < M.length := by rw [hM]; exact hjl
            have hjo : j < out.length := by rw [hol]; exact hjl
            obtain ⟨-, Aq, cq, e3, hq⟩ := RC.out.below hb8
            injection e3 with e3 _ e4
            subst e3 e4
            obtain ⟨ad, rfl, had, xc⟩ := hq j hjl
            obtain ⟨-, Aq, cq, e3, hq⟩ := RO.out.below hb8
            injection e3 with e3 _ e4
            subst e3 e4
            obtain ⟨ao, rfl, hao, xo⟩ := hq j hjo
            obtain ⟨-, Aq, cq, e3, hq⟩ := RM.out.below hb8
            injection e3 with e3 _ e4
            subst e3 e4
            obtain ⟨am, e5, ham, xm⟩ := hq j hjm
            injection e5 with e5
            subst e5
            rw [fc_add0] at xm
            have hc := hcase.out j hjl
            have hxu := hu j hjl
            have hob : 0 ≤ out.getD j 0 ∧ out.getD j 0 < 4294967296 := by
              rcases hc with ⟨-, h⟩ | ⟨-, -, h⟩
              · rw [h]; exact hxu
              · exact h
            have DC := fun W => Lib.hid (risc_decode (out.getD j 0) W hob.1 hob.2)
            generalize out.getD j 0 = xo_ at *
            generalize M.getD j 0 = xm_ at *
            generalize code.getD j 0 = xc_ at *
            clear hq
            have hc := Lib.hid hc
            generalize Ins.dec xo_ = X at *
            obtain ⟨f1, f2, f3, f4, f5, f6, f7, f8⟩ := X
            simp only [Ins.val, Ins.cells] at DC
            go_wp2_with fail
            refine (DC _).out.mono ?_
            rintro e w9 ⟨rfl, hb9⟩
            have b9 : Below wa.heap.size wa w9 := hb8.trans (hb9.mono hb8.size)
            have xc9 := (hb9.cell (p := ad.add j) (by rw [block_add]; exact had)).trans xc
            have xo9 := (hb9.cell (p := ao.add j) (by rw [block_add]; exact hao)).trans xo
            have xm9 := (hb9.cell (p := ⟨gF, j, none⟩) ham).trans xm
            have lc9 : (ad.add j).block < w9.heap.size := by rw [block_add]; exact Nat.lt_of_lt_of_le had hb9.size
            have lo9 : (ao.add j).block < w9.heap.size := by rw [block_add]; exact Nat.lt_of_lt_of_le hao hb9.size
            have lm9 : gF < w9.heap.size := Nat.lt_of_lt_of_le ham hb9.size
            have B9 := b9.alloc b9.size (.cells #[.int .i64 f1, .bool f2, .bool f3, .int .i64 f4, .int .i64 f5, .int .i64 f6, .int .i64 f7, .int .i64 f8] 32)
            clear hb9 xc xo xm had hao ham b9 RC RO RM hcase hb8 Bwr
            generalize Ins.derr xo_ = dx at *
            rcases hc.out with ⟨rfl, rfl⟩ | ⟨rfl, rfl, -⟩
            · clear hc
              go_wp2_with fail
              go_quiet (fail)
              go_wp2_with fail
              exact ⟨⟨j + 1, by go_num, by omega, by first | exact B9 | exact B9.drew | exact below_drewN B9 _⟩, by simp [intOf]; omega⟩
            · clear hc
              go_wp2_with fail
              go_quiet (fail)
              go_wp2_with fail
              exact ⟨⟨j + 1, by go_num, by omega, by first | exact B9 | exact B9.drew | exact below_drewN B9 _⟩, by simp [intOf]; omega⟩
          · go_wp2_with fail
            refine (law22_wakes _).mono ?_
            rintro e w9 ⟨rfl, hb9⟩
            go_wp2_with fail
            go_ret
            exact ⟨rfl, Bw8.trans (hb9.mono Bw8.size)⟩

end Go.Proofs.Ytlihcdhcljljoaa
