/-
  The statement FixupMoved: its walk, out of the contracts.
-/
import Derived.Test.YtlihcdhcljljoaaFixKeeps
import Derived.Test.YtlihcdhcljljoaaFixLaw4
namespace Go.Proofs.Ytlihcdhcljljoaa
set_option linter.unusedVariables false
set_option linter.unusedSimpArgs false
open Go.RowKit Bw Go.Maps Go.WideMaps

theorem k3_start (w : World) (a b c : Int) (t : TypeId) : S2 w a b (w.alloc (.cells #[.int .i64 a, .int .i64 b, .int .i64 c] t)).drew := by
  have h := Blk.new w t #[.int .i64 a, .int .i64 b, .int .i64 c]
  refine ⟨((Below.refl _ _).alloc (Nat.le_refl _) _).drew, by simp, ?_, ?_⟩
  · exact (h.drew.cell 0).trans rfl
  · exact (h.drew.cell 1).trans rfl
theorem k4_alloc {W : World} {a : Addr} {x y z : Value} (o : Obj) (h : a.block < W.heap.size ∧ W.cell? a = some x ∧ W.cell? ⟨a.block, a.off + 1, none⟩ = some y ∧ W.cell? ⟨a.block, a.off + 2, none⟩ = some z) :
    a.block < (W.alloc o).heap.size ∧ (W.alloc o).cell? a = some x ∧ (W.alloc o).cell? ⟨a.block, a.off + 1, none⟩ = some y ∧ (W.alloc o).cell? ⟨a.block, a.off + 2, none⟩ = some z := by
  obtain ⟨h1, h2, h3, h4⟩ := h
  exact ⟨by simp; omega, (World.cell?_alloc_lt (w := W) (o := o) (a := a) h1).trans h2, (World.cell?_alloc_lt (w := W) (o := o) (a := ⟨a.block, a.off + 1, none⟩) h1).trans h3, (World.cell?_alloc_lt (w := W) (o := o) (a := ⟨a.block, a.off + 2, none⟩) h1).trans h4⟩
theorem wpStill_load_row_fix {P : Program} {ops : Array Oper} {rest : List Oper} {o : Oper} {a : Act} {w : World} {Q : Act → Prop} (hgd : o.guard = none) (ty : TypeId) (x : Operand) (ho : o.op = .load ty x)
    (g : Nat) (hx : a.eval x = .pointer (some ⟨g, 0, none⟩)) (t : TypeId) (cs : Array Value) (fr : Nat × Nat) (d : TypeDesc) (hg : w.heap[g]? = some (.cells cs t fr))
    (hu : P.underlying ty = some d) (hd : (match d with | .struct _ | .array _ _ => true | _ => false) = true) (hi : (P.info? ty).map (·.size) = some cs.size)
    (h : wpStill P ops w Q rest (a.put o.dst (.agg cs))) : wpStill P ops w Q (o :: rest) a := by
  refine wpStill_step fun K hK => ?_
  rw [if_pos (by simp [Region.wanted, hgd])]
  unfold Oper.still execOp
  simp only [ho, hx, Instr.loadAt, Instr.sureAddr, Sem.run_bind, Sem.run_pure, Result.andThen_ok, run_loadVar_row w g t ty cs fr d hg hu hd hi]
  rw [Oper.stillUpon_value]
  exact hK _ h
theorem wpStill_lookup_fix {P : Program} {ops : Array Oper} {rest : List Oper} {o : Oper} {a : Act} {w : World} {Q : Act → Prop} (hgd : o.guard = none) (m x : Operand) (t : TypeId) (c : Bool) (ho : o.op = .lookup t m x c)
    (mv key r : Value) (hm : a.eval m = mv) (hx : a.eval x = key) (hrun : (Instr.lookup t mv key c).run P w = .ok r w)
    (h : wpStill P ops w Q rest (a.put o.dst r)) : wpStill P ops w Q (o :: rest) a := by
  refine wpStill_step fun K hK => ?_
  rw [if_pos (by simp [Region.wanted, hgd])]
  unfold Oper.still
  simp only [execOp, ho, hm, hx, Sem.run_bind, hrun, Sem.run_pure, Result.andThen_ok]
  rw [Oper.stillUpon_value]
  exact hK _ h
theorem halves_of {a b to : Int} (ha : 0 ≤ a ∧ a < 4294967296) (hb : 0 ≤ b ∧ b < 4294967296) (h1 : a % 65536 = 4 * to / 65536) (h2 : b % 65536 = 4 * to % 65536) :
    bits .or .u32 (IntKind.u32.wrap (bits .and .u32 a 65535 * 65536)) (bits .and .u32 b 65535) = 4 * to := by
  rw [Fx.and65535 a ha.1 ha.2, Fx.and65535 b hb.1 hb.2, IntKind.wrap_u32, show a % 65536 * 65536 % 4294967296 = a % 65536 * 65536 by omega, Fx.halves (by omega) (by omega) (by omega) (by omega), h1, h2]
  omega
/-- How far the moved map has come. -/
def Far (f : Nat → Nat → Int) (D D' : DataW Unit) (K : Int) (k : Nat) : Prop :=
  ∀ a b c, In64 a → In64 b → In64 c → phas D' a b c = phas (pmap f k) a b c ∧ (phas D' a b c = true → pval D' a b c = pval D a b c + K)
theorem far_start (f : Nat → Nat → Int) (D : DataW Unit) (K : Int) : Far f D (.map []) K 0 := fun a b c _ _ _ => ⟨rfl, fun h => by cases h⟩
theorem far_next {f : Nat → Nat → Int} {D D' : DataW Unit} {K : Int} {k : Nat} (hm : IsMap D') (h : Far f D D' K k) (i0 : In64 (f k 0)) (i1 : In64 (f k 1)) (i2 : In64 (f k 2)) :
    Far f D (D'.put (pkey (f k 0) (f k 1) (f k 2)) (pnum (pval D (f k 0) (f k 1) (f k 2) + K))) K (k + 1) := by
  intro a b c ha hb hc
  obtain ⟨h1, h2⟩ := h a b c ha hb hc
  rw [phas_put hm i0 i1 i2 ha hb hc, pval_put hm i0 i1 i2 ha hb hc, pmap, phas_put (pmap_isMap f k) i0 i1 i2 ha hb hc, h1]
  refine ⟨rfl, fun h3 => ?_⟩
  by_cases e : a = f k 0 ∧ b = f k 1 ∧ c = f k 2
  · obtain ⟨rfl, rfl, rfl⟩ := e
    rw [if_pos ⟨rfl, rfl, rfl⟩]
  · rw [if_neg e]
    rw [decide_eq_false e, Bool.false_or] at h3
    exact h2 (h1.trans h3)
theorem own_tidy {w : World} {b n : Nat} {D : DataW Unit} (h : w.ownsMap Try.prog 61 (plainElem Try.prog 3) b n D) : IsMap D := (PMap.tidy (w := w) (m := .map (some b)) (n := n) (Or.inr ⟨b, rfl, h⟩)).isMap

set_option maxRecDepth 100000 in
set_option maxHeartbeats 8000000 in
theorem law22_moved (code : List Int) (h0 h1 h2 : Int) (n : Nat) (f : Nat → Nat → Int) (v vl : Value) (w : World) (hv : Row .u32 w v code) (hu : U32s code) (hp : PRow w vl n f) (hi : ∀ i j, i < n → j < 4 → In64 (f i j))
    (g0 : -9223372036854775808 ≤ h0) (g1 : h0 ≤ 9223372036854775807) (g2 : -9223372036854775808 ≤ h1) (g3 : h1 ≤ 9223372036854775807) (g4 : -9223372036854775808 ≤ h2) (g5 : h2 ≤ 9223372036854775807) :
    Calls Try.prog 8 #[v, .agg #[.int .i64 h0, .int .i64 h1, .int .i64 h2], vl] w fun e w' => e = .returned (.bool true) ∧ Below w.heap.size w w' := by
  have hv' := Lib.hid hv
  obtain ⟨hm, A, c, rfl, -⟩ := hv
  have hp' := Lib.hid hp
  obtain ⟨hn, Ap, cp, rfl, -⟩ := hp
  have hi := Lib.hid hi
  have hu := Lib.hid hu
  have B0 : Below w.heap.size w (w.alloc (.cells #[.int .i64 h0, .int .i64 h1, .int .i64 h2] 61)) := (Below.refl _ _).alloc (Nat.le_refl _) _
  have S1 := k3_start w h0 h1 h2 61
  obtain ⟨K, hK, hKl⟩ : ∃ K : Nat, wrap64 ((IntKind.u64.wrap h2).tmod 2000) = (K : Int) ∧ K < 2000 := by
    have e1 := wrapU64_emod h2
    have h0 : 0 ≤ IntKind.u64.wrap h2 := by rw [e1]; omega
    rw [Int.tmod_eq_emod_of_nonneg h0]
    refine ⟨(IntKind.u64.wrap h2 % 2000).toNat, ?_, by omega⟩
    rw [show wrap64 (IntKind.u64.wrap h2 % 2000) = IntKind.u64.wrap h2 % 2000 by unfold wrap64; omega]
    omega
  have hKl' : (K : Int) < 2000 := by omega
  by_cases q1 : (5000 : Int) < code.length
  · go_enter Try.func8, Try.ntmps8
    go_wp2_with fail
    refine (law22_wakes _).mono ?_
    rintro e w1 ⟨rfl, hb⟩
    go_wp2_with fail
    go_ret
    exact ⟨rfl, B0.trans (hb.mono B0.size)⟩
  have q1 : (code.length : Int) ≤ 5000 := by omega
  by_cases q2 : (300 : Int) < n
  · go_enter Try.func8, Try.ntmps8
    go_wp2_with fail
    refine (law22_wakes _).mono ?_
    rintro e w1 ⟨rfl, hb⟩
    go_wp2_with fail
    go_ret
    exact ⟨rfl, B0.trans (hb.mono B0.size)⟩
  have q2 : (n : Int) ≤ 300 := by omega
  by_cases q3 : h1 < 0
  · go_enter Try.func8, Try.ntmps8
    go_wp2_with fail
    refine (law22_wakes _).mono ?_
    rintro e w1 ⟨rfl, hb⟩
    go_wp2_with fail
    go_ret
    exact ⟨rfl, B0.trans (hb.mono B0.size)⟩
  have q3 : 0 ≤ h1 := by omega
  by_cases q4 : 60000 < h1
  · go_enter Try.func8, Try.ntmps8
    go_wp2_with fail
    refine (law22_wakes _).mono ?_
    rintro e w1 ⟨rfl, hb⟩
    go_wp2_with fail
    go_ret
    exact ⟨rfl, B0.trans (hb.mono B0.size)⟩
  have q4 : h1 ≤ 60000 := by omega
  have hl1 : code.length ≤ 65536 := by omega
  have hl2 : code.length ≤ 1000000 := by omega
  have hn3 : min n 300 = n := by omega
  have PL := fun W hW => Lib.hid (law22_places n f (.slice Ap n cp) W (hp'.out.below hW) hi.out)
  rw [hn3] at PL
  have MM : ∀ W : World, (Instr.makeMap 57 none).run Try.prog W = .ok (.map (some W.heap.size)) (W.alloc (.map #[] 0)) := fun W => rfl
  go_enter Try.func8, Try.ntmps8
  go_wp2_with fail
  go_region_held3 (fun w' => Below w.heap.size w w' ∧ w.heap.size < w'.heap.size ∧ w'.cell? ⟨w.heap.size, 0, none⟩ = some (.int .i64 h0) ∧ w'.cell? ⟨w.heap.size, 1, none⟩ = some (.int .i64 h1))
    (first | exact S1 | exact k2_alloc _ (by assumption) | exact k2_call (by assumption) S1 | exact k2_call (by assumption) (by assumption))
    (first
      | (refine step_clone (w.alloc (.cells #[.int .i64 h0, .int .i64 h1, .int .i64 h2] 61)).drew rfl (.tmp 51) (.tmp 52) 26 30 rfl .u32 4 Try.underlying26 clone_u32 (by omega) code _ (w.heap.size + 1) (by simp) rfl rfl (hv'.out.below B0.drew) hl2 ?_; intro gg2 c2 w2 ho2 hb2 _ _)
      | (go_at_call 25; refine (PL _ (k2_below (by assumption))).out.mono ?_; rintro e w5 ⟨b5, rfl, hm5, _, hb5⟩)
      | (go_at_call 24; refine (fix_fill code h0 h1 _ _ 300 _ _ ((row_of_own ho2).below hb5) hu.out hl1 (Or.inr ⟨b5, rfl, hm5⟩) g0 g1 g2 g3).mono ?_; rintro e w6 ⟨⟨v6, rfl, hown6⟩, hb6⟩))
  have S6 : S2 w h0 h1 w6 := by assumption
  have B6 := Lib.hid S6.1
  have R6 := Lib.hid (row_of_own hown6)
  clear hb2 ho2 hm5 hb5 hb6 hown6 S1 B0
  go_wp2_with fail
  refine (PL _ B6.out).out.mono ?_
  rintro e w7 ⟨b7, rfl, hm7, -, hb7⟩
  have S7 := Lib.hid (k2_call hb7 S6)
  have B7 := Lib.hid S7.out.1
  have R7 := Lib.hid (R6.out.below hb7)
  have hm7 := Lib.hid hm7
  clear S6 B6 R6 hb7 PL
  generalize hD : pmap f n = D at *
  have hD := Lib.hid hD
  go_wp2_with fail
  have own0 := World.ownsMap_made w7 Try.prog 61 (plainElem (H := Unit) Try.prog 3)
  have B7s := B7.out.size
  go_loopw [12] (fun i wr => ∃ (k : Nat) (D' : DataW Unit), i = .int .i64 k ∧ k ≤ n ∧ RowKit.Hid (wr.ownsMap Try.prog 61 (plainElem Try.prog 3) w7.heap.size k D') ∧ RowKit.Hid (Far f D D' K k) ∧ Below w7.heap.size w7 wr) (fun i _ => n - (intOf i).toNat)
  case atStart => exact ⟨0, _, rfl, by omega, Lib.hid own0, Lib.hid (far_start f D K), (Below.refl _ _).alloc (Nat.le_refl _) _⟩
  case round =>
    clear own0 MM
    obtain ⟨k, D', rfl, hk, hown, hfar, hb⟩ := hrel
    have Bw := Lib.hid (B7.out.trans (hb.mono B7.out.size))
    by_cases hlt : (k : Int) < n
    · have hkn : k < n := by omega
      obtain ⟨-, Aq, cq, e1, hc⟩ := hp'.out.below Bw.out
      injection e1 with e1 _ e2
      subst e1 e2
      obtain ⟨ad, rfl, had, hcell⟩ := hc k hkn
      have x0 : wr.cell? (ad.add (k * 4)) = some (.int .i64 (f k 0)) := hcell 0 (by omega)
      have x1 : wr.cell? ⟨(ad.add (k * 4)).block, (ad.add (k * 4)).off + 1, none⟩ = some (.int .i64 (f k 1)) := hcell 1 (by omega)
      have x2 : wr.cell? ⟨(ad.add (k * 4)).block, (ad.add (k * 4)).off + 2, none⟩ = some (.int .i64 (f k 2)) := hcell 2 (by omega)
      have i0 := hi.out k 0 hkn (by omega)
      have i1 := hi.out k 1 hkn (by omega)
      have i2 := hi.out k 2 hkn (by omega)
      have hfn := Lib.hid (far_next (own_tidy hown.out) hfar.out i0 i1 i2)
      have hal : (ad.add (k * 4)).block < wr.heap.size := by rw [block_add]; exact had
      generalize f k 0 = y0 at *
      generalize f k 1 = y1 at *
      generalize f k 2 = y2 at *
      clear hc hcell hfar had
      have x4 := And.intro hal (And.intro x0 (And.intro x1 x2))
      go_wp2_with fail
      go_region_held3 (fun w' => (ad.add (k * 4)).block < w'.heap.size ∧ w'.cell? (ad.add (k * 4)) = some (.int .i64 y0) ∧ w'.cell? ⟨(ad.add (k * 4)).block, (ad.add (k * 4)).off + 1, none⟩ = some (.int .i64 y1) ∧ w'.cell? ⟨(ad.add (k * 4)).block, (ad.add (k * 4)).off + 2, none⟩ = some (.int .i64 y2))
        (first | exact x4 | exact k4_alloc _ (by assumption) | exact k4_alloc _ x4) (fail)
      have Z := (Blk.new wr 61 #[.int .i64 y0, .int .i64 y1, .int .i64 y2]).drew
      have hownW : RowKit.Hid ((wr.alloc (.cells #[.int .i64 y0, .int .i64 y1, .int .i64 y2] 61)).drew.ownsMap Try.prog 61 (plainElem Try.prog 3) w7.heap.size k D') := Lib.hid (hown.out.alloc _).drew
      have bW : Below w7.heap.size w7 (wr.alloc (.cells #[.int .i64 y0, .int .i64 y1, .int .i64 y2] 61)).drew := (hb.alloc hb.size _).drew
      clear hown hb Bw x0 x1 x2 x4 hal
      generalize wr.heap.size = gp at *
      generalize (wr.alloc (.cells #[.int .i64 y0, .int .i64 y1, .int .i64 y2] 61)).drew = W at *
      have z0 := Z.cell 0
      have z1 := Z.cell 1
      have z2 := Z.cell 2
      simp only [List.getElem?_toArray, List.getElem?_cons_zero, List.getElem?_cons_succ] at z0 z1 z2
      have Z := Lib.hid Z
      have pm : PMap W (.map (some b7)) 300 D := PMap.below (w := w7) (Or.inr ⟨b7, rfl, hm7.out⟩) bW
      obtain ⟨hlk, hvb⟩ := pm.look1 i0 i1 i2
      obtain ⟨hlkd, -⟩ := pm.drew.look1 i0 i1 i2
      have hlkd := Lib.hid hlkd
      have ky := Lib.hid (keyOf_pkey i0 i1 i2)
      have hfn := Lib.hid hfn.out
      generalize hpv : pval D y0 y1 y2 = pv at *
      have hpv := Lib.hid hpv
      obtain ⟨hv0, hv1⟩ := hvb
      have Bw := B7.out.trans (bW.mono B7.out.size)
      by_cases c1 : pv < 0
      · go_wp2_with fail
        refine (law22_wakes _).mono ?_
        rintro e w9 ⟨rfl, hb9⟩
        go_wp2_with fail
        go_ret
        exact ⟨rfl, Bw.trans (hb9.mono Bw.size)⟩
      have c1 : 0 ≤ pv := by omega
      by_cases c3 : 60000 < pv
      · go_wp2_with fail
        refine (law22_wakes _).mono ?_
        rintro e w9 ⟨rfl, hb9⟩
        go_wp2_with fail
        go_ret
        exact ⟨rfl, Bw.trans (hb9.mono Bw.size)⟩
      have c3 : pv ≤ 60000 := by omega
      go_wp2_with fail
      have zsz : (Try.prog.info? 61).map (·.size) = some (#[Value.int .i64 y0, .int .i64 y1, .int .i64 y2] : Array Value).size := by
        have h : (Try.prog.info? 61).map (·.size) = some 3 := by kernel_rfl
        rw [h]; rfl
      refine region_drew 7 (by kernel_rfl) (by kernel_rfl) ?_
      simp only [List.take_succ_cons, List.take_zero, List.drop_succ_cons, List.drop_zero]
      still_step
      refine wpStill_load_row_fix rfl 61 (.tmp 13) rfl gp rfl 61 #[.int .i64 y0, .int .i64 y1, .int .i64 y2] (0, 0) _ Z.out.drew Try.underlying61 rfl zsz ?_
      still_step
      refine wpStill_load_row_fix rfl 61 (.tmp 13) rfl gp rfl 61 #[.int .i64 y0, .int .i64 y1, .int .i64 y2] (0, 0) _ Z.out.drew Try.underlying61 rfl zsz ?_
      refine wpStill_lookup_fix rfl (.tmp 101) (.tmp 102) 57 false rfl _ _ _ rfl rfl hlkd.out ?_
      still_step
      still_step
      refine wpStill_nil ?_
      rw [show IntKind.i64.wrap (pv + (K : Int)) = pv + (K : Int) by rw [IntKind.wrap_i64]; omega]
      refine wpList_mapUpdate_own _ rfl (.tmp 99) (.tmp 100) (.tmp 105) 57 rfl 61 3 pKeyed Try.underlying57 (plainElem Try.prog 3) w7.heap.size k D' rfl hownW.out.drew (by simp only [maxLen]; omega) _ _ (pkey y0 y1 y2) rfl rfl ky.out (pnum (pv + (K : Int))) [] (plainElem_int Try.underlying3 (wf64 (a := pv + (K : Int)) (by unfold In64; omega))) ?_
      intro w9 hm9 hg9
      have hm9 := Lib.hid hm9
      have b9 : Below w7.heap.size w7 w9 := bW.drew.grown hg9 bW.size (fun q hq => by injection hq with hq; omega)
      go_wp2_with fail
      exact ⟨⟨k + 1, _, by go_num, by omega, hm9, hfn, b9⟩, by simp [intOf]; omega⟩
    · obtain rfl : k = n := by omega
      have S8 := Lib.hid (k2_call hb S7.out)
      have B8 := Lib.hid S8.out.1
      have R8 := Lib.hid (R7.out.below hb)
      have P8 : RowKit.Hid (PMap wr (.map (some w7.heap.size)) k D') := Lib.hid (Or.inr ⟨_, rfl, hown.out⟩)
      have hsame : ∀ a b c, In64 a → In64 b → In64 c → phas D' a b c = phas D a b c ∧ (phas D' a b c = true → pval D' a b c = pval D a b c + K) := by rw [← hD.out]; rw [← hD.out] at hfar; exact hfar.out
      have hsame := Lib.hid hsame
      have hw1 : IntKind.i64.wrap (h1 + (K : Int)) = h1 + (K : Int) := by rw [IntKind.wrap_i64]; omega
      clear S7 B7 R7 hm7 hown hfar hb Bw hp' B7s hK
      generalize w7.heap.size = bn at *
      generalize wr = w8 at *
      go_wp2_with fail
      go_region_held3 (fun w' => Below w.heap.size w w' ∧ w.heap.size < w'.heap.size ∧ w'.cell? ⟨w.heap.size, 0, none⟩ = some (.int .i64 h0) ∧ w'.cell? ⟨w.heap.size, 1, none⟩ = some (.int .i64 h1))
        (first | exact k2_drew S8.out | exact k2_alloc _ (by assumption) | exact k2_call (by assumption) (k2_drew S8.out) | exact k2_call (by assumption) (by assumption))
        (first
          | (refine step_clone w8.drew rfl (.tmp 107) (.tmp 108) 26 30 rfl .u32 4 Try.underlying26 clone_u32 (by omega) code _ w8.heap.size rfl rfl rfl (hv'.out.below B8.out.drew) hl2 ?_; intro gg9 c9 w9 ho9 hb9 _ _)
          | (go_at_call 24; refine (fix_fill code h0 (h1 + K) _ _ k D' _ (row_of_own ho9) hu.out hl1 (P8.out.drew.below hb9) g0 g1 (by omega) (by omega)).mono ?_; rintro e w10 ⟨⟨v10, rfl, hown10⟩, hb10⟩))
      have S10 := Lib.hid (show S2 w h0 h1 w10 by assumption)
      have B10 := Lib.hid S10.out.1
      have Ra := Lib.hid ((R8.out.below (w' := w8.drew) ((Below.refl _ _).drew)).below hb9 |>.below hb10)
      have Rb := Lib.hid (row_of_own hown10)
      clear S8 R8 P8 ho9 hb9 hb10 hown10 B8
      cases hfa : Fx.fill code h0 h1 (pval D) (phas D) with
      | none =>
        obtain ⟨e1, e2⟩ := ferr_none hfa
        rw [e2] at Ra
        obtain ⟨-, A6, c6, rfl, -⟩ := Ra.out
        rw [e1]
        clear e1 e2 hfa
        simp only [List.length_nil]
        cases hfb : Fx.fill code h0 (h1 + K) (pval D') (phas D') with
        | none =>
          obtain ⟨e1, e2⟩ := ferr_none hfb
          rw [e2] at Rb
          obtain ⟨-, A7, c7, rfl, -⟩ := Rb.out
          rw [e1]
          clear e1 e2 hfb
          simp only [List.length_nil]
          go_wp2_with fail
          refine (law22_wakes _).mono ?_
          rintro e w11 ⟨rfl, hb11⟩
          go_wp2_with fail
          go_ret
          exact ⟨rfl, B10.out.trans (hb11.mono B10.out.size)⟩
        | some b =>
          obtain ⟨e1, e2⟩ := ferr_some hfb
          rw [e2] at Rb
          obtain ⟨-, A7, c7, rfl, -⟩ := Rb.out
          rw [e1]
          clear e1 e2 hfb
          go_wp2_with fail
          refine (law22_wakes _).mono ?_
          rintro e w11 ⟨rfl, hb11⟩
          go_wp2_with fail
          go_ret
          exact ⟨rfl, B10.out.trans (hb11.mono B10.out.size)⟩
      | some a =>
        obtain ⟨e1, e2⟩ := ferr_some hfa
        rw [e2] at Ra
        obtain ⟨-, A6, c6, rfl, -⟩ := Ra.out
        rw [e1]
        clear e1 e2
        cases hfb : Fx.fill code h0 (h1 + K) (pval D') (phas D') with
        | none =>
          obtain ⟨e1, e2⟩ := ferr_none hfb
          rw [e2] at Rb
          obtain ⟨-, A7, c7, rfl, -⟩ := Rb.out
          rw [e1]
          clear e1 e2 hfb hfa
          simp only [List.length_nil]
          go_wp2_with fail
          refine (law22_wakes _).mono ?_
          rintro e w11 ⟨rfl, hb11⟩
          go_wp2_with fail
          go_ret
          exact ⟨rfl, B10.out.trans (hb11.mono B10.out.size)⟩
        | some b =>
          obtain ⟨e1, e2⟩ := ferr_some hfb
          rw [e2] at Rb
          obtain ⟨-, A7, c7, rfl, -⟩ := Rb.out
          rw [e1]
          clear e1 e2
          obtain ⟨l, hch, -, -⟩ := Fx.fill_some hfa
          obtain ⟨la, lb, hmv⟩ := Fx.moved hu.out hfa hfb hch (by omega) (fun s m v s0 s1 m0 m1 v0 v1 hh => (hsame.out s m v (by unfold In64; omega) (by unfold In64; omega) (by unfold In64; omega)).2 hh)
          obtain ⟨d1, d2⟩ := cerr_some hch
          have hmv := Lib.hid hmv
          rw [la, lb]
          clear hfa hfb hch hsame
          go_wp2_with fail
          go_region_held3 (fun w' => Below w.heap.size w w' ∧ w.heap.size < w'.heap.size ∧ w'.cell? ⟨w.heap.size, 0, none⟩ = some (.int .i64 h0) ∧ w'.cell? ⟨w.heap.size, 1, none⟩ = some (.int .i64 h1))
            (first | exact k2_drew S10.out | exact k2_alloc _ (by assumption) | exact k2_call (by assumption) (k2_drew S10.out) | exact k2_call (by assumption) (by assumption))
            (first
              | (refine step_clone w10.drew rfl (.tmp 146) (.tmp 147) 26 30 rfl .u32 4 Try.underlying26 clone_u32 (by omega) code _ w10.heap.size rfl rfl rfl (hv'.out.below B10.out.drew) hl2 ?_; intro gg11 c11 w11 ho11 hb11 _ _)
              | (go_at_call 20; refine (fix_chain code h0 _ _ (row_of_own ho11) hu.out hl1 g0 g1).mono ?_; rintro e w12 ⟨⟨v12, rfl, hown12⟩, hb12⟩))
          have B12 := Lib.hid (show S2 w h0 h1 w12 by assumption).1
          have Ra := Lib.hid ((Ra.out.below (w' := w10.drew) ((Below.refl _ _).drew)).below hb11 |>.below hb12)
          have Rb := Lib.hid ((Rb.out.below (w' := w10.drew) ((Below.refl _ _).drew)).below hb11 |>.below hb12)
          rw [d2] at hown12
          obtain ⟨-, A8, c8, rfl, -⟩ := row_of_own hown12
          have Rl := Lib.hid (row_of_own hown12)
          have Rc := Lib.hid (hv'.out.below B12.out)
          try rw [d1]
          clear S10 B10 ho11 hb11 hb12 hown12 d1 d2
          have hll : l.length ≤ 9223372036854775807 := Rl.out.1
          go_wp2_with fail
          go_loopw [18] (fun i wr => ∃ j : Nat, i = .int .i64 j ∧ j ≤ l.length ∧ Kept (fun _ => True) w12 wr) (fun i _ => l.length - (intOf i).toNat)
          case atStart => exact ⟨0, rfl, by omega, Kept.refl _ _⟩
          case round =>
            obtain ⟨j, rfl, hj, kp⟩ := hrel
            have Bw := B12.out.trans kp.all_below
            by_cases hlt2 : (j : Int) < l.length
            · have hjl : j < l.length := by omega
              obtain ⟨⟨p0, p1⟩, hmo, ba1, ba2, bb1, bb2⟩ := hmv.out (l.getD j 0) (by simp [List.getD, hjl])
              obtain ⟨-, Aq, cq, e3, hq⟩ := Rl.out.all kp
              injection e3 with e3 _ e4
              subst e3 e4
              obtain ⟨al, rfl, -, xl⟩ := hq j hjl
              generalize l.getD j 0 = p at *
              obtain ⟨pn, rfl⟩ : ∃ pn : Nat, p = pn := ⟨p.toNat, by omega⟩
              simp only [Int.toNat_natCast] at p1 hmo ba1 ba2 bb1 bb2
              obtain ⟨-, Aq, cq, e3, hq⟩ := Rc.out.all kp
              injection e3 with e3 _ e4
              subst e3 e4
              obtain ⟨ad, rfl, -, xc⟩ := hq pn (by omega)
              obtain ⟨-, Aq, cq, e3, hq⟩ := Ra.out.all kp
              injection e3 with e3 _ e4
              subst e3 e4
              obtain ⟨aa, rfl, -, xa1⟩ := hq pn (by omega)
              obtain ⟨aa', e5, -, xa2⟩ := hq (pn + 1) (by omega)
              injection e5 with e5
              subst e5
              obtain ⟨-, Aq, cq, e3, hq⟩ := Rb.out.all kp
              injection e3 with e3 _ e4
              subst e3 e4
              obtain ⟨ab, rfl, -, xb1⟩ := hq pn (by omega)
              obtain ⟨ab', e5, -, xb2⟩ := hq (pn + 1) (by omega)
              injection e5 with e5
              subst e5
              clear hq
              have hxu := hu.out pn (by omega)
              have FP := fun W => Lib.hid (fix_parts (code.getD pn 0) W hxu.1 hxu.2)
              have hp2 : (pn : Int) + 1 < (code.length : Int) := by omega
              unfold Fx.Moved at hmo
              generalize code.getD pn 0 = x at *
              generalize a.getD pn 0 = a1 at *
              generalize a.getD (pn + 1) 0 = a2 at *
              generalize b.getD pn 0 = b1 at *
              generalize b.getD (pn + 1) 0 = b2 at *
              generalize Fx.reg x = xr at *
              generalize Fx.sort x = xs at *
              generalize Fx.mod x = xm at *
              generalize Fx.back x = xb at *
              generalize Fx.isLink x = xi at *
              have hmo := Lib.hid hmo
              go_wp2_with fail
              refine (FP _).out.mono ?_
              rintro e w13 ⟨rfl, kq⟩
              have yl := (kq.cell (p := al.add j) trivial).trans xl
              have ya1 := (kq.cell (p := aa.add pn) trivial).trans xa1
              have yb1 := (kq.cell (p := ab.add pn) trivial).trans xb1
              have ya2 : w13.cell? ⟨aa.block, aa.off + (pn + 1), none⟩ = some (.int .u32 a2) := (kq.cell (p := aa.add (pn + 1)) trivial).trans xa2
              have yb2 : w13.cell? ⟨ab.block, ab.off + (pn + 1), none⟩ = some (.int .u32 b2) := (kq.cell (p := ab.add (pn + 1)) trivial).trans xb2
              have kr := kp.trans kq
              clear kp kq xl xa1 xa2 xb1 xb2 xc FP Ra Rb Rl Rc hmv Bw
              go_wp2_with fail
              have hx1 : (pn : Int) < (code.length : Int) := by omega
              obtain ⟨qn, hqe⟩ : ∃ qn : Nat, qn = pn + 1 := ⟨_, rfl⟩
              have hqT : IntKind.i64.wrap ((pn : Int) + 1) = (qn : Int) := by rw [IntKind.wrap_i64]; omega
              have hq1 : (qn : Int) < (code.length : Int) := by omega
              have za2 : w13.cell? (aa.add qn) = some (.int .u32 a2) := by rw [hqe]; exact ya2
              have zb2 : w13.cell? (ab.add qn) = some (.int .u32 b2) := by rw [hqe]; exact yb2
              have hqe' := Lib.hid hqe
              clear hqe
              have hx0 : (0 : Int) ≤ (pn : Int) := by omega
              have hq0 : (0 : Int) ≤ (qn : Int) := by omega
              have yy := And.intro yl (And.intro ya1 (And.intro za2 (And.intro yb1 zb2)))
              go_region_held3 (fun w' => w'.cell? (al.add j) = some (.int .i64 pn) ∧ w'.cell? (aa.add pn) = some (.int .u32 a1) ∧ w'.cell? (aa.add qn) = some (.int .u32 a2) ∧ w'.cell? (ab.add pn) = some (.int .u32 b1) ∧ w'.cell? (ab.add qn) = some (.int .u32 b2)) (exact yy) (fail)
              have hX := fun to (h1 : a1 % 65536 = 4 * to / 65536) (h2 : a2 % 65536 = 4 * to % 65536) => Lib.hid (halves_of ba1 ba2 h1 h2)
              have hY := fun to (h1 : b1 % 65536 = 4 * to / 65536) (h2 : b2 % 65536 = 4 * to % 65536) => Lib.hid (halves_of bb1 bb2 h1 h2)
              generalize bits BinOp.or IntKind.u32 (IntKind.u32.wrap (bits BinOp.and IntKind.u32 a1 65535 * 65536)) (bits BinOp.and IntKind.u32 a2 65535) = X at *
              generalize bits BinOp.or IntKind.u32 (IntKind.u32.wrap (bits BinOp.and IntKind.u32 b1 65535 * 65536)) (bits BinOp.and IntKind.u32 b2 65535) = Y at *
              by_cases hxs : xs = 0
              · obtain ⟨hab1, hab2⟩ := hmo.out.1 hxs
                have hxs1 : (xs == 0) = true := by rw [hxs]; rfl
                have hxs2 : (xs != 0) = false := by rw [hxs]; rfl
                subst hab1 hab2
                clear hxs hmo hX hY
                go_wp2_with fail
                go_quiet (fail)
                go_wp2_with fail
                exact ⟨⟨j + 1, by go_num, by omega, by first | exact kr | exact kr.drew | exact kr.drew.drew | exact kr.drewN _ | exact kr.drew.drewN _⟩, by simp [intOf]; omega⟩
              · obtain ⟨to, t0, t1, u1, u2, u3, u4⟩ := hmo.out.2 hxs
                have eX := (hX to u1 u2).out
                have eY := (hY (to + K) u3 u4).out
                have hxs1 : (xs == 0) = false := by rw [beq_eq_false_iff_ne]; exact hxs
                have hxs2 : (xs != 0) = true := by rw [bne_iff_ne]; exact hxs
                have hYX : IntKind.u32.wrap (Y - X) = 4 * (K : Int) := by rw [eX, eY, IntKind.wrap_u32]; omega
                have hKK : IntKind.u32.wrap (4 * (K : Int)) = 4 * (K : Int) := by rw [IntKind.wrap_u32]; omega
                clear hxs hmo hX hY eX eY u1 u2 u3 u4
                go_wp2_with fail
                go_quiet (fail)
                go_wp2_with fail
                exact ⟨⟨j + 1, by go_num, by omega, by first | exact kr | exact kr.drew | exact kr.drew.drew | exact kr.drewN _ | exact kr.drew.drewN _⟩, by simp [intOf]; omega⟩
            · go_wp2_with fail
              refine (law22_wakes _).mono ?_
              rintro e w13 ⟨rfl, hb13⟩
              go_wp2_with fail
              go_ret
              exact ⟨rfl, Bw.trans (hb13.mono Bw.size)⟩

end Go.Proofs.Ytlihcdhcljljoaa
