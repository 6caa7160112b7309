/-
  The law's small call: wakes of layer 22.
-/
import Derived.Test.YtlihcdhcljljoaaFixFill
import Derived.Test.YtlihcdhcljljoaaRiscDecA
namespace Go.Proofs.Ytlihcdhcljljoaa
set_option linter.unusedVariables false
set_option linter.unusedSimpArgs false
open Go.RowKit Bw Go.Maps Go.WideMaps

theorem wpList_insert_own {H : Type} {P : Program} (w : World) {ops : Array Oper} {rest : List Oper} {o : Oper} {a : Act} {Q : Exit → Act → World → Prop}
    (hg : o.guard = none) (m x v : Operand) (t : TypeId) (hop : o.op = Op.insert t m x v)
    (k e : TypeId) (K : Keyed P k) (ht : P.underlying t = some (.map k e)) (R : Value → Option (DataW H × List MemPlace)) (b n : Nat) (D : DataW H)
    (hm : a.eval m = .map (some b)) (hown : w.ownsMap P k R b n D) (hn : n < maxLen) (key val : Value) (kl : Lit) (hx : a.eval x = key) (hv : a.eval v = val) (hkey : keyOf P k key = some kl)
    (d : DataW H) (ps : List MemPlace) (hval : R val = some (d, ps))
    (hK : ∀ w', w'.ownsMap P k R b (n + 1) (D.put kl d) → w.grownBy w' (some b) → wpList P ops Q rest (a.put o.dst undef) w') :
    wpList P ops Q (o :: rest) a w := by
  refine wpList_plain hg fun K' hK' => ?_
  obtain ⟨w', hrun, r1, r2⟩ := hown.update K ht hn hkey hval
  unfold Oper.wp
  simp [execOp, hop, hm, hx, hv, hrun, Result.andThen]
  exact hK' _ _ (hK w' r1 r2)

def wkCode : List Int := [0, 0, 0, 1048576, 7]
theorem wk_link : Fx.link 0 0 1 0 = 1048576 ∧ Fx.linkErr 0 0 1 0 = 0 := by decide
theorem wk_chain : Fx.chain wkCode 3 = some [3] := by decide
def wkD : DataW Unit := (DataW.map []).put (pkey 0 1 7) (pnum 50)
theorem wk_val : pval wkD 0 1 7 = 50 := by
  unfold wkD
  rw [pval_put isMap_empty (by unfold In64; omega) (by unfold In64; omega) (by unfold In64; omega) (by unfold In64; omega) (by unfold In64; omega) (by unfold In64; omega)]
  simp
theorem wk_has : phas wkD 0 1 7 = true := by
  unfold wkD
  rw [phas_put isMap_empty (by unfold In64; omega) (by unfold In64; omega) (by unfold In64; omega) (by unfold In64; omega) (by unfold In64; omega) (by unfold In64; omega)]
  simp
def wkIns : Ins := ⟨3, true, true, 7, 0, 0, 0, -54⟩
theorem wk_fill : Fx.fill wkCode 3 100 (pval wkD) (phas wkD) = some [0, 0, 0, wkIns.E, 0] := by
  have h1 : Fx.sort 1048576 = 0 := by decide
  have h2 : Fx.mod 1048576 = 1 := by decide
  rw [Fx.fill, wk_chain]
  show (if Fx.mayAt 5 100 = true then Fx.fills wkCode 100 (pval wkD) (phas wkD) [3] wkCode else none) = _
  rw [if_pos (by decide), Fx.fills]
  show (if phas wkD (Fx.sort 1048576) (Fx.mod 1048576) 7 = true ∧ Fx.okTo (pval wkD (Fx.sort 1048576) (Fx.mod 1048576) 7) = true then Fx.fills wkCode 100 (pval wkD) (phas wkD) [] (([0, 0, 0, 1048576, 7].set 3 (Fx.ins1 1048576 (100 + 3) (pval wkD (Fx.sort 1048576) (Fx.mod 1048576) 7)).E).set 4 (Fx.ins2 1048576 (pval wkD (Fx.sort 1048576) (Fx.mod 1048576) 7)).E) else none) = _
  rw [h1, h2, wk_val, wk_has, if_pos (by decide), Fx.fills]
  rfl
theorem wk_dec : Ins.dec wkIns.E = wkIns ∧ Ins.derr wkIns.E = 0 := by
  have hg : wkIns.good = true := by decide
  rw [Ins.E, hg, if_pos rfl]
  exact Ins.dec_enc _ hg
theorem wk_u32s : U32s wkCode := by
  intro i hi
  have : i = 0 ∨ i = 1 ∨ i = 2 ∨ i = 3 ∨ i = 4 := by have : i < 5 := hi; omega
  rcases this with rfl | rfl | rfl | rfl | rfl <;> decide
theorem wk_row {w : World} {g : Nat} {t : TypeId} (h : Blk w g t #[.int .u32 0, .int .u32 0, .int .u32 0, .int .u32 1048576, .int .u32 7]) : Row .u32 w (.slice (some ⟨g, 0, none⟩) 5 5) wkCode := by
  refine ⟨by decide, some ⟨g, 0, none⟩, 5, rfl, fun k hk => ⟨_, rfl, h.lt, ?_⟩⟩
  rw [fc_add0, h.cell]
  have : k = 0 ∨ k = 1 ∨ k = 2 ∨ k = 3 ∨ k = 4 := by have : k < 5 := hk; omega
  rcases this with rfl | rfl | rfl | rfl | rfl <;> rfl

set_option maxRecDepth 100000 in
set_option maxHeartbeats 2000000 in
theorem law22_wakes (w : World) : Calls Try.prog 19 #[] w fun e w' => e = .returned (.bool true) ∧ Below w.heap.size w w' := by
  have LK := fun W => Lib.hid (fix_link 0 0 1 0 W (by decide) (by decide) (by decide) (by decide) (by decide) (by decide) (by decide) (by decide))
  rw [wk_link.1, wk_link.2] at LK
  go_enter Try.func19, Try.ntmps19
  go_wp2_with fail
  refine (LK _).out.mono ?_
  rintro e w1 ⟨rfl, B1⟩
  have L1 := Lib.hid (Blk.new w1 30 #[.int .u32 0, .int .u32 0, .int .u32 0, .int .u32 1048576, .int .u32 7])
  have R1 := Lib.hid (wk_row L1.out)
  have B2 : Below w.heap.size w (w1.alloc (.cells #[.int .u32 0, .int .u32 0, .int .u32 0, .int .u32 1048576, .int .u32 7] 30)) := B1.alloc B1.size _
  go_wp2_with fail
  refine (fix_chain wkCode 3 _ _ R1.out wk_u32s (by decide) (by decide) (by decide)).mono ?_
  rintro e w2 ⟨⟨v1, rfl, hown1⟩, hb2⟩
  obtain ⟨e1, e2⟩ := cerr_some wk_chain
  rw [e1]
  rw [e2] at hown1
  obtain ⟨-, A1, c1, rfl, -⟩ := row_of_own (l := [3]) hown1
  have R2 := Lib.hid (R1.out.below hb2)
  have B3 : Below w.heap.size w w2 := B2.trans (hb2.mono B2.size)
  clear e1 e2 hown1 R1 L1 B2 hb2
  have MM : ∀ W : World, (Instr.makeMap 57 none).run Try.prog W = .ok (.map (some W.heap.size)) (W.alloc (.map #[] 0)) := fun W => rfl
  have B3s := B3.size
  go_wp2_with (refine wpList_insert_own _ rfl (.tmp 23) (.tmp 24) (.const (.int .i64 50)) 57 rfl 61 3 pKeyed Try.underlying57 (plainElem Try.prog 3) w2.heap.size 0 (.map []) rfl (World.ownsMap_made w2 _ _ _) (by decide) _ _ (pkey 0 1 7) rfl rfl (keyOf_pkey (by unfold In64; omega) (by unfold In64; omega) (by unfold In64; omega)) (pnum 50) [] (plainElem_int Try.underlying3 (by decide)) ?_; intro w3 hm3 hg3)
  have P3 : RowKit.Hid (PMap w3 (.map (some w2.heap.size)) 1 wkD) := Lib.hid (Or.inr ⟨_, rfl, hm3⟩)
  have b3 : Below w2.heap.size w2 w3 := ((Below.refl _ _).alloc (Nat.le_refl _) _).grown hg3 (by simp) (fun k hk => by injection hk with hk; omega)
  have R3 := Lib.hid (R2.out.below b3)
  have B4 : Below w.heap.size w w3 := B3.trans (b3.mono B3.size)
  clear hm3 hg3 b3 R2 B3 B3s MM
  refine (fix_fill wkCode 3 100 _ _ _ wkD _ R3.out wk_u32s (by decide) P3.out (by decide) (by decide) (by decide) (by decide)).mono ?_
  rintro e w4 ⟨⟨v4, rfl, hown4⟩, hb4⟩
  obtain ⟨e1, e2⟩ := ferr_some wk_fill
  rw [e1]
  rw [e2] at hown4
  have B5 : Below w.heap.size w w4 := B4.trans (hb4.mono B4.size)
  obtain ⟨g, c4, rfl, -, -⟩ := hown4.form (by decide)
  have c43 := hown4.cellAt 3 (by decide)
  have c44 := hown4.cellAt 4 (by decide)
  have hEb := Ins.E_bd wkIns
  have DC := fun W => Lib.hid (risc_decode wkIns.E W hEb.1 hEb.2)
  rw [wk_dec.1, wk_dec.2] at DC
  generalize wkIns.E = E at *
  simp only [List.map_cons, List.map_nil, List.getElem?_cons_succ, List.getElem?_cons_zero] at c43 c44
  have hglt : g < w4.heap.size := (hown4.lt g rfl).2
  have hown4 := Lib.hid hown4
  have P3 := Lib.hid P3
  clear e1 e2 hb4
  simp only [List.length_cons, List.length_nil, Nat.reduceAdd]
  go_wp2_with fail
  refine (DC _).out.mono ?_
  rintro e w5 ⟨rfl, hb5⟩
  obtain ⟨hc5, hf5⟩ := kcell hb5
  have B6 : Below w.heap.size w w5 := B5.trans (hb5.mono B5.size)
  have c54 := (hc5 g 4 hglt).trans c44
  clear hc5 hf5 c43 c44
  have hg5 : g < w5.heap.size := Nat.lt_of_lt_of_le hglt hb5.size
  simp only [Ins.val, Ins.cells, wkIns]
  go_wp2_with fail
  go_ret
  exact ⟨rfl, B6.alloc B6.size _⟩

end Go.Proofs.Ytlihcdhcljljoaa
