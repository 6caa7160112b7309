/-
  The document's Copy, walked.
-/
import Derived.Test.YtceflhffilldeaaZHeld
import Derived.Test.YtceflhffilldeaaZSameP
import Derived.Test.YtceflhffilldeaaZDecMem
import Derived.Test.YtceflhffilldeaaZDecP
import Derived.Deep.CutBlock
namespace Go.Proofs.Ytceflhffilldeaa
set_option linter.unusedVariables false
set_option linter.unusedSimpArgs false
open Go.RowKit ObjL

theorem tk_addr2 (ad : Addr) (a b : Nat) : (ad.add a).add b = ad.add (a + b) := by
  by_cases h1 : a = 0 <;> by_cases h2 : b = 0 <;> simp [Addr.add, h1, h2, Nat.add_assoc]
theorem cp_src2 {α : Type} {is : World → α → Nat → Value → Prop} {f : α → List Value} (hf : ∀ x, (f x).length = 2) {w : World} {v : Value} {l : List α} (h : RowOf 2 is w v l) (his : ∀ x j y u, is w x j y → (f x)[j]? = some u → y = u) : SrcIs w v l.length (l.flatMap f) := by
  obtain ⟨hm, A, c, rfl, hc⟩ := h
  refine ⟨A, c, rfl, fun h => ?_, fun ad e j u hu => ?_⟩
  · subst h
    rcases Nat.eq_zero_or_pos l.length with h0 | h0
    · exact h0
    · obtain ⟨ad, h1, -⟩ := hc 0 h0
      cases h1
  · subst e
    have hj : j < l.length * 2 := by
      rcases Nat.lt_or_ge j (l.length * 2) with h | h
      · exact h
      · rw [List.getElem?_eq_none (by rw [flat2_len hf]; exact h)] at hu; cases hu
    have hi : j / 2 < l.length := by omega
    obtain ⟨ad', h1, -, hx⟩ := hc (j / 2) hi
    injection h1 with h1
    subst h1
    obtain ⟨x, h2, h3⟩ := hx (j % 2) (by omega)
    have h4 := flat2 hf l (j / 2) (j % 2) hi (by omega)
    rw [show j / 2 * 2 + j % 2 = j by omega, hu] at h4
    rw [tk_addr2 ad (j / 2 * 2) (j % 2), show j / 2 * 2 + j % 2 = j by omega] at h2
    rw [h2, his _ _ _ _ h3 h4.symm]
theorem cp_src1 {q : IntKind} {w : World} {v : Value} {l : List Int} (h : Row q w v l) : SrcIs w v l.length (l.map (Value.int q)) := by
  obtain ⟨hm, A, c, rfl, hc⟩ := h
  refine ⟨A, c, rfl, fun h => ?_, fun ad e j u hu => ?_⟩
  · subst h
    rcases Nat.eq_zero_or_pos l.length with h0 | h0
    · exact h0
    · obtain ⟨ad, h1, -⟩ := hc 0 h0
      cases h1
  · subst e
    rw [List.getElem?_map] at hu
    by_cases hj : j < l.length
    · rw [List.getElem?_eq_getElem hj] at hu
      obtain ⟨ad', h1, -, hx⟩ := hc j hj
      injection h1 with h1
      subst h1
      rw [hx]
      simpa [List.getD, hj] using hu
    · rw [List.getElem?_eq_none (by omega)] at hu; cases hu
theorem SrcIs.below {w w' : World} {v : Value} {m : Nat} {news : List Value} (h : SrcIs w v m news) (hn : ∀ ad c, v = .slice (some ad) m c → 0 < m → ad.block < w.heap.size) (hl : m = 0 → news = []) (hb : Below w.heap.size w w') : SrcIs w' v m news := by
  obtain ⟨A, c, rfl, h1, h2⟩ := h
  refine ⟨A, c, rfl, h1, fun ad e j u hu => ?_⟩
  subst e
  have hm : 0 < m := by
    rcases Nat.eq_zero_or_pos m with h0 | h0
    · rw [hl h0] at hu; cases hu
    · exact h0
  exact (hb.cell (p := ad.add j) (by rw [block_add]; exact hn ad c rfl hm)).trans (h2 ad rfl j u hu)
theorem one_flat {α : Type} {f : α → List Value} (l : List α) (h : ∀ x ∈ l, ∀ u ∈ f x, u.oneCell' = true) : ∀ u ∈ l.flatMap f, u.oneCell' = true := fun u hu => by
  obtain ⟨x, hx, hxu⟩ := List.mem_flatMap.1 hu
  exact h x hx u hxu
theorem one_ints (q : IntKind) (xs : List Int) : ∀ u ∈ (xs.map (Value.int q)), u.oneCell' = true := by
  intro u hu
  simp only [List.mem_map] at hu
  obtain ⟨x, _, rfl⟩ := hu
  rfl

theorem own_base {w : World} {b b' n size : Nat} {e : TypeId} {v : Value} {xs : List Value} (h : w.ownsRow b e size v n xs) (hb : b' ≤ b) : w.ownsRow b' e size v n xs := by
  obtain ⟨h1, h2⟩ := h
  refine ⟨h1, ?_⟩
  rcases h2 with h2 | ⟨g, cap, cur, h3, h4, h5⟩
  · exact Or.inl h2
  · exact Or.inr ⟨g, cap, cur, h3, Nat.le_trans hb h4, h5⟩
/-- What Copy may take. -/
def CopyOk (o : Ob) : Prop := o.uses.length ≤ 1000000 ∧ o.code.length ≤ 1000000 ∧ o.entries.length ≤ 1000000 ∧ o.descs.length ≤ 1000000 ∧ ∀ d ∈ o.descs, d.2.length ≤ 1000000
set_option maxRecDepth 100000 in
set_option maxHeartbeats 4000000 in
theorem ref23_copy (o : Ob) (vU vD vC vE : Value) (w : World) (hp : ObParts w o vU vD vC vE) (hb : CopyOk o) :
    Calls Try.prog 25 #[.agg (obCells o vU vD vC vE)] w fun e w' => ∃ uU uD uC uE, e = .returned (.agg (obCells o uU uD uC uE)) ∧ ObParts w' o uU uD uC uE ∧ Below w.heap.size w w' := by
  have hp0 := Lib.hid hp
  obtain ⟨⟨-, AU, cU, rfl, -⟩, ⟨-, AD, cD, rfl, -⟩, ⟨-, AC, cC, rfl, -⟩, ⟨-, AE, cE, rfl, -⟩⟩ := hp
  have hbd1 := hb.1
  have hbd2 := hb.2.1
  have hbd3 := hb.2.2.1
  have B2 := ((Below.refl w.heap.size w).alloc (Nat.le_refl _) (.cells (obCells o (.slice AU o.uses.length cU) (.slice AD o.descs.length cD) (.slice AC o.code.length cC) (.slice AE o.entries.length cE)) 49)).alloc (by simp) (.cells #[.string ⟨#[]⟩, .int .u32 0, .slice none 0 0, .slice none 0 0, .int .i64 0, .string ⟨#[]⟩, .slice none 0 0, .slice none 0 0, .int .i64 0, .int .i64 0] 49)
  have L1 := Lib.hid ((Blk.new w 49 (obCells o (.slice AU o.uses.length cU) (.slice AD o.descs.length cD) (.slice AC o.code.length cC) (.slice AE o.entries.length cE))).alloc (.cells #[.string ⟨#[]⟩, .int .u32 0, .slice none 0 0, .slice none 0 0, .int .i64 0, .string ⟨#[]⟩, .slice none 0 0, .slice none 0 0, .int .i64 0, .int .i64 0] 49))
  have hs1 : (w.alloc (.cells (obCells o (.slice AU o.uses.length cU) (.slice AD o.descs.length cD) (.slice AC o.code.length cC) (.slice AE o.entries.length cE)) 49)).heap.size = w.heap.size + 1 := by simp
  have L2 := Blk.new (w.alloc (.cells (obCells o (.slice AU o.uses.length cU) (.slice AD o.descs.length cD) (.slice AC o.code.length cC) (.slice AE o.entries.length cE)) 49)) 49 #[.string ⟨#[]⟩, .int .u32 0, .slice none 0 0, .slice none 0 0, .int .i64 0, .string ⟨#[]⟩, .slice none 0 0, .slice none 0 0, .int .i64 0, .int .i64 0]
  rw [hs1] at L2
  have L2 := Lib.hid L2
  have P1 := Lib.hid (hp0.out.below B2)
  have B2 := Lib.hid B2
  have hbh := Lib.hid hb
  clear hs1
  go_enter Try.func25, Try.ntmps25
  go_upto_region 1 with fail
  generalize hW : (w.alloc (.cells (obCells o (.slice AU o.uses.length cU) (.slice AD o.descs.length cD) (.slice AC o.code.length cC) (.slice AE o.entries.length cE)) 49)).alloc (.cells #[.string ⟨#[]⟩, .int .u32 0, .slice none 0 0, .slice none 0 0, .int .i64 0, .string ⟨#[]⟩, .slice none 0 0, .slice none 0 0, .int .i64 0, .int .i64 0] 49) = W at *
  clear hW
  have SU : RowKit.Hid (∀ V, Below W.heap.size W V → SrcIs V (.slice AU o.uses.length cU) o.uses.length (o.uses.flatMap useCells)) := Lib.hid (fun V h => cp_src2 (fun _ => rfl) (P1.out.below h).uses (fun x j y u hy hu => by
    match j, hu with
    | 0, hu => injection hu with hu; rw [← hu]; exact hy.1 rfl
    | 1, hu => injection hu with hu; rw [← hu]; exact hy.2 rfl))
  have SC : RowKit.Hid (∀ V, Below W.heap.size W V → SrcIs V (.slice AC o.code.length cC) o.code.length (o.code.map (Value.int .u32))) := Lib.hid (fun V h => cp_src1 (P1.out.below h).code)
  have SE : RowKit.Hid (∀ V, Below W.heap.size W V → SrcIs V (.slice AE o.entries.length cE) o.entries.length (o.entries.map (Value.int .i64))) := Lib.hid (fun V h => cp_src1 (P1.out.below h).entries)
  have HS : ∀ V, Below W.heap.size W V → V.cell? ⟨w.heap.size, 2, none⟩ = some (.slice AU o.uses.length cU) ∧ V.cell? ⟨w.heap.size, 6, none⟩ = some (.slice AC o.code.length cC) ∧ V.cell? ⟨w.heap.size, 7, none⟩ = some (.slice AE o.entries.length cE) ∧ V.frozen? ⟨w.heap.size, 2, none⟩ = false := fun V h => by
    have h1 := L1.out.below h L1.out.lt
    exact ⟨h1.cell 2, h1.cell 6, h1.cell 7, h1.frozen 2⟩
  refine wp_region_G (fun w' => w'.cell? ⟨w.heap.size, 2, none⟩ = some (.slice AU o.uses.length cU) ∧ w'.cell? ⟨w.heap.size, 6, none⟩ = some (.slice AC o.code.length cC) ∧ w'.cell? ⟨w.heap.size, 7, none⟩ = some (.slice AE o.entries.length cE) ∧ w'.frozen? ⟨w.heap.size, 2, none⟩ = false) 13 (by kernel_rfl) ?_
  have S0 := HS _ (Below.refl W.heap.size W).drew
  refine wpAnyG_takeL 1 (v := ?_) rfl (by kernel_rfl) (by kernel_rfl) (by kernel_rfl) (by kernel_rfl) (fun _ _ _ h => h) (by rfl) ?_ S0 (by kernel_rfl) ?_
  rotate_left 1
  · (intro wS hSw; (try dsimp only at hSw); obtain ⟨hSa, hSb, hSc, hSd⟩ := hSw; go_simp; first | done | with_reducible rfl)
  try simp only [Act.put, List.setIfInBounds_toArray, List.set_cons_zero, List.set_cons_succ]
  refine wpAnyG_takeL 2 (v := ?_) rfl (by kernel_rfl) (by kernel_rfl) (by kernel_rfl) (by kernel_rfl) (fun _ _ _ h => h) (by rfl) ?_ S0 (by kernel_rfl) ?_
  rotate_left 1
  · (intro wS hSw; (try dsimp only at hSw); obtain ⟨hSa, hSb, hSc, hSd⟩ := hSw; go_simp; first | done | with_reducible rfl)
  try simp only [Act.put, List.setIfInBounds_toArray, List.set_cons_zero, List.set_cons_succ]
  refine wpAnyG_takeL 5 (v := ?_) rfl (by kernel_rfl) (by kernel_rfl) (by kernel_rfl) (by kernel_rfl) (fun _ _ _ h => h) (by rfl) ?_ S0 (by kernel_rfl) ?_
  rotate_left 1
  · (intro wS hSw; (try dsimp only at hSw); obtain ⟨hSa, hSb, hSc, hSd⟩ := hSw; go_simp; first | done | with_reducible rfl)
  try simp only [Act.put, List.setIfInBounds_toArray, List.set_cons_zero, List.set_cons_succ]
  refine wpAnyG_takeL 6 (v := ?_) rfl (by kernel_rfl) (by kernel_rfl) (by kernel_rfl) (by kernel_rfl) (fun _ _ _ h => h) (by rfl) ?_ S0 (by kernel_rfl) ?_
  rotate_left 1
  · (intro wS hSw; (try dsimp only at hSw); obtain ⟨hSa, hSb, hSc, hSd⟩ := hSw; go_simp; first | done | with_reducible rfl)
  try simp only [Act.put, List.setIfInBounds_toArray, List.set_cons_zero, List.set_cons_succ]
  refine wpAnyG_takeL 9 (v := ?_) rfl (by kernel_rfl) (by kernel_rfl) (by kernel_rfl) (by kernel_rfl) (fun _ _ _ h => h) (by rfl) ?_ S0 (by kernel_rfl) ?_
  rotate_left 1
  · (intro wS hSw; (try dsimp only at hSw); obtain ⟨hSa, hSb, hSc, hSd⟩ := hSw; go_simp; first | done | with_reducible rfl)
  try simp only [Act.put, List.setIfInBounds_toArray, List.set_cons_zero, List.set_cons_succ]
  refine wpAnyG_takeL 10 (v := ?_) rfl (by kernel_rfl) (by kernel_rfl) (by kernel_rfl) (by kernel_rfl) (fun _ _ _ h => h) (by rfl) ?_ S0 (by kernel_rfl) ?_
  rotate_left 1
  · (intro wS hSw; (try dsimp only at hSw); obtain ⟨hSa, hSb, hSc, hSd⟩ := hSw; go_simp; first | done | with_reducible rfl)
  try simp only [Act.put, List.setIfInBounds_toArray, List.set_cons_zero, List.set_cons_succ]
  generalize hKK : wpAnyG _ _ _ _ _ _ = KK
  have H222 : ∀ (V : World) (pU gU kU pC gC kC pE gE kE : Nat) (l : Array Bool) (a : Act), l = (List.toArray (true :: true :: true :: true :: true :: true :: true :: true :: true :: true :: true :: true :: true :: false :: false :: false :: false :: false :: [])) → a = { tmps := (List.toArray (.agg (obCells o (.slice AU o.uses.length cU) (.slice AD o.descs.length cD) (.slice AC o.code.length cC) (.slice AE o.entries.length cE)) :: .pointer (some ⟨w.heap.size, 0, none⟩) :: .pointer (some ⟨w.heap.size + 1, 0, none⟩) :: undef :: undef :: .slice (some ⟨pU, 0, none⟩) 0 0 :: .pointer (some ⟨w.heap.size, 2, none⟩) :: .slice AU o.uses.length cU :: .slice (some ⟨gU, 0, none⟩) o.uses.length kU :: .slice (some ⟨pC, 0, none⟩) 0 0 :: .pointer (some ⟨w.heap.size, 6, none⟩) :: .slice AC o.code.length cC :: .slice (some ⟨gC, 0, none⟩) o.code.length kC :: .slice (some ⟨pE, 0, none⟩) 0 0 :: .pointer (some ⟨w.heap.size, 7, none⟩) :: .slice AE o.entries.length cE :: .slice (some ⟨gE, 0, none⟩) o.entries.length kE :: .pointer (some ⟨w.heap.size, 2, none⟩) :: undef :: undef :: undef :: undef :: undef :: undef :: undef :: undef :: undef :: undef :: undef :: undef :: undef :: undef :: undef :: undef :: undef :: undef :: undef :: undef :: undef :: undef :: undef :: undef :: undef :: undef :: undef :: undef :: undef :: undef :: [])), defers := [] } → RowKit.Hid (Below W.heap.size W V) → RowKit.Hid (V.ownsRow W.heap.size 78 2 (.slice (some ⟨gU, 0, none⟩) o.uses.length kU) o.uses.length (o.uses.flatMap useCells)) → RowKit.Hid (V.ownsRow W.heap.size 43 1 (.slice (some ⟨gC, 0, none⟩) o.code.length kC) o.code.length (o.code.map (Value.int .u32))) → RowKit.Hid (V.ownsRow W.heap.size 3 1 (.slice (some ⟨gE, 0, none⟩) o.entries.length kE) o.entries.length (o.entries.map (Value.int .i64))) → KK 5 l a V := by
    intro V pU gU kU pC gC kC pE gE kE l a hl ha bb qU qC qE
    subst hl ha
    rw [← hKK]
    have oV := Lib.hid (L1.out.below bb.out L1.out.lt)
    have zV := Lib.hid (L2.out.below bb.out L2.out.lt)
    have bV := Lib.hid (B2.out.trans (bb.out.mono B2.out.size))
    simp only [obCells] at oV
    clear SU SC SE bb
    have c9 := oV.out.cell 2
    have f9 := oV.out.frozen 2
    simp only [List.getElem?_toArray, List.getElem?_cons_zero, List.getElem?_cons_succ] at c9
    refine wpAnyG_ready [13] (by kernel_rfl) (by simp) (ReadyG.consL rfl (fun K hK => ?_) ReadyG.nil)
    go_simp
    have KS := (KeepB.refl (fun t => t == 49) V).setCell oV.out (i := 2) (by decide) (.slice (some ⟨gU, 0, none⟩) o.uses.length kU)
    have oV' := Lib.hid (show Blk (V.setCell ⟨w.heap.size, 2, none⟩ (.slice (some ⟨gU, 0, none⟩) o.uses.length kU)) w.heap.size 49 #[.string (txt o.name), .int .u32 o.key, (.slice (some ⟨gU, 0, none⟩) o.uses.length kU), (.slice AD o.descs.length cD), .int .i64 o.data, .string (txt o.strings), (.slice AC o.code.length cC), (.slice AE o.entries.length cE), .int .i64 o.calls, .int .i64 o.places] from oV.out.set_ 2 (.slice (some ⟨gU, 0, none⟩) o.uses.length kU))
    have zV' := Lib.hid (zV.out.far (p := ⟨w.heap.size, 2, none⟩) (by simp) (.slice (some ⟨gU, 0, none⟩) o.uses.length kU))
    have bV' := Lib.hid (bV.out.setCell (p := ⟨w.heap.size, 2, none⟩) (Nat.le_refl _) (.slice (some ⟨gU, 0, none⟩) o.uses.length kU))
    have qU' := Lib.hid (row_keepB qU.out KS (by decide))
    have qC' := Lib.hid (row_keepB qC.out KS (by decide))
    have qE' := Lib.hid (row_keepB qE.out KS (by decide))
    refine hK.out _ _ (fun _ h => absurd rfl h) ?_
    clear hK K KS c9 f9 oV zV bV qU qC qE
    try simp only [Act.put, List.setIfInBounds_toArray, List.set_cons_zero, List.set_cons_succ]
    generalize V.setCell ⟨w.heap.size, 2, none⟩ (.slice (some ⟨gU, 0, none⟩) o.uses.length kU) = V1 at *
    have oV := oV'
    have zV := zV'
    have bV := bV'
    have qU := qU'
    have qC := qC'
    have qE := qE'
    clear oV' zV' bV' qU' qC' qE'
    refine wpAnyG_ready [14] (by kernel_rfl) (by simp) (ReadyG.consL rfl (fun K hK => ?_) ReadyG.nil)
    go_simp
    refine hK.out _ _ (fun h _ => by cases (show true = false from h)) ?_
    clear hK K
    try simp only [Act.put, List.setIfInBounds_toArray, List.set_cons_zero, List.set_cons_succ]
    have c9 := oV.out.cell 6
    have f9 := oV.out.frozen 6
    simp only [List.getElem?_toArray, List.getElem?_cons_zero, List.getElem?_cons_succ] at c9
    refine wpAnyG_ready [15] (by kernel_rfl) (by simp) (ReadyG.consL rfl (fun K hK => ?_) ReadyG.nil)
    go_simp
    have KS := (KeepB.refl (fun t => t == 49) V1).setCell oV.out (i := 6) (by decide) (.slice (some ⟨gC, 0, none⟩) o.code.length kC)
    have oV' := Lib.hid (show Blk (V1.setCell ⟨w.heap.size, 6, none⟩ (.slice (some ⟨gC, 0, none⟩) o.code.length kC)) w.heap.size 49 #[.string (txt o.name), .int .u32 o.key, (.slice (some ⟨gU, 0, none⟩) o.uses.length kU), (.slice AD o.descs.length cD), .int .i64 o.data, .string (txt o.strings), (.slice (some ⟨gC, 0, none⟩) o.code.length kC), (.slice AE o.entries.length cE), .int .i64 o.calls, .int .i64 o.places] from oV.out.set_ 6 (.slice (some ⟨gC, 0, none⟩) o.code.length kC))
    have zV' := Lib.hid (zV.out.far (p := ⟨w.heap.size, 6, none⟩) (by simp) (.slice (some ⟨gC, 0, none⟩) o.code.length kC))
    have bV' := Lib.hid (bV.out.setCell (p := ⟨w.heap.size, 6, none⟩) (Nat.le_refl _) (.slice (some ⟨gC, 0, none⟩) o.code.length kC))
    have qU' := Lib.hid (row_keepB qU.out KS (by decide))
    have qC' := Lib.hid (row_keepB qC.out KS (by decide))
    have qE' := Lib.hid (row_keepB qE.out KS (by decide))
    refine hK.out _ _ (fun h _ => by cases (show true = false from h)) ?_
    clear hK K KS c9 f9 oV zV bV qU qC qE
    try simp only [Act.put, List.setIfInBounds_toArray, List.set_cons_zero, List.set_cons_succ]
    generalize V1.setCell ⟨w.heap.size, 6, none⟩ (.slice (some ⟨gC, 0, none⟩) o.code.length kC) = V2 at *
    have oV := oV'
    have zV := zV'
    have bV := bV'
    have qU := qU'
    have qC := qC'
    have qE := qE'
    clear oV' zV' bV' qU' qC' qE'
    refine wpAnyG_ready [16] (by kernel_rfl) (by simp) (ReadyG.consL rfl (fun K hK => ?_) ReadyG.nil)
    go_simp
    refine hK.out _ _ (fun h _ => by cases (show true = false from h)) ?_
    clear hK K
    try simp only [Act.put, List.setIfInBounds_toArray, List.set_cons_zero, List.set_cons_succ]
    have c9 := oV.out.cell 7
    have f9 := oV.out.frozen 7
    simp only [List.getElem?_toArray, List.getElem?_cons_zero, List.getElem?_cons_succ] at c9
    refine wpAnyG_ready [17] (by kernel_rfl) (by simp) (ReadyG.consL rfl (fun K hK => ?_) ReadyG.nil)
    go_simp
    have KS := (KeepB.refl (fun t => t == 49) V2).setCell oV.out (i := 7) (by decide) (.slice (some ⟨gE, 0, none⟩) o.entries.length kE)
    have oV' := Lib.hid (show Blk (V2.setCell ⟨w.heap.size, 7, none⟩ (.slice (some ⟨gE, 0, none⟩) o.entries.length kE)) w.heap.size 49 #[.string (txt o.name), .int .u32 o.key, (.slice (some ⟨gU, 0, none⟩) o.uses.length kU), (.slice AD o.descs.length cD), .int .i64 o.data, .string (txt o.strings), (.slice (some ⟨gC, 0, none⟩) o.code.length kC), (.slice (some ⟨gE, 0, none⟩) o.entries.length kE), .int .i64 o.calls, .int .i64 o.places] from oV.out.set_ 7 (.slice (some ⟨gE, 0, none⟩) o.entries.length kE))
    have zV' := Lib.hid (zV.out.far (p := ⟨w.heap.size, 7, none⟩) (by simp) (.slice (some ⟨gE, 0, none⟩) o.entries.length kE))
    have bV' := Lib.hid (bV.out.setCell (p := ⟨w.heap.size, 7, none⟩) (Nat.le_refl _) (.slice (some ⟨gE, 0, none⟩) o.entries.length kE))
    have qU' := Lib.hid (row_keepB qU.out KS (by decide))
    have qC' := Lib.hid (row_keepB qC.out KS (by decide))
    have qE' := Lib.hid (row_keepB qE.out KS (by decide))
    refine hK.out _ _ (fun h _ => by cases (show true = false from h)) ?_
    clear hK K KS c9 f9 oV zV bV qU qC qE
    try simp only [Act.put, List.setIfInBounds_toArray, List.set_cons_zero, List.set_cons_succ]
    generalize V2.setCell ⟨w.heap.size, 7, none⟩ (.slice (some ⟨gE, 0, none⟩) o.entries.length kE) = V3 at *
    have oV := oV'
    have zV := zV'
    have bV := bV'
    have qU := qU'
    have qC := qC'
    have qE := qE'
    clear oV' zV' bV' qU' qC' qE'
    refine wpAnyG_done (by kernel_rfl) ?_ _
    have DP := Lib.hid (hp0.out.below bV.out).descs
    clear hKK
    go_wp2_with fail
    go_loopw [3, 4] (fun l i wr => ∃ (k : Nat) (dl : List DV), i = .int .i64 k ∧ k ≤ o.descs.length ∧ RowKit.Hid (dl.map (·.1) = o.descs.take k ∧ dl.length = k ∧ wr.ownsRow V3.heap.size 76 2 l dl.length (dl.flatMap dvCells) ∧ (∀ d ∈ dl, ERowT wr d.2 d.1.2) ∧ Below V3.heap.size V3 wr)) (fun _ i _ => o.descs.length - (intOf i).toNat)
    case atStart => exact ⟨0, [], rfl, by omega, Lib.hid ⟨by simp, rfl, World.ownsRow_nil _ _ _ _, fun d hd => absurd hd (by simp), Below.refl _ _⟩⟩
    case round =>
      obtain ⟨k, dl, rfl, hk, hI⟩ := hrel
      have hb3 := hI.out.2.2.2.2
      have c3 : wr.cell? ⟨w.heap.size, 3, none⟩ = some (.slice AD o.descs.length cD) := (oV.out.below hb3 oV.out.lt).cell 3
      clear hb3
      by_cases hlt : (k : Int) < (o.descs.length : Int)
      · have hkl : k < o.descs.length := by omega
        have hul : o.descs.length ≤ 1000000 := hbh.out.2.2.2.1
        obtain ⟨l1, hDp⟩ : ∃ x : Nat, True := ⟨0, trivial⟩
        obtain ⟨-, AD', cD', eD, hDc⟩ := DP.out
        injection eD with e1 e2 e3
        subst e1 e3
        obtain ⟨ad, rfl, had, x1⟩ := hDc k hkl
        obtain ⟨y0, x3, p0⟩ := x1 0 (by decide)
        obtain ⟨y1, x4, p1⟩ := x1 1 (by decide)
        obtain rfl := p0.1 rfl
        have E1 := p1.2 rfl
        have E1 : ERow V3 y1 o.descs[k].2 := E1
        have x3 : V3.cell? (ad.add (k * 2)) = some (.int .i64 o.descs[k].1) := x3
        have hxl : o.descs[k].2.length ≤ 1000000 := hbh.out.2.2.2.2 _ (List.getElem_mem hkl)
        have hel : o.descs.take (k + 1) = o.descs.take k ++ [o.descs[k]] := by rw [List.take_add_one, List.getElem?_eq_getElem hkl]; rfl
        have hel := Lib.hid hel
        clear hDc x1 p0 p1
        generalize o.descs[k] = dk at *
        obtain ⟨n0, ex⟩ := dk
        dsimp only at x3 E1 hxl
        obtain ⟨AX, cX, rfl⟩ := E1.slice
        have HX : ∀ V', Below V3.heap.size V3 V' → V'.cell? ⟨w.heap.size, 3, none⟩ = some (.slice (some ad) o.descs.length cD) ∧ V'.cell? (ad.add (k * 2)) = some (.int .i64 n0) ∧ V'.cell? ⟨(ad.add (k * 2)).block, (ad.add (k * 2)).off + 1, none⟩ = some (.slice AX ex.length cX) := fun V' hB => ⟨(oV.out.below hB oV.out.lt).cell 3, (hB.cell (p := ad.add (k * 2)) (by rw [block_add]; exact had)).trans x3, (hB.cell (p := ⟨(ad.add (k * 2)).block, (ad.add (k * 2)).off + 1, none⟩) (by show (ad.add (k * 2)).block < _; rw [block_add]; exact had)).trans x4⟩
        have SX : RowKit.Hid (∀ V', Below V3.heap.size V3 V' → SrcIs V' (.slice AX ex.length cX) ex.length (ex.flatMap extCells)) := Lib.hid (fun V' h => cp_src2 (fun _ => rfl) (E1.below h) (fun x j y u hy hu => by
          match j, hu with
          | 0, hu => injection hu with hu; rw [← hu]; exact hy.1 rfl
          | 1, hu => injection hu with hu; rw [← hu]; exact hy.2 rfl))
        have x3h := Lib.hid x3
        have x4h := Lib.hid x4
        have hadh := Lib.hid had
        have HXh := Lib.hid HX
        clear x3 x4 E1 had
        go_upto_region 6 with fail
        clear c3
        refine wp_region_F (fun w' => w'.cell? ⟨w.heap.size, 3, none⟩ = some (.slice (some ad) o.descs.length cD) ∧ w'.cell? (ad.add (k * 2)) = some (.int .i64 n0) ∧ w'.cell? ⟨(ad.add (k * 2)).block, (ad.add (k * 2)).off + 1, none⟩ = some (.slice AX ex.length cX)) 18 (by kernel_rfl) ?_
        obtain ⟨i1, i2, i3, i4, i5⟩ := hI.out
        have i1h := Lib.hid i1
        have i2h := Lib.hid i2
        have ownD : RowKit.Hid (wr.drew.ownsRow V3.heap.size 76 2 u3 dl.length (dl.flatMap dvCells)) := Lib.hid i3
        have extD : RowKit.Hid (∀ d ∈ dl, ERowT wr.drew d.2 d.1.2) := Lib.hid i4
        have bD := Lib.hid i5.drew
        have S0 := HXh.out _ i5.drew
        have hdl : dl.length ≤ 1000000 := by omega
        clear i1 i2 i3 i4 i5 HX hI
        refine wpAnyF_takeL 0 (v := ?_) rfl (by kernel_rfl) (by kernel_rfl) (by kernel_rfl) (by kernel_rfl) (fun _ _ _ h => h) (by rfl) ?_ S0 ?_
        rotate_left 1
        · (intro wS hSw; (try dsimp only at hSw); obtain ⟨hSa, hSb, hSc⟩ := hSw; go_simp; first | done | with_reducible rfl)
        try simp only [Act.put, List.setIfInBounds_toArray, List.set_cons_zero, List.set_cons_succ]
        refine wpAnyF_takeL 1 (v := ?_) rfl (by kernel_rfl) (by kernel_rfl) (by kernel_rfl) (by kernel_rfl) (fun _ _ _ h => h) (by rfl) ?_ S0 ?_
        rotate_left 1
        · (intro wS hSw; (try dsimp only at hSw); obtain ⟨hSa, hSb, hSc⟩ := hSw; go_simp; first | done | with_reducible rfl)
        try simp only [Act.put, List.setIfInBounds_toArray, List.set_cons_zero, List.set_cons_succ]
        refine wpAnyF_takeL 2 (v := ?_) rfl (by kernel_rfl) (by kernel_rfl) (by kernel_rfl) (by kernel_rfl) (fun _ _ _ h => h) (by rfl) ?_ S0 ?_
        rotate_left 1
        · (intro wS hSw; (try dsimp only at hSw); obtain ⟨hSa, hSb, hSc⟩ := hSw; go_simp; first | done | with_reducible rfl)
        try simp only [Act.put, List.setIfInBounds_toArray, List.set_cons_zero, List.set_cons_succ]
        refine wpAnyF_takeL 3 (v := ?_) rfl (by kernel_rfl) (by kernel_rfl) (by kernel_rfl) (by kernel_rfl) (fun _ _ _ h => h) (by rfl) ?_ S0 ?_
        rotate_left 1
        · (intro wS hSw; (try dsimp only at hSw); obtain ⟨hSa, hSb, hSc⟩ := hSw; go_simp; first | done | with_reducible rfl)
        try simp only [Act.put, List.setIfInBounds_toArray, List.set_cons_zero, List.set_cons_succ]
        refine wpAnyF_takeL 4 (v := ?_) rfl (by kernel_rfl) (by kernel_rfl) (by kernel_rfl) (by kernel_rfl) (fun _ _ _ h => h) (by rfl) ?_ S0 ?_
        rotate_left 1
        · (intro wS hSw; (try dsimp only at hSw); obtain ⟨hSa, hSb, hSc⟩ := hSw; go_simp; first | done | with_reducible rfl)
        try simp only [Act.put, List.setIfInBounds_toArray, List.set_cons_zero, List.set_cons_succ]
        refine wpAnyF_takeL 5 (v := ?_) rfl (by kernel_rfl) (by kernel_rfl) (by kernel_rfl) (by kernel_rfl) (fun _ _ _ h => h) (by rfl) ?_ S0 ?_
        rotate_left 1
        · (intro wS hSw; (try dsimp only at hSw); obtain ⟨hSa, hSb, hSc⟩ := hSw; go_simp; first | done | with_reducible rfl)
        try simp only [Act.put, List.setIfInBounds_toArray, List.set_cons_zero, List.set_cons_succ]
        refine wpAnyF_takeL 6 (v := ?_) rfl (by kernel_rfl) (by kernel_rfl) (by kernel_rfl) (by kernel_rfl) (fun _ _ _ h => h) (by rfl) ?_ S0 ?_
        rotate_left 1
        · (intro wS hSw; (try dsimp only at hSw); obtain ⟨hSa, hSb, hSc⟩ := hSw; go_simp; first | done | with_reducible rfl)
        try simp only [Act.put, List.setIfInBounds_toArray, List.set_cons_zero, List.set_cons_succ]
        refine wpAnyF_takeL 8 (v := ?_) rfl (by kernel_rfl) (by kernel_rfl) (by kernel_rfl) (by kernel_rfl) (fun _ _ _ h => h) (by rfl) ?_ S0 ?_
        rotate_left 1
        · (intro wS hSw; (try dsimp only at hSw); obtain ⟨hSa, hSb, hSc⟩ := hSw; go_simp; first | done | with_reducible rfl)
        try simp only [Act.put, List.setIfInBounds_toArray, List.set_cons_zero, List.set_cons_succ]
        refine wpAnyF_takeL 9 (v := ?_) rfl (by kernel_rfl) (by kernel_rfl) (by kernel_rfl) (by kernel_rfl) (fun _ _ _ h => h) (by rfl) ?_ S0 ?_
        rotate_left 1
        · (intro wS hSw; (try dsimp only at hSw); obtain ⟨hSa, hSb, hSc⟩ := hSw; go_simp; first | done | with_reducible rfl)
        try simp only [Act.put, List.setIfInBounds_toArray, List.set_cons_zero, List.set_cons_succ]
        refine wpAnyF_takeL 10 (v := ?_) rfl (by kernel_rfl) (by kernel_rfl) (by kernel_rfl) (by kernel_rfl) (fun _ _ _ h => h) (by rfl) ?_ S0 ?_
        rotate_left 1
        · (intro wS hSw; (try dsimp only at hSw); obtain ⟨hSa, hSb, hSc⟩ := hSw; go_simp; first | done | with_reducible rfl)
        try simp only [Act.put, List.setIfInBounds_toArray, List.set_cons_zero, List.set_cons_succ]
        refine wpAnyF_takeL 11 (v := ?_) rfl (by kernel_rfl) (by kernel_rfl) (by kernel_rfl) (by kernel_rfl) (fun _ _ _ h => h) (by rfl) ?_ S0 ?_
        rotate_left 1
        · (intro wS hSw; (try dsimp only at hSw); obtain ⟨hSa, hSb, hSc⟩ := hSw; go_simp; first | done | with_reducible rfl)
        try simp only [Act.put, List.setIfInBounds_toArray, List.set_cons_zero, List.set_cons_succ]
        refine wpAnyF_takeL 12 (v := ?_) rfl (by kernel_rfl) (by kernel_rfl) (by kernel_rfl) (by kernel_rfl) (fun _ _ _ h => h) (by rfl) ?_ S0 ?_
        rotate_left 1
        · (intro wS hSw; (try dsimp only at hSw); obtain ⟨hSa, hSb, hSc⟩ := hSw; go_simp; first | done | with_reducible rfl)
        try simp only [Act.put, List.setIfInBounds_toArray, List.set_cons_zero, List.set_cons_succ]
        refine wpAnyF_takeL 13 (v := ?_) rfl (by kernel_rfl) (by kernel_rfl) (by kernel_rfl) (by kernel_rfl) (fun _ _ _ h => h) (by rfl) ?_ S0 ?_
        rotate_left 1
        · (intro wS hSw; (try dsimp only at hSw); obtain ⟨hSa, hSb, hSc⟩ := hSw; go_simp; first | done | with_reducible rfl)
        try simp only [Act.put, List.setIfInBounds_toArray, List.set_cons_zero, List.set_cons_succ]
        generalize wr.drew = wd at *
        clear S0
        refine wpAnyF_ready [7] (by kernel_rfl) (by simp) (ReadyF.consL rfl (fun K hK => ?_) ReadyF.nil)
        go_simp
        have bw1 := Lib.hid ((Below.refl wd.heap.size wd).alloc (Nat.le_refl _) (.cells #[] 86))
        have b1 := Lib.hid (bD.out.trans (bw1.out.mono bD.out.size))
        have e0 := Lib.hid (own_empty (W := wd) (base := wd.heap.size) (Nat.le_refl _) 86 2)
        refine hK.out _ _ (fun _ => HXh.out _ b1.out) ?_
        clear hK K
        try simp only [Act.put, List.setIfInBounds_toArray, List.set_cons_zero, List.set_cons_succ]
        obtain ⟨g0, hg0⟩ : ∃ g0, g0 = wd.heap.size := ⟨_, rfl⟩
        have hg0h := Lib.hid (Nat.le_of_eq hg0)
        have hgw := Lib.hid hg0
        rw [← hg0] at e0 ⊢
        rw [← hg0] at bw1
        clear hg0
        generalize wd.alloc (.cells #[] 86) = w1 at *
        refine wpAnyF_ready [14] (by kernel_rfl) (by simp) (ReadyF.consL rfl (fun K hK => ?_) ReadyF.nil)
        refine step_app_any w1 rfl (.tmp 34) (.tmp 40) 74 86 rfl 2 16 (.agg #[.int .i64 0, .int .i64 0]) Try.underlying74 tk_ext_info rfl (by omega) g0 (Nat.le_trans hg0h.out bw1.out.size) g0 0 0 [] e0.out ex.length (ex.flatMap extCells) (.slice AX ex.length cX) rfl rfl (SX.out _ b1.out) (flat2_len (fun _ => rfl) _) (one_flat _ (fun x _ u hu => by simp [extCells] at hu; rcases hu with rfl | rfl <;> rfl)) (by omega) (by omega) ?_
        intro gX kX w2 ho hg
        simp only [Nat.zero_add, List.nil_append] at ho
        have bw2 := Lib.hid (bw1.out.grown hg (Nat.le_trans hg0h.out bw1.out.size) (fun q hq => by have hq := Option.some.inj hq; omega))
        have b2 := Lib.hid (bD.out.trans (bw2.out.mono (Nat.le_trans bD.out.size (Nat.le_of_eq hgw.out.symm))))
        have KB2 := KeepB.of_below (bad := fun _ => false) (hgw.out ▸ bw2.out : Below wd.heap.size wd w2)
        have own2 := Lib.hid (row_keepB ownD.out KB2 rfl)
        have ext2 := Lib.hid (fun d hd => (extD.out d hd).keepB KB2 rfl)
        have exX := Lib.hid (ERowT.of_own ho)
        simp only [Nat.zero_add]
        refine hK.out _ _ (fun _ => HXh.out _ b2.out) ?_
        clear hK K KB2 ho hg
        try simp only [Act.put, List.setIfInBounds_toArray, List.set_cons_zero, List.set_cons_succ]
        refine wpAnyF_ready [15] (by kernel_rfl) (by simp) (ReadyF.consL rfl (fun K hK => ?_) ReadyF.nil)
        go_simp
        refine hK.out _ _ (fun _ => HXh.out _ b2.out) ?_
        clear hK K
        try simp only [Act.put, List.setIfInBounds_toArray, List.set_cons_zero, List.set_cons_succ]
        refine wpAnyF_ready [16] (by kernel_rfl) (by simp) (ReadyF.consL rfl (fun K hK => ?_) ReadyF.nil)
        go_simp
        have N1 := tk_news2 w2 (.int .i64 n0) (.slice (some ⟨gX, 0, none⟩) ex.length kX) 76
        have b3 := Lib.hid (b2.out.alloc b2.out.size (.cells #[.int .i64 n0, .slice (some ⟨gX, 0, none⟩) ex.length kX] 76))
        have KB3 := (KeepB.refl (fun _ => false) w2).alloc (.cells #[.int .i64 n0, .slice (some ⟨gX, 0, none⟩) ex.length kX] 76)
        have own3 := Lib.hid (row_keepB own2.out KB3 rfl)
        have ext3 := Lib.hid (fun d hd => (ext2.out d hd).keepB KB3 rfl)
        have exX3 := Lib.hid (exX.out.keepB KB3 rfl)
        refine hK.out _ _ (fun _ => HXh.out _ b3.out) ?_
        clear hK K KB3
        try simp only [Act.put, List.setIfInBounds_toArray, List.set_cons_zero, List.set_cons_succ]
        generalize w2.heap.size = g3 at *
        generalize w2.alloc (.cells #[.int .i64 n0, .slice (some ⟨gX, 0, none⟩) ex.length kX] 76) = w3 at *
        obtain ⟨i0, hi0, hz0, hz1, hz2⟩ := info_parts tk_desc_info
        refine wpAnyF_ready [17] (by kernel_rfl) (by simp) (ReadyF.consL rfl (fun K hK => ?_) ReadyF.nil)
        refine step_app w3 rfl (.tmp 27) (.tmp 43) 45 rfl V3.heap.size 76 i0 _ 2 32 Try.underlying45 hi0 hz0 hz1 hz2 rfl (by omega) u3 dl.length (dl.flatMap dvCells) rfl own3.out ⟨g3, 0, none⟩ 1 1 [.int .i64 n0, .slice (some ⟨gX, 0, none⟩) ex.length kX] rfl rfl N1 (by simp [Value.oneCell']) (by simp only [maxLen]; omega) (by omega) b3.out.size ?_
        intro v' w4 ho hg
        have KB := KeepB.grown (bad := fun t => t == 76) own3.out hg (by decide)
        have b4 := Lib.hid (b3.out.grown hg b3.out.size (fun q hq => (own3.out.lt q hq).1))
        have ext4 := Lib.hid (fun d hd => (ext3.out d hd).keepB KB (by decide))
        have exX4 := Lib.hid (exX3.out.keepB KB (by decide))
        have own4 := Lib.hid ho
        refine hK.out _ _ (fun _ => HXh.out _ b4.out) ?_
        clear hK K KB ho hg N1
        try simp only [Act.put, List.setIfInBounds_toArray, List.set_cons_zero, List.set_cons_succ]
        refine wpAnyF_ready [18] (by kernel_rfl) (by simp) (ReadyF.consL rfl (fun K hK => ?_) ReadyF.nil)
        go_simp
        refine hK.out _ _ (fun h => absurd rfl h) ?_
        clear hK K
        try simp only [Act.put, List.setIfInBounds_toArray, List.set_cons_zero, List.set_cons_succ]
        refine wpAnyF_done (by kernel_rfl) ?_ _
        go_wp2_with fail
        refine ⟨⟨k + 1, dl ++ [((n0, ex), (.slice (some ⟨gX, 0, none⟩) ex.length kX))], by go_num, by omega, Lib.hid ⟨?_, by rw [List.length_append, i2h.out]; rfl, ?_, ?_, b4.out⟩⟩, by simp [intOf]; omega⟩
        · rw [List.map_append, i1h.out, hel.out]; rfl
        · rw [List.length_append, flat_snoc]; exact own4.out
        · intro d hd
          rcases List.mem_append.1 hd with hd | hd
          · exact ext4.out d hd
          · rw [List.mem_singleton.1 hd]; exact exX4.out
      · obtain ⟨i1, i2, i3, i4, i5⟩ := hI.out
        have hkn : k = o.descs.length := by omega
        have hds : o.descs = dl.map (·.1) := by rw [i1, hkn, List.take_length]
        have hdl : dl.length = o.descs.length := by omega
        have i4h := Lib.hid i4
        obtain ⟨A9, k9, rfl⟩ := own_slice i3
        have i3h := Lib.hid i3
        have bE := Lib.hid i5
        have hdsh := Lib.hid hds
        have hdlh := Lib.hid hdl
        clear i1 i2 i3 i4 i5 hI hds hdl hkn c3
        have oE := Lib.hid (oV.out.below bE.out oV.out.lt)
        have zE := Lib.hid (zV.out.below bE.out zV.out.lt)
        have bV2 := Lib.hid (bV.out.trans (bE.out.mono bV.out.size))
        have KE := KeepB.of_below (bad := fun _ => false) bE.out
        have rU := row_keepB qU.out KE rfl
        have rC := row_keepB qC.out KE rfl
        have rE := row_keepB qE.out KE rfl
        have c9 := oE.out.cell 3
        have f9 := oE.out.frozen 3
        simp only [List.getElem?_toArray, List.getElem?_cons_zero, List.getElem?_cons_succ] at c9
        have hrows : TkRows w.heap.size wr o.uses dl o.code o.entries (.slice (some ⟨gU, 0, none⟩) o.uses.length kU) (.slice A9 dl.length k9) (.slice (some ⟨gC, 0, none⟩) o.code.length kC) (.slice (some ⟨gE, 0, none⟩) o.entries.length kE) := ⟨own_base rU B2.out.size, own_base i3h.out bV.out.size, i4h.out, own_base rC B2.out.size, own_base rE B2.out.size⟩
        have KS := (KeepB.refl (fun t => t == 49) wr).setCell oE.out (i := 3) (by decide) (.slice A9 dl.length k9)
        have hrows2 := Lib.hid (hrows.keepB KS ⟨by decide, by decide, by decide, by decide, by decide⟩)
        have oF := Lib.hid (show Blk (wr.setCell ⟨w.heap.size, 3, none⟩ (.slice A9 dl.length k9)) w.heap.size 49 #[.string (txt o.name), .int .u32 o.key, (.slice (some ⟨gU, 0, none⟩) o.uses.length kU), (.slice A9 dl.length k9), .int .i64 o.data, .string (txt o.strings), (.slice (some ⟨gC, 0, none⟩) o.code.length kC), (.slice (some ⟨gE, 0, none⟩) o.entries.length kE), .int .i64 o.calls, .int .i64 o.places] from oE.out.set_ 3 (.slice A9 dl.length k9))
        have zF := Lib.hid (zE.out.far (p := ⟨w.heap.size, 3, none⟩) (by simp) (.slice A9 dl.length k9))
        have bF := Lib.hid (bV2.out.setCell (p := ⟨w.heap.size, 3, none⟩) (Nat.le_refl _) (.slice A9 dl.length k9))
        clear rU rC rE KE hrows KS
        go_upto_region 8 with fail
        clear c9 f9
        generalize wr.setCell ⟨w.heap.size, 3, none⟩ (.slice A9 dl.length k9) = wf at *
        refine wp_region_lit ?_
        refine wpList_load_row rfl 49 (.tmp 1) rfl w.heap.size rfl 49 #[.string (txt o.name), .int .u32 o.key, (.slice (some ⟨gU, 0, none⟩) o.uses.length kU), (.slice A9 dl.length k9), .int .i64 o.data, .string (txt o.strings), (.slice (some ⟨gC, 0, none⟩) o.code.length kC), (.slice (some ⟨gE, 0, none⟩) o.entries.length kE), .int .i64 o.calls, .int .i64 o.places] (0, 0) _ oF.out Try.underlying49 rfl (by kernel_rfl) ?_
        refine wpList_store_row rfl 49 (.tmp 2) (.tmp 47) rfl (w.heap.size + 1) #[.string (txt o.name), .int .u32 o.key, (.slice (some ⟨gU, 0, none⟩) o.uses.length kU), (.slice A9 dl.length k9), .int .i64 o.data, .string (txt o.strings), (.slice (some ⟨gC, 0, none⟩) o.code.length kC), (.slice (some ⟨gE, 0, none⟩) o.entries.length kE), .int .i64 o.calls, .int .i64 o.places] rfl (by kernel_rfl) 49 _ zF.out (by kernel_rfl) rfl (by kernel_rfl) ?_
        have hb := Lib.hid (below_setRow bF.out (Nat.le_succ _) #[.string (txt o.name), .int .u32 o.key, (.slice (some ⟨gU, 0, none⟩) o.uses.length kU), (.slice A9 dl.length k9), .int .i64 o.data, .string (txt o.strings), (.slice (some ⟨gC, 0, none⟩) o.code.length kC), (.slice (some ⟨gE, 0, none⟩) o.entries.length kE), .int .i64 o.calls, .int .i64 o.places])
        have hg := setRow_heap _ (w.heap.size + 1) _ #[.string (txt o.name), .int .u32 o.key, (.slice (some ⟨gU, 0, none⟩) o.uses.length kU), (.slice A9 dl.length k9), .int .i64 o.data, .string (txt o.strings), (.slice (some ⟨gC, 0, none⟩) o.code.length kC), (.slice (some ⟨gE, 0, none⟩) o.entries.length kE), .int .i64 o.calls, .int .i64 o.places] 49 (0, 0) zF.out
        have hPW := Lib.hid ((hrows2.out.keepB (bad := fun t => t == 49) ((KeepB.refl _ wf).setRow_ zF.out (by decide) #[.string (txt o.name), .int .u32 o.key, (.slice (some ⟨gU, 0, none⟩) o.uses.length kU), (.slice A9 dl.length k9), .int .i64 o.data, .string (txt o.strings), (.slice (some ⟨gC, 0, none⟩) o.code.length kC), (.slice (some ⟨gE, 0, none⟩) o.entries.length kE), .int .i64 o.calls, .int .i64 o.places]) ⟨by decide, by decide, by decide, by decide, by decide⟩).parts (o := o) rfl hdsh.out rfl rfl)
        generalize World.setRow _ _ _ = Wz at *
        have hl := run_loadVar_row Wz (w.heap.size + 1) 49 49 _ (0, 0) _ hg Try.underlying49 rfl (by kernel_rfl)
        have hl := Lib.hid hl
        clear hg
        go_wp2_with fail
        have hl := hl.out
        refine bodyPost_ret (v := .agg #[.string (txt o.name), .int .u32 o.key, (.slice (some ⟨gU, 0, none⟩) o.uses.length kU), (.slice A9 dl.length k9), .int .i64 o.data, .string (txt o.strings), (.slice (some ⟨gC, 0, none⟩) o.code.length kC), (.slice (some ⟨gE, 0, none⟩) o.entries.length kE), .int .i64 o.calls, .int .i64 o.places]) ?_ rfl ⟨_, _, _, _, rfl, hPW.out, hb.out⟩
        simp only [results, Try.results25]
        simp [hl, asAddr, obCells]
  have H221 : ∀ (V : World) (pU gU kU pC gC kC pE : Nat) (l : Array Bool) (a : Act), l = (List.toArray (true :: true :: true :: true :: true :: true :: true :: true :: true :: true :: true :: false :: true :: false :: false :: false :: false :: false :: [])) → a = { tmps := (List.toArray (.agg (obCells o (.slice AU o.uses.length cU) (.slice AD o.descs.length cD) (.slice AC o.code.length cC) (.slice AE o.entries.length cE)) :: .pointer (some ⟨w.heap.size, 0, none⟩) :: .pointer (some ⟨w.heap.size + 1, 0, none⟩) :: undef :: undef :: .slice (some ⟨pU, 0, none⟩) 0 0 :: .pointer (some ⟨w.heap.size, 2, none⟩) :: .slice AU o.uses.length cU :: .slice (some ⟨gU, 0, none⟩) o.uses.length kU :: .slice (some ⟨pC, 0, none⟩) 0 0 :: .pointer (some ⟨w.heap.size, 6, none⟩) :: .slice AC o.code.length cC :: .slice (some ⟨gC, 0, none⟩) o.code.length kC :: .slice (some ⟨pE, 0, none⟩) 0 0 :: .pointer (some ⟨w.heap.size, 7, none⟩) :: .slice AE o.entries.length cE :: undef :: .pointer (some ⟨w.heap.size, 2, none⟩) :: undef :: undef :: undef :: undef :: undef :: undef :: undef :: undef :: undef :: undef :: undef :: undef :: undef :: undef :: undef :: undef :: undef :: undef :: undef :: undef :: undef :: undef :: undef :: undef :: undef :: undef :: undef :: undef :: undef :: undef :: [])), defers := [] } → RowKit.Hid (Below W.heap.size W V) → RowKit.Hid (V.ownsRow W.heap.size 78 2 (.slice (some ⟨gU, 0, none⟩) o.uses.length kU) o.uses.length (o.uses.flatMap useCells)) → RowKit.Hid (V.ownsRow W.heap.size 43 1 (.slice (some ⟨gC, 0, none⟩) o.code.length kC) o.code.length (o.code.map (Value.int .u32))) → RowKit.Hid (V.ownsRow W.heap.size 3 1 (.slice (some ⟨pE, 0, none⟩) 0 0) 0 []) → KK 6 l a V := by
    intro V pU gU kU pC gC kC pE l a hl ha bb qU qC qE
    subst hl ha
    rw [← hKK]
    refine wpAnyG_ready [11] (by kernel_rfl) (by simp) (ReadyG.consL rfl (fun K hK => ?_) ReadyG.nil)
    · refine step_app_any V rfl (.tmp 13) (.tmp 15) 47 3 rfl 1 8 (.int .i64 0) Try.underlying47 tk_int_info rfl (by omega) W.heap.size bb.out.size pE 0 0 [] qE.out o.entries.length (o.entries.map (Value.int .i64)) (.slice AE o.entries.length cE) rfl rfl (SE.out _ bb.out) (by simp) (one_ints _ _) (by omega) (by omega) ?_
      intro gE kE V2 ho hg
      simp only [Nat.zero_add, List.nil_append] at ho
      have qn := Lib.hid ho
      have KB := KeepB.grown (bad := fun t => t == 3) qE.out hg (by decide)
      have qU' := Lib.hid (row_keepB qU.out KB (by decide))
      have qC' := Lib.hid (row_keepB qC.out KB (by decide))
      have bb' := Lib.hid (bb.out.grown hg bb.out.size (fun q hq => by have hq := Option.some.inj hq; subst hq; exact (qE.out.lt _ rfl).1))
      simp only [Nat.zero_add]
      refine hK.out _ _ (fun _ _ => HS _ bb'.out) ?_
      clear hK K KB ho hg
      try simp only [Act.put, List.setIfInBounds_toArray, List.set_cons_zero, List.set_cons_succ]
      rw [hKK]
      exact H222 _ pU gU kU pC gC kC pE gE kE _ _ (by kernel_rfl) rfl bb' qU' qC' qn
  have H211 : ∀ (V : World) (pU gU kU pC pE : Nat) (l : Array Bool) (a : Act), l = (List.toArray (true :: true :: true :: true :: true :: true :: true :: false :: true :: true :: true :: false :: true :: false :: false :: false :: false :: false :: [])) → a = { tmps := (List.toArray (.agg (obCells o (.slice AU o.uses.length cU) (.slice AD o.descs.length cD) (.slice AC o.code.length cC) (.slice AE o.entries.length cE)) :: .pointer (some ⟨w.heap.size, 0, none⟩) :: .pointer (some ⟨w.heap.size + 1, 0, none⟩) :: undef :: undef :: .slice (some ⟨pU, 0, none⟩) 0 0 :: .pointer (some ⟨w.heap.size, 2, none⟩) :: .slice AU o.uses.length cU :: .slice (some ⟨gU, 0, none⟩) o.uses.length kU :: .slice (some ⟨pC, 0, none⟩) 0 0 :: .pointer (some ⟨w.heap.size, 6, none⟩) :: .slice AC o.code.length cC :: undef :: .slice (some ⟨pE, 0, none⟩) 0 0 :: .pointer (some ⟨w.heap.size, 7, none⟩) :: .slice AE o.entries.length cE :: undef :: .pointer (some ⟨w.heap.size, 2, none⟩) :: undef :: undef :: undef :: undef :: undef :: undef :: undef :: undef :: undef :: undef :: undef :: undef :: undef :: undef :: undef :: undef :: undef :: undef :: undef :: undef :: undef :: undef :: undef :: undef :: undef :: undef :: undef :: undef :: undef :: undef :: [])), defers := [] } → RowKit.Hid (Below W.heap.size W V) → RowKit.Hid (V.ownsRow W.heap.size 78 2 (.slice (some ⟨gU, 0, none⟩) o.uses.length kU) o.uses.length (o.uses.flatMap useCells)) → RowKit.Hid (V.ownsRow W.heap.size 43 1 (.slice (some ⟨pC, 0, none⟩) 0 0) 0 []) → RowKit.Hid (V.ownsRow W.heap.size 3 1 (.slice (some ⟨pE, 0, none⟩) 0 0) 0 []) → KK 7 l a V := by
    intro V pU gU kU pC pE l a hl ha bb qU qC qE
    subst hl ha
    rw [← hKK]
    refine wpAnyG_ready [7] (by kernel_rfl) (by simp) (ReadyG.consL rfl (fun K hK => ?_) ReadyG.nil)
    · refine step_app_any V rfl (.tmp 9) (.tmp 11) 46 43 rfl 1 4 (.int .u32 0) Try.underlying46 tk_u32_info rfl (by omega) W.heap.size bb.out.size pC 0 0 [] qC.out o.code.length (o.code.map (Value.int .u32)) (.slice AC o.code.length cC) rfl rfl (SC.out _ bb.out) (by simp) (one_ints _ _) (by omega) (by omega) ?_
      intro gC kC V2 ho hg
      simp only [Nat.zero_add, List.nil_append] at ho
      have qn := Lib.hid ho
      have KB := KeepB.grown (bad := fun t => t == 43) qC.out hg (by decide)
      have qU' := Lib.hid (row_keepB qU.out KB (by decide))
      have qE' := Lib.hid (row_keepB qE.out KB (by decide))
      have bb' := Lib.hid (bb.out.grown hg bb.out.size (fun q hq => by have hq := Option.some.inj hq; subst hq; exact (qC.out.lt _ rfl).1))
      simp only [Nat.zero_add]
      refine hK.out _ _ (fun _ _ => HS _ bb'.out) ?_
      clear hK K KB ho hg
      try simp only [Act.put, List.setIfInBounds_toArray, List.set_cons_zero, List.set_cons_succ]
      rw [hKK]
      exact H221 _ pU gU kU pC gC kC pE _ _ (by kernel_rfl) rfl bb' qU' qn qE'
  have H220 : ∀ (V : World) (pU gU kU pC gC kC : Nat) (l : Array Bool) (a : Act), l = (List.toArray (true :: true :: true :: true :: true :: true :: true :: true :: false :: true :: true :: false :: true :: false :: false :: false :: false :: false :: [])) → a = { tmps := (List.toArray (.agg (obCells o (.slice AU o.uses.length cU) (.slice AD o.descs.length cD) (.slice AC o.code.length cC) (.slice AE o.entries.length cE)) :: .pointer (some ⟨w.heap.size, 0, none⟩) :: .pointer (some ⟨w.heap.size + 1, 0, none⟩) :: undef :: undef :: .slice (some ⟨pU, 0, none⟩) 0 0 :: .pointer (some ⟨w.heap.size, 2, none⟩) :: .slice AU o.uses.length cU :: .slice (some ⟨gU, 0, none⟩) o.uses.length kU :: .slice (some ⟨pC, 0, none⟩) 0 0 :: .pointer (some ⟨w.heap.size, 6, none⟩) :: .slice AC o.code.length cC :: .slice (some ⟨gC, 0, none⟩) o.code.length kC :: undef :: .pointer (some ⟨w.heap.size, 7, none⟩) :: .slice AE o.entries.length cE :: undef :: .pointer (some ⟨w.heap.size, 2, none⟩) :: undef :: undef :: undef :: undef :: undef :: undef :: undef :: undef :: undef :: undef :: undef :: undef :: undef :: undef :: undef :: undef :: undef :: undef :: undef :: undef :: undef :: undef :: undef :: undef :: undef :: undef :: undef :: undef :: undef :: undef :: [])), defers := [] } → RowKit.Hid (Below W.heap.size W V) → RowKit.Hid (V.ownsRow W.heap.size 78 2 (.slice (some ⟨gU, 0, none⟩) o.uses.length kU) o.uses.length (o.uses.flatMap useCells)) → RowKit.Hid (V.ownsRow W.heap.size 43 1 (.slice (some ⟨gC, 0, none⟩) o.code.length kC) o.code.length (o.code.map (Value.int .u32))) → KK 7 l a V := by
    intro V pU gU kU pC gC kC l a hl ha bb qU qC
    subst hl ha
    rw [← hKK]
    refine wpAnyG_ready [8] (by kernel_rfl) (by simp) (ReadyG.consL rfl (fun K hK => ?_) ReadyG.nil)
    · go_simp
      have bb' := Lib.hid (bb.out.alloc bb.out.size (.cells #[] 3))
      have qn := Lib.hid (own_empty (W := V) (base := W.heap.size) bb.out.size 3 1)
      have KB := (KeepB.refl (fun _ => false) V).alloc (.cells #[] 3)
      have qU' := Lib.hid (row_keepB qU.out KB (by decide))
      have qC' := Lib.hid (row_keepB qC.out KB (by decide))
      refine hK.out _ _ (fun _ _ => HS _ bb'.out) ?_
      clear hK K KB
      try simp only [Act.put, List.setIfInBounds_toArray, List.set_cons_zero, List.set_cons_succ]
      rw [hKK]
      exact H221 _ pU gU kU pC gC kC V.heap.size _ _ (by kernel_rfl) rfl bb' qU' qC' qn
  have H111 : ∀ (V : World) (pU pC pE : Nat) (l : Array Bool) (a : Act), l = (List.toArray (true :: true :: true :: false :: true :: true :: true :: false :: true :: true :: true :: false :: false :: false :: false :: false :: false :: false :: [])) → a = { tmps := (List.toArray (.agg (obCells o (.slice AU o.uses.length cU) (.slice AD o.descs.length cD) (.slice AC o.code.length cC) (.slice AE o.entries.length cE)) :: .pointer (some ⟨w.heap.size, 0, none⟩) :: .pointer (some ⟨w.heap.size + 1, 0, none⟩) :: undef :: undef :: .slice (some ⟨pU, 0, none⟩) 0 0 :: .pointer (some ⟨w.heap.size, 2, none⟩) :: .slice AU o.uses.length cU :: undef :: .slice (some ⟨pC, 0, none⟩) 0 0 :: .pointer (some ⟨w.heap.size, 6, none⟩) :: .slice AC o.code.length cC :: undef :: .slice (some ⟨pE, 0, none⟩) 0 0 :: .pointer (some ⟨w.heap.size, 7, none⟩) :: .slice AE o.entries.length cE :: undef :: undef :: undef :: undef :: undef :: undef :: undef :: undef :: undef :: undef :: undef :: undef :: undef :: undef :: undef :: undef :: undef :: undef :: undef :: undef :: undef :: undef :: undef :: undef :: undef :: undef :: undef :: undef :: undef :: undef :: undef :: undef :: [])), defers := [] } → RowKit.Hid (Below W.heap.size W V) → RowKit.Hid (V.ownsRow W.heap.size 78 2 (.slice (some ⟨pU, 0, none⟩) 0 0) 0 []) → RowKit.Hid (V.ownsRow W.heap.size 43 1 (.slice (some ⟨pC, 0, none⟩) 0 0) 0 []) → RowKit.Hid (V.ownsRow W.heap.size 3 1 (.slice (some ⟨pE, 0, none⟩) 0 0) 0 []) → KK 9 l a V := by
    intro V pU pC pE l a hl ha bb qU qC qE
    subst hl ha
    rw [← hKK]
    refine wpAnyG_ready [3] (by kernel_rfl) (by simp) (ReadyG.consL rfl (fun K hK => ?_) ReadyG.nil)
    · refine step_app_any V rfl (.tmp 5) (.tmp 7) 44 78 rfl 2 24 (.agg #[.string ⟨#[]⟩, .int .u32 0]) Try.underlying44 tk_used_info rfl (by omega) W.heap.size bb.out.size pU 0 0 [] qU.out o.uses.length (o.uses.flatMap useCells) (.slice AU o.uses.length cU) rfl rfl (SU.out _ bb.out) (flat2_len (fun _ => rfl) _) (one_flat _ (fun x _ u hu => by simp [useCells] at hu; rcases hu with rfl | rfl <;> rfl)) (by omega) (by omega) ?_
      intro gU kU V2 ho hg
      simp only [Nat.zero_add, List.nil_append] at ho
      have qn := Lib.hid ho
      have KB := KeepB.grown (bad := fun t => t == 78) qU.out hg (by decide)
      have qC' := Lib.hid (row_keepB qC.out KB (by decide))
      have qE' := Lib.hid (row_keepB qE.out KB (by decide))
      have bb' := Lib.hid (bb.out.grown hg bb.out.size (fun q hq => by have hq := Option.some.inj hq; subst hq; exact (qU.out.lt _ rfl).1))
      simp only [Nat.zero_add]
      refine hK.out _ _ (fun _ _ => HS _ bb'.out) ?_
      clear hK K KB ho hg
      try simp only [Act.put, List.setIfInBounds_toArray, List.set_cons_zero, List.set_cons_succ]
      refine wpAnyG_takeL 12 (v := ?_) rfl (by kernel_rfl) (by kernel_rfl) (by kernel_rfl) (by kernel_rfl) (fun _ _ _ h => h) (by rfl) ?_ (HS _ bb'.out) (by kernel_rfl) ?_
      rotate_left 1
      · (intro wS hSw; (try dsimp only at hSw); obtain ⟨hSa, hSb, hSc, hSd⟩ := hSw; go_simp; first | done | with_reducible rfl)
      try simp only [Act.put, List.setIfInBounds_toArray, List.set_cons_zero, List.set_cons_succ]
      rw [hKK]
      exact H211 _ pU gU kU pC pE _ _ (by kernel_rfl) rfl bb' qn qC' qE'
  have H201 : ∀ (V : World) (pU gU kU pE : Nat) (l : Array Bool) (a : Act), l = (List.toArray (true :: true :: true :: true :: false :: true :: true :: false :: true :: true :: true :: false :: true :: false :: false :: false :: false :: false :: [])) → a = { tmps := (List.toArray (.agg (obCells o (.slice AU o.uses.length cU) (.slice AD o.descs.length cD) (.slice AC o.code.length cC) (.slice AE o.entries.length cE)) :: .pointer (some ⟨w.heap.size, 0, none⟩) :: .pointer (some ⟨w.heap.size + 1, 0, none⟩) :: undef :: undef :: .slice (some ⟨pU, 0, none⟩) 0 0 :: .pointer (some ⟨w.heap.size, 2, none⟩) :: .slice AU o.uses.length cU :: .slice (some ⟨gU, 0, none⟩) o.uses.length kU :: undef :: .pointer (some ⟨w.heap.size, 6, none⟩) :: .slice AC o.code.length cC :: undef :: .slice (some ⟨pE, 0, none⟩) 0 0 :: .pointer (some ⟨w.heap.size, 7, none⟩) :: .slice AE o.entries.length cE :: undef :: .pointer (some ⟨w.heap.size, 2, none⟩) :: undef :: undef :: undef :: undef :: undef :: undef :: undef :: undef :: undef :: undef :: undef :: undef :: undef :: undef :: undef :: undef :: undef :: undef :: undef :: undef :: undef :: undef :: undef :: undef :: undef :: undef :: undef :: undef :: undef :: undef :: [])), defers := [] } → RowKit.Hid (Below W.heap.size W V) → RowKit.Hid (V.ownsRow W.heap.size 78 2 (.slice (some ⟨gU, 0, none⟩) o.uses.length kU) o.uses.length (o.uses.flatMap useCells)) → RowKit.Hid (V.ownsRow W.heap.size 3 1 (.slice (some ⟨pE, 0, none⟩) 0 0) 0 []) → KK 8 l a V := by
    intro V pU gU kU pE l a hl ha bb qU qE
    subst hl ha
    rw [← hKK]
    refine wpAnyG_ready [4] (by kernel_rfl) (by simp) (ReadyG.consL rfl (fun K hK => ?_) ReadyG.nil)
    · go_simp
      have bb' := Lib.hid (bb.out.alloc bb.out.size (.cells #[] 43))
      have qn := Lib.hid (own_empty (W := V) (base := W.heap.size) bb.out.size 43 1)
      have KB := (KeepB.refl (fun _ => false) V).alloc (.cells #[] 43)
      have qU' := Lib.hid (row_keepB qU.out KB (by decide))
      have qE' := Lib.hid (row_keepB qE.out KB (by decide))
      refine hK.out _ _ (fun _ _ => HS _ bb'.out) ?_
      clear hK K KB
      try simp only [Act.put, List.setIfInBounds_toArray, List.set_cons_zero, List.set_cons_succ]
      rw [hKK]
      exact H211 _ pU gU kU V.heap.size pE _ _ (by kernel_rfl) rfl bb' qU' qn qE'
  have H210 : ∀ (V : World) (pU gU kU pC : Nat) (l : Array Bool) (a : Act), l = (List.toArray (true :: true :: true :: true :: true :: true :: true :: false :: false :: true :: true :: false :: true :: false :: false :: false :: false :: false :: [])) → a = { tmps := (List.toArray (.agg (obCells o (.slice AU o.uses.length cU) (.slice AD o.descs.length cD) (.slice AC o.code.length cC) (.slice AE o.entries.length cE)) :: .pointer (some ⟨w.heap.size, 0, none⟩) :: .pointer (some ⟨w.heap.size + 1, 0, none⟩) :: undef :: undef :: .slice (some ⟨pU, 0, none⟩) 0 0 :: .pointer (some ⟨w.heap.size, 2, none⟩) :: .slice AU o.uses.length cU :: .slice (some ⟨gU, 0, none⟩) o.uses.length kU :: .slice (some ⟨pC, 0, none⟩) 0 0 :: .pointer (some ⟨w.heap.size, 6, none⟩) :: .slice AC o.code.length cC :: undef :: undef :: .pointer (some ⟨w.heap.size, 7, none⟩) :: .slice AE o.entries.length cE :: undef :: .pointer (some ⟨w.heap.size, 2, none⟩) :: undef :: undef :: undef :: undef :: undef :: undef :: undef :: undef :: undef :: undef :: undef :: undef :: undef :: undef :: undef :: undef :: undef :: undef :: undef :: undef :: undef :: undef :: undef :: undef :: undef :: undef :: undef :: undef :: undef :: undef :: [])), defers := [] } → RowKit.Hid (Below W.heap.size W V) → RowKit.Hid (V.ownsRow W.heap.size 78 2 (.slice (some ⟨gU, 0, none⟩) o.uses.length kU) o.uses.length (o.uses.flatMap useCells)) → RowKit.Hid (V.ownsRow W.heap.size 43 1 (.slice (some ⟨pC, 0, none⟩) 0 0) 0 []) → KK 8 l a V := by
    intro V pU gU kU pC l a hl ha bb qU qC
    subst hl ha
    rw [← hKK]
    refine wpAnyG_ready [7, 8] (by kernel_rfl) (by simp) (ReadyG.consL rfl (fun K hK => ?_) (ReadyG.consL rfl (fun K hK => ?_) ReadyG.nil))
    · refine step_app_any V rfl (.tmp 9) (.tmp 11) 46 43 rfl 1 4 (.int .u32 0) Try.underlying46 tk_u32_info rfl (by omega) W.heap.size bb.out.size pC 0 0 [] qC.out o.code.length (o.code.map (Value.int .u32)) (.slice AC o.code.length cC) rfl rfl (SC.out _ bb.out) (by simp) (one_ints _ _) (by omega) (by omega) ?_
      intro gC kC V2 ho hg
      simp only [Nat.zero_add, List.nil_append] at ho
      have qn := Lib.hid ho
      have KB := KeepB.grown (bad := fun t => t == 43) qC.out hg (by decide)
      have qU' := Lib.hid (row_keepB qU.out KB (by decide))
      have bb' := Lib.hid (bb.out.grown hg bb.out.size (fun q hq => by have hq := Option.some.inj hq; subst hq; exact (qC.out.lt _ rfl).1))
      simp only [Nat.zero_add]
      refine hK.out _ _ (fun _ _ => HS _ bb'.out) ?_
      clear hK K KB ho hg
      try simp only [Act.put, List.setIfInBounds_toArray, List.set_cons_zero, List.set_cons_succ]
      rw [hKK]
      exact H220 _ pU gU kU pC gC kC _ _ (by kernel_rfl) rfl bb' qU' qn
    · go_simp
      have bb' := Lib.hid (bb.out.alloc bb.out.size (.cells #[] 3))
      have qn := Lib.hid (own_empty (W := V) (base := W.heap.size) bb.out.size 3 1)
      have KB := (KeepB.refl (fun _ => false) V).alloc (.cells #[] 3)
      have qU' := Lib.hid (row_keepB qU.out KB (by decide))
      have qC' := Lib.hid (row_keepB qC.out KB (by decide))
      refine hK.out _ _ (fun _ _ => HS _ bb'.out) ?_
      clear hK K KB
      try simp only [Act.put, List.setIfInBounds_toArray, List.set_cons_zero, List.set_cons_succ]
      rw [hKK]
      exact H211 _ pU gU kU pC V.heap.size _ _ (by kernel_rfl) rfl bb' qU' qC' qn
  have H011 : ∀ (V : World) (pC pE : Nat) (l : Array Bool) (a : Act), l = (List.toArray (false :: true :: true :: false :: true :: true :: true :: false :: true :: true :: true :: false :: false :: false :: false :: false :: false :: false :: [])) → a = { tmps := (List.toArray (.agg (obCells o (.slice AU o.uses.length cU) (.slice AD o.descs.length cD) (.slice AC o.code.length cC) (.slice AE o.entries.length cE)) :: .pointer (some ⟨w.heap.size, 0, none⟩) :: .pointer (some ⟨w.heap.size + 1, 0, none⟩) :: undef :: undef :: undef :: .pointer (some ⟨w.heap.size, 2, none⟩) :: .slice AU o.uses.length cU :: undef :: .slice (some ⟨pC, 0, none⟩) 0 0 :: .pointer (some ⟨w.heap.size, 6, none⟩) :: .slice AC o.code.length cC :: undef :: .slice (some ⟨pE, 0, none⟩) 0 0 :: .pointer (some ⟨w.heap.size, 7, none⟩) :: .slice AE o.entries.length cE :: undef :: undef :: undef :: undef :: undef :: undef :: undef :: undef :: undef :: undef :: undef :: undef :: undef :: undef :: undef :: undef :: undef :: undef :: undef :: undef :: undef :: undef :: undef :: undef :: undef :: undef :: undef :: undef :: undef :: undef :: undef :: undef :: [])), defers := [] } → RowKit.Hid (Below W.heap.size W V) → RowKit.Hid (V.ownsRow W.heap.size 43 1 (.slice (some ⟨pC, 0, none⟩) 0 0) 0 []) → RowKit.Hid (V.ownsRow W.heap.size 3 1 (.slice (some ⟨pE, 0, none⟩) 0 0) 0 []) → KK 10 l a V := by
    intro V pC pE l a hl ha bb qC qE
    subst hl ha
    rw [← hKK]
    refine wpAnyG_ready [0] (by kernel_rfl) (by simp) (ReadyG.consL rfl (fun K hK => ?_) ReadyG.nil)
    · go_simp
      have bb' := Lib.hid (bb.out.alloc bb.out.size (.cells #[] 78))
      have qn := Lib.hid (own_empty (W := V) (base := W.heap.size) bb.out.size 78 2)
      have KB := (KeepB.refl (fun _ => false) V).alloc (.cells #[] 78)
      have qC' := Lib.hid (row_keepB qC.out KB (by decide))
      have qE' := Lib.hid (row_keepB qE.out KB (by decide))
      refine hK.out _ _ (fun _ _ => HS _ bb'.out) ?_
      clear hK K KB
      try simp only [Act.put, List.setIfInBounds_toArray, List.set_cons_zero, List.set_cons_succ]
      rw [hKK]
      exact H111 _ V.heap.size pC pE _ _ (by kernel_rfl) rfl bb' qn qC' qE'
  have H101 : ∀ (V : World) (pU pE : Nat) (l : Array Bool) (a : Act), l = (List.toArray (true :: true :: true :: false :: false :: true :: true :: false :: true :: true :: true :: false :: false :: false :: false :: false :: false :: false :: [])) → a = { tmps := (List.toArray (.agg (obCells o (.slice AU o.uses.length cU) (.slice AD o.descs.length cD) (.slice AC o.code.length cC) (.slice AE o.entries.length cE)) :: .pointer (some ⟨w.heap.size, 0, none⟩) :: .pointer (some ⟨w.heap.size + 1, 0, none⟩) :: undef :: undef :: .slice (some ⟨pU, 0, none⟩) 0 0 :: .pointer (some ⟨w.heap.size, 2, none⟩) :: .slice AU o.uses.length cU :: undef :: undef :: .pointer (some ⟨w.heap.size, 6, none⟩) :: .slice AC o.code.length cC :: undef :: .slice (some ⟨pE, 0, none⟩) 0 0 :: .pointer (some ⟨w.heap.size, 7, none⟩) :: .slice AE o.entries.length cE :: undef :: undef :: undef :: undef :: undef :: undef :: undef :: undef :: undef :: undef :: undef :: undef :: undef :: undef :: undef :: undef :: undef :: undef :: undef :: undef :: undef :: undef :: undef :: undef :: undef :: undef :: undef :: undef :: undef :: undef :: undef :: undef :: [])), defers := [] } → RowKit.Hid (Below W.heap.size W V) → RowKit.Hid (V.ownsRow W.heap.size 78 2 (.slice (some ⟨pU, 0, none⟩) 0 0) 0 []) → RowKit.Hid (V.ownsRow W.heap.size 3 1 (.slice (some ⟨pE, 0, none⟩) 0 0) 0 []) → KK 10 l a V := by
    intro V pU pE l a hl ha bb qU qE
    subst hl ha
    rw [← hKK]
    refine wpAnyG_ready [3, 4] (by kernel_rfl) (by simp) (ReadyG.consL rfl (fun K hK => ?_) (ReadyG.consL rfl (fun K hK => ?_) ReadyG.nil))
    · refine step_app_any V rfl (.tmp 5) (.tmp 7) 44 78 rfl 2 24 (.agg #[.string ⟨#[]⟩, .int .u32 0]) Try.underlying44 tk_used_info rfl (by omega) W.heap.size bb.out.size pU 0 0 [] qU.out o.uses.length (o.uses.flatMap useCells) (.slice AU o.uses.length cU) rfl rfl (SU.out _ bb.out) (flat2_len (fun _ => rfl) _) (one_flat _ (fun x _ u hu => by simp [useCells] at hu; rcases hu with rfl | rfl <;> rfl)) (by omega) (by omega) ?_
      intro gU kU V2 ho hg
      simp only [Nat.zero_add, List.nil_append] at ho
      have qn := Lib.hid ho
      have KB := KeepB.grown (bad := fun t => t == 78) qU.out hg (by decide)
      have qE' := Lib.hid (row_keepB qE.out KB (by decide))
      have bb' := Lib.hid (bb.out.grown hg bb.out.size (fun q hq => by have hq := Option.some.inj hq; subst hq; exact (qU.out.lt _ rfl).1))
      simp only [Nat.zero_add]
      refine hK.out _ _ (fun _ _ => HS _ bb'.out) ?_
      clear hK K KB ho hg
      try simp only [Act.put, List.setIfInBounds_toArray, List.set_cons_zero, List.set_cons_succ]
      refine wpAnyG_takeL 12 (v := ?_) rfl (by kernel_rfl) (by kernel_rfl) (by kernel_rfl) (by kernel_rfl) (fun _ _ _ h => h) (by rfl) ?_ (HS _ bb'.out) (by kernel_rfl) ?_
      rotate_left 1
      · (intro wS hSw; (try dsimp only at hSw); obtain ⟨hSa, hSb, hSc, hSd⟩ := hSw; go_simp; first | done | with_reducible rfl)
      try simp only [Act.put, List.setIfInBounds_toArray, List.set_cons_zero, List.set_cons_succ]
      rw [hKK]
      exact H201 _ pU gU kU pE _ _ (by kernel_rfl) rfl bb' qn qE'
    · go_simp
      have bb' := Lib.hid (bb.out.alloc bb.out.size (.cells #[] 43))
      have qn := Lib.hid (own_empty (W := V) (base := W.heap.size) bb.out.size 43 1)
      have KB := (KeepB.refl (fun _ => false) V).alloc (.cells #[] 43)
      have qU' := Lib.hid (row_keepB qU.out KB (by decide))
      have qE' := Lib.hid (row_keepB qE.out KB (by decide))
      refine hK.out _ _ (fun _ _ => HS _ bb'.out) ?_
      clear hK K KB
      try simp only [Act.put, List.setIfInBounds_toArray, List.set_cons_zero, List.set_cons_succ]
      rw [hKK]
      exact H111 _ pU V.heap.size pE _ _ (by kernel_rfl) rfl bb' qU' qn qE'
  have H110 : ∀ (V : World) (pU pC : Nat) (l : Array Bool) (a : Act), l = (List.toArray (true :: true :: true :: false :: true :: true :: true :: false :: false :: true :: true :: false :: false :: false :: false :: false :: false :: false :: [])) → a = { tmps := (List.toArray (.agg (obCells o (.slice AU o.uses.length cU) (.slice AD o.descs.length cD) (.slice AC o.code.length cC) (.slice AE o.entries.length cE)) :: .pointer (some ⟨w.heap.size, 0, none⟩) :: .pointer (some ⟨w.heap.size + 1, 0, none⟩) :: undef :: undef :: .slice (some ⟨pU, 0, none⟩) 0 0 :: .pointer (some ⟨w.heap.size, 2, none⟩) :: .slice AU o.uses.length cU :: undef :: .slice (some ⟨pC, 0, none⟩) 0 0 :: .pointer (some ⟨w.heap.size, 6, none⟩) :: .slice AC o.code.length cC :: undef :: undef :: .pointer (some ⟨w.heap.size, 7, none⟩) :: .slice AE o.entries.length cE :: undef :: undef :: undef :: undef :: undef :: undef :: undef :: undef :: undef :: undef :: undef :: undef :: undef :: undef :: undef :: undef :: undef :: undef :: undef :: undef :: undef :: undef :: undef :: undef :: undef :: undef :: undef :: undef :: undef :: undef :: undef :: undef :: [])), defers := [] } → RowKit.Hid (Below W.heap.size W V) → RowKit.Hid (V.ownsRow W.heap.size 78 2 (.slice (some ⟨pU, 0, none⟩) 0 0) 0 []) → RowKit.Hid (V.ownsRow W.heap.size 43 1 (.slice (some ⟨pC, 0, none⟩) 0 0) 0 []) → KK 10 l a V := by
    intro V pU pC l a hl ha bb qU qC
    subst hl ha
    rw [← hKK]
    refine wpAnyG_ready [3, 8] (by kernel_rfl) (by simp) (ReadyG.consL rfl (fun K hK => ?_) (ReadyG.consL rfl (fun K hK => ?_) ReadyG.nil))
    · refine step_app_any V rfl (.tmp 5) (.tmp 7) 44 78 rfl 2 24 (.agg #[.string ⟨#[]⟩, .int .u32 0]) Try.underlying44 tk_used_info rfl (by omega) W.heap.size bb.out.size pU 0 0 [] qU.out o.uses.length (o.uses.flatMap useCells) (.slice AU o.uses.length cU) rfl rfl (SU.out _ bb.out) (flat2_len (fun _ => rfl) _) (one_flat _ (fun x _ u hu => by simp [useCells] at hu; rcases hu with rfl | rfl <;> rfl)) (by omega) (by omega) ?_
      intro gU kU V2 ho hg
      simp only [Nat.zero_add, List.nil_append] at ho
      have qn := Lib.hid ho
      have KB := KeepB.grown (bad := fun t => t == 78) qU.out hg (by decide)
      have qC' := Lib.hid (row_keepB qC.out KB (by decide))
      have bb' := Lib.hid (bb.out.grown hg bb.out.size (fun q hq => by have hq := Option.some.inj hq; subst hq; exact (qU.out.lt _ rfl).1))
      simp only [Nat.zero_add]
      refine hK.out _ _ (fun _ _ => HS _ bb'.out) ?_
      clear hK K KB ho hg
      try simp only [Act.put, List.setIfInBounds_toArray, List.set_cons_zero, List.set_cons_succ]
      refine wpAnyG_takeL 12 (v := ?_) rfl (by kernel_rfl) (by kernel_rfl) (by kernel_rfl) (by kernel_rfl) (fun _ _ _ h => h) (by rfl) ?_ (HS _ bb'.out) (by kernel_rfl) ?_
      rotate_left 1
      · (intro wS hSw; (try dsimp only at hSw); obtain ⟨hSa, hSb, hSc, hSd⟩ := hSw; go_simp; first | done | with_reducible rfl)
      try simp only [Act.put, List.setIfInBounds_toArray, List.set_cons_zero, List.set_cons_succ]
      rw [hKK]
      exact H210 _ pU gU kU pC _ _ (by kernel_rfl) rfl bb' qn qC'
    · go_simp
      have bb' := Lib.hid (bb.out.alloc bb.out.size (.cells #[] 3))
      have qn := Lib.hid (own_empty (W := V) (base := W.heap.size) bb.out.size 3 1)
      have KB := (KeepB.refl (fun _ => false) V).alloc (.cells #[] 3)
      have qU' := Lib.hid (row_keepB qU.out KB (by decide))
      have qC' := Lib.hid (row_keepB qC.out KB (by decide))
      refine hK.out _ _ (fun _ _ => HS _ bb'.out) ?_
      clear hK K KB
      try simp only [Act.put, List.setIfInBounds_toArray, List.set_cons_zero, List.set_cons_succ]
      rw [hKK]
      exact H111 _ pU pC V.heap.size _ _ (by kernel_rfl) rfl bb' qU' qC' qn
  have H200 : ∀ (V : World) (pU gU kU : Nat) (l : Array Bool) (a : Act), l = (List.toArray (true :: true :: true :: true :: false :: true :: true :: false :: false :: true :: true :: false :: true :: false :: false :: false :: false :: false :: [])) → a = { tmps := (List.toArray (.agg (obCells o (.slice AU o.uses.length cU) (.slice AD o.descs.length cD) (.slice AC o.code.length cC) (.slice AE o.entries.length cE)) :: .pointer (some ⟨w.heap.size, 0, none⟩) :: .pointer (some ⟨w.heap.size + 1, 0, none⟩) :: undef :: undef :: .slice (some ⟨pU, 0, none⟩) 0 0 :: .pointer (some ⟨w.heap.size, 2, none⟩) :: .slice AU o.uses.length cU :: .slice (some ⟨gU, 0, none⟩) o.uses.length kU :: undef :: .pointer (some ⟨w.heap.size, 6, none⟩) :: .slice AC o.code.length cC :: undef :: undef :: .pointer (some ⟨w.heap.size, 7, none⟩) :: .slice AE o.entries.length cE :: undef :: .pointer (some ⟨w.heap.size, 2, none⟩) :: undef :: undef :: undef :: undef :: undef :: undef :: undef :: undef :: undef :: undef :: undef :: undef :: undef :: undef :: undef :: undef :: undef :: undef :: undef :: undef :: undef :: undef :: undef :: undef :: undef :: undef :: undef :: undef :: undef :: undef :: [])), defers := [] } → RowKit.Hid (Below W.heap.size W V) → RowKit.Hid (V.ownsRow W.heap.size 78 2 (.slice (some ⟨gU, 0, none⟩) o.uses.length kU) o.uses.length (o.uses.flatMap useCells)) → KK 9 l a V := by
    intro V pU gU kU l a hl ha bb qU
    subst hl ha
    rw [← hKK]
    refine wpAnyG_ready [4, 8] (by kernel_rfl) (by simp) (ReadyG.consL rfl (fun K hK => ?_) (ReadyG.consL rfl (fun K hK => ?_) ReadyG.nil))
    · go_simp
      have bb' := Lib.hid (bb.out.alloc bb.out.size (.cells #[] 43))
      have qn := Lib.hid (own_empty (W := V) (base := W.heap.size) bb.out.size 43 1)
      have KB := (KeepB.refl (fun _ => false) V).alloc (.cells #[] 43)
      have qU' := Lib.hid (row_keepB qU.out KB (by decide))
      refine hK.out _ _ (fun _ _ => HS _ bb'.out) ?_
      clear hK K KB
      try simp only [Act.put, List.setIfInBounds_toArray, List.set_cons_zero, List.set_cons_succ]
      rw [hKK]
      exact H210 _ pU gU kU V.heap.size _ _ (by kernel_rfl) rfl bb' qU' qn
    · go_simp
      have bb' := Lib.hid (bb.out.alloc bb.out.size (.cells #[] 3))
      have qn := Lib.hid (own_empty (W := V) (base := W.heap.size) bb.out.size 3 1)
      have KB := (KeepB.refl (fun _ => false) V).alloc (.cells #[] 3)
      have qU' := Lib.hid (row_keepB qU.out KB (by decide))
      refine hK.out _ _ (fun _ _ => HS _ bb'.out) ?_
      clear hK K KB
      try simp only [Act.put, List.setIfInBounds_toArray, List.set_cons_zero, List.set_cons_succ]
      rw [hKK]
      exact H201 _ pU gU kU V.heap.size _ _ (by kernel_rfl) rfl bb' qU' qn
  have H001 : ∀ (V : World) (pE : Nat) (l : Array Bool) (a : Act), l = (List.toArray (false :: true :: true :: false :: false :: true :: true :: false :: true :: true :: true :: false :: false :: false :: false :: false :: false :: false :: [])) → a = { tmps := (List.toArray (.agg (obCells o (.slice AU o.uses.length cU) (.slice AD o.descs.length cD) (.slice AC o.code.length cC) (.slice AE o.entries.length cE)) :: .pointer (some ⟨w.heap.size, 0, none⟩) :: .pointer (some ⟨w.heap.size + 1, 0, none⟩) :: undef :: undef :: undef :: .pointer (some ⟨w.heap.size, 2, none⟩) :: .slice AU o.uses.length cU :: undef :: undef :: .pointer (some ⟨w.heap.size, 6, none⟩) :: .slice AC o.code.length cC :: undef :: .slice (some ⟨pE, 0, none⟩) 0 0 :: .pointer (some ⟨w.heap.size, 7, none⟩) :: .slice AE o.entries.length cE :: undef :: undef :: undef :: undef :: undef :: undef :: undef :: undef :: undef :: undef :: undef :: undef :: undef :: undef :: undef :: undef :: undef :: undef :: undef :: undef :: undef :: undef :: undef :: undef :: undef :: undef :: undef :: undef :: undef :: undef :: undef :: undef :: [])), defers := [] } → RowKit.Hid (Below W.heap.size W V) → RowKit.Hid (V.ownsRow W.heap.size 3 1 (.slice (some ⟨pE, 0, none⟩) 0 0) 0 []) → KK 11 l a V := by
    intro V pE l a hl ha bb qE
    subst hl ha
    rw [← hKK]
    refine wpAnyG_ready [0, 4] (by kernel_rfl) (by simp) (ReadyG.consL rfl (fun K hK => ?_) (ReadyG.consL rfl (fun K hK => ?_) ReadyG.nil))
    · go_simp
      have bb' := Lib.hid (bb.out.alloc bb.out.size (.cells #[] 78))
      have qn := Lib.hid (own_empty (W := V) (base := W.heap.size) bb.out.size 78 2)
      have KB := (KeepB.refl (fun _ => false) V).alloc (.cells #[] 78)
      have qE' := Lib.hid (row_keepB qE.out KB (by decide))
      refine hK.out _ _ (fun _ _ => HS _ bb'.out) ?_
      clear hK K KB
      try simp only [Act.put, List.setIfInBounds_toArray, List.set_cons_zero, List.set_cons_succ]
      rw [hKK]
      exact H101 _ V.heap.size pE _ _ (by kernel_rfl) rfl bb' qn qE'
    · go_simp
      have bb' := Lib.hid (bb.out.alloc bb.out.size (.cells #[] 43))
      have qn := Lib.hid (own_empty (W := V) (base := W.heap.size) bb.out.size 43 1)
      have KB := (KeepB.refl (fun _ => false) V).alloc (.cells #[] 43)
      have qE' := Lib.hid (row_keepB qE.out KB (by decide))
      refine hK.out _ _ (fun _ _ => HS _ bb'.out) ?_
      clear hK K KB
      try simp only [Act.put, List.setIfInBounds_toArray, List.set_cons_zero, List.set_cons_succ]
      rw [hKK]
      exact H011 _ V.heap.size pE _ _ (by kernel_rfl) rfl bb' qn qE'
  have H010 : ∀ (V : World) (pC : Nat) (l : Array Bool) (a : Act), l = (List.toArray (false :: true :: true :: false :: true :: true :: true :: false :: false :: true :: true :: false :: false :: false :: false :: false :: false :: false :: [])) → a = { tmps := (List.toArray (.agg (obCells o (.slice AU o.uses.length cU) (.slice AD o.descs.length cD) (.slice AC o.code.length cC) (.slice AE o.entries.length cE)) :: .pointer (some ⟨w.heap.size, 0, none⟩) :: .pointer (some ⟨w.heap.size + 1, 0, none⟩) :: undef :: undef :: undef :: .pointer (some ⟨w.heap.size, 2, none⟩) :: .slice AU o.uses.length cU :: undef :: .slice (some ⟨pC, 0, none⟩) 0 0 :: .pointer (some ⟨w.heap.size, 6, none⟩) :: .slice AC o.code.length cC :: undef :: undef :: .pointer (some ⟨w.heap.size, 7, none⟩) :: .slice AE o.entries.length cE :: undef :: undef :: undef :: undef :: undef :: undef :: undef :: undef :: undef :: undef :: undef :: undef :: undef :: undef :: undef :: undef :: undef :: undef :: undef :: undef :: undef :: undef :: undef :: undef :: undef :: undef :: undef :: undef :: undef :: undef :: undef :: undef :: [])), defers := [] } → RowKit.Hid (Below W.heap.size W V) → RowKit.Hid (V.ownsRow W.heap.size 43 1 (.slice (some ⟨pC, 0, none⟩) 0 0) 0 []) → KK 11 l a V := by
    intro V pC l a hl ha bb qC
    subst hl ha
    rw [← hKK]
    refine wpAnyG_ready [0, 8] (by kernel_rfl) (by simp) (ReadyG.consL rfl (fun K hK => ?_) (ReadyG.consL rfl (fun K hK => ?_) ReadyG.nil))
    · go_simp
      have bb' := Lib.hid (bb.out.alloc bb.out.size (.cells #[] 78))
      have qn := Lib.hid (own_empty (W := V) (base := W.heap.size) bb.out.size 78 2)
      have KB := (KeepB.refl (fun _ => false) V).alloc (.cells #[] 78)
      have qC' := Lib.hid (row_keepB qC.out KB (by decide))
      refine hK.out _ _ (fun _ _ => HS _ bb'.out) ?_
      clear hK K KB
      try simp only [Act.put, List.setIfInBounds_toArray, List.set_cons_zero, List.set_cons_succ]
      rw [hKK]
      exact H110 _ V.heap.size pC _ _ (by kernel_rfl) rfl bb' qn qC'
    · go_simp
      have bb' := Lib.hid (bb.out.alloc bb.out.size (.cells #[] 3))
      have qn := Lib.hid (own_empty (W := V) (base := W.heap.size) bb.out.size 3 1)
      have KB := (KeepB.refl (fun _ => false) V).alloc (.cells #[] 3)
      have qC' := Lib.hid (row_keepB qC.out KB (by decide))
      refine hK.out _ _ (fun _ _ => HS _ bb'.out) ?_
      clear hK K KB
      try simp only [Act.put, List.setIfInBounds_toArray, List.set_cons_zero, List.set_cons_succ]
      rw [hKK]
      exact H011 _ pC V.heap.size _ _ (by kernel_rfl) rfl bb' qC' qn
  have H100 : ∀ (V : World) (pU : Nat) (l : Array Bool) (a : Act), l = (List.toArray (true :: true :: true :: false :: false :: true :: true :: false :: false :: true :: true :: false :: false :: false :: false :: false :: false :: false :: [])) → a = { tmps := (List.toArray (.agg (obCells o (.slice AU o.uses.length cU) (.slice AD o.descs.length cD) (.slice AC o.code.length cC) (.slice AE o.entries.length cE)) :: .pointer (some ⟨w.heap.size, 0, none⟩) :: .pointer (some ⟨w.heap.size + 1, 0, none⟩) :: undef :: undef :: .slice (some ⟨pU, 0, none⟩) 0 0 :: .pointer (some ⟨w.heap.size, 2, none⟩) :: .slice AU o.uses.length cU :: undef :: undef :: .pointer (some ⟨w.heap.size, 6, none⟩) :: .slice AC o.code.length cC :: undef :: undef :: .pointer (some ⟨w.heap.size, 7, none⟩) :: .slice AE o.entries.length cE :: undef :: undef :: undef :: undef :: undef :: undef :: undef :: undef :: undef :: undef :: undef :: undef :: undef :: undef :: undef :: undef :: undef :: undef :: undef :: undef :: undef :: undef :: undef :: undef :: undef :: undef :: undef :: undef :: undef :: undef :: undef :: undef :: [])), defers := [] } → RowKit.Hid (Below W.heap.size W V) → RowKit.Hid (V.ownsRow W.heap.size 78 2 (.slice (some ⟨pU, 0, none⟩) 0 0) 0 []) → KK 11 l a V := by
    intro V pU l a hl ha bb qU
    subst hl ha
    rw [← hKK]
    refine wpAnyG_ready [3, 4, 8] (by kernel_rfl) (by simp) (ReadyG.consL rfl (fun K hK => ?_) (ReadyG.consL rfl (fun K hK => ?_) (ReadyG.consL rfl (fun K hK => ?_) ReadyG.nil)))
    · refine step_app_any V rfl (.tmp 5) (.tmp 7) 44 78 rfl 2 24 (.agg #[.string ⟨#[]⟩, .int .u32 0]) Try.underlying44 tk_used_info rfl (by omega) W.heap.size bb.out.size pU 0 0 [] qU.out o.uses.length (o.uses.flatMap useCells) (.slice AU o.uses.length cU) rfl rfl (SU.out _ bb.out) (flat2_len (fun _ => rfl) _) (one_flat _ (fun x _ u hu => by simp [useCells] at hu; rcases hu with rfl | rfl <;> rfl)) (by omega) (by omega) ?_
      intro gU kU V2 ho hg
      simp only [Nat.zero_add, List.nil_append] at ho
      have qn := Lib.hid ho
      have KB := KeepB.grown (bad := fun t => t == 78) qU.out hg (by decide)
      have bb' := Lib.hid (bb.out.grown hg bb.out.size (fun q hq => by have hq := Option.some.inj hq; subst hq; exact (qU.out.lt _ rfl).1))
      simp only [Nat.zero_add]
      refine hK.out _ _ (fun _ _ => HS _ bb'.out) ?_
      clear hK K KB ho hg
      try simp only [Act.put, List.setIfInBounds_toArray, List.set_cons_zero, List.set_cons_succ]
      refine wpAnyG_takeL 12 (v := ?_) rfl (by kernel_rfl) (by kernel_rfl) (by kernel_rfl) (by kernel_rfl) (fun _ _ _ h => h) (by rfl) ?_ (HS _ bb'.out) (by kernel_rfl) ?_
      rotate_left 1
      · (intro wS hSw; (try dsimp only at hSw); obtain ⟨hSa, hSb, hSc, hSd⟩ := hSw; go_simp; first | done | with_reducible rfl)
      try simp only [Act.put, List.setIfInBounds_toArray, List.set_cons_zero, List.set_cons_succ]
      rw [hKK]
      exact H200 _ pU gU kU _ _ (by kernel_rfl) rfl bb' qn
    · go_simp
      have bb' := Lib.hid (bb.out.alloc bb.out.size (.cells #[] 43))
      have qn := Lib.hid (own_empty (W := V) (base := W.heap.size) bb.out.size 43 1)
      have KB := (KeepB.refl (fun _ => false) V).alloc (.cells #[] 43)
      have qU' := Lib.hid (row_keepB qU.out KB (by decide))
      refine hK.out _ _ (fun _ _ => HS _ bb'.out) ?_
      clear hK K KB
      try simp only [Act.put, List.setIfInBounds_toArray, List.set_cons_zero, List.set_cons_succ]
      rw [hKK]
      exact H110 _ pU V.heap.size _ _ (by kernel_rfl) rfl bb' qU' qn
    · go_simp
      have bb' := Lib.hid (bb.out.alloc bb.out.size (.cells #[] 3))
      have qn := Lib.hid (own_empty (W := V) (base := W.heap.size) bb.out.size 3 1)
      have KB := (KeepB.refl (fun _ => false) V).alloc (.cells #[] 3)
      have qU' := Lib.hid (row_keepB qU.out KB (by decide))
      refine hK.out _ _ (fun _ _ => HS _ bb'.out) ?_
      clear hK K KB
      try simp only [Act.put, List.setIfInBounds_toArray, List.set_cons_zero, List.set_cons_succ]
      rw [hKK]
      exact H101 _ pU V.heap.size _ _ (by kernel_rfl) rfl bb' qU' qn
  have H000 : ∀ (V : World) (l : Array Bool) (a : Act), l = (List.toArray (false :: true :: true :: false :: false :: true :: true :: false :: false :: true :: true :: false :: false :: false :: false :: false :: false :: false :: [])) → a = { tmps := (List.toArray (.agg (obCells o (.slice AU o.uses.length cU) (.slice AD o.descs.length cD) (.slice AC o.code.length cC) (.slice AE o.entries.length cE)) :: .pointer (some ⟨w.heap.size, 0, none⟩) :: .pointer (some ⟨w.heap.size + 1, 0, none⟩) :: undef :: undef :: undef :: .pointer (some ⟨w.heap.size, 2, none⟩) :: .slice AU o.uses.length cU :: undef :: undef :: .pointer (some ⟨w.heap.size, 6, none⟩) :: .slice AC o.code.length cC :: undef :: undef :: .pointer (some ⟨w.heap.size, 7, none⟩) :: .slice AE o.entries.length cE :: undef :: undef :: undef :: undef :: undef :: undef :: undef :: undef :: undef :: undef :: undef :: undef :: undef :: undef :: undef :: undef :: undef :: undef :: undef :: undef :: undef :: undef :: undef :: undef :: undef :: undef :: undef :: undef :: undef :: undef :: undef :: undef :: [])), defers := [] } → RowKit.Hid (Below W.heap.size W V) → KK 12 l a V := by
    intro V  l a hl ha bb 
    subst hl ha
    rw [← hKK]
    refine wpAnyG_ready [0, 4, 8] (by kernel_rfl) (by simp) (ReadyG.consL rfl (fun K hK => ?_) (ReadyG.consL rfl (fun K hK => ?_) (ReadyG.consL rfl (fun K hK => ?_) ReadyG.nil)))
    · go_simp
      have bb' := Lib.hid (bb.out.alloc bb.out.size (.cells #[] 78))
      have qn := Lib.hid (own_empty (W := V) (base := W.heap.size) bb.out.size 78 2)
      have KB := (KeepB.refl (fun _ => false) V).alloc (.cells #[] 78)
      refine hK.out _ _ (fun _ _ => HS _ bb'.out) ?_
      clear hK K KB
      try simp only [Act.put, List.setIfInBounds_toArray, List.set_cons_zero, List.set_cons_succ]
      rw [hKK]
      exact H100 _ V.heap.size _ _ (by kernel_rfl) rfl bb' qn
    · go_simp
      have bb' := Lib.hid (bb.out.alloc bb.out.size (.cells #[] 43))
      have qn := Lib.hid (own_empty (W := V) (base := W.heap.size) bb.out.size 43 1)
      have KB := (KeepB.refl (fun _ => false) V).alloc (.cells #[] 43)
      refine hK.out _ _ (fun _ _ => HS _ bb'.out) ?_
      clear hK K KB
      try simp only [Act.put, List.setIfInBounds_toArray, List.set_cons_zero, List.set_cons_succ]
      rw [hKK]
      exact H010 _ V.heap.size _ _ (by kernel_rfl) rfl bb' qn
    · go_simp
      have bb' := Lib.hid (bb.out.alloc bb.out.size (.cells #[] 3))
      have qn := Lib.hid (own_empty (W := V) (base := W.heap.size) bb.out.size 3 1)
      have KB := (KeepB.refl (fun _ => false) V).alloc (.cells #[] 3)
      refine hK.out _ _ (fun _ _ => HS _ bb'.out) ?_
      clear hK K KB
      try simp only [Act.put, List.setIfInBounds_toArray, List.set_cons_zero, List.set_cons_succ]
      rw [hKK]
      exact H001 _ V.heap.size _ _ (by kernel_rfl) rfl bb' qn
  have S0 := Lib.hid ((Below.refl W.heap.size W).drew)
  exact H000 _ _ _ (by kernel_rfl) rfl S0

end Go.Proofs.Ytceflhffilldeaa
