/-
  The document's store: Fork, walked.
-/
import Derived.Test.YtceflhffilldeaaRefOwn
import Derived.Maps.AppendAt
namespace Go.Proofs.Ytceflhffilldeaa
set_option linter.unusedVariables false
set_option linter.unusedSimpArgs false
open Go.RowKit Go.Maps Go.WideMaps

theorem wp_app_at {P : Program} {o : Oper} {a : Act} {K : Act → World → Prop} {Q : Exit → Act → World → Prop} (W : World) (s x : Operand) (t e : TypeId)
    (hop : o.op = .call { callee := .builtin .append, args := #[s, x], argTypes := #[t, t] }) (bytes : Nat) (ht : P.underlying t = some (.slice e))
    (info : (P.info? e).map (fun i => (i.zero, i.size, i.bytes)) = some (some (.string ⟨#[]⟩), 1, bytes)) (hb : bytes ≤ 16) (base : Nat) (hb0 : base ≤ W.heap.size) (g0 c0 n : Nat) (xs : List ByteArray)
    (own0 : W.ownsRow base e 1 (.slice (some ⟨g0, 0, none⟩) n c0) n (xs.map Value.string)) (l : List ByteArray) (v : Value) (hs : a.eval s = .slice (some ⟨g0, 0, none⟩) n c0) (hx : a.eval x = v) (hr : SRow W v l) (hl : n + l.length ≤ 1000000)
    (hK : ∀ g c w2, w2.ownsRow base e 1 (.slice (some ⟨g, 0, none⟩) (n + l.length) c) (n + l.length) ((xs ++ l).map Value.string) → W.grownBy w2 (some g0) → (g = g0 ∨ g = W.heap.size) → K (a.put o.dst (.slice (some ⟨g, 0, none⟩) (n + l.length) c)) w2) : o.wp P a W K Q := by
  obtain ⟨i0, hi0, hz0, hz1, hz2⟩ := info_parts info
  obtain ⟨hm, A, c, rfl, hc⟩ := hr
  rcases A with _ | ad
  · have h0 : l = [] := by
      cases l with
      | nil => rfl
      | cons x xs => obtain ⟨ad, h, _⟩ := hc 0 (by simp); cases h
    subst h0
    have hcap : n ≤ c0 ∧ ∃ cur t' fr, W.heap[g0]? = some (.cells cur t' fr) := by
      rcases own0.2 with ⟨h1, _⟩ | ⟨g', cap, cur, hv, hb', hh, hn, hc', hs', ht'⟩
      · cases h1
      · injection hv with h1 h2 h3
        injection h1 with h1
        injection h1 with h1
        subst h1 h3
        exact ⟨hn, _, _, _, hh⟩
    have HN := fun ty => sa_nothing (P := P) W t ty e n c0 c g0 hcap.1 ht i0 hi0 hcap.2
    have hk := hK g0 c0 W (by simpa using own0) (World.grownBy.refl W _) (Or.inl rfl)
    unfold Oper.wp execOp
    simp only [hop, resolve, invoke, builtin, Sem.run_bind, Sem.run_pure, Result.andThen_ok, List.map_toArray, List.map_cons, List.map_nil, hs, hx, List.length_nil, HN]
    exact hk
  · obtain ⟨v2, w2, hrun, ho2, hg2, hn2, hat⟩ := run_append_own_at (P := P) W base t o.type e i0 _ 1 bytes ht hi0 hz0 hz1 hz2 rfl (by omega) _ n (xs.map Value.string) own0 ad l.length c (l.map Value.string) (by simp)
      (sa_src (fun k hk => by obtain ⟨ad', e1, ha, hxx⟩ := hc k hk; injection e1 with e1; subst e1; exact hxx)) (sa_one _) (by simp only [maxLen]; omega) (by
        have : (n + l.length) * bytes ≤ (n + l.length) * 16 := Nat.mul_le_mul_left _ hb
        omega) hb0
    rw [← List.map_append] at ho2
    unfold Oper.wp execOp
    simp only [hop, resolve, invoke, builtin, Sem.run_bind, Sem.run_pure, Result.andThen_ok, List.map_toArray, List.map_cons, List.map_nil, hs, hx, hrun]
    rcases ho2.2 with ⟨rfl, h2⟩ | ⟨g, cap, cur, rfl, hg', hh, r⟩
    · have := (hn2.1 rfl).1
      cases this
    · refine hK g cap w2 ho2 hg2 ?_
      rcases hat with h | h
      · exact Or.inl (Option.some.inj h)
      · exact Or.inr (Option.some.inj h)
theorem step_app_at {P : Program} {ops : Array Oper} {o : Oper} {a : Act} {K : Act → World → Prop} {Q : Exit → Act → World → Prop} {E : Prop} (W : World) (hgd : o.guard = none) (s x : Operand) (t e : TypeId)
    (hop : o.op = .call { callee := .builtin .append, args := #[s, x], argTypes := #[t, t] }) (bytes : Nat) (ht : P.underlying t = some (.slice e))
    (info : (P.info? e).map (fun i => (i.zero, i.size, i.bytes)) = some (some (.string ⟨#[]⟩), 1, bytes)) (hb : bytes ≤ 16) (base : Nat) (hb0 : base ≤ W.heap.size) (g0 c0 n : Nat) (xs : List ByteArray)
    (own0 : W.ownsRow base e 1 (.slice (some ⟨g0, 0, none⟩) n c0) n (xs.map Value.string)) (l : List ByteArray) (v : Value) (hs : a.eval s = .slice (some ⟨g0, 0, none⟩) n c0) (hx : a.eval x = v) (hr : SRow W v l) (m : Nat) (hm : n + l.length = m) (hl : m ≤ 1000000)
    (hK : ∀ g c w2, w2.ownsRow base e 1 (.slice (some ⟨g, 0, none⟩) m c) m ((xs ++ l).map Value.string) → W.grownBy w2 (some g0) → (g = g0 ∨ g = W.heap.size) → K (a.put o.dst (.slice (some ⟨g, 0, none⟩) m c)) w2) :
    if Region.wanted o (yielded ops a.tmps) = true then Oper.wp P o a W K Q else E := by
  subst hm
  rw [if_pos (by simp [Region.wanted, hgd])]
  exact wp_app_at W s x t e hop bytes ht info hb base hb0 g0 c0 n xs own0 l v hs hx hr hl hK
/-- A fresh store out of two rows. -/
theorem ref_fresh {w W : World} {g2 c2 g5 c5 : Nat} {N T : List ByteArray} (h2 : W.ownsRow w.heap.size 9 1 (.slice (some ⟨g2, 0, none⟩) N.length c2) N.length (N.map Value.string))
    (h3 : W.ownsRow w.heap.size 9 1 (.slice (some ⟨g5, 0, none⟩) T.length c5) T.length (T.map Value.string)) (hne : g2 ≠ g5) (hb : Below w.heap.size w W) (hl : N.length = T.length) (hs : N.length ≤ 1000000) (W' : World)
    (hW : W' = W.alloc (.cells #[.slice (some ⟨g2, 0, none⟩) N.length c2, .slice (some ⟨g5, 0, none⟩) T.length c5] 28)) :
    ∃ q v' u', Ending.returned (.pointer (some ⟨W.heap.size, 0, none⟩)) = Ending.returned (.pointer (some ⟨q, 0, none⟩)) ∧ RefIs W' q v' u' N T ∧ w.heap.size ≤ q ∧ (∀ k, v'.ownBlock = some k → w.heap.size ≤ k) ∧ (∀ k, u'.ownBlock = some k → w.heap.size ≤ k) ∧ Below w.heap.size w W' := by
  subst hW
  have a1 := h2.lt g2 rfl
  have a2 := h3.lt g5 rfl
  refine ⟨W.heap.size, _, _, rfl, ⟨Blk.new W _ _, (h2.alloc _).mono (Nat.zero_le _), (h3.alloc _).mono (Nat.zero_le _), hl, hs, ?_, ?_, ?_⟩, hb.size, ?_, ?_, hb.alloc hb.size _⟩
  · intro k hk; have hk := Option.some.inj hk; dsimp only at hk; omega
  · intro k hk; have hk := Option.some.inj hk; dsimp only at hk; omega
  · intro k hk e; have hk := Option.some.inj hk; have e := Option.some.inj e; dsimp only at hk e; omega
  · intro k hk; have hk := Option.some.inj hk; dsimp only at hk; omega
  · intro k hk; have hk := Option.some.inj hk; dsimp only at hk; omega

set_option maxRecDepth 100000 in
set_option maxHeartbeats 4000000 in
theorem ref07_fork (p : Nat) (v u : Value) (N T : List ByteArray) (w : World) (h : RefIs w p v u N T) :
    Calls Try.prog 19 #[.pointer (some ⟨p, 0, none⟩)] w fun e w' => ∃ q v' u', e = .returned (.pointer (some ⟨q, 0, none⟩)) ∧ RefIs w' q v' u' N T ∧ w.heap.size ≤ q ∧ (∀ k, v'.ownBlock = some k → w.heap.size ≤ k) ∧ (∀ k, u'.ownBlock = some k → w.heap.size ≤ k) ∧ Below w.heap.size w w' := by
  have SN := Lib.hid (srow_of_own h.small h.names)
  have ST := Lib.hid (srow_of_own (by rw [← h.len]; exact h.small) h.texts)
  have hl := Lib.hid h.len
  have hs := Lib.hid h.small
  have hpl := h.blk.lt
  have C0 := h.blk.cell 0
  have C1 := h.blk.cell 1
  simp only [List.getElem?_toArray, List.getElem?_cons_zero, List.getElem?_cons_succ] at C0 C1
  clear h
  go_enter Try.func19, Try.ntmps19
  go_upto_region 3 with fail
  go_cut [2] from 5 to 18 (fun r wx => ∃ W g2 c2 g5 c5, r = .pointer (some ⟨World.heap W |>.size, 0, none⟩) ∧ W.ownsRow w.heap.size 9 1 (.slice (some ⟨g2, 0, none⟩) N.length c2) N.length (N.map Value.string) ∧ W.ownsRow w.heap.size 9 1 (.slice (some ⟨g5, 0, none⟩) T.length c5) T.length (T.map Value.string) ∧ g2 ≠ g5 ∧ Below w.heap.size w W ∧ wx = W.alloc (.cells #[.slice (some ⟨g2, 0, none⟩) N.length c2, .slice (some ⟨g5, 0, none⟩) T.length c5] 28))
  case first =>
    have B0 : RowKit.Hid (Below w.heap.size w w.drew) := Lib.hid (Below.refl _ _).drew
    refine wp_region_F (fun w' => w'.cell? ⟨p, 0, none⟩ = some v ∧ w'.cell? ⟨p, 1, none⟩ = some u) 14 (by kernel_rfl) ?_
    have hS0 : w.drew.cell? ⟨p, 0, none⟩ = some v ∧ w.drew.cell? ⟨p, 1, none⟩ = some u := ⟨C0, C1⟩
    refine wpAnyF_takeL 1 (v := ?_) rfl (by kernel_rfl) (by kernel_rfl) (by kernel_rfl) (by kernel_rfl) (fun _ _ _ h => h) (by rfl) ?_ (by assumption) ?_
    rotate_left 1
    · (intro wS hSw; (try dsimp only at hSw); obtain ⟨hSa, hSb⟩ := hSw; go_simp; first | done | with_reducible rfl)
    try simp only [Act.put, List.setIfInBounds_toArray, List.set_cons_zero, List.set_cons_succ]
    refine wpAnyF_takeL 2 (v := ?_) rfl (by kernel_rfl) (by kernel_rfl) (by kernel_rfl) (by kernel_rfl) (fun _ _ _ h => h) (by rfl) ?_ (by assumption) ?_
    rotate_left 1
    · (intro wS hSw; (try dsimp only at hSw); obtain ⟨hSa, hSb⟩ := hSw; go_simp; first | done | with_reducible rfl)
    try simp only [Act.put, List.setIfInBounds_toArray, List.set_cons_zero, List.set_cons_succ]
    refine wpAnyF_takeL 3 (v := ?_) rfl (by kernel_rfl) (by kernel_rfl) (by kernel_rfl) (by kernel_rfl) (fun _ _ _ h => h) (by rfl) ?_ (by assumption) ?_
    rotate_left 1
    · (intro wS hSw; (try dsimp only at hSw); obtain ⟨hSa, hSb⟩ := hSw; go_simp; first | done | with_reducible rfl)
    try simp only [Act.put, List.setIfInBounds_toArray, List.set_cons_zero, List.set_cons_succ]
    refine wpAnyF_takeL 4 (v := ?_) rfl (by kernel_rfl) (by kernel_rfl) (by kernel_rfl) (by kernel_rfl) (fun _ _ _ h => h) (by rfl) ?_ (by assumption) ?_
    rotate_left 1
    · (intro wS hSw; (try dsimp only at hSw); obtain ⟨hSa, hSb⟩ := hSw; go_simp; first | done | with_reducible rfl)
    try simp only [Act.put, List.setIfInBounds_toArray, List.set_cons_zero, List.set_cons_succ]
    refine wpAnyF_takeL 7 (v := ?_) rfl (by kernel_rfl) (by kernel_rfl) (by kernel_rfl) (by kernel_rfl) (fun _ _ _ h => h) (by rfl) ?_ (by assumption) ?_
    rotate_left 1
    · (intro wS hSw; (try dsimp only at hSw); obtain ⟨hSa, hSb⟩ := hSw; go_simp; first | done | with_reducible rfl)
    try simp only [Act.put, List.setIfInBounds_toArray, List.set_cons_zero, List.set_cons_succ]
    refine wpAnyF_takeL 8 (v := ?_) rfl (by kernel_rfl) (by kernel_rfl) (by kernel_rfl) (by kernel_rfl) (fun _ _ _ h => h) (by rfl) ?_ (by assumption) ?_
    rotate_left 1
    · (intro wS hSw; (try dsimp only at hSw); obtain ⟨hSa, hSb⟩ := hSw; go_simp; first | done | with_reducible rfl)
    try simp only [Act.put, List.setIfInBounds_toArray, List.set_cons_zero, List.set_cons_succ]
    refine wpAnyF_takeL 9 (v := ?_) rfl (by kernel_rfl) (by kernel_rfl) (by kernel_rfl) (by kernel_rfl) (fun _ _ _ h => h) (by rfl) ?_ (by assumption) ?_
    rotate_left 1
    · (intro wS hSw; (try dsimp only at hSw); obtain ⟨hSa, hSb⟩ := hSw; go_simp; first | done | with_reducible rfl)
    try simp only [Act.put, List.setIfInBounds_toArray, List.set_cons_zero, List.set_cons_succ]
    refine wpAnyF_takeL 10 (v := ?_) rfl (by kernel_rfl) (by kernel_rfl) (by kernel_rfl) (by kernel_rfl) (fun _ _ _ h => h) (by rfl) ?_ (by assumption) ?_
    rotate_left 1
    · (intro wS hSw; (try dsimp only at hSw); obtain ⟨hSa, hSb⟩ := hSw; go_simp; first | done | with_reducible rfl)
    try simp only [Act.put, List.setIfInBounds_toArray, List.set_cons_zero, List.set_cons_succ]
    refine wpAnyF_ready [0, 6] (by kernel_rfl) (by simp) (ReadyF.consL rfl (fun K hK => ?_) (ReadyF.consL rfl (fun K hK => ?_) ReadyF.nil))
    · go_simp
      have B1 : RowKit.Hid (Below w.heap.size w (w.alloc (.cells #[] 9)).drew) := Lib.hid (B0.out.alloc B0.out.size _)
      have O1 : RowKit.Hid ((w.alloc (.cells #[] 9)).drew.ownsRow w.heap.size 9 1 (.slice (some ⟨w.heap.size, 0, none⟩) 0 0) 0 (([] : List ByteArray).map Value.string)) := Lib.hid ⟨rfl, Or.inr ⟨w.heap.size, 0, _, rfl, B0.out.size, heap_alloc_new w.drew _, Nat.le_refl _, by decide, rfl, rfl⟩⟩
      refine hK.out _ _ (fun _ => ⟨(B1.out.cell (p := ⟨p, 0, none⟩) hpl).trans C0, (B1.out.cell (p := ⟨p, 1, none⟩) hpl).trans C1⟩) ?_
      clear hK K
      try simp only [Act.put, List.setIfInBounds_toArray, List.set_cons_zero, List.set_cons_succ]
      have hS1 : (w.alloc (.cells #[] 9)).drew.cell? ⟨p, 0, none⟩ = some v ∧ (w.alloc (.cells #[] 9)).drew.cell? ⟨p, 1, none⟩ = some u := ⟨(B1.out.cell (p := ⟨p, 0, none⟩) hpl).trans C0, (B1.out.cell (p := ⟨p, 1, none⟩) hpl).trans C1⟩
      generalize (w.alloc (.cells #[] 9)).drew = wa at *
      refine wpAnyF_ready [5, 6] (by kernel_rfl) (by simp) (ReadyF.consL rfl (fun K hK => ?_) (ReadyF.consL rfl (fun K hK => ?_) ReadyF.nil))
      · refine step_app_at wa rfl (.tmp 5) (.tmp 9) 26 9 rfl 16 Try.underlying26 rs_str_info (by omega) w.heap.size B1.out.size w.heap.size 0 0 [] O1.out N _ rfl rfl (SN.out.below B1.out) N.length (Nat.zero_add _) SN.out.1 ?_
        intro g2 c2 wb r2 hg2 at2
        rw [List.nil_append] at r2
        have R2 := Lib.hid r2
        have B2 := Lib.hid (B1.out.grown hg2 B1.out.size (fun q hq => by have hq := Option.some.inj hq; have := (O1.out.lt w.heap.size rfl).1; omega))
        clear r2
        refine hK.out _ _ (fun _ => ⟨(B2.out.cell (p := ⟨p, 0, none⟩) hpl).trans C0, (B2.out.cell (p := ⟨p, 1, none⟩) hpl).trans C1⟩) ?_
        clear hK K
        try simp only [Act.put, List.setIfInBounds_toArray, List.set_cons_zero, List.set_cons_succ]
        have hS2 : wb.cell? ⟨p, 0, none⟩ = some v ∧ wb.cell? ⟨p, 1, none⟩ = some u := ⟨(B2.out.cell (p := ⟨p, 0, none⟩) hpl).trans C0, (B2.out.cell (p := ⟨p, 1, none⟩) hpl).trans C1⟩
        refine wpAnyF_ready [6] (by kernel_rfl) (by simp) (ReadyF.consL rfl (fun K hK => ?_) ReadyF.nil)
        go_simp
        have B3 : RowKit.Hid (Below w.heap.size w (wb.alloc (.cells #[] 9))) := Lib.hid (B2.out.alloc B2.out.size _)
        have O3 : RowKit.Hid ((wb.alloc (.cells #[] 9)).ownsRow w.heap.size 9 1 (.slice (some ⟨wb.heap.size, 0, none⟩) 0 0) 0 (([] : List ByteArray).map Value.string)) := Lib.hid ⟨rfl, Or.inr ⟨wb.heap.size, 0, _, rfl, B2.out.size, heap_alloc_new wb _, Nat.le_refl _, by decide, rfl, rfl⟩⟩
        refine hK.out _ _ (fun _ => ⟨(B3.out.cell (p := ⟨p, 0, none⟩) hpl).trans C0, (B3.out.cell (p := ⟨p, 1, none⟩) hpl).trans C1⟩) ?_
        clear hK K
        try simp only [Act.put, List.setIfInBounds_toArray, List.set_cons_zero, List.set_cons_succ]
        have hS3 : (wb.alloc (.cells #[] 9)).cell? ⟨p, 0, none⟩ = some v ∧ (wb.alloc (.cells #[] 9)).cell? ⟨p, 1, none⟩ = some u := ⟨(B3.out.cell (p := ⟨p, 0, none⟩) hpl).trans C0, (B3.out.cell (p := ⟨p, 1, none⟩) hpl).trans C1⟩
        have RN : RowKit.Hid ((wb.alloc (.cells #[] 9)).ownsRow w.heap.size 9 1 (.slice (some ⟨g2, 0, none⟩) N.length c2) N.length (N.map Value.string)) := Lib.hid (R2.out.alloc _)
        have n1 : RowKit.Hid (g2 ≠ wb.heap.size) := Lib.hid (by have := (R2.out.lt g2 rfl).2; omega)
        generalize wb.heap.size = e3 at *
        generalize (wb.alloc (.cells #[] 9)) = wc at *
        refine wpAnyF_ready [11] (by kernel_rfl) (by simp) (ReadyF.consL rfl (fun K hK => ?_) ReadyF.nil)
        refine step_app_at wc rfl (.tmp 11) (.tmp 15) 26 9 rfl 16 Try.underlying26 rs_str_info (by omega) w.heap.size B3.out.size e3 0 0 [] O3.out T _ rfl rfl (ST.out.below B3.out) T.length (Nat.zero_add _) ST.out.1 ?_
        intro g4 c4 wd r4 hg4 at4
        rw [List.nil_append] at r4
        have R4 := Lib.hid r4
        have B4 := Lib.hid (B3.out.grown hg4 B3.out.size (fun q hq => by have hq := Option.some.inj hq; have := (O3.out.lt e3 rfl).1; omega))
        clear r4
        refine hK.out _ _ (fun _ => ⟨(B4.out.cell (p := ⟨p, 0, none⟩) hpl).trans C0, (B4.out.cell (p := ⟨p, 1, none⟩) hpl).trans C1⟩) ?_
        clear hK K
        try simp only [Act.put, List.setIfInBounds_toArray, List.set_cons_zero, List.set_cons_succ]
        have hS4 : wd.cell? ⟨p, 0, none⟩ = some v ∧ wd.cell? ⟨p, 1, none⟩ = some u := ⟨(B4.out.cell (p := ⟨p, 0, none⟩) hpl).trans C0, (B4.out.cell (p := ⟨p, 1, none⟩) hpl).trans C1⟩
        have n2 : RowKit.Hid (g2 ≠ g4) := Lib.hid (by have := n1.out; have := (RN.out.lt g2 rfl).2; omega)
        have RM := Lib.hid (RN.out.kept hg4 (Or.inr (fun e => n1.out (Option.some.inj (by simpa [Value.ownBlock] using e)))))
        refine wpAnyF_takeL 12 (v := ?_) rfl (by kernel_rfl) (by kernel_rfl) (by kernel_rfl) (by kernel_rfl) (fun _ _ _ h => h) (by rfl) ?_ (by assumption) ?_
        rotate_left 1
        · (intro wS hSw; (try dsimp only at hSw); obtain ⟨hSa, hSb⟩ := hSw; go_simp; first | done | with_reducible rfl)
        try simp only [Act.put, List.setIfInBounds_toArray, List.set_cons_zero, List.set_cons_succ]
        refine wpAnyF_ready [13] (by kernel_rfl) (by simp) (ReadyF.consL rfl (fun K hK => ?_) ReadyF.nil)
        go_simp
        refine hK.out _ _ (fun _ => ⟨(B4.out.alloc B4.out.size _ |>.cell (p := ⟨p, 0, none⟩) hpl).trans C0, (B4.out.alloc B4.out.size _ |>.cell (p := ⟨p, 1, none⟩) hpl).trans C1⟩) ?_
        clear hK K
        try simp only [Act.put, List.setIfInBounds_toArray, List.set_cons_zero, List.set_cons_succ]
        refine wpAnyF_ready [14] (by kernel_rfl) (by simp) (ReadyF.consL rfl (fun K hK => ?_) ReadyF.nil)
        go_simp
        refine hK.out _ _ (fun h => absurd rfl h) ?_
        refine wpAnyF_done (by kernel_rfl) ?_ _
        clear hK K
        go_wp2_with fail
        go_meet
        exact ⟨wd, _, _, _, _, rfl, RM.out, R4.out, n2.out, B4.out, rfl⟩
      · go_simp
        have B2 : RowKit.Hid (Below w.heap.size w (wa.alloc (.cells #[] 9))) := Lib.hid (B1.out.alloc B1.out.size _)
        have O2 : RowKit.Hid ((wa.alloc (.cells #[] 9)).ownsRow w.heap.size 9 1 (.slice (some ⟨wa.heap.size, 0, none⟩) 0 0) 0 (([] : List ByteArray).map Value.string)) := Lib.hid ⟨rfl, Or.inr ⟨wa.heap.size, 0, _, rfl, B1.out.size, heap_alloc_new wa _, Nat.le_refl _, by decide, rfl, rfl⟩⟩
        refine hK.out _ _ (fun _ => ⟨(B2.out.cell (p := ⟨p, 0, none⟩) hpl).trans C0, (B2.out.cell (p := ⟨p, 1, none⟩) hpl).trans C1⟩) ?_
        clear hK K
        try simp only [Act.put, List.setIfInBounds_toArray, List.set_cons_zero, List.set_cons_succ]
        have hS2 : (wa.alloc (.cells #[] 9)).cell? ⟨p, 0, none⟩ = some v ∧ (wa.alloc (.cells #[] 9)).cell? ⟨p, 1, none⟩ = some u := ⟨(B2.out.cell (p := ⟨p, 0, none⟩) hpl).trans C0, (B2.out.cell (p := ⟨p, 1, none⟩) hpl).trans C1⟩
        have OO : RowKit.Hid ((wa.alloc (.cells #[] 9)).ownsRow w.heap.size 9 1 (.slice (some ⟨w.heap.size, 0, none⟩) 0 0) 0 (([] : List ByteArray).map Value.string)) := Lib.hid (O1.out.alloc _)
        have n1 : RowKit.Hid (w.heap.size ≠ wa.heap.size) := Lib.hid (by have := (O1.out.lt w.heap.size rfl).2; omega)
        generalize wa.heap.size = e2 at *
        generalize (wa.alloc (.cells #[] 9)) = wb at *
        refine wpAnyF_ready [5] (by kernel_rfl) (by simp) (ReadyF.consL rfl (fun K hK => ?_) ReadyF.nil)
        refine step_app_at wb rfl (.tmp 5) (.tmp 9) 26 9 rfl 16 Try.underlying26 rs_str_info (by omega) w.heap.size B2.out.size w.heap.size 0 0 [] OO.out N _ rfl rfl (SN.out.below B2.out) N.length (Nat.zero_add _) SN.out.1 ?_
        intro g3 c3 wc r3 hg3 at3
        rw [List.nil_append] at r3
        have R3 := Lib.hid r3
        have B3 := Lib.hid (B2.out.grown hg3 B2.out.size (fun q hq => by have hq := Option.some.inj hq; have := (OO.out.lt w.heap.size rfl).1; omega))
        clear r3
        refine hK.out _ _ (fun _ => ⟨(B3.out.cell (p := ⟨p, 0, none⟩) hpl).trans C0, (B3.out.cell (p := ⟨p, 1, none⟩) hpl).trans C1⟩) ?_
        clear hK K
        try simp only [Act.put, List.setIfInBounds_toArray, List.set_cons_zero, List.set_cons_succ]
        have hS3 : wc.cell? ⟨p, 0, none⟩ = some v ∧ wc.cell? ⟨p, 1, none⟩ = some u := ⟨(B3.out.cell (p := ⟨p, 0, none⟩) hpl).trans C0, (B3.out.cell (p := ⟨p, 1, none⟩) hpl).trans C1⟩
        have n2 : RowKit.Hid (g3 ≠ e2) := Lib.hid (by have := n1.out; have := (O2.out.lt e2 rfl).2; omega)
        have OT := Lib.hid (O2.out.kept hg3 (Or.inr (fun e => n1.out (Option.some.inj (by simpa [Value.ownBlock] using e)).symm)))
        refine wpAnyF_ready [11] (by kernel_rfl) (by simp) (ReadyF.consL rfl (fun K hK => ?_) ReadyF.nil)
        refine step_app_at wc rfl (.tmp 11) (.tmp 15) 26 9 rfl 16 Try.underlying26 rs_str_info (by omega) w.heap.size B3.out.size e2 0 0 [] OT.out T _ rfl rfl (ST.out.below B3.out) T.length (Nat.zero_add _) ST.out.1 ?_
        intro g4 c4 wd r4 hg4 at4
        rw [List.nil_append] at r4
        have R4 := Lib.hid r4
        have B4 := Lib.hid (B3.out.grown hg4 B3.out.size (fun q hq => by have hq := Option.some.inj hq; have := (OT.out.lt e2 rfl).1; omega))
        clear r4
        refine hK.out _ _ (fun _ => ⟨(B4.out.cell (p := ⟨p, 0, none⟩) hpl).trans C0, (B4.out.cell (p := ⟨p, 1, none⟩) hpl).trans C1⟩) ?_
        clear hK K
        try simp only [Act.put, List.setIfInBounds_toArray, List.set_cons_zero, List.set_cons_succ]
        have hS4 : wd.cell? ⟨p, 0, none⟩ = some v ∧ wd.cell? ⟨p, 1, none⟩ = some u := ⟨(B4.out.cell (p := ⟨p, 0, none⟩) hpl).trans C0, (B4.out.cell (p := ⟨p, 1, none⟩) hpl).trans C1⟩
        have n3 : RowKit.Hid (g3 ≠ g4) := Lib.hid (by have := n2.out; have := (R3.out.lt g3 rfl).2; omega)
        have RM := Lib.hid (R3.out.kept hg4 (Or.inr (fun e => n2.out (Option.some.inj (by simpa [Value.ownBlock] using e)))))
        refine wpAnyF_takeL 12 (v := ?_) rfl (by kernel_rfl) (by kernel_rfl) (by kernel_rfl) (by kernel_rfl) (fun _ _ _ h => h) (by rfl) ?_ (by assumption) ?_
        rotate_left 1
        · (intro wS hSw; (try dsimp only at hSw); obtain ⟨hSa, hSb⟩ := hSw; go_simp; first | done | with_reducible rfl)
        try simp only [Act.put, List.setIfInBounds_toArray, List.set_cons_zero, List.set_cons_succ]
        refine wpAnyF_ready [13] (by kernel_rfl) (by simp) (ReadyF.consL rfl (fun K hK => ?_) ReadyF.nil)
        go_simp
        refine hK.out _ _ (fun _ => ⟨(B4.out.alloc B4.out.size _ |>.cell (p := ⟨p, 0, none⟩) hpl).trans C0, (B4.out.alloc B4.out.size _ |>.cell (p := ⟨p, 1, none⟩) hpl).trans C1⟩) ?_
        clear hK K
        try simp only [Act.put, List.setIfInBounds_toArray, List.set_cons_zero, List.set_cons_succ]
        refine wpAnyF_ready [14] (by kernel_rfl) (by simp) (ReadyF.consL rfl (fun K hK => ?_) ReadyF.nil)
        go_simp
        refine hK.out _ _ (fun h => absurd rfl h) ?_
        refine wpAnyF_done (by kernel_rfl) ?_ _
        clear hK K
        go_wp2_with fail
        go_meet
        exact ⟨wd, _, _, _, _, rfl, RM.out, R4.out, n3.out, B4.out, rfl⟩
    · go_simp
      have B1 : RowKit.Hid (Below w.heap.size w (w.alloc (.cells #[] 9)).drew) := Lib.hid (B0.out.alloc B0.out.size _)
      have O1 : RowKit.Hid ((w.alloc (.cells #[] 9)).drew.ownsRow w.heap.size 9 1 (.slice (some ⟨w.heap.size, 0, none⟩) 0 0) 0 (([] : List ByteArray).map Value.string)) := Lib.hid ⟨rfl, Or.inr ⟨w.heap.size, 0, _, rfl, B0.out.size, heap_alloc_new w.drew _, Nat.le_refl _, by decide, rfl, rfl⟩⟩
      refine hK.out _ _ (fun _ => ⟨(B1.out.cell (p := ⟨p, 0, none⟩) hpl).trans C0, (B1.out.cell (p := ⟨p, 1, none⟩) hpl).trans C1⟩) ?_
      clear hK K
      try simp only [Act.put, List.setIfInBounds_toArray, List.set_cons_zero, List.set_cons_succ]
      have hS1 : (w.alloc (.cells #[] 9)).drew.cell? ⟨p, 0, none⟩ = some v ∧ (w.alloc (.cells #[] 9)).drew.cell? ⟨p, 1, none⟩ = some u := ⟨(B1.out.cell (p := ⟨p, 0, none⟩) hpl).trans C0, (B1.out.cell (p := ⟨p, 1, none⟩) hpl).trans C1⟩
      generalize (w.alloc (.cells #[] 9)).drew = wa at *
      refine wpAnyF_ready [0] (by kernel_rfl) (by simp) (ReadyF.consL rfl (fun K hK => ?_) ReadyF.nil)
      go_simp
      have B2 : RowKit.Hid (Below w.heap.size w (wa.alloc (.cells #[] 9))) := Lib.hid (B1.out.alloc B1.out.size _)
      have O2 : RowKit.Hid ((wa.alloc (.cells #[] 9)).ownsRow w.heap.size 9 1 (.slice (some ⟨wa.heap.size, 0, none⟩) 0 0) 0 (([] : List ByteArray).map Value.string)) := Lib.hid ⟨rfl, Or.inr ⟨wa.heap.size, 0, _, rfl, B1.out.size, heap_alloc_new wa _, Nat.le_refl _, by decide, rfl, rfl⟩⟩
      refine hK.out _ _ (fun _ => ⟨(B2.out.cell (p := ⟨p, 0, none⟩) hpl).trans C0, (B2.out.cell (p := ⟨p, 1, none⟩) hpl).trans C1⟩) ?_
      clear hK K
      try simp only [Act.put, List.setIfInBounds_toArray, List.set_cons_zero, List.set_cons_succ]
      have hS2 : (wa.alloc (.cells #[] 9)).cell? ⟨p, 0, none⟩ = some v ∧ (wa.alloc (.cells #[] 9)).cell? ⟨p, 1, none⟩ = some u := ⟨(B2.out.cell (p := ⟨p, 0, none⟩) hpl).trans C0, (B2.out.cell (p := ⟨p, 1, none⟩) hpl).trans C1⟩
      have OO : RowKit.Hid ((wa.alloc (.cells #[] 9)).ownsRow w.heap.size 9 1 (.slice (some ⟨w.heap.size, 0, none⟩) 0 0) 0 (([] : List ByteArray).map Value.string)) := Lib.hid (O1.out.alloc _)
      have n1 : RowKit.Hid (w.heap.size ≠ wa.heap.size) := Lib.hid (by have := (O1.out.lt w.heap.size rfl).2; omega)
      generalize wa.heap.size = e2 at *
      generalize (wa.alloc (.cells #[] 9)) = wb at *
      refine wpAnyF_ready [5] (by kernel_rfl) (by simp) (ReadyF.consL rfl (fun K hK => ?_) ReadyF.nil)
      refine step_app_at wb rfl (.tmp 5) (.tmp 9) 26 9 rfl 16 Try.underlying26 rs_str_info (by omega) w.heap.size B2.out.size e2 0 0 [] O2.out N _ rfl rfl (SN.out.below B2.out) N.length (Nat.zero_add _) SN.out.1 ?_
      intro g3 c3 wc r3 hg3 at3
      rw [List.nil_append] at r3
      have R3 := Lib.hid r3
      have B3 := Lib.hid (B2.out.grown hg3 B2.out.size (fun q hq => by have hq := Option.some.inj hq; have := (O2.out.lt e2 rfl).1; omega))
      clear r3
      refine hK.out _ _ (fun _ => ⟨(B3.out.cell (p := ⟨p, 0, none⟩) hpl).trans C0, (B3.out.cell (p := ⟨p, 1, none⟩) hpl).trans C1⟩) ?_
      clear hK K
      try simp only [Act.put, List.setIfInBounds_toArray, List.set_cons_zero, List.set_cons_succ]
      have hS3 : wc.cell? ⟨p, 0, none⟩ = some v ∧ wc.cell? ⟨p, 1, none⟩ = some u := ⟨(B3.out.cell (p := ⟨p, 0, none⟩) hpl).trans C0, (B3.out.cell (p := ⟨p, 1, none⟩) hpl).trans C1⟩
      have n2 : RowKit.Hid (g3 ≠ w.heap.size) := Lib.hid (by have := n1.out; have := (OO.out.lt w.heap.size rfl).2; omega)
      have OT := Lib.hid (OO.out.kept hg3 (Or.inr (fun e => n1.out (Option.some.inj (by simpa [Value.ownBlock] using e)))))
      refine wpAnyF_ready [11] (by kernel_rfl) (by simp) (ReadyF.consL rfl (fun K hK => ?_) ReadyF.nil)
      refine step_app_at wc rfl (.tmp 11) (.tmp 15) 26 9 rfl 16 Try.underlying26 rs_str_info (by omega) w.heap.size B3.out.size w.heap.size 0 0 [] OT.out T _ rfl rfl (ST.out.below B3.out) T.length (Nat.zero_add _) ST.out.1 ?_
      intro g4 c4 wd r4 hg4 at4
      rw [List.nil_append] at r4
      have R4 := Lib.hid r4
      have B4 := Lib.hid (B3.out.grown hg4 B3.out.size (fun q hq => by have hq := Option.some.inj hq; have := (OT.out.lt w.heap.size rfl).1; omega))
      clear r4
      refine hK.out _ _ (fun _ => ⟨(B4.out.cell (p := ⟨p, 0, none⟩) hpl).trans C0, (B4.out.cell (p := ⟨p, 1, none⟩) hpl).trans C1⟩) ?_
      clear hK K
      try simp only [Act.put, List.setIfInBounds_toArray, List.set_cons_zero, List.set_cons_succ]
      have hS4 : wd.cell? ⟨p, 0, none⟩ = some v ∧ wd.cell? ⟨p, 1, none⟩ = some u := ⟨(B4.out.cell (p := ⟨p, 0, none⟩) hpl).trans C0, (B4.out.cell (p := ⟨p, 1, none⟩) hpl).trans C1⟩
      have n3 : RowKit.Hid (g3 ≠ g4) := Lib.hid (by have := n2.out; have := (R3.out.lt g3 rfl).2; omega)
      have RM := Lib.hid (R3.out.kept hg4 (Or.inr (fun e => n2.out (Option.some.inj (by simpa [Value.ownBlock] using e)))))
      refine wpAnyF_takeL 12 (v := ?_) rfl (by kernel_rfl) (by kernel_rfl) (by kernel_rfl) (by kernel_rfl) (fun _ _ _ h => h) (by rfl) ?_ (by assumption) ?_
      rotate_left 1
      · (intro wS hSw; (try dsimp only at hSw); obtain ⟨hSa, hSb⟩ := hSw; go_simp; first | done | with_reducible rfl)
      try simp only [Act.put, List.setIfInBounds_toArray, List.set_cons_zero, List.set_cons_succ]
      refine wpAnyF_ready [13] (by kernel_rfl) (by simp) (ReadyF.consL rfl (fun K hK => ?_) ReadyF.nil)
      go_simp
      refine hK.out _ _ (fun _ => ⟨(B4.out.alloc B4.out.size _ |>.cell (p := ⟨p, 0, none⟩) hpl).trans C0, (B4.out.alloc B4.out.size _ |>.cell (p := ⟨p, 1, none⟩) hpl).trans C1⟩) ?_
      clear hK K
      try simp only [Act.put, List.setIfInBounds_toArray, List.set_cons_zero, List.set_cons_succ]
      refine wpAnyF_ready [14] (by kernel_rfl) (by simp) (ReadyF.consL rfl (fun K hK => ?_) ReadyF.nil)
      go_simp
      refine hK.out _ _ (fun h => absurd rfl h) ?_
      refine wpAnyF_done (by kernel_rfl) ?_ _
      clear hK K
      go_wp2_with fail
      go_meet
      exact ⟨wd, _, _, _, _, rfl, RM.out, R4.out, n3.out, B4.out, rfl⟩
  case rest =>
    obtain ⟨W, g2, c2, g5, c5, rfl, h2, h3, hne, hb, hW⟩ := hcut
    have FR := Lib.hid (ref_fresh h2 h3 hne hb hl.out hs.out _ hW)
    clear h2 h3 hne hb hW
    go_wp2_with fail
    go_ret
    exact FR.out

end Go.Proofs.Ytceflhffilldeaa
