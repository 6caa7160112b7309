/-
  The document's Decode in memory: its object, the reader, the rows that grow. No walk.
-/
import Derived.Test.YtceflhffilldeaaZTkD
import Derived.Test.YtceflhffilldeaaZReadM
import Derived.Test.YtceflhffilldeaaZTkB
namespace Go.Proofs.Ytceflhffilldeaa
set_option linter.unusedVariables false
set_option linter.unusedSimpArgs false
open Go.RowKit ObjL

/-- An object at ob that holds o, a reader at p, and what is left. -/
def DecAt (B ob p : Nat) (s : List UInt8) (w : World) (o : Ob) (dv : List DV) (st : Lft) : Prop :=
  ∃ vU vD vC vE, Blk w ob 49 (obCells o vU vD vC vE) ∧ TkRows B w o.uses dv o.code o.entries vU vD vC vE ∧ o.descs = dv.map (·.1) ∧ RdIs rfT w p s st
section
variable {B ob p : Nat} {s : List UInt8} {w w' : World} {o o' : Ob} {dv : List DV} {st st' : Lft}
theorem DecAt.lt (h : DecAt B ob p s w o dv st) : p < w.heap.size := by
  obtain ⟨vU, vD, vC, vE, h1, h2, h3, h4⟩ := h
  exact h4.lt
theorem DecAt.rdis (h : DecAt B ob p s w o dv st) : RdIs rfT w p s st := by
  obtain ⟨vU, vD, vC, vE, h1, h2, h3, h4⟩ := h
  exact h4
theorem DecAt.rd (h : DecAt B ob p s w o dv st) (hr : RdIs rfT w' p s st') (hk : RdK p w w') (hp : B ≤ p) : DecAt B ob p s w' o dv st' ∧ Below B w w' := by
  obtain ⟨vU, vD, vC, vE, h1, h2, h3, h4⟩ := h
  have KB : KeepB (fun t => t == rfT) w w' := KeepB.rd h4 hk (by decide)
  exact ⟨⟨vU, vD, vC, vE, h1.keepB KB (by decide), h2.keepB KB ⟨by decide, by decide, by decide, by decide, by decide⟩, h3, hr⟩, hk.to_below hp h4.lt⟩
theorem DecAt.below (h : DecAt B ob p s w o dv st) (hb : Below w.heap.size w w') : DecAt B ob p s w' o dv st := by
  obtain ⟨vU, vD, vC, vE, h1, h2, h3, h4⟩ := h
  have KB : KeepB (fun _ => false) w w' := KeepB.of_below hb
  exact ⟨vU, vD, vC, vE, h1.keepB KB rfl, h2.keepB KB ⟨rfl, rfl, rfl, rfl, rfl⟩, h3, h4.below hb⟩
theorem DecAt.has (h : DecAt B ob p s w o dv st) (i : Nat) (hi : i < 10) : (∃ x, w.cell? ⟨ob, i, none⟩ = some x) ∧ w.frozen? ⟨ob, i, none⟩ = false := by
  obtain ⟨vU, vD, vC, vE, h1, -⟩ := h
  exact ⟨⟨_, (h1.cell i).trans (Array.getElem?_eq_getElem (by simpa [obCells] using hi))⟩, h1.frozen i⟩
theorem DecAt.set_ (h : DecAt B ob p s w o dv st) (hB : B ≤ ob) (i : Nat) (u : Value)
    (he : ∀ vU vD vC vE, (obCells o vU vD vC vE).setIfInBounds i u = obCells o' vU vD vC vE)
    (h1 : o'.uses = o.uses) (h2 : o'.descs = o.descs) (h3 : o'.code = o.code) (h4 : o'.entries = o.entries) : DecAt B ob p s (w.setCell ⟨ob, i, none⟩ u) o' dv st ∧ Below B w (w.setCell ⟨ob, i, none⟩ u) := by
  obtain ⟨vU, vD, vC, vE, q1, q2, q3, q4⟩ := h
  have KS := (KeepB.refl (fun t => t == 49) w).setCell q1 (i := i) (by decide) u
  refine ⟨⟨vU, vD, vC, vE, by rw [← he]; exact q1.set_ i u, ?_, by rw [h2]; exact q3, ?_⟩, (Below.refl _ _).setCell (p := ⟨ob, i, none⟩) hB u⟩
  · rw [h1, h3, h4]
    exact q2.keepB KS ⟨by decide, by decide, by decide, by decide, by decide⟩
  · obtain ⟨a, bd, r1, r2, r3⟩ := q4
    exact ⟨a, bd, r1.keepB KS (by decide), r2, r3⟩
end
end Go.Proofs.Ytceflhffilldeaa

/-
  The document's Decode in memory: a row that has grown, put into its object. No walk.
-/
namespace Go.Proofs.Ytceflhffilldeaa
set_option linter.unusedVariables false
set_option linter.unusedSimpArgs false
open Go.RowKit ObjL

section
variable {B ob p : Nat} {s : List UInt8} {W w3 : World} {o : Ob} {dv : List DV} {st : Lft} {vU vD vC vE v' : Value}
theorem DecAt.grow_uses (h1 : Blk W ob 49 (obCells o vU vD vC vE)) (h2 : TkRows B W o.uses dv o.code o.entries vU vD vC vE) (h3 : o.descs = dv.map (·.1)) (h4 : RdIs rfT W p s st) (hB : B ≤ ob) (hBs : B ≤ W.heap.size)
    (x : List UInt8 × Int) (ho : w3.ownsRow B 78 2 v' (o.uses.length + 1) (o.uses.flatMap useCells ++ useCells x)) (hg : W.grownBy w3 vU.ownBlock) :
    w3.cell? ⟨ob, 2, none⟩ = some vU ∧ w3.frozen? ⟨ob, 2, none⟩ = false ∧ DecAt B ob p s (w3.setCell ⟨ob, 2, none⟩ v') { o with uses := o.uses ++ [x] } dv st ∧ Below B W (w3.setCell ⟨ob, 2, none⟩ v') := by
  have KG : KeepB (fun t => t == 78) W w3 := KeepB.grown h2.uses hg (by decide)
  have q1 := h1.keepB KG (by decide)
  have q4 : RdIs rfT w3 p s st := by
    obtain ⟨a, bd, r1, r2, r3⟩ := h4
    exact ⟨a, bd, r1.keepB KG (by decide), r2, r3⟩
  have q2 : TkRows B w3 (o.uses ++ [x]) dv o.code o.entries v' vD vC vE := ⟨(by rw [List.length_append, flat_snoc]; exact ho), row_keepB h2.descs KG (by decide), fun d hd => (h2.exts d hd).keepB KG (by decide), row_keepB h2.code KG (by decide), row_keepB h2.entries KG (by decide)⟩
  have KS := (KeepB.refl (fun t => t == 49) w3).setCell q1 (i := 2) (by decide) v'
  refine ⟨q1.cell 2, q1.frozen 2, ⟨v', vD, vC, vE, q1.set_ 2 v', q2.keepB KS ⟨by decide, by decide, by decide, by decide, by decide⟩, h3, ?_⟩, ((Below.refl B W).grown hg hBs (fun q hq => (h2.uses.lt q hq).1)).setCell (p := ⟨ob, 2, none⟩) hB v'⟩
  obtain ⟨a, bd, r1, r2, r3⟩ := q4
  exact ⟨a, bd, r1.keepB KS (by decide), r2, r3⟩
theorem DecAt.grow_descs (h1 : Blk W ob 49 (obCells o vU vD vC vE)) (h2 : TkRows B W o.uses dv o.code o.entries vU vD vC vE) (h3 : o.descs = dv.map (·.1)) (h4 : RdIs rfT W p s st) (hB : B ≤ ob) (hBs : B ≤ W.heap.size)
    (x : Int × List (Int × Int)) (vx : Value) (hx : ERowT W vx x.2) (ho : w3.ownsRow B 76 2 v' (dv.length + 1) (dv.flatMap dvCells ++ dvCells (x, vx))) (hg : W.grownBy w3 vD.ownBlock) :
    w3.cell? ⟨ob, 3, none⟩ = some vD ∧ w3.frozen? ⟨ob, 3, none⟩ = false ∧ DecAt B ob p s (w3.setCell ⟨ob, 3, none⟩ v') { o with descs := o.descs ++ [x] } (dv ++ [(x, vx)]) st ∧ Below B W (w3.setCell ⟨ob, 3, none⟩ v') := by
  have KG : KeepB (fun t => t == 76) W w3 := KeepB.grown h2.descs hg (by decide)
  have q1 := h1.keepB KG (by decide)
  have q4 : RdIs rfT w3 p s st := by
    obtain ⟨a, bd, r1, r2, r3⟩ := h4
    exact ⟨a, bd, r1.keepB KG (by decide), r2, r3⟩
  have q2 : TkRows B w3 o.uses (dv ++ [(x, vx)]) o.code o.entries vU v' vC vE := ⟨row_keepB h2.uses KG (by decide), (by rw [List.length_append, flat_snoc]; exact ho), (fun d hd => by rcases List.mem_append.1 hd with hd | hd; exact (h2.exts d hd).keepB KG (by decide); rw [List.mem_singleton.1 hd]; exact hx.keepB KG (by decide)), row_keepB h2.code KG (by decide), row_keepB h2.entries KG (by decide)⟩
  have KS := (KeepB.refl (fun t => t == 49) w3).setCell q1 (i := 3) (by decide) v'
  refine ⟨q1.cell 3, q1.frozen 3, ⟨vU, v', vC, vE, q1.set_ 3 v', q2.keepB KS ⟨by decide, by decide, by decide, by decide, by decide⟩, (by rw [List.map_append, h3]; rfl), ?_⟩, ((Below.refl B W).grown hg hBs (fun q hq => (h2.descs.lt q hq).1)).setCell (p := ⟨ob, 3, none⟩) hB v'⟩
  obtain ⟨a, bd, r1, r2, r3⟩ := q4
  exact ⟨a, bd, r1.keepB KS (by decide), r2, r3⟩
theorem DecAt.grow_code (h1 : Blk W ob 49 (obCells o vU vD vC vE)) (h2 : TkRows B W o.uses dv o.code o.entries vU vD vC vE) (h3 : o.descs = dv.map (·.1)) (h4 : RdIs rfT W p s st) (hB : B ≤ ob) (hBs : B ≤ W.heap.size)
    (x : Int) (ho : w3.ownsRow B 43 1 v' (o.code.length + 1) (o.code.map (Value.int .u32) ++ [.int .u32 x])) (hg : W.grownBy w3 vC.ownBlock) :
    w3.cell? ⟨ob, 6, none⟩ = some vC ∧ w3.frozen? ⟨ob, 6, none⟩ = false ∧ DecAt B ob p s (w3.setCell ⟨ob, 6, none⟩ v') { o with code := o.code ++ [x] } dv st ∧ Below B W (w3.setCell ⟨ob, 6, none⟩ v') := by
  have KG : KeepB (fun t => t == 43) W w3 := KeepB.grown h2.code hg (by decide)
  have q1 := h1.keepB KG (by decide)
  have q4 : RdIs rfT w3 p s st := by
    obtain ⟨a, bd, r1, r2, r3⟩ := h4
    exact ⟨a, bd, r1.keepB KG (by decide), r2, r3⟩
  have q2 : TkRows B w3 o.uses dv (o.code ++ [x]) o.entries vU vD v' vE := ⟨row_keepB h2.uses KG (by decide), row_keepB h2.descs KG (by decide), fun d hd => (h2.exts d hd).keepB KG (by decide), (by rw [List.length_append, List.map_append]; exact ho), row_keepB h2.entries KG (by decide)⟩
  have KS := (KeepB.refl (fun t => t == 49) w3).setCell q1 (i := 6) (by decide) v'
  refine ⟨q1.cell 6, q1.frozen 6, ⟨vU, vD, v', vE, q1.set_ 6 v', q2.keepB KS ⟨by decide, by decide, by decide, by decide, by decide⟩, h3, ?_⟩, ((Below.refl B W).grown hg hBs (fun q hq => (h2.code.lt q hq).1)).setCell (p := ⟨ob, 6, none⟩) hB v'⟩
  obtain ⟨a, bd, r1, r2, r3⟩ := q4
  exact ⟨a, bd, r1.keepB KS (by decide), r2, r3⟩
theorem DecAt.grow_entries (h1 : Blk W ob 49 (obCells o vU vD vC vE)) (h2 : TkRows B W o.uses dv o.code o.entries vU vD vC vE) (h3 : o.descs = dv.map (·.1)) (h4 : RdIs rfT W p s st) (hB : B ≤ ob) (hBs : B ≤ W.heap.size)
    (x : Int) (ho : w3.ownsRow B 3 1 v' (o.entries.length + 1) (o.entries.map (Value.int .i64) ++ [.int .i64 x])) (hg : W.grownBy w3 vE.ownBlock) :
    w3.cell? ⟨ob, 7, none⟩ = some vE ∧ w3.frozen? ⟨ob, 7, none⟩ = false ∧ DecAt B ob p s (w3.setCell ⟨ob, 7, none⟩ v') { o with entries := o.entries ++ [x] } dv st ∧ Below B W (w3.setCell ⟨ob, 7, none⟩ v') := by
  have KG : KeepB (fun t => t == 3) W w3 := KeepB.grown h2.entries hg (by decide)
  have q1 := h1.keepB KG (by decide)
  have q4 : RdIs rfT w3 p s st := by
    obtain ⟨a, bd, r1, r2, r3⟩ := h4
    exact ⟨a, bd, r1.keepB KG (by decide), r2, r3⟩
  have q2 : TkRows B w3 o.uses dv o.code (o.entries ++ [x]) vU vD vC v' := ⟨row_keepB h2.uses KG (by decide), row_keepB h2.descs KG (by decide), fun d hd => (h2.exts d hd).keepB KG (by decide), row_keepB h2.code KG (by decide), (by rw [List.length_append, List.map_append]; exact ho)⟩
  have KS := (KeepB.refl (fun t => t == 49) w3).setCell q1 (i := 7) (by decide) v'
  refine ⟨q1.cell 7, q1.frozen 7, ⟨vU, vD, vC, v', q1.set_ 7 v', q2.keepB KS ⟨by decide, by decide, by decide, by decide, by decide⟩, h3, ?_⟩, ((Below.refl B W).grown hg hBs (fun q hq => (h2.entries.lt q hq).1)).setCell (p := ⟨ob, 7, none⟩) hB v'⟩
  obtain ⟨a, bd, r1, r2, r3⟩ := q4
  exact ⟨a, bd, r1.keepB KS (by decide), r2, r3⟩
theorem RdIs.keepT {T : TypeId} {bad : TypeId → Bool} {w w' : World} {p : Nat} {s : List UInt8} {st : Lft} (h : RdIs T w p s st) (hk : KeepB bad w w') (hb : bad T = false) : RdIs T w' p s st := by
  obtain ⟨a, bd, q1, q2, q3⟩ := h
  exact ⟨a, bd, q1.keepB hk hb, q2, q3⟩
/-- What a new block turns. -/
theorem decParts_alloc (h1 : Blk W ob 49 (obCells o vU vD vC vE)) (h2 : TkRows B W o.uses dv o.code o.entries vU vD vC vE) (h4 : RdIs rfT W p s st) (x : Obj) :
    Blk (W.alloc x) ob 49 (obCells o vU vD vC vE) ∧ TkRows B (W.alloc x) o.uses dv o.code o.entries vU vD vC vE ∧ RdIs rfT (W.alloc x) p s st :=
  ⟨h1.alloc x, h2.keepB ((KeepB.refl (fun _ => false) W).alloc x) ⟨rfl, rfl, rfl, rfl, rfl⟩, h4.below ((Below.refl _ _).alloc (Nat.le_refl _) x)⟩
end
end Go.Proofs.Ytceflhffilldeaa

/-
  The taker's entries, walked.
-/
namespace Go.Proofs.Ytceflhffilldeaa
set_option linter.unusedVariables false
set_option linter.unusedSimpArgs false
open Go.RowKit ObjL

set_option maxRecDepth 100000 in
set_option maxHeartbeats 2000000 in
theorem tk_entries (B tk p : Nat) (s : List UInt8) (o : Ob) (dv : List DV) (st : Lft) (w : World) (h : TkAt B tk p s w o dv st) (hB : B ≤ tk ∧ B ≤ p) (hs : s.length ≤ 1000000) (h0 : o.entries = []) :
    Calls Try.prog 59 #[.pointer (some ⟨tk, 0, none⟩)] w fun e w' => e = .returned (.tuple #[]) ∧ ∃ (n : Int) (l : List Int) (ca pl : Int) (st1 st2 st3 st' : Lft), Took rNum st n st1 ∧ Took (many rNum n.toNat) st1 l st2 ∧ Took rNum st2 ca st3 ∧ Took rNum st3 pl st' ∧ (∀ x ∈ l, nOk x) ∧ nOk ca ∧ nOk pl ∧ TkAt B tk p s w' { o with entries := l, calls := ca, places := pl } dv st' ∧ TkK B w w' := by
  have hbx := Lib.hid (Blk.new w 94 #[.pointer (some ⟨tk, 0, none⟩)])
  have hA := Lib.hid (h.below ((Below.refl w.heap.size w).alloc (Nat.le_refl _) (.cells #[.pointer (some ⟨tk, 0, none⟩)] 94)))
  have hKA : RowKit.Hid (TkK B w (w.alloc (.cells #[.pointer (some ⟨tk, 0, none⟩)] 94))) := Lib.hid (by
    have hb := (Below.refl w.heap.size w).alloc (Nat.le_refl _) (.cells #[.pointer (some ⟨tk, 0, none⟩)] 94)
    exact ⟨KeepB.of_below hb, hb.mono (by have := h.rdis.lt; omega)⟩)
  clear h
  go_enter Try.func59, Try.ntmps59
  go_upto_region 1 with fail
  generalize w.heap.size = tb at *
  generalize w.alloc (.cells #[.pointer (some ⟨tk, 0, none⟩)] 94) = wa at *
  have c0 : wa.cell? ⟨tb, 0, none⟩ = some (.pointer (some ⟨tk, 0, none⟩)) := hbx.out.cell 0
  have EA := Lib.hid (tk_each 103 #[.pointer (some ⟨tb, 0, none⟩)] tk p s st wa
    (fun n k sk W => ∃ (l : List Int) (st1 : Lft), l.length = k ∧ Blk W tb 94 #[.pointer (some ⟨tk, 0, none⟩)] ∧ TkAt B tk p s W { o with entries := l } dv sk ∧ Took rNum st n st1 ∧ Took (many rNum k) st1 l sk ∧ (∀ x ∈ l, nOk x) ∧ TkK B w W)
    (fun W => by rfl) hs hA.out.rdis hA.out.c0
    (fun n k sk W h => by obtain ⟨l, st1, q1, q2, q3, q4, q5, q6, q7⟩ := h; exact ⟨q3.rdis, q3.c0⟩)
    (fun n sk W ht hn0 hr hk => by
      obtain ⟨y1, y2⟩ := hA.out.rd hr hk hB.2
      refine ⟨[], sk, rfl, hbx.out.keepB y2.1 (by decide), ?_, ht, took_zero _ _, fun x hx => absurd hx (by simp), hKA.out.trans y2⟩
      obtain ⟨vU, vD, vC, vE, z1, z2, z3, z4⟩ := y1
      rw [h0] at z2
      exact ⟨vU, vD, vC, vE, z1, z2, z3, z4⟩)
    (fun n k r2 W hn0 hk h => by
      obtain ⟨l, st1, q1, q2, ⟨vU, vD, vC, vE, z1, z2, z3, z4⟩, q4, q5, q6, q7⟩ := h
      subst q1
      refine (tk_entries1 B tb tk p s r2 _ _ _ _ _ _ _ _ _ _ vU vD vC vE W q2 z1 z4 z2 hB hs (by have hll : l.length ≤ 2147483647 := (by unfold nOk at hn0; omega); exact hll)).mono ?_
      rintro e W' ⟨rfl, x, st', v', y1, y2, y3, y4, y5, y6, y7⟩
      refine ⟨rfl, st', l ++ [x], st1, by simp, q2.keepB y6 (by decide), ⟨vU, vD, vC, v', y4, y5, z3, y3⟩, q4, took_snoc q5 y1, fun z hz => ?_, q7.trans ⟨y6, y7⟩⟩
      rcases List.mem_append.1 hz with hz | hz
      · exact q6 z hz
      · rw [List.mem_singleton.1 hz]; exact y2))
  go_wp2_with fail
  refine EA.out.mono ?_
  rintro e w1 ⟨rfl, n, k, st', hn1, ⟨l, st1, q1, q2, q3, q4, q5, q6, q7⟩, hkn, hend⟩
  subst q1
  have hmany : Took (many rNum n.toNat) st1 l st' := by
    rcases hend with rfl | he
    · exact took_more hkn q5
    · rw [← he]; exact q5
  have hbx1 := Lib.hid q2
  have hA1 := Lib.hid q3
  have hK1 := Lib.hid q7
  have hfin := Lib.hid (And.intro q4 (And.intro hmany (And.intro q6 (And.intro q3 q7))))
  clear q2 q3 q4 q5 q6 q7 hmany hend hkn EA c0 hn1
  go_upto_region 2 with fail
  refine wp_region_F (fun w' => w'.cell? ⟨tb, 0, none⟩ = some (.pointer (some ⟨tk, 0, none⟩)) ∧ w'.cell? ⟨tk, 0, none⟩ = some (.pointer (some ⟨p, 0, none⟩))) 9 (by kernel_rfl) ?_
  have hA00 := Lib.hid (hA1.out.below (w' := w1.drew) (Below.refl _ _).drew)
  have hb00 := Lib.hid hbx1.out.drew
  have hK00 : RowKit.Hid (TkK B w w1.drew) := Lib.hid (hK1.out.trans (TkK.drew_ B w1))
  have S0 : w1.drew.cell? ⟨tb, 0, none⟩ = some (.pointer (some ⟨tk, 0, none⟩)) ∧ w1.drew.cell? ⟨tk, 0, none⟩ = some (.pointer (some ⟨p, 0, none⟩)) := ⟨hb00.out.cell 0, hA00.out.c0⟩
  have RN := Lib.hid (rd_num p s st' w1.drew hA00.out.rdis hs)
  clear hA1 hbx1 hK1
  generalize w1.drew = wq0 at *
  refine wpAnyF_takeL 0 (v := ?_) rfl (by kernel_rfl) (by kernel_rfl) (by kernel_rfl) (by kernel_rfl) (fun _ _ _ h => h) (by rfl) ?_ (by assumption) ?_
  rotate_left 1
  · (intro wS hSw; (try dsimp only at hSw); obtain ⟨hSa, hSb⟩ := hSw; go_simp; first | done | with_reducible rfl)
  try simp only [Act.put, List.setIfInBounds_toArray, List.set_cons_zero, List.set_cons_succ]
  refine wpAnyF_takeL 1 (v := ?_) rfl (by kernel_rfl) (by kernel_rfl) (by kernel_rfl) (by kernel_rfl) (fun _ _ _ h => h) (by rfl) ?_ (by assumption) ?_
  rotate_left 1
  · (intro wS hSw; (try dsimp only at hSw); obtain ⟨hSa, hSb⟩ := hSw; go_simp; first | done | with_reducible rfl)
  try simp only [Act.put, List.setIfInBounds_toArray, List.set_cons_zero, List.set_cons_succ]
  refine wpAnyF_takeL 2 (v := ?_) rfl (by kernel_rfl) (by kernel_rfl) (by kernel_rfl) (by kernel_rfl) (fun _ _ _ h => h) (by rfl) ?_ (by assumption) ?_
  rotate_left 1
  · (intro wS hSw; (try dsimp only at hSw); obtain ⟨hSa, hSb⟩ := hSw; go_simp; first | done | with_reducible rfl)
  try simp only [Act.put, List.setIfInBounds_toArray, List.set_cons_zero, List.set_cons_succ]
  refine wpAnyF_takeL 3 (v := ?_) rfl (by kernel_rfl) (by kernel_rfl) (by kernel_rfl) (by kernel_rfl) (fun _ _ _ h => h) (by rfl) ?_ (by assumption) ?_
  rotate_left 1
  · (intro wS hSw; (try dsimp only at hSw); obtain ⟨hSa, hSb⟩ := hSw; go_simp; first | done | with_reducible rfl)
  try simp only [Act.put, List.setIfInBounds_toArray, List.set_cons_zero, List.set_cons_succ]
  refine wpAnyF_takeL 4 (v := ?_) rfl (by kernel_rfl) (by kernel_rfl) (by kernel_rfl) (by kernel_rfl) (fun _ _ _ h => h) (by rfl) ?_ (by assumption) ?_
  rotate_left 1
  · (intro wS hSw; (try dsimp only at hSw); obtain ⟨hSa, hSb⟩ := hSw; go_simp; first | done | with_reducible rfl)
  try simp only [Act.put, List.setIfInBounds_toArray, List.set_cons_zero, List.set_cons_succ]
  refine wpAnyF_ready [5] (by kernel_rfl) (by simp) (ReadyF.consL rfl (fun K hK => ?_) ReadyF.nil)
  go_simp
  refine RN.out.mono ?_
  rintro e w2 ⟨ca, st3, rfl, y10, y2, y3, y40⟩
  obtain ⟨hA3, hKA3⟩ := hA00.out.rd y2 y3 hB.2
  have hbx3 := Lib.hid (hb00.out.keepB hKA3.1 (by decide))
  have S2 : w2.cell? ⟨tb, 0, none⟩ = some (.pointer (some ⟨tk, 0, none⟩)) ∧ w2.cell? ⟨tk, 0, none⟩ = some (.pointer (some ⟨p, 0, none⟩)) := ⟨hbx3.out.cell 0, hA3.c0⟩
  obtain ⟨⟨x6, e6⟩, f6⟩ := hA3.has 9 (by decide)
  have hA3 := Lib.hid hA3
  have hKA3 := Lib.hid (hK00.out.trans hKA3)
  have y10 := Lib.hid y10
  have y40 := Lib.hid y40
  clear y2 y3 hA00 hb00 hK00
  refine hK.out _ _ (fun _ => S2) ?_
  clear hK K S0
  try simp only [Act.put, List.setIfInBounds_toArray, List.set_cons_zero, List.set_cons_succ]
  refine wpAnyF_ready [6] (by kernel_rfl) (by simp) (ReadyF.consL rfl (fun K hK => ?_) ReadyF.nil)
  go_simp
  refine hK.out _ _ (fun _ => S2) ?_
  clear hK K
  try simp only [Act.put, List.setIfInBounds_toArray, List.set_cons_zero, List.set_cons_succ]
  refine wpAnyF_ready [7] (by kernel_rfl) (by simp) (ReadyF.consL rfl (fun K hK => ?_) ReadyF.nil)
  go_simp
  refine hK.out _ _ (fun _ => S2) ?_
  clear hK K
  try simp only [Act.put, List.setIfInBounds_toArray, List.set_cons_zero, List.set_cons_succ]
  refine wpAnyF_ready [8] (by kernel_rfl) (by simp) (ReadyF.consL rfl (fun K hK => ?_) ReadyF.nil)
  go_simp
  refine hK.out _ _ (fun _ => S2) ?_
  clear hK K
  try simp only [Act.put, List.setIfInBounds_toArray, List.set_cons_zero, List.set_cons_succ]
  refine wpAnyF_ready [9] (by kernel_rfl) (by simp) (ReadyF.consL rfl (fun K hK => ?_) ReadyF.nil)
  obtain ⟨s1, s2⟩ := S2
  go_simp
  refine hK.out _ _ (fun h => absurd rfl h) ?_
  clear hK K
  try simp only [Act.put, List.setIfInBounds_toArray, List.set_cons_zero, List.set_cons_succ]
  refine wpAnyF_done (by kernel_rfl) ?_ _
  obtain ⟨hA5, hKA5⟩ := hA3.out.set_ (o' := { o with entries := l, calls := ca }) hB.1 9 (.int .i64 ca) (fun _ _ _ _ => rfl) rfl rfl rfl rfl
  have hA1 := Lib.hid hA5
  have hbx1 := Lib.hid (hbx3.out.keepB hKA5.1 (by decide))
  have hK1 := Lib.hid (hKA3.out.trans hKA5)
  clear hA5 hKA5 hA3 hKA3 hbx3 RN s1 s2 e6 f6
  generalize w2.setCell ⟨tk, 9, none⟩ (.int .i64 ca) = w5 at *
  go_upto_region 3 with fail
  refine wp_region_F (fun w' => w'.cell? ⟨tb, 0, none⟩ = some (.pointer (some ⟨tk, 0, none⟩)) ∧ w'.cell? ⟨tk, 0, none⟩ = some (.pointer (some ⟨p, 0, none⟩))) 9 (by kernel_rfl) ?_
  have hA01 := Lib.hid (hA1.out.below (w' := w5.drew) (Below.refl _ _).drew)
  have hb01 := Lib.hid hbx1.out.drew
  have hK01 : RowKit.Hid (TkK B w w5.drew) := Lib.hid (hK1.out.trans (TkK.drew_ B w5))
  have S0 : w5.drew.cell? ⟨tb, 0, none⟩ = some (.pointer (some ⟨tk, 0, none⟩)) ∧ w5.drew.cell? ⟨tk, 0, none⟩ = some (.pointer (some ⟨p, 0, none⟩)) := ⟨hb01.out.cell 0, hA01.out.c0⟩
  have RN := Lib.hid (rd_num p s st3 w5.drew hA01.out.rdis hs)
  clear hA1 hbx1 hK1
  generalize w5.drew = wq1 at *
  refine wpAnyF_takeL 0 (v := ?_) rfl (by kernel_rfl) (by kernel_rfl) (by kernel_rfl) (by kernel_rfl) (fun _ _ _ h => h) (by rfl) ?_ (by assumption) ?_
  rotate_left 1
  · (intro wS hSw; (try dsimp only at hSw); obtain ⟨hSa, hSb⟩ := hSw; go_simp; first | done | with_reducible rfl)
  try simp only [Act.put, List.setIfInBounds_toArray, List.set_cons_zero, List.set_cons_succ]
  refine wpAnyF_takeL 1 (v := ?_) rfl (by kernel_rfl) (by kernel_rfl) (by kernel_rfl) (by kernel_rfl) (fun _ _ _ h => h) (by rfl) ?_ (by assumption) ?_
  rotate_left 1
  · (intro wS hSw; (try dsimp only at hSw); obtain ⟨hSa, hSb⟩ := hSw; go_simp; first | done | with_reducible rfl)
  try simp only [Act.put, List.setIfInBounds_toArray, List.set_cons_zero, List.set_cons_succ]
  refine wpAnyF_takeL 2 (v := ?_) rfl (by kernel_rfl) (by kernel_rfl) (by kernel_rfl) (by kernel_rfl) (fun _ _ _ h => h) (by rfl) ?_ (by assumption) ?_
  rotate_left 1
  · (intro wS hSw; (try dsimp only at hSw); obtain ⟨hSa, hSb⟩ := hSw; go_simp; first | done | with_reducible rfl)
  try simp only [Act.put, List.setIfInBounds_toArray, List.set_cons_zero, List.set_cons_succ]
  refine wpAnyF_takeL 3 (v := ?_) rfl (by kernel_rfl) (by kernel_rfl) (by kernel_rfl) (by kernel_rfl) (fun _ _ _ h => h) (by rfl) ?_ (by assumption) ?_
  rotate_left 1
  · (intro wS hSw; (try dsimp only at hSw); obtain ⟨hSa, hSb⟩ := hSw; go_simp; first | done | with_reducible rfl)
  try simp only [Act.put, List.setIfInBounds_toArray, List.set_cons_zero, List.set_cons_succ]
  refine wpAnyF_takeL 4 (v := ?_) rfl (by kernel_rfl) (by kernel_rfl) (by kernel_rfl) (by kernel_rfl) (fun _ _ _ h => h) (by rfl) ?_ (by assumption) ?_
  rotate_left 1
  · (intro wS hSw; (try dsimp only at hSw); obtain ⟨hSa, hSb⟩ := hSw; go_simp; first | done | with_reducible rfl)
  try simp only [Act.put, List.setIfInBounds_toArray, List.set_cons_zero, List.set_cons_succ]
  refine wpAnyF_ready [5] (by kernel_rfl) (by simp) (ReadyF.consL rfl (fun K hK => ?_) ReadyF.nil)
  go_simp
  refine RN.out.mono ?_
  rintro e w6 ⟨pl, st4, rfl, y11, y2, y3, y41⟩
  obtain ⟨hA3, hKA3⟩ := hA01.out.rd y2 y3 hB.2
  have hbx3 := Lib.hid (hb01.out.keepB hKA3.1 (by decide))
  have S2 : w6.cell? ⟨tb, 0, none⟩ = some (.pointer (some ⟨tk, 0, none⟩)) ∧ w6.cell? ⟨tk, 0, none⟩ = some (.pointer (some ⟨p, 0, none⟩)) := ⟨hbx3.out.cell 0, hA3.c0⟩
  obtain ⟨⟨x6, e6⟩, f6⟩ := hA3.has 10 (by decide)
  have hA3 := Lib.hid hA3
  have hKA3 := Lib.hid (hK01.out.trans hKA3)
  have y11 := Lib.hid y11
  have y41 := Lib.hid y41
  clear y2 y3 hA01 hb01 hK01
  refine hK.out _ _ (fun _ => S2) ?_
  clear hK K S0
  try simp only [Act.put, List.setIfInBounds_toArray, List.set_cons_zero, List.set_cons_succ]
  refine wpAnyF_ready [6] (by kernel_rfl) (by simp) (ReadyF.consL rfl (fun K hK => ?_) ReadyF.nil)
  go_simp
  refine hK.out _ _ (fun _ => S2) ?_
  clear hK K
  try simp only [Act.put, List.setIfInBounds_toArray, List.set_cons_zero, List.set_cons_succ]
  refine wpAnyF_ready [7] (by kernel_rfl) (by simp) (ReadyF.consL rfl (fun K hK => ?_) ReadyF.nil)
  go_simp
  refine hK.out _ _ (fun _ => S2) ?_
  clear hK K
  try simp only [Act.put, List.setIfInBounds_toArray, List.set_cons_zero, List.set_cons_succ]
  refine wpAnyF_ready [8] (by kernel_rfl) (by simp) (ReadyF.consL rfl (fun K hK => ?_) ReadyF.nil)
  go_simp
  refine hK.out _ _ (fun _ => S2) ?_
  clear hK K
  try simp only [Act.put, List.setIfInBounds_toArray, List.set_cons_zero, List.set_cons_succ]
  refine wpAnyF_ready [9] (by kernel_rfl) (by simp) (ReadyF.consL rfl (fun K hK => ?_) ReadyF.nil)
  obtain ⟨s1, s2⟩ := S2
  go_simp
  refine hK.out _ _ (fun h => absurd rfl h) ?_
  clear hK K
  try simp only [Act.put, List.setIfInBounds_toArray, List.set_cons_zero, List.set_cons_succ]
  refine wpAnyF_done (by kernel_rfl) ?_ _
  obtain ⟨hA5, hKA5⟩ := hA3.out.set_ (o' := { o with entries := l, calls := ca, places := pl }) hB.1 10 (.int .i64 pl) (fun _ _ _ _ => rfl) rfl rfl rfl rfl
  have hA1 := Lib.hid hA5
  have hbx1 := Lib.hid (hbx3.out.keepB hKA5.1 (by decide))
  have hK1 := Lib.hid (hKA3.out.trans hKA5)
  clear hA5 hKA5 hA3 hKA3 hbx3 RN s1 s2 e6 f6
  generalize w6.setCell ⟨tk, 10, none⟩ (.int .i64 pl) = w9 at *
  go_wp2_with fail
  go_end0
  exact ⟨rfl, n, l, ca, pl, st1, st', st3, st4, hfin.out.1, hfin.out.2.1, y10.out, y11.out, hfin.out.2.2.1, y40.out, y41.out, hA1.out, hK1.out⟩

end Go.Proofs.Ytceflhffilldeaa
