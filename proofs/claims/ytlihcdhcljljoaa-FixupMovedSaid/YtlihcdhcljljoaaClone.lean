/-
  'append([]T{}, s...)' of numbers: one law for the walk, whatever s is; slices.Clone.
-/
import Derived.Test.YtlihcdhcljljoaaRow
import Derived.Test.YtlihcdhcljljoaaRowOpen
import Derived.Test.YtlihcdhcljljoaaProg
import Derived.WalkKit
import Derived.OwnWalk
import Derived.Deep.AppendLies
import Derived.Lib.Hide
import Derived.Lib.LazyBuf
namespace Go.Proofs.Ytlihcdhcljljoaa
set_option linter.unusedVariables false
set_option linter.unusedSimpArgs false
open Go.RowKit

theorem cl_row_src {q : IntKind} {w : World} {ad : Addr} {l : List Int} (h : ∀ k, k < l.length → w.cell? (ad.add k) = some (.int q (l.getD k 0))) : ∀ j u, (l.map (Value.int q))[j]? = some u → w.cell? (ad.add j) = some u := by
  intro j u hu
  rw [List.getElem?_map] at hu
  by_cases hj : j < l.length
  · rw [List.getElem?_eq_getElem hj] at hu
    have := h j hj
    rw [this]
    simpa [List.getD, hj] using hu
  · rw [List.getElem?_eq_none (by omega)] at hu; cases hu
theorem cl_ints_one (q : IntKind) (xs : List Int) : ∀ u ∈ (xs.map (Value.int q)), u.oneCell' = true := by
  intro u hu
  simp only [List.mem_map] at hu
  obtain ⟨x, _, rfl⟩ := hu
  rfl
theorem cl_nothing {P : Program} (w : World) (t ty e : TypeId) (c g : Nat) (ht : P.underlying t = some (.slice e)) (i : TypeInfo) (hi : P.info? e = some i) (hh : ∃ cur t' fr, w.heap[g]? = some (.cells cur t' fr)) :
    (Builtin.append_ #[t, t] ty #[.slice (some ⟨g, 0, none⟩) 0 0, .slice none 0 c]).run P w = .ok (.slice (some ⟨g, 0, none⟩) 0 0) w := by
  simp [Builtin.append_, run_underlying ht, sizeOf, typeInfo, hi, Builtin.lenOf, Builtin.firstCells, storeCells]
theorem wp_clone {P : Program} {o : Oper} {a : Act} {K : Act → World → Prop} {Q : Exit → Act → World → Prop} (W : World) (s x : Operand) (t e : TypeId)
    (hop : o.op = .call { callee := .builtin .append, args := #[s, x], argTypes := #[t, t] }) (q : IntKind) (bytes : Nat) (ht : P.underlying t = some (.slice e))
    (info : (P.info? e).map (fun i => (i.zero, i.size, i.bytes)) = some (some (.int q 0), 1, bytes)) (hb : bytes ≤ 8) (l : List Int) (v : Value) (hs : a.eval s = .slice (some ⟨W.heap.size, 0, none⟩) 0 0) (hx : a.eval x = v) (hr : Row q W v l) (hl : l.length ≤ 1000000)
    (hK : ∀ g c w2, w2.ownsRow W.heap.size e 1 (.slice (some ⟨g, 0, none⟩) l.length c) l.length (l.map (.int q)) → Below W.heap.size W w2 → W.heap.size ≤ g → g < w2.heap.size → K (a.put o.dst (.slice (some ⟨g, 0, none⟩) l.length c)) w2) : o.wp P a (W.alloc (.cells #[] e)) K Q := by
  have own0 : (W.alloc (.cells #[] e)).ownsRow W.heap.size e 1 (.slice (some ⟨W.heap.size, 0, none⟩) 0 0) 0 [] := ⟨rfl, Or.inr ⟨W.heap.size, 0, _, rfl, Nat.le_refl _, heap_alloc_new W _, Nat.le_refl _, by decide, rfl, rfl⟩⟩
  have B1 : Below W.heap.size W (W.alloc (.cells #[] e)) := (Below.refl _ _).alloc (Nat.le_refl _) _
  obtain ⟨i0, hi0, hz0, hz1, hz2⟩ := info_parts info
  obtain ⟨hm, A, c, rfl, hc⟩ := hr
  rcases A with _ | ad
  · have h0 : l = [] := by
      cases l with
      | nil => rfl
      | cons x xs => obtain ⟨ad, h, _⟩ := hc 0 (by simp); cases h
    subst h0
    have HN := fun ty => cl_nothing (P := P) (W.alloc (.cells #[] e)) t ty e c W.heap.size ht i0 hi0 ⟨_, _, _, heap_alloc_new W _⟩
    unfold Oper.wp execOp
    simp only [hop, resolve, invoke, builtin, Sem.run_bind, Sem.run_pure, Result.andThen_ok, List.map_toArray, List.map_cons, List.map_nil, hs, hx, List.length_nil, HN]
    exact (hK _ _ _ own0 B1 (Nat.le_refl _) (by simp))
  · refine wp_append_own (W.alloc (.cells #[] e)) s x t hop W.heap.size e i0 _ 1 bytes ht hi0 hz0 hz1 hz2 rfl (by omega) _ 0 [] hs own0 ad l.length c (l.map (Value.int q)) hx (by simp)
      (cl_row_src (fun k hk => by obtain ⟨ad', e1, ha, hxx⟩ := hc k hk; injection e1 with e1; subst e1; exact (World.cell?_alloc_lt W _ _ (by rw [block_add]; exact ha)).trans hxx)) (cl_ints_one _ _) (by simp only [maxLen]; omega) (by
        have : (0 + l.length) * bytes ≤ (0 + l.length) * 8 := Nat.mul_le_mul_left _ hb
        omega) (by simp) ?_
    intro v2 w2 ho2 hg2 hn2
    simp only [Nat.zero_add, List.nil_append] at ho2
    have B2 : Below W.heap.size W w2 := B1.grown hg2 (by simp) (fun k hk => by have := own0.lt k hk; exact this.1)
    rcases ho2.2 with ⟨rfl, h2⟩ | ⟨g, cap, cur, rfl, hg', hh, r⟩
    · cases hn2.1 rfl
      rename_i h3 h4
      cases h3
    · exact hK g cap w2 ho2 B2 hg' (Array.getElem?_eq_some_iff.1 hh).1
theorem wpList_clone {P : Program} {ops : Array Oper} {rest : List Oper} {o : Oper} {a : Act} {Q : Exit → Act → World → Prop} (W : World) (hg : o.guard = none) (s x : Operand) (t e : TypeId)
    (hop : o.op = .call { callee := .builtin .append, args := #[s, x], argTypes := #[t, t] }) (q : IntKind) (bytes : Nat) (ht : P.underlying t = some (.slice e))
    (info : (P.info? e).map (fun i => (i.zero, i.size, i.bytes)) = some (some (.int q 0), 1, bytes)) (hb : bytes ≤ 8) (l : List Int) (v : Value) (hs : a.eval s = .slice (some ⟨W.heap.size, 0, none⟩) 0 0) (hx : a.eval x = v) (hr : Row q W v l) (hl : l.length ≤ 1000000)
    (hK : ∀ g c w2, w2.ownsRow W.heap.size e 1 (.slice (some ⟨g, 0, none⟩) l.length c) l.length (l.map (.int q)) → Below W.heap.size W w2 → W.heap.size ≤ g → g < w2.heap.size → wpList P ops Q rest (a.put o.dst (.slice (some ⟨g, 0, none⟩) l.length c)) w2) : wpList P ops Q (o :: rest) a (W.alloc (.cells #[] e)) := by
  exact wpList_plain hg fun K' hK' => wp_clone W s x t e hop q bytes ht info hb l v hs hx hr hl fun g c w2 h1 h2 h3 h4 => hK' _ _ (hK g c w2 h1 h2 h3 h4)
theorem step_clone {P : Program} {ops : Array Oper} {o : Oper} {a : Act} {K : Act → World → Prop} {Q : Exit → Act → World → Prop} {E : Prop} (W : World) (hgd : o.guard = none) (s x : Operand) (t e : TypeId)
    (hop : o.op = .call { callee := .builtin .append, args := #[s, x], argTypes := #[t, t] }) (q : IntKind) (bytes : Nat) (ht : P.underlying t = some (.slice e))
    (info : (P.info? e).map (fun i => (i.zero, i.size, i.bytes)) = some (some (.int q 0), 1, bytes)) (hb : bytes ≤ 8) (l : List Int) (v : Value) (g0 : Nat) (hg0 : W.heap.size = g0) (hs : a.eval s = .slice (some ⟨g0, 0, none⟩) 0 0) (hx : a.eval x = v) (hr : Row q W v l) (hl : l.length ≤ 1000000)
    (hK : ∀ g c w2, w2.ownsRow W.heap.size e 1 (.slice (some ⟨g, 0, none⟩) l.length c) l.length (l.map (.int q)) → Below W.heap.size W w2 → W.heap.size ≤ g → g < w2.heap.size → K (a.put o.dst (.slice (some ⟨g, 0, none⟩) l.length c)) w2) :
    if Region.wanted o (yielded ops a.tmps) = true then Oper.wp P o a (W.alloc (.cells #[] e)) K Q else E := by
  subst hg0
  have hw : Region.wanted o (yielded ops a.tmps) = true := by simp [Region.wanted, hgd]
  rw [if_pos hw]
  exact wp_clone W s x t e hop q bytes ht info hb l v hs hx hr hl hK
theorem clone_u32 : (Try.prog.info? 30).map (fun i => (i.zero, i.size, i.bytes)) = some (some (.int .u32 0), 1, 4) := by kernel_rfl
set_option maxRecDepth 100000 in
theorem slices_clone (l : List Int) (v : Value) (w : World) (hr : Row .u32 w v l) (hl : l.length ≤ 1000000) :
    Calls Try.prog 48 #[v] w fun e w' => ∃ u, e = .returned u ∧ w'.ownsRow w.heap.size 30 1 u l.length (l.map (.int .u32)) ∧ Below w.heap.size w w' := by
  have hr' := Lib.hid hr
  obtain ⟨hm, A, c, rfl, hc⟩ := hr
  rcases A with _ | ad
  · have h0 : l = [] := by
      cases l with
      | nil => rfl
      | cons x xs => obtain ⟨ad, h, _⟩ := hc 0 (by simp); cases h
    subst h0
    clear hc hr' hm hl
    have qN : ∀ W : World, (binOp .eql 26 (.slice none 0 c) (.slice none 0 0)).run Try.prog W = .ok (.bool true) W := fun W => run_eql_slice_nil W _ _ none 0 c Try.underlying26
    go_enter Try.func48, Try.ntmps48
    go_wp2_with fail
    go_ret
    exact ⟨_, rfl, World.ownsRow_nil _ _ _ _, Below.refl _ _⟩
  · clear hc
    have qN : ∀ W : World, (binOp .eql 26 (.slice (some ad) l.length c) (.slice none 0 0)).run Try.prog W = .ok (.bool false) W := fun W => run_eql_slice_nil W _ _ (some ad) l.length c Try.underlying26
    go_enter Try.func48, Try.ntmps48
    go_wp2_with (at_builtin; refine wpList_clone w rfl (.tmp 5) (.tmp 6) 26 30 rfl .u32 4 Try.underlying26 clone_u32 (by omega) l _ rfl rfl hr'.out hl ?_; intro g c2 w2 ho2 B2 _ _; have ho2 := Lib.hid ho2)
    go_ret
    exact ⟨_, rfl, ho2.out, B2⟩

end Go.Proofs.Ytlihcdhcljljoaa
