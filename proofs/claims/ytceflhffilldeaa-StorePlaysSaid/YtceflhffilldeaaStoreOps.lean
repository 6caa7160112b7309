/-
  The store of files: New, Put, Get, Delete, walked.
-/
import Derived.Test.YtceflhffilldeaaStore
import Derived.Maps.StringElems
import Derived.Maps.Ext
import Derived.WalkSpells
namespace Go.Proofs.Ytceflhffilldeaa
set_option linter.unusedVariables false
set_option linter.unusedSimpArgs false
open Go.RowKit Go.Maps Go.WideMaps

/-- A map value m of at most n files reads as D. -/
def MapIs (w : World) (m : Value) (n : Nat) (D : DataW Unit) : Prop :=
  (m = .map none ∧ D = .map []) ∨ ∃ b, m = .map (some b) ∧ w.ownsMap Try.prog 68 (plainElem Try.prog 9) b n D
def mapBlock : Value → Option Nat | .map (some b) => some b | _ => none
/-- How a file's text reads. -/
def text (t : ByteArray) : DataW Unit := .lit (.string t.data.toList)

theorem sZero (w : World) : (zeroValue 9).run Try.prog w = .ok (.string ⟨#[]⟩) w := by kernel_rfl
theorem MapIs.look {w : World} {m : Value} {n : Nat} {D : DataW Unit} (h : MapIs w m n D) (s : ByteArray) :
    ∃ v : ByteArray, (Instr.lookup 64 m (.agg (keyCells s)) true).run Try.prog w = .ok (.tuple #[.string v, .bool (has D (fkey s))]) w ∧ D.atKey (fkey s) (text ⟨#[]⟩) = text v := by
  rcases h with ⟨rfl, rfl⟩ | ⟨b, rfl, hown⟩
  · exact ⟨⟨#[]⟩, Maps.look_nil (P := Try.prog) true sKeyed Try.underlying64 (sZero w) (keyOf_name s), rfl⟩
  · obtain ⟨v, ps, hrun, hv⟩ := hown.look_ok sKeyed Try.underlying64 (sZero w) (plainElem_string Try.underlying9 (s := ⟨#[]⟩) (by decide)) (keyOf_name s)
    obtain ⟨t, rfl, hz, _⟩ := plainElem_string_inv Try.underlying9 hv
    injection hz with h1 _
    exact ⟨t, hrun, h1⟩
theorem MapIs.len {w : World} {m : Value} {n : Nat} {D : DataW Unit} (h : MapIs w m n D) (ty : TypeId) : (Builtin.len_ #[64] ty #[m]).run Try.prog w = .ok (.int .i64 (Maps.size D)) w := by
  rcases h with ⟨rfl, rfl⟩ | ⟨b, rfl, hown⟩
  · exact Maps.len_nil Try.underlying64 ty
  · exact hown.len Try.underlying64 ty
theorem MapIs.drop {w : World} {m : Value} {n : Nat} {D : DataW Unit} (h : MapIs w m n D) (s : ByteArray) (ty : TypeId) :
    ∃ w', (Builtin.delete_ #[64, 68] ty #[m, .agg (keyCells s)]).run Try.prog w = .ok (.tuple #[]) w' ∧ MapIs w' m n (D.del (fkey s)) ∧ w.grownBy w' (mapBlock m) := by
  rcases h with ⟨rfl, rfl⟩ | ⟨b, rfl, hown⟩
  · exact ⟨w, Maps.drop_nil sKeyed Try.underlying64 (keyOf_name s) ty, Or.inl ⟨rfl, rfl⟩, World.grownBy.refl w _⟩
  · obtain ⟨w', hrun, h1, h2⟩ := hown.drop sKeyed Try.underlying64 (keyOf_name s) ty
    exact ⟨w', hrun, Or.inr ⟨b, rfl, h1⟩, h2.grown⟩
theorem MapIs.drew {w : World} {m : Value} {n : Nat} {D : DataW Unit} (h : MapIs w m n D) : MapIs w.drew m n D := h
theorem MapIs.kept {S : Nat → Prop} {w w' : World} {m : Value} {n : Nat} {D : DataW Unit} (h : MapIs w m n D) (hk : Kept S w w') (hS : ∀ b, mapBlock m = some b → S b) : MapIs w' m n D := by
  rcases h with ⟨rfl, rfl⟩ | ⟨b, rfl, es, clock, hb, F, hs, hD⟩
  · exact Or.inl ⟨rfl, rfl⟩
  · exact Or.inr ⟨b, rfl, es, clock, (hk.block b (hS b rfl)).trans hb, F, hs, hD⟩
theorem MapIs.lt {w : World} {m : Value} {n : Nat} {D : DataW Unit} (h : MapIs w m n D) {b : Nat} (hb : mapBlock m = some b) : b < w.heap.size := by
  rcases h with ⟨rfl, rfl⟩ | ⟨b', rfl, hown⟩
  · cases hb
  · injection hb with e; subst e; exact hown.lt
theorem MapIs.tidy {w : World} {m : Value} {n : Nat} {D : DataW Unit} (h : MapIs w m n D) : Tidy D := by
  rcases h with ⟨rfl, rfl⟩ | ⟨b', rfl, hown⟩
  · exact tidy_empty
  · obtain ⟨es, e, h1, h2⟩ := hown.canon sKeyed
    exact ⟨es, e, apart_of_rising h1⟩

theorem wpStill_lookup {P : Program} {ops : Array Oper} {rest : List Oper} {o : Oper} {a : Act} {w : World} {Q : Act → Prop} (hgd : o.guard = none) (m x : Operand) (t : TypeId) (c : Bool) (ho : o.op = .lookup t m x c)
    (mv key r : Value) (hm : a.eval m = mv) (hx : a.eval x = key) (hrun : (Instr.lookup t mv key c).run P w = .ok r w)
    (h : wpStill P ops w Q rest (a.put o.dst r)) : wpStill P ops w Q (o :: rest) a := by
  refine wpStill_step fun K hK => ?_
  rw [if_pos (by simp [Region.wanted, hgd])]
  unfold Oper.still
  simp only [execOp, ho, hm, hx, Sem.run_bind, hrun, Sem.run_pure, Result.andThen_ok]
  rw [Oper.stillUpon_value]
  exact hK _ h
theorem wpList_store_new {P : Program} {ops : Array Oper} {rest : List Oper} {o : Oper} {a : Act} {w : World} {Q : Exit → Act → World → Prop} (hgd : o.guard = none) (ty : TypeId) (x y : Operand) (ho : o.op = .store ty x y)
    (w1 : World) (cells old : Array Value) (t : TypeId) (hw : w = w1.alloc (.cells old t)) (hx : a.eval x = .pointer (some ⟨w1.heap.size, 0, none⟩)) (hy : a.eval y = .agg cells)
    (hi : (P.info? ty).map (·.size) = some cells.size) (hold : old.size = cells.size) (h1 : cells.all (·.oneCell') = true)
    (h : wpList P ops Q rest (a.put o.dst undef) (w1.alloc (.cells cells t))) : wpList P ops Q (o :: rest) a w := by
  subst hw
  refine wpList_store_row hgd ty x y ho w1.heap.size cells hx hy t old (heap_alloc_new w1 _) hi hold h1 ?_
  rw [setRow_last]
  exact h

theorem store_new (w : World) : Calls Try.prog 10 #[] w fun e w' => e = .returned (.pointer (some ⟨w.heap.size, 0, none⟩)) ∧ w' = w.alloc (.cells #[.map none] 66) := by
  go_enter Try.func10, Try.ntmps10
  go_wp2_with fail
  go_ret
  exact ⟨rfl, rfl⟩

set_option maxRecDepth 100000 in
theorem store_put_some (s t : ByteArray) (p n : Nat) (b : Nat) (D : DataW Unit) (w : World) (hs : s.size ≤ 9223372036854775807) (hp : w.cell? ⟨p, 0, none⟩ = some (.map (some b))) (hown : w.ownsMap Try.prog 68 (plainElem Try.prog 9) b n D)
    (hok : nameOk s = true) (ht : t.size ≤ 131072) (hroom : Maps.has D (fkey s) = true ∨ Maps.size D ≠ 64) (hn : n < maxLen) :
    Calls Try.prog 11 #[.pointer (some ⟨p, 0, none⟩), .string s, .string t] w fun e w' => e = .returned (.int .i64 0) ∧
      w'.ownsMap Try.prog 68 (plainElem Try.prog 9) b (n + 1) (D.put (fkey s) (text t)) ∧ Kept (fun k => k < w.heap.size ∧ k ≠ b) w w' := by
  have OF := fun W => Lib.hid (store_of s W hs)
  have k1 := Lib.hid (key_size s)
  have k2 := Lib.hid (key_one s)
  have k3 : RowKit.Hid (24 = (keyCells s).size) := rfl
  have k4 := Lib.hid (keyOf_name s)
  have hplt := Lib.hid (block_lt_of_cell hp)
  have hown' := Lib.hid hown
  have hroom' := Lib.hid hroom
  clear hroom hown
  rw [hok] at OF
  have ht' : (t.size : Int) ≤ 131072 := by omega
  generalize hK : keyCells s = K at *
  have hK := Lib.hid hK
  have qT : ∀ (w : World) (r : Option Nat), (binOp .eql 64 (.map r) (.map none)).run Try.prog w = .ok (.bool r.isNone) w := fun w r => run_eql_map_nil w _ _ _ r Try.underlying64
  go_enter Try.func11, Try.ntmps11
  go_wp2_with (first | (go_at_call 34; refine (OF _).out.mono ?_; rintro e w1 ⟨rfl, hb1⟩; obtain ⟨hc1, hf1⟩ := kcell hb1) | (refine wpList_store_new rfl 68 (.tmp 7) (.tmp 14) rfl _ K _ _ rfl rfl rfl k1.out k3.out k2.out ?_))
  have W0 : w1.heap.size < (w1.alloc (.cells K 68)).heap.size := by simp
  have W1 : (w1.alloc (.cells K 68)).cell? ⟨p, 0, none⟩ = some (.map (some b)) := by
    rw [World.cell?_alloc_lt w1 _ _ (Nat.lt_of_lt_of_le hplt.out hb1.size)]; exact (hb1.cell hplt.out).trans hp
  have W2 := heap_alloc_new w1 (.cells K 68)
  have W3 : Kept (fun k => k < w.heap.size ∧ k ≠ b) w (w1.alloc (.cells K 68)) := ((Kept.refl _ w).below hb1 (fun k h => h.1)).alloc (fun k h => Nat.lt_of_lt_of_le h.1 hb1.size) _
  have W4 : (w1.alloc (.cells K 68)).ownsMap Try.prog 68 (plainElem Try.prog 9) b n D := by
    obtain ⟨es, clock, hb, F, hs, hD⟩ := hown'.out
    exact ⟨es, clock, ((Below.heap_alloc w1 _ b (Nat.lt_of_lt_of_le hown'.out.lt hb1.size)).trans (hb1.block b hown'.out.lt)).trans hb, F, hs, hD⟩
  have W5 : w.heap.size ≤ w1.heap.size := hb1.size
  generalize w1.heap.size = g at *
  generalize w1.alloc (.cells K 68) = W at *
  clear hc1 hf1 hb1 hp
  have W2 := Lib.hid W2
  have W4 := Lib.hid W4
  obtain ⟨v, hl, hv⟩ := MapIs.look (w := W.drew) (Or.inr ⟨b, rfl, W4.out⟩) s
  have HL := MapIs.len (w := W.drew) (Or.inr ⟨b, rfl, W4.out⟩) 3
  rw [hK.out] at hl
  clear hv
  have hl := Lib.hid hl
  refine region_still_drew 10 (by kernel_rfl) (by kernel_rfl) ?_
  simp only [List.take_succ_cons, List.take_zero, List.drop_succ_cons, List.drop_zero]
  still_step
  still_step
  still_step
  still_step
  refine wpStill_load_row rfl 68 (.tmp 7) rfl g rfl 68 K (0, 0) _ W2.out Try.underlying68 rfl k1.out ?_
  refine wpStill_lookup rfl (.tmp 30) (.tmp 31) 64 true rfl _ _ _ rfl rfl hl.out ?_
  still_step
  still_step
  still_step
  still_step
  refine wpStill_nil ?_
  have hc : has D (fkey s) = true ∨ has D (fkey s) = false ∧ ((Maps.size D : Int) == 64) = false := by
    rcases hroom'.out with h | h
    · exact Or.inl h
    · cases h1 : has D (fkey s)
      · exact Or.inr ⟨rfl, by rw [beq_eq_false_iff_ne]; omega⟩
      · exact Or.inl rfl
  have hown2 : RowKit.Hid (W.drew.ownsMap Try.prog 68 (plainElem Try.prog 9) b n D) := Lib.hid W4.out
  have W3' : Kept (fun k => k < w.heap.size ∧ k ≠ b) w W.drew := W3.drew
  clear W3 W4 hl
  have W2 : RowKit.Hid (W.drew.heap[g]? = some (.cells K 68 (0, 0))) := Lib.hid W2.out
  have W1 : W.drew.cell? ⟨p, 0, none⟩ = some (.map (some b)) := W1
  generalize W.drew = W' at *
  rcases hc with hc | ⟨hc, hd⟩
  · go_wp2_with fail
    refine region_still_drew 6 (by kernel_rfl) (by kernel_rfl) ?_
    simp only [List.take_succ_cons, List.take_zero, List.drop_succ_cons, List.drop_zero]
    still_step
    still_step
    still_step
    still_step
    refine wpStill_load_row rfl 68 (.tmp 7) rfl g rfl 68 K (0, 0) _ W2.out Try.underlying68 rfl k1.out ?_
    still_step
    refine wpStill_nil ?_
    refine wpList_mapUpdate_own _ rfl (.tmp 57) (.tmp 58) (.tmp 59) 64 rfl 68 9 sKeyed Try.underlying64 (plainElem Try.prog 9) b n D rfl hown2.out hn (.agg K) (.string t) (fkey s) rfl rfl k4.out (text t) [] (plainElem_string Try.underlying9 (by simp only [maxLen]; omega)) ?_
    intro w2 hown3 hg3
    have hown3 := Lib.hid hown3
    go_wp2_with fail
    go_ret
    exact ⟨rfl, hown3.out, (W3'.drew).grown hg3 (fun k h => Nat.lt_of_lt_of_le h.1 W3'.size) (fun k hk h => by injection hk with hk; exact h.2 hk.symm)⟩
  · go_wp2_with fail
    refine region_still_drew 6 (by kernel_rfl) (by kernel_rfl) ?_
    simp only [List.take_succ_cons, List.take_zero, List.drop_succ_cons, List.drop_zero]
    still_step
    still_step
    still_step
    still_step
    refine wpStill_load_row rfl 68 (.tmp 7) rfl g rfl 68 K (0, 0) _ W2.out Try.underlying68 rfl k1.out ?_
    still_step
    refine wpStill_nil ?_
    refine wpList_mapUpdate_own _ rfl (.tmp 57) (.tmp 58) (.tmp 59) 64 rfl 68 9 sKeyed Try.underlying64 (plainElem Try.prog 9) b n D rfl hown2.out hn (.agg K) (.string t) (fkey s) rfl rfl k4.out (text t) [] (plainElem_string Try.underlying9 (by simp only [maxLen]; omega)) ?_
    intro w2 hown3 hg3
    have hown3 := Lib.hid hown3
    go_wp2_with fail
    go_ret
    exact ⟨rfl, hown3.out, (W3'.drew).grown hg3 (fun k h => Nat.lt_of_lt_of_le h.1 W3'.size) (fun k hk h => by injection hk with hk; exact h.2 hk.symm)⟩
set_option maxRecDepth 100000 in
theorem store_put_bad (s t : ByteArray) (a : Addr) (w : World) (hs : s.size ≤ 9223372036854775807) (hok : nameOk s = false) :
    Calls Try.prog 11 #[.pointer (some a), .string s, .string t] w fun e w' => e = .returned (.int .i64 70) ∧ Below w.heap.size w w' := by
  have OF := fun W => Lib.hid (store_of s W hs)
  have k1 := Lib.hid (key_size s)
  have k2 := Lib.hid (key_one s)
  have k3 : RowKit.Hid (24 = (keyCells s).size) := rfl
  rw [hok] at OF
  generalize keyCells s = K at *
  go_enter Try.func11, Try.ntmps11
  go_wp2_with (first | (go_at_call 34; refine (OF _).out.mono ?_; rintro e w1 ⟨rfl, hb1⟩; obtain ⟨hc1, hf1⟩ := kcell hb1) | (refine wpList_store_new rfl 68 (.tmp 7) (.tmp 14) rfl _ K _ _ rfl rfl rfl k1.out k3.out k2.out ?_))
  go_ret
  exact ⟨rfl, (hb1.alloc hb1.size _)⟩

set_option maxRecDepth 100000 in
theorem store_put_long (s t : ByteArray) (a : Addr) (w : World) (hs : s.size ≤ 9223372036854775807) (hok : nameOk s = true) (ht : 131072 < (t.size : Int)) :
    Calls Try.prog 11 #[.pointer (some a), .string s, .string t] w fun e w' => e = .returned (.int .i64 2) ∧ Below w.heap.size w w' := by
  have OF := fun W => Lib.hid (store_of s W hs)
  have k1 := Lib.hid (key_size s)
  have k2 := Lib.hid (key_one s)
  have k3 : RowKit.Hid (24 = (keyCells s).size) := rfl
  rw [hok] at OF
  generalize keyCells s = K at *
  go_enter Try.func11, Try.ntmps11
  go_wp2_with (first | (go_at_call 34; refine (OF _).out.mono ?_; rintro e w1 ⟨rfl, hb1⟩; obtain ⟨hc1, hf1⟩ := kcell hb1) | (refine wpList_store_new rfl 68 (.tmp 7) (.tmp 14) rfl _ K _ _ rfl rfl rfl k1.out k3.out k2.out ?_))
  go_ret
  exact ⟨rfl, (hb1.alloc hb1.size _)⟩

set_option maxRecDepth 100000 in
theorem store_put_full (s t : ByteArray) (p n : Nat) (m : Value) (D : DataW Unit) (w : World) (hs : s.size ≤ 9223372036854775807) (hp : Blk w p 66 #[m]) (hm : MapIs w m n D)
    (hok : nameOk s = true) (ht : (t.size : Int) ≤ 131072) (hno : has D (fkey s) = false) (hfull : Maps.size D = 64) :
    Calls Try.prog 11 #[.pointer (some ⟨p, 0, none⟩), .string s, .string t] w fun e w' => e = .returned (.int .i64 3) ∧ Below w.heap.size w w' := by
  have OF := fun W => Lib.hid (store_of s W hs)
  have k1 := Lib.hid (key_size s)
  have k2 := Lib.hid (key_one s)
  have k3 : RowKit.Hid (24 = (keyCells s).size) := rfl
  have k4 := Lib.hid (keyOf_name s)
  have hp := Lib.hid hp
  have hm' := Lib.hid hm
  clear hm
  rw [hok] at OF
  generalize hK : keyCells s = K at *
  have hK := Lib.hid hK
  have qT : ∀ (w : World) (r : Option Nat), (binOp .eql 64 (.map r) (.map none)).run Try.prog w = .ok (.bool r.isNone) w := fun w r => run_eql_map_nil w _ _ _ r Try.underlying64
  go_enter Try.func11, Try.ntmps11
  go_wp2_with (first | (go_at_call 34; refine (OF _).out.mono ?_; rintro e w1 ⟨rfl, hb1⟩; obtain ⟨hc1, hf1⟩ := kcell hb1) | (refine wpList_store_new rfl 68 (.tmp 7) (.tmp 14) rfl _ K _ _ rfl rfl rfl k1.out k3.out k2.out ?_))
  have W0 : w1.heap.size < (w1.alloc (.cells K 68)).heap.size := by simp
  have W1 : Blk (w1.alloc (.cells K 68)) p 66 #[m] := (hp.out.below hb1 hp.out.lt).alloc _
  have W2 : Blk (w1.alloc (.cells K 68)) w1.heap.size 68 K := heap_alloc_new w1 _
  have W3 : Kept (fun k => k < w.heap.size) w (w1.alloc (.cells K 68)) := ((Kept.refl _ w).below hb1 (fun k h => h)).alloc (fun k h => Nat.lt_of_lt_of_le h hb1.size) _
  have W4 : MapIs (w1.alloc (.cells K 68)) m n D := hm'.out.kept (((Kept.refl (fun k => k < w.heap.size) w).below hb1 (fun k h => h)).alloc (fun k h => Nat.lt_of_lt_of_le h hb1.size) _) (fun b h => hm'.out.lt h)
  have W5 : w.heap.size ≤ w1.heap.size := hb1.size
  generalize w1.heap.size = g at *
  generalize w1.alloc (.cells K 68) = W at *
  clear hc1 hf1 hb1
  have W2 := Lib.hid W2
  have W4 := Lib.hid W4
  obtain ⟨v, hl, hv⟩ := MapIs.look (w := W.drew) W4.out s
  have HL := MapIs.len (w := W.drew) W4.out 3
  rw [hK.out] at hl
  have hl := Lib.hid hl
  have hv := Lib.hid hv
  have C1 := W1.cell 0
  have C2 := W1.frozen 0
  simp only [List.getElem?_toArray, List.getElem?_cons_zero] at C1
  refine region_still_drew 10 (by kernel_rfl) (by kernel_rfl) ?_
  simp only [List.take_succ_cons, List.take_zero, List.drop_succ_cons, List.drop_zero]
  still_step
  still_step
  still_step
  still_step
  refine wpStill_load_row rfl 68 (.tmp 7) rfl g rfl 68 K (0, 0) _ W2.out Try.underlying68 rfl k1.out ?_
  refine wpStill_lookup rfl (.tmp 30) (.tmp 31) 64 true rfl _ _ _ rfl rfl hl.out ?_
  still_step
  still_step
  still_step
  still_step
  refine wpStill_nil ?_
  have W1 : RowKit.Hid (Blk W.drew p 66 #[m]) := Lib.hid W1.drew
  have W2 : RowKit.Hid (Blk W.drew g 68 K) := Lib.hid W2.out
  have W4 : RowKit.Hid (MapIs W.drew m n D) := Lib.hid W4.out
  have W3' := Lib.hid W3.drew
  have C1 : W.drew.cell? ⟨p, 0, none⟩ = some m := C1
  have C2 : W.drew.frozen? ⟨p, 0, none⟩ = false := C2
  have W0 : g < W.drew.heap.size := W0
  clear W3 hl
  generalize W.drew = W' at *
  go_wp2_with fail
  go_ret
  exact ⟨rfl, W3'.out.to_below (fun k h => h)⟩

/-- What Get tells. -/
def Got (D : DataW Unit) (s : ByteArray) (e : Ending) : Prop := ∃ v : ByteArray, e = .returned (.tuple #[.string v, .bool (has D (fkey s))]) ∧ D.atKey (fkey s) (text ⟨#[]⟩) = text v

set_option maxRecDepth 100000 in
theorem store_get (s : ByteArray) (p n : Nat) (m : Value) (D : DataW Unit) (w : World) (hs : s.size ≤ 9223372036854775807) (hp : Blk w p 66 #[m]) (hm : MapIs w m n D) (hok : nameOk s = true) :
    Calls Try.prog 13 #[.pointer (some ⟨p, 0, none⟩), .string s] w fun e w' => Got D s e ∧ Below w.heap.size w w' := by
  have OF := fun W => Lib.hid (store_of s W hs)
  have k1 := Lib.hid (key_size s)
  have k2 := Lib.hid (key_one s)
  have k3 : RowKit.Hid (24 = (keyCells s).size) := rfl
  have k4 := Lib.hid (keyOf_name s)
  have hp := Lib.hid hp
  have hm' := Lib.hid hm
  clear hm
  rw [hok] at OF
  generalize hK : keyCells s = K at *
  have hK := Lib.hid hK
  have qT : ∀ (w : World) (r : Option Nat), (binOp .eql 64 (.map r) (.map none)).run Try.prog w = .ok (.bool r.isNone) w := fun w r => run_eql_map_nil w _ _ _ r Try.underlying64
  go_enter Try.func13, Try.ntmps13
  go_wp2_with (first | (go_at_call 34; refine (OF _).out.mono ?_; rintro e w1 ⟨rfl, hb1⟩; obtain ⟨hc1, hf1⟩ := kcell hb1) | (refine wpList_store_new rfl 68 (.tmp 6) (.tmp 12) rfl _ K _ _ rfl rfl rfl k1.out k3.out k2.out ?_))
  have W0 : w1.heap.size < (w1.alloc (.cells K 68)).heap.size := by simp
  have W1 : Blk (w1.alloc (.cells K 68)) p 66 #[m] := (hp.out.below hb1 hp.out.lt).alloc _
  have W2 : Blk (w1.alloc (.cells K 68)) w1.heap.size 68 K := heap_alloc_new w1 _
  have W3 : Kept (fun k => k < w.heap.size) w (w1.alloc (.cells K 68)) := ((Kept.refl _ w).below hb1 (fun k h => h)).alloc (fun k h => Nat.lt_of_lt_of_le h hb1.size) _
  have W4 : MapIs (w1.alloc (.cells K 68)) m n D := hm'.out.kept (((Kept.refl (fun k => k < w.heap.size) w).below hb1 (fun k h => h)).alloc (fun k h => Nat.lt_of_lt_of_le h hb1.size) _) (fun b h => hm'.out.lt h)
  have W5 : w.heap.size ≤ w1.heap.size := hb1.size
  generalize w1.heap.size = g at *
  generalize w1.alloc (.cells K 68) = W at *
  clear hc1 hf1 hb1
  have W2 := Lib.hid W2
  have W4 := Lib.hid W4
  obtain ⟨v, hl, hv⟩ := MapIs.look (w := W.drew) W4.out s
  have HL := MapIs.len (w := W.drew) W4.out 3
  rw [hK.out] at hl
  have hl := Lib.hid hl
  have hv := Lib.hid hv
  have C1 := W1.cell 0
  have C2 := W1.frozen 0
  simp only [List.getElem?_toArray, List.getElem?_cons_zero] at C1
  refine region_still_drew 10 (by kernel_rfl) (by kernel_rfl) ?_
  simp only [List.take_succ_cons, List.take_zero, List.drop_succ_cons, List.drop_zero]
  still_step
  still_step
  still_step
  still_step
  refine wpStill_load_row rfl 68 (.tmp 6) rfl g rfl 68 K (0, 0) _ W2.out Try.underlying68 rfl k1.out ?_
  refine wpStill_lookup rfl (.tmp 24) (.tmp 25) 64 true rfl _ _ _ rfl rfl hl.out ?_
  still_step
  still_step
  still_step
  still_step
  refine wpStill_nil ?_
  have W1 : RowKit.Hid (Blk W.drew p 66 #[m]) := Lib.hid W1.drew
  have W2 : RowKit.Hid (Blk W.drew g 68 K) := Lib.hid W2.out
  have W4 : RowKit.Hid (MapIs W.drew m n D) := Lib.hid W4.out
  have W3' := Lib.hid W3.drew
  have C1 : W.drew.cell? ⟨p, 0, none⟩ = some m := C1
  have C2 : W.drew.frozen? ⟨p, 0, none⟩ = false := C2
  have W0 : g < W.drew.heap.size := W0
  clear W3 hl
  generalize W.drew = W' at *
  go_wp2_with fail
  go_ret2
  exact ⟨⟨v, rfl, hv.out⟩, W3'.out.to_below (fun k h => h)⟩

set_option maxRecDepth 100000 in
theorem store_get_bad (s : ByteArray) (a : Addr) (w : World) (hs : s.size ≤ 9223372036854775807) (hok : nameOk s = false) :
    Calls Try.prog 13 #[.pointer (some a), .string s] w fun e w' => e = .returned (.tuple #[.string ⟨#[]⟩, .bool false]) ∧ Below w.heap.size w w' := by
  have OF := fun W => Lib.hid (store_of s W hs)
  have k1 := Lib.hid (key_size s)
  have k2 := Lib.hid (key_one s)
  have k3 : RowKit.Hid (24 = (keyCells s).size) := rfl
  rw [hok] at OF
  generalize keyCells s = K at *
  go_enter Try.func13, Try.ntmps13
  go_wp2_with (first | (go_at_call 34; refine (OF _).out.mono ?_; rintro e w1 ⟨rfl, hb1⟩; obtain ⟨hc1, hf1⟩ := kcell hb1) | (refine wpList_store_new rfl 68 (.tmp 6) (.tmp 12) rfl _ K _ _ rfl rfl rfl k1.out k3.out k2.out ?_))
  go_ret2
  exact ⟨rfl, (hb1.alloc hb1.size _)⟩

set_option maxRecDepth 100000 in
theorem store_delete (s : ByteArray) (p n : Nat) (m : Value) (D : DataW Unit) (w : World) (hs : s.size ≤ 9223372036854775807) (hp : Blk w p 66 #[m]) (hm : MapIs w m n D) (hok : nameOk s = true) :
    Calls Try.prog 15 #[.pointer (some ⟨p, 0, none⟩), .string s] w fun e w' => e = .returned (.bool (has D (fkey s))) ∧ MapIs w' m n (D.del (fkey s)) ∧ Kept (fun k => k < w.heap.size ∧ mapBlock m ≠ some k) w w' := by
  have OF := fun W => Lib.hid (store_of s W hs)
  have k1 := Lib.hid (key_size s)
  have k2 := Lib.hid (key_one s)
  have k3 : RowKit.Hid (24 = (keyCells s).size) := rfl
  have k4 := Lib.hid (keyOf_name s)
  have hp := Lib.hid hp
  have hm' := Lib.hid hm
  clear hm
  rw [hok] at OF
  generalize hK : keyCells s = K at *
  have hK := Lib.hid hK
  have qT : ∀ (w : World) (r : Option Nat), (binOp .eql 64 (.map r) (.map none)).run Try.prog w = .ok (.bool r.isNone) w := fun w r => run_eql_map_nil w _ _ _ r Try.underlying64
  go_enter Try.func15, Try.ntmps15
  go_wp2_with (first | (go_at_call 34; refine (OF _).out.mono ?_; rintro e w1 ⟨rfl, hb1⟩; obtain ⟨hc1, hf1⟩ := kcell hb1) | (refine wpList_store_new rfl 68 (.tmp 5) (.tmp 12) rfl _ K _ _ rfl rfl rfl k1.out k3.out k2.out ?_))
  have W0 : w1.heap.size < (w1.alloc (.cells K 68)).heap.size := by simp
  have W1 : Blk (w1.alloc (.cells K 68)) p 66 #[m] := (hp.out.below hb1 hp.out.lt).alloc _
  have W2 : Blk (w1.alloc (.cells K 68)) w1.heap.size 68 K := heap_alloc_new w1 _
  have W3 : Kept (fun k => k < w.heap.size ∧ mapBlock m ≠ some k) w (w1.alloc (.cells K 68)) := ((Kept.refl _ w).below hb1 (fun k h => h.1)).alloc (fun k h => Nat.lt_of_lt_of_le h.1 hb1.size) _
  have W4 : MapIs (w1.alloc (.cells K 68)) m n D := hm'.out.kept (((Kept.refl (fun k => k < w.heap.size) w).below hb1 (fun k h => h)).alloc (fun k h => Nat.lt_of_lt_of_le h hb1.size) _) (fun b h => hm'.out.lt h)
  have W5 : w.heap.size ≤ w1.heap.size := hb1.size
  generalize w1.heap.size = g at *
  generalize w1.alloc (.cells K 68) = W at *
  clear hc1 hf1 hb1
  have W2 := Lib.hid W2
  have W4 := Lib.hid W4
  obtain ⟨v, hl, hv⟩ := MapIs.look (w := W.drew) W4.out s
  have HL := MapIs.len (w := W.drew) W4.out 3
  rw [hK.out] at hl
  have hl := Lib.hid hl
  have hv := Lib.hid hv
  have C1 := W1.cell 0
  have C2 := W1.frozen 0
  simp only [List.getElem?_toArray, List.getElem?_cons_zero] at C1
  refine region_still_drew 10 (by kernel_rfl) (by kernel_rfl) ?_
  simp only [List.take_succ_cons, List.take_zero, List.drop_succ_cons, List.drop_zero]
  still_step
  still_step
  still_step
  still_step
  refine wpStill_load_row rfl 68 (.tmp 5) rfl g rfl 68 K (0, 0) _ W2.out Try.underlying68 rfl k1.out ?_
  refine wpStill_lookup rfl (.tmp 24) (.tmp 25) 64 true rfl _ _ _ rfl rfl hl.out ?_
  still_step
  still_step
  still_step
  still_step
  refine wpStill_nil ?_
  have W1 : RowKit.Hid (Blk W.drew p 66 #[m]) := Lib.hid W1.drew
  have W2 : RowKit.Hid (Blk W.drew g 68 K) := Lib.hid W2.out
  have W4 : RowKit.Hid (MapIs W.drew m n D) := Lib.hid W4.out
  have W3' := Lib.hid W3.drew
  have C1 : W.drew.cell? ⟨p, 0, none⟩ = some m := C1
  have C2 : W.drew.frozen? ⟨p, 0, none⟩ = false := C2
  have W0 : g < W.drew.heap.size := W0
  clear W3 hl
  generalize W.drew = W' at *
  obtain ⟨w2, hd, hm2, hg2⟩ := MapIs.drop (w := W'.drew) W4.out s 0
  rw [hK.out] at hd
  have hm2 := Lib.hid hm2
  go_wp2_with fail
  refine region_still_drew 5 (by kernel_rfl) (by kernel_rfl) ?_
  simp only [List.take_succ_cons, List.take_zero, List.drop_succ_cons, List.drop_zero]
  still_step
  still_step
  still_step
  still_step
  refine wpStill_load_row rfl 68 (.tmp 5) rfl g rfl 68 K (0, 0) _ W2.out Try.underlying68 rfl k1.out ?_
  refine wpStill_nil ?_
  go_wp2_with fail
  go_ret
  exact ⟨rfl, hm2.out, (W3'.out.drew).grown hg2 (fun k h => Nat.lt_of_lt_of_le h.1 W3'.out.size) (fun k hk h => h.2 hk)⟩

set_option maxRecDepth 100000 in
theorem store_put_nil (s t : ByteArray) (p : Nat) (w : World) (hs : s.size ≤ 9223372036854775807) (hp : Blk w p 66 #[.map none]) (hok : nameOk s = true) (ht : (t.size : Int) ≤ 131072) :
    Calls Try.prog 11 #[.pointer (some ⟨p, 0, none⟩), .string s, .string t] w fun e w' => e = .returned (.int .i64 0) ∧
      ∃ b, Blk w' p 66 #[.map (some b)] ∧ w'.ownsMap Try.prog 68 (plainElem Try.prog 9) b 1 (DataW.put (.map []) (fkey s) (text t)) ∧ w.heap.size ≤ b ∧ Kept (fun k => k < w.heap.size ∧ k ≠ p) w w' := by
  have hm : MapIs w (.map none) 0 (.map []) := Or.inl ⟨rfl, rfl⟩
  have Hm : ∃ m : Value, m = .map none := ⟨_, rfl⟩
  have OF := fun W => Lib.hid (store_of s W hs)
  have k1 := Lib.hid (key_size s)
  have k2 := Lib.hid (key_one s)
  have k3 : RowKit.Hid (24 = (keyCells s).size) := rfl
  have k4 := Lib.hid (keyOf_name s)
  have hp := Lib.hid hp
  have hm' := Lib.hid hm
  clear hm
  rw [hok] at OF
  generalize hK : keyCells s = K at *
  have hK := Lib.hid hK
  have qT : ∀ (w : World) (r : Option Nat), (binOp .eql 64 (.map r) (.map none)).run Try.prog w = .ok (.bool r.isNone) w := fun w r => run_eql_map_nil w _ _ _ r Try.underlying64
  go_enter Try.func11, Try.ntmps11
  go_wp2_with (first | (go_at_call 34; refine (OF _).out.mono ?_; rintro e w1 ⟨rfl, hb1⟩; obtain ⟨hc1, hf1⟩ := kcell hb1) | (refine wpList_store_new rfl 68 (.tmp 7) (.tmp 14) rfl _ K _ _ rfl rfl rfl k1.out k3.out k2.out ?_))
  have W0 : w1.heap.size < (w1.alloc (.cells K 68)).heap.size := by simp
  have W1 : Blk (w1.alloc (.cells K 68)) p 66 #[.map none] := (hp.out.below hb1 hp.out.lt).alloc _
  have W2 : Blk (w1.alloc (.cells K 68)) w1.heap.size 68 K := heap_alloc_new w1 _
  have W3 : Kept (fun k => k < w.heap.size ∧ k ≠ p) w (w1.alloc (.cells K 68)) := ((Kept.refl _ w).below hb1 (fun k h => h.1)).alloc (fun k h => Nat.lt_of_lt_of_le h.1 hb1.size) _
  have W4 : MapIs (w1.alloc (.cells K 68)) (.map none) 0 (.map []) := hm'.out.kept (((Kept.refl (fun k => k < w.heap.size) w).below hb1 (fun k h => h)).alloc (fun k h => Nat.lt_of_lt_of_le h hb1.size) _) (fun b h => hm'.out.lt h)
  have W5 : w.heap.size ≤ w1.heap.size := hb1.size
  generalize w1.heap.size = g at *
  generalize w1.alloc (.cells K 68) = W at *
  clear hc1 hf1 hb1
  have W2 := Lib.hid W2
  have W4 := Lib.hid W4
  obtain ⟨v, hl, hv⟩ := MapIs.look (w := W.drew) W4.out s
  have HL := MapIs.len (w := W.drew) W4.out 3
  rw [hK.out] at hl
  have hl := Lib.hid hl
  have hv := Lib.hid hv
  have C1 := W1.cell 0
  have C2 := W1.frozen 0
  simp only [List.getElem?_toArray, List.getElem?_cons_zero] at C1
  refine region_still_drew 10 (by kernel_rfl) (by kernel_rfl) ?_
  simp only [List.take_succ_cons, List.take_zero, List.drop_succ_cons, List.drop_zero]
  still_step
  still_step
  still_step
  still_step
  refine wpStill_load_row rfl 68 (.tmp 7) rfl g rfl 68 K (0, 0) _ W2.out Try.underlying68 rfl k1.out ?_
  refine wpStill_lookup rfl (.tmp 30) (.tmp 31) 64 true rfl _ _ _ rfl rfl hl.out ?_
  still_step
  still_step
  still_step
  still_step
  refine wpStill_nil ?_
  have W1 : RowKit.Hid (Blk W.drew p 66 #[.map none]) := Lib.hid W1.drew
  have W2 : RowKit.Hid (Blk W.drew g 68 K) := Lib.hid W2.out
  have W4 : RowKit.Hid (MapIs W.drew (.map none) 0 (.map [])) := Lib.hid W4.out
  have W3' := Lib.hid W3.drew
  have C1 : W.drew.cell? ⟨p, 0, none⟩ = some (.map none) := C1
  have C2 : W.drew.frozen? ⟨p, 0, none⟩ = false := C2
  have W0 : g < W.drew.heap.size := W0
  clear W3 hl
  generalize W.drew = W' at *
  have hplt : p < W'.heap.size := W1.out.lt
  have hpg : g ≠ p := by have := hp.out.lt; omega
  have hx : has (DataW.map [] : DataW Unit) (fkey s) = false := rfl
  have hy : Maps.size (DataW.map [] : DataW Unit) = 0 := rfl
  simp only [hy] at HL
  have hmk : (Instr.makeMap 64 none).run Try.prog W' = .ok (.map (some W'.heap.size)) (W'.alloc (.map #[] 0)) := rfl
  go_wp2_with fail
  have V1 : RowKit.Hid (Blk ((W'.setCell ⟨p, 0, none⟩ (.map (some W'.heap.size))).alloc (.map #[] 0)) p 66 #[.map (some W'.heap.size)]) := by
    have := (W1.out.set_ 0 (.map (some W'.heap.size))).alloc (.map #[] 0); exact this
  have V2 : RowKit.Hid (Blk ((W'.setCell ⟨p, 0, none⟩ (.map (some W'.heap.size))).alloc (.map #[] 0)) g 68 K) := (W2.out.far (p := ⟨p, 0, none⟩) hpg _).alloc _
  have V3 : RowKit.Hid (Kept (fun k => k < w.heap.size ∧ k ≠ p) w ((W'.setCell ⟨p, 0, none⟩ (.map (some W'.heap.size))).alloc (.map #[] 0))) :=
    (W3'.out.setCell (p := ⟨p, 0, none⟩) (fun h => h.2 rfl) _).alloc (fun k h => by have := h.1; have := W3'.out.size; simp [World.setCell]; omega) _
  have V4 : RowKit.Hid (((W'.setCell ⟨p, 0, none⟩ (.map (some W'.heap.size))).alloc (.map #[] 0)).ownsMap Try.prog 68 (plainElem Try.prog 9) W'.heap.size 0 (.map [] : DataW Unit)) := by
    have e : (W'.setCell ⟨p, 0, none⟩ (.map (some W'.heap.size))).heap.size = W'.heap.size := by simp [World.setCell]
    have := World.ownsMap_made (W'.setCell ⟨p, 0, none⟩ (.map (some W'.heap.size))) Try.prog 68 (plainElem (H := Unit) Try.prog 9)
    rw [e] at this
    exact this
  have V5 : w.heap.size ≤ W'.heap.size := W3'.out.size
  have V6 : RowKit.Hid (w.heap.size < ((W'.setCell ⟨p, 0, none⟩ (.map (some W'.heap.size))).alloc (.map #[] 0)).heap.size) := by show _ < _; simp [World.setCell]; omega
  have U1 := V1.out.cell 0
  simp only [List.getElem?_toArray, List.getElem?_cons_zero] at U1
  generalize (W'.setCell ⟨p, 0, none⟩ (.map (some W'.heap.size))).alloc (.map #[] 0) = X at *
  have hne : W'.heap.size ≠ p := by omega
  generalize W'.heap.size = b at *
  clear C1 C2 HL
  refine region_still_drew 6 (by kernel_rfl) (by kernel_rfl) ?_
  simp only [List.take_succ_cons, List.take_zero, List.drop_succ_cons, List.drop_zero]
  still_step
  still_step
  still_step
  still_step
  refine wpStill_load_row rfl 68 (.tmp 7) rfl g rfl 68 K (0, 0) _ V2.out Try.underlying68 rfl k1.out ?_
  still_step
  refine wpStill_nil ?_
  refine wpList_mapUpdate_own _ rfl (.tmp 57) (.tmp 58) (.tmp 59) 64 rfl 68 9 sKeyed Try.underlying64 (plainElem Try.prog 9) b 0 (.map []) rfl V4.out (by decide) (.agg K) (.string t) (fkey s) rfl rfl k4.out (text t) [] (plainElem_string Try.underlying9 (by simp only [maxLen]; omega)) ?_
  intro w2 hown3 hg3
  have hown3 := Lib.hid hown3
  go_wp2_with fail
  go_ret
  exact ⟨rfl, b, V1.out.drew.grown hg3 (fun e => by injection e with e; omega), hown3.out, V5, V3.out.drew.grown hg3 (fun k h => Nat.lt_trans h.1 V6.out) (fun k hk h => by injection hk with hk; have := h.1; omega)⟩

end Go.Proofs.Ytceflhffilldeaa
