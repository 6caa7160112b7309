/-
  A store's Fork, walked; its Names where there are none.
-/
import Derived.Test.YtceflhffilldeaaStoreWalks
import Derived.Maps.RangeWalk
namespace Go.Proofs.Ytceflhffilldeaa
set_option linter.unusedVariables false
set_option linter.unusedSimpArgs false
open Go.RowKit Go.Maps Go.WideMaps

/-- All keys are names' keys. -/
def Named (D : DataW Unit) : Prop := ∀ kl, has D kl = true → ∃ s, nameOk s = true ∧ kl = fkey s
theorem named_empty : Named (.map []) := fun kl h => by cases h
theorem named_put {D : DataW Unit} (h : Named D) {s : ByteArray} (hs : nameOk s = true) (d : DataW Unit) : Named (D.put (fkey s) d) := by
  intro kl hkl
  by_cases e : kl = fkey s
  · exact ⟨s, hs, e⟩
  · rw [has_put_other e] at hkl
    exact h kl hkl
theorem named_del {D : DataW Unit} (h : Named D) (kl : Lit) : Named (D.del kl) := by
  intro k hk
  by_cases e : k = kl
  · subst e; rw [has_del_same] at hk; cases hk
  · rw [has_del_other e] at hk
    exact h k hk
/-- A key value that stands for a name is that name's. -/
theorem key_of_name {s : ByteArray} {x : Value} (h : keyOf Try.prog 68 x = some (fkey s)) : x = .agg (keyCells s) := sArr.law.inj h (keyOf_name s)
theorem nil_inv {v : Value} {y : DataW Unit × List MemPlace} (h : plainElem Try.prog 9 v = some y) : ∃ c : ByteArray, v = .string c := by
  obtain ⟨c, rfl, _⟩ := plainElem_string_inv Try.underlying9 h
  exact ⟨c, rfl⟩

set_option maxRecDepth 100000 in
set_option maxHeartbeats 2000000 in
theorem store_fork (p b n : Nat) (D : DataW Unit) (w : World) (hp : Blk w p 66 #[.map (some b)]) (hown : w.ownsMap Try.prog 68 (plainElem Try.prog 9) b n D) (hk : Named D) (hmax : Maps.size D ≤ 1000) :
    Calls Try.prog 18 #[.pointer (some ⟨p, 0, none⟩)] w fun e w' => ∃ q b', e = .returned (.pointer (some ⟨q, 0, none⟩)) ∧ Blk w' q 66 #[.map (some b')] ∧
      w'.ownsMap Try.prog 68 (plainElem Try.prog 9) b' (Maps.size D) D ∧ w.heap.size ≤ q ∧ w.heap.size ≤ b' ∧ q ≠ b' ∧ Below w.heap.size w w' := by
  have hmm : ∀ W : World, (Instr.makeMap 64 none).run Try.prog W = .ok (.map (some W.heap.size)) (W.alloc (.map #[] 0)) := fun W => rfl
  have hbl := hown.lt
  have hpl := hp.lt
  have hp' := Lib.hid hp
  have C1 := hp.cell 0
  have C2 := hp.frozen 0
  simp only [List.getElem?_toArray, List.getElem?_cons_zero] at C1
  have hown' := Lib.hid hown
  have hk := Lib.hid hk
  clear hp hown
  have L1 := Blk.new (w.alloc (.map #[] 0)) 66 #[.map (some w.heap.size)]
  have e1 : (w.alloc (.map #[] 0)).heap.size = w.heap.size + 1 := by simp
  rw [e1] at L1
  have L1 := Lib.hid L1
  have hown2 := Lib.hid ((hown'.out.alloc (.map #[] 0)).alloc (.cells #[.map (some w.heap.size)] 66))
  have hnew2 := Lib.hid ((World.ownsMap_made (H := Unit) w Try.prog 68 (plainElem Try.prog 9)).alloc (.cells #[.map (some w.heap.size)] 66))
  have B2 : Below w.heap.size w ((w.alloc (.map #[] 0)).alloc (.cells #[.map (some w.heap.size)] 66)) := ((Below.refl _ _).alloc (Nat.le_refl _) _).alloc (by simp) _
  have e2 : ((w.alloc (.map #[] 0)).alloc (.cells #[.map (some w.heap.size)] 66)).heap.size = w.heap.size + 2 := by simp
  go_enter Try.func18, Try.ntmps18
  go_wp2_with (at_range; refine wpList_range_own _ rfl (.tmp 14) 64 rfl 68 9 sKeyed Try.underlying64 _ b n _ rfl hown2.out ?_; intro w0 hrg0 hg0 hs0)
  go_frame
  rw [e2] at hrg0 hs0
  have L2 := Lib.hid (L1.out.grown hg0 (by simp))
  have hnew3 := Lib.hid (hnew2.out.kept hg0 (by simp))
  have B3 := B2.grown hg0 B2.size (fun j hj => by cases hj)
  have hrg0 := Lib.hid hrg0
  clear hmm C1 C2 L1 hown2 hnew2 B2 e1 hg0 hs0
  rw [e2]
  clear e2
  go_loopw [5] (fun _ wr => ∃ (left : Lit → Bool) (cnt : Nat) (Dout : DataW Unit), RowKit.Hid (wr.ranges Try.prog 68 (plainElem Try.prog 9) b (w.heap.size + 2) n D left cnt) ∧ cnt ≤ Maps.size D ∧
      RowKit.Hid (wr.ownsMap Try.prog 68 (plainElem Try.prog 9) w.heap.size (Maps.size D - cnt) Dout) ∧ RowKit.Hid (Agree Dout D left) ∧ RowKit.Hid (Blk wr (w.heap.size + 1) 66 #[.map (some w.heap.size)]) ∧ Below w.heap.size w wr)
    (fun _ wr => wr.rangeLeft b (w.heap.size + 2))
  case atStart => exact ⟨_, _, .map [], hrg0, Nat.le_refl _, Lib.hid (hnew3.out.mono (Nat.zero_le _)), Lib.hid (agree_start D), L2, B3⟩
  case round =>
    clear hrg0 L2 hnew3 B3
    obtain ⟨left, cnt, Dout, hrg, hcs, hout, hA, L, hB⟩ := hrel
    go_wp2_with (at_next; refine wpList_next_ranges _ rfl (.tmp 15) rfl 68 sKeyed (plainElem Try.prog 9) (id : Value → Value) Value.string (fun key kl h => ⟨key, rfl⟩) (fun v y hv => nil_inv hv) b (w.heap.size + 2) n D left cnt rfl hrg.out ?_ ?_)
    · intro hc0 hl0
      go_wp2_with fail
      go_ret
      subst hc0
      have e := agree_end hA.out hl0 (hout.out.canon sKeyed) (hown'.out.canon sKeyed)
      subst e
      exact ⟨_, _, rfl, L.out, by simpa using hout.out, by omega, Nat.le_refl _, by omega, hB⟩
    · intro x c kl ya yb w1 cnt1 hkey hlk hv hat hrg1 hlt hg1 hs1 hen
      obtain ⟨c', ec, hy, hcl⟩ := plainElem_string_inv Try.underlying9 hv
      injection ec with ec
      subst ec
      injection hy with hy1 hy2
      subst hy1 hy2
      obtain ⟨s, hsn, rfl⟩ := hk.out kl (has_true_of_atKey hat)
      obtain rfl := key_of_name hkey
      have hout1 := Lib.hid (hout.out.kept hg1 (by simp))
      have L1 := Lib.hid (L.out.grown hg1 (by simp))
      have hB1 := hB.grown hg1 hB.size (fun j hj => by injection hj with hj; omega)
      have ky := Lib.hid (keyOf_name s)
      have k1 := Lib.hid (key_size s)
      have k2 := Lib.hid (key_one s)
      have k3 : RowKit.Hid (24 = (keyCells s).size) := rfl
      have hat := Lib.hid hat
      have hv := Lib.hid hv
      have hrg1 := Lib.hid hrg1
      have hle := hrg.out.left_eq
      have hs1' := Lib.hid hs1
      have hle := Lib.hid hle
      clear hkey hlk hout L hB hrg hs1
      generalize hK : keyCells s = K at *
      go_wp2_with (refine wpList_store_new rfl 68 (.tmp 4) (.tmp 19) rfl _ K _ _ rfl rfl rfl k1.out k3.out k2.out ?_)
      have Z2 := Lib.hid (heap_alloc_new w1 (.cells K 68))
      have L2 := L1.out.alloc (.cells K 68)
      have hout2 := Lib.hid (hout1.out.alloc (.cells K 68))
      have hrg2 := Lib.hid (hrg1.out.alloc (.cells K 68))
      have hB2 := Lib.hid (hB1.alloc hB1.size (.cells K 68))
      clear L1 hout1 hrg1 hB1 hs1' hen hg1
      generalize w1.heap.size = g at *
      generalize w1.alloc (.cells K 68) = W at *
      have C1 := L2.cell 0
      have C2 := L2.frozen 0
      simp only [List.getElem?_toArray, List.getElem?_cons_zero] at C1
      have L2 := Lib.hid L2
      refine region_still_drew 6 (by kernel_rfl) (by kernel_rfl) ?_
      simp only [List.take_succ_cons, List.take_zero, List.drop_succ_cons, List.drop_zero]
      still_step
      still_step
      still_step
      still_step
      refine wpStill_load_row rfl 68 (.tmp 4) rfl g rfl 68 K (0, 0) _ Z2.out Try.underlying68 rfl k1.out ?_
      still_step
      refine wpStill_nil ?_
      refine wpList_mapUpdate_own _ rfl (.tmp 24) (.tmp 25) (.tmp 26) 64 rfl 68 9 sKeyed Try.underlying64 (plainElem Try.prog 9) w.heap.size _ Dout rfl hout2.out.drew (by simp only [maxLen]; omega) (.agg K) (.string c) (fkey s) rfl rfl ky.out (text c) [] hv.out ?_
      intro w3 hout3 hg3
      go_frame
      have hout3 := Lib.hid hout3
      have hrg3 := Lib.hid (World.ranges.kept (show W.drew.ranges Try.prog 68 (plainElem Try.prog 9) b (w.heap.size + 2) n D (fun z => left z && !z.sameKey (fkey s)) cnt1 from hrg2.out) hg3 (fun e => by have := Option.some.inj e; omega) (fun e => by have := Option.some.inj e; omega))
      have L3 := Lib.hid (L2.out.drew.grown hg3 (fun e => by have := Option.some.inj e; omega))
      have hB3 := hB2.out.drew.grown hg3 hB2.out.size (fun j hj => by injection hj with hj; omega)
      have hA3 := Lib.hid (agree_step hA.out hout2.out.isMap (fkey_key s) hat.out)
      have hle3 := Lib.hid hrg3.out.left_eq
      have ho4 : RowKit.Hid (w3.ownsMap Try.prog 68 (plainElem Try.prog 9) w.heap.size (Maps.size D - cnt1) (Dout.put (fkey s) (text c))) := Lib.hid (hout3.out.mono (by omega))
      go_wp2_with fail
      go_roundw
      case rel => exact ⟨(fun z => left z && !z.sameKey (fkey s)), cnt1, Dout.put (fkey s) (text c), hrg3, by omega, ho4, hA3, L3, hB3⟩
      case measure => rw [hle3.out, hle.out]; exact hlt

end Go.Proofs.Ytceflhffilldeaa
