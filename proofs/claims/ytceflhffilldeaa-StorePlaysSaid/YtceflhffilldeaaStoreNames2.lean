/-
  A store's Names, walked, over the contract of the library's sort.
-/
import Derived.Test.YtceflhffilldeaaStoreNone
import Derived.Lib.SlBytesRow
import Derived.Sort.Grow
import Derived.Lib.OwnBridge
import Derived.Deep.AppendLies
import Derived.OwnWalk
import Derived.Deep.MidRow
namespace Go.Proofs.Ytceflhffilldeaa
set_option linter.unusedVariables false
set_option linter.unusedSimpArgs false
open Go.RowKit Go.Maps Go.WideMaps Go.Sort

theorem nodup_len {α : Type} : ∀ (l m : List α), l.Nodup → (∀ x ∈ l, x ∈ m) → l.length ≤ m.length
  | [], m, _, _ => by simp
  | a :: l, m, h, hs => by
    haveI : DecidableEq α := Classical.typeDecidableEq α
    obtain ⟨h1, h2⟩ := List.nodup_cons.1 h
    have ha : a ∈ m := hs a (by simp)
    have h3 := nodup_len l (m.erase a) h2 (fun x hx => by
      have hne : x ≠ a := fun e => h1 (e ▸ hx)
      exact (List.mem_erase_of_ne hne).2 (hs x (by simp [hx])))
    have h4 := List.length_erase_of_mem ha
    have h5 : 0 < m.length := List.length_pos_of_mem ha
    simp only [List.length_cons]
    omega
/-- The contract of the library's sort of strings. -/
def SortsStr : Prop := ∀ (blk off cap : Nat) (ss : List (List UInt8)) (w : World), Holds encStr w blk off ss.toArray → blk < w.heap.size → ss.length < 4611686018427387904 →
  Calls Try.prog 37 #[.slice (some ⟨blk, off, none⟩) ss.length cap] w fun e w' => e = .returned (.tuple #[]) ∧ ∃ n os, w' = grow (putRow encStr (Go.Sort.ahead w n) blk off (ss.mergeSort fun x y => decide (x ≤ y)).toArray) os
/-- The names met so far. -/
def Met (D : DataW Unit) (left : Lit → Bool) (ss : List ByteArray) : Prop :=
  ss.Nodup ∧ (∀ s ∈ ss, nameOk s = true) ∧ ∀ s, nameOk s = true → (s ∈ ss ↔ has D (fkey s) = true ∧ left (fkey s) = false)
theorem met_start (D : DataW Unit) : Met D (has D) [] := ⟨List.nodup_nil, fun s h => absurd h (by simp), fun s hs => by simp⟩
theorem met_step {D : DataW Unit} {left : Lit → Bool} {ss : List ByteArray} {s : ByteArray} (h : Met D left ss) (hs : nameOk s = true) (hl : left (fkey s) = true) (hD : has D (fkey s) = true) :
    Met D (fun z => left z && !z.sameKey (fkey s)) (ss ++ [s]) := by
  obtain ⟨h1, h2, h3⟩ := h
  have hn : s ∉ ss := fun hm => by rw [((h3 s hs).1 hm).2] at hl; cases hl
  refine ⟨?_, ?_, fun x hx => ?_⟩
  · rw [List.nodup_append]
    exact ⟨h1, by simp, fun a ha b hb => by simp at hb; subst hb; exact fun e => hn (e ▸ ha)⟩
  · intro x hx
    rcases List.mem_append.1 hx with hx | hx
    · exact h2 x hx
    · simp at hx; subst hx; exact hs
  · by_cases e : x = s
    · subst e
      simp [hD, WideAt.sameKey_self (fkey_key x)]
    · have hne : fkey x ≠ fkey s := fkey_ne hx hs e
      rw [List.mem_append, List.mem_singleton]
      simp only [e, or_false]
      rw [h3 x hx, sameKey_ne hne]
      simp
/-- As many as there are. -/
theorem met_len {D : DataW Unit} {left : Lit → Bool} {ss : List ByteArray} (h : Met D left ss) (hT : Tidy D) : ss.length ≤ Maps.size D := by
  obtain ⟨h1, h2, h3⟩ := h
  obtain ⟨es, rfl, hp⟩ := hT
  have hsub : ∀ k ∈ ss.map fkey, k ∈ es.map (·.1) := by
    intro k hk
    obtain ⟨s, hs, rfl⟩ := List.mem_map.1 hk
    have := ((h3 s (h2 s hs)).1 hs).1
    rw [has_eq, List.any_eq_true] at this
    obtain ⟨p, hp1, hp2⟩ := this
    exact List.mem_map.2 ⟨p, hp1, WideAt.sameKey_eq hp2⟩
  have hnd : (ss.map fkey).Nodup := by
    rw [List.Nodup, List.pairwise_map]
    exact List.Pairwise.imp_of_mem (fun {a b} ha hb hab e => hab (fkey_inj a b (h2 a ha) (h2 b hb) e)) h1
  have := nodup_len _ _ hnd hsub
  simpa [size_eq] using this
theorem met_all {D : DataW Unit} {left : Lit → Bool} {ss : List ByteArray} (h : Met D left ss) (hC : Canon D) (hl : ∀ k, left k = false) (hN : Named D) : ss.length = Maps.size D := by
  obtain ⟨es, rfl, hr, hk⟩ := hC
  have hp := apart_of_rising hr
  have hle := met_len h ⟨es, rfl, hp⟩
  obtain ⟨h1, h2, h3⟩ := h
  have hsub : ∀ k ∈ es.map (·.1), k ∈ ss.map fkey := by
    intro k hk'
    obtain ⟨p, hp1, rfl⟩ := List.mem_map.1 hk'
    have hh : has (.map es : DataW Unit) p.1 = true := by
      rw [has_eq, List.any_eq_true]
      exact ⟨p, hp1, WideAt.sameKey_self (hk p hp1)⟩
    obtain ⟨s, hs, e⟩ := hN p.1 hh
    rw [e] at hh ⊢
    exact List.mem_map.2 ⟨s, (h3 s hs).2 ⟨hh, hl _⟩, rfl⟩
  have hnd : (es.map (·.1)).Nodup := by
    rw [List.Nodup, List.pairwise_map]
    exact hp
  have := nodup_len _ _ hnd hsub
  simp [size_eq] at this hle ⊢
  omega

theorem str_info : (Try.prog.info? 9).map (fun i => (i.zero, i.size, i.bytes)) = some (some (.string ⟨#[]⟩), 1, 16) := by kernel_rfl
theorem key_at (s : ByteArray) (k : Nat) (hk : k < 24) : (keyCells s)[k]? = some (.int .u8 (at_ s k)) := by
  rw [keyCells_eq]
  simp [keyInts, hk]
theorem at_pos {s : ByteArray} (hs : nameOk s = true) (k : Nat) (hk : k < s.size) : at_ s k ≠ 0 := by
  have h := ((nameOk_iff s).1 hs).2.2.2 k hk
  intro e
  rw [e, inName_zero] at h
  cases h
theorem at_end (s : ByteArray) (k : Nat) (hk : s.size ≤ k) : at_ s k = 0 := by rw [at_, dif_neg (by omega)]

theorem st_add0 (g j : Nat) : (⟨g, 0, none⟩ : Addr).add j = ⟨g, j, none⟩ := by rw [Addr.add_mid]; simp
theorem st_news1 (w : World) (t : TypeId) (v : Value) : ∀ (j : Nat) (u : Value), [v][j]? = some u → (w.alloc (.cells #[v] t)).cell? ((⟨w.heap.size, 0, none⟩ : Addr).add j) = some u := by
  intro j u hj
  rw [st_add0, cell_of_row _ _ j _ _ _ (heap_alloc_new w (.cells #[v] t))]
  simpa using hj
theorem run_key_slice (W : World) (g n : Nat) (hn : n ≤ 24) : (Instr.sliceAt 68 (.pointer (some ⟨g, 0, none⟩)) none (some (.int .i64 (n : Int))) none).run Try.prog W = .ok (.slice (some ⟨g, 0, none⟩) n 24) W := by
  have e : Try.prog.arrayLen 68 = 24 := by kernel_rfl
  have e2 : Try.prog.elem 68 = 5 := by kernel_rfl
  rw [run_sliceAt_array_h W 68 ⟨g, 0, none⟩ (by rw [e, e2]; exact Try.underlying68) .i64 (n : Int) (by omega) (by rw [e]; omega), e2, e]
  have h := Try.sizeOf5 W
  rw [h]
  simp [Result.andThen, slicedAt, Addr.add]
theorem below_grow {B : Nat} {w0 w : World} (h : RowKit.Below B w0 w) (hB : B ≤ w.heap.size) (os : Array Obj) : RowKit.Below B w0 (grow w os) :=
  ⟨h.os, h.tape, h.output, by simp [grow]; exact Nat.le_trans h.size (Nat.le_add_right _ _), fun k hk => by
    rw [← h.block k hk]
    simp only [grow]
    rw [Array.getElem?_append_left (by omega)]⟩
theorem own_grow {w : World} {base : Nat} {e : TypeId} {size n : Nat} {v : Value} {xs : List Value} (h : w.ownsRow base e size v n xs) (os : Array Obj) : (grow w os).ownsRow base e size v n xs := by
  refine ⟨h.1, ?_⟩
  rcases h.2 with h2 | ⟨g, cap, cur, hv, hg, hh, r⟩
  · exact Or.inl h2
  · refine Or.inr ⟨g, cap, cur, hv, hg, ?_, r⟩
    simp only [grow]
    rw [Array.getElem?_append_left (Array.getElem?_eq_some_iff.1 hh).1]
    exact hh
theorem own_base {w : World} {b b' : Nat} {e : TypeId} {size n : Nat} {v : Value} {xs : List Value} (h : w.ownsRow b e size v n xs) (hb : b' ≤ b) : w.ownsRow b' e size v n xs := by
  refine ⟨h.1, ?_⟩
  rcases h.2 with h2 | ⟨g, cap, cur, hv, hg, hh, r⟩
  · exact Or.inl h2
  · exact Or.inr ⟨g, cap, cur, hv, Nat.le_trans hb hg, hh, r⟩
theorem own_not {w : World} {B g n size : Nat} {e : TypeId} {v : Value} {xs : List Value} (h : w.ownsRow B e size v n xs) (hg : g + 1 ≤ B) : v.ownBlock = none ∨ v.ownBlock ≠ some g := by
  rcases h.2 with ⟨rfl, _⟩ | ⟨g', cap, cur, rfl, hg', _⟩
  · exact Or.inl rfl
  · refine Or.inr (fun e => ?_)
    have := Option.some.inj e
    simp at this
    omega

set_option maxRecDepth 100000 in
set_option maxHeartbeats 4000000 in
theorem store_names (hsort : SortsStr) (p b n : Nat) (D : DataW Unit) (w : World) (hp : Blk w p 66 #[.map (some b)]) (hown : w.ownsMap Try.prog 68 (plainElem Try.prog 9) b n D) (hk : Named D) (hmax : Maps.size D ≤ 1000) :
    Calls Try.prog 21 #[.pointer (some ⟨p, 0, none⟩)] w fun e w' => ∃ (ss : List ByteArray) (v : Value), e = .returned v ∧ Met D (fun _ => false) ss ∧ ss.length = Maps.size D ∧
      w'.ownsRow w.heap.size 9 1 v ss.length (((ss.map (·.data.toList)).mergeSort fun x y => decide (x ≤ y)).map encStr) ∧ Below w.heap.size w w' := by
  have C1 := hp.cell 0
  have C2 := hp.frozen 0
  simp only [List.getElem?_toArray, List.getElem?_cons_zero] at C1
  have hown' := Lib.hid hown
  have hk := Lib.hid hk
  have hpl := hp.lt
  have hbl := hown.lt
  clear hp hown
  obtain ⟨i0, hi0, hz0, hz1, hz2⟩ := info_parts str_info
  go_enter Try.func21, Try.ntmps21
  go_wp2_with (at_range; refine wpList_range_own _ rfl (.tmp 11) 64 rfl 68 9 sKeyed Try.underlying64 _ b n _ rfl hown'.out ?_; intro w0 hrg0 hg0 hs0)
  go_frame
  have B0 : Below w.heap.size w w0 := (Below.refl _ _).grown hg0 (Nat.le_refl _) (fun j hj => by cases hj)
  have hrg0 := Lib.hid hrg0
  clear hg0 hs0 C1 C2
  go_loopw [3] (fun o wr => ∃ (left : Lit → Bool) (cnt : Nat) (ss : List ByteArray), RowKit.Hid (wr.ranges Try.prog 68 (plainElem Try.prog 9) b w.heap.size n D left cnt) ∧
      RowKit.Hid (wr.ownsRow (w.heap.size + 1) 9 1 o ss.length (ss.map Value.string)) ∧ RowKit.Hid (Met D left ss) ∧ Below w.heap.size w wr) (fun _ wr => wr.rangeLeft b w.heap.size)
  case atStart => exact ⟨_, _, [], hrg0, Lib.hid (World.ownsRow_nil _ _ _ _), Lib.hid (met_start D), B0⟩
  case round =>
    clear hrg0 B0
    obtain ⟨left, cnt, ss, hrg, hown, hM, hB⟩ := hrel
    have hlen : ss.length ≤ 1000 := Nat.le_trans (met_len hM.out (by obtain ⟨es, e, h1, h2⟩ := hown'.out.canon sKeyed; exact ⟨es, e, apart_of_rising h1⟩)) hmax
    go_wp2_with (at_next; refine wpList_next_ranges _ rfl (.tmp 12) rfl 68 sKeyed (plainElem Try.prog 9) (id : Value → Value) Value.string (fun key kl h => ⟨key, rfl⟩) (fun v y hv => nil_inv hv) b w.heap.size n D left cnt rfl hrg.out ?_ ?_)
    · intro hc0 hl0
      have hfin : left = fun _ => false := funext hl0
      subst hfin
      have hall := Lib.hid (met_all hM.out (hown'.out.canon sKeyed) (fun _ => rfl) hk.out)
      have hM := Lib.hid hM.out
      have hown0 := Lib.hid hown.out
      rcases hown.out.2 with ⟨rfl, h2⟩ | ⟨g, cap, cur, rfl, hg, hh, hn', hm', hs', ht'⟩
      · have hss : ss = [] := List.eq_nil_of_length_eq_zero h2
        subst hss
        clear hown hc0
        go_wp2_with (go_at_call 37; refine (sort_none none 0 _).mono ?_; rintro e w' ⟨rfl, rfl⟩)
        go_ret
        exact ⟨[], .slice none 0 0, rfl, hM.out, hall.out, by simpa using World.ownsRow_nil w' w.heap.size 9 1, hB⟩
      · have hown5 := hown.out
        rw [← Go.Lib.map_encStr] at hown5
        obtain ⟨g', cap', e1, hg1, hg2, -, -, hl1, hH⟩ := Go.Lib.holds_of_ownsRow hown5 (by intro e; cases e)
        injection e1 with e1 _ e2
        injection e1 with e1
        injection e1 with e1
        subst e1 e2
        have hS := hsort g 0 cap (ss.map (·.data.toList)) wr hH hg2 (by simp; omega)
        rw [List.length_map] at hS
        have hS := Lib.hid hS
        have hys : ((ss.map (·.data.toList)).mergeSort fun x y => decide (x ≤ y)).length = ss.length := by simp
        clear hown hh hn' hm' hs' ht' hc0 hH
        clear hys
        go_wp2_with (go_at_call 37; refine hS.out.mono ?_; rintro e w3 ⟨rfl, nn, os, rfl⟩)
        go_ret
        have hys : ((ss.map (·.data.toList)).mergeSort fun x y => decide (x ≤ y)).length = ss.length := by simp
        have h6 := Go.Lib.ownsRow_putRow (q := nn) hown5 hys (Nat.le_refl _)
        rw [List.take_of_length_le (by rw [hys]; exact Nat.le_refl _)] at h6
        have h7 := Go.Lib.below_putRow (enc := encStr) (q := nn) (d := ((ss.map (·.data.toList)).mergeSort fun x y => decide (x ≤ y)).toArray) hB (show w.heap.size ≤ g by omega)
        exact ⟨ss, _, rfl, hM.out, hall.out, own_base (own_grow h6 os) (by omega), below_grow h7 h7.size os⟩
    · intro x c kl ya yb w1 cnt1 hkey hlk hv hat hrg1 hlt hg1 hs1 hen
      obtain ⟨s, hsn, rfl⟩ := hk.out kl (has_true_of_atKey hat)
      obtain rfl := key_of_name hkey
      have hMn := Lib.hid (met_step hM.out hsn hlk (has_true_of_atKey hat))
      have hown1 := Lib.hid (hown.out.kept hg1 (own_not hown.out (Nat.le_refl _)))
      have hB1 := hB.grown hg1 hB.size (fun j hj => by injection hj with hj; omega)
      have k1 := Lib.hid (key_size s)
      have k2 := Lib.hid (key_one s)
      have k3 : RowKit.Hid (24 = (keyCells s).size) := rfl
      have hrg1 := Lib.hid hrg1
      have hle := Lib.hid hrg.out.left_eq
      have hs24 := ((nameOk_iff s).1 hsn).2.1
      clear hkey hlk hown hB hrg hs1 hat hv hM
      generalize hK : keyCells s = K at *
      go_wp2_with (refine wpList_store_new rfl 68 (.tmp 4) (.tmp 16) rfl _ K _ _ rfl rfl rfl k1.out k3.out k2.out ?_)
      have Z2 := Blk.new w1 68 K
      have hown2 := Lib.hid (hown1.out.alloc (.cells K 68))
      have hrg2 := Lib.hid (hrg1.out.alloc (.cells K 68))
      have hB2 := hB1.alloc hB1.size (.cells K 68)
      clear hown1 hrg1 hB1 hen hg1
      generalize hgw : w1.heap.size = g at *
      generalize w1.alloc (.cells K 68) = W at *
      have hgW : g < W.heap.size := Z2.lt
      have hcell : RowKit.Hid (∀ k, k < 24 → W.cell? ⟨g, k, none⟩ = some (.int .u8 (at_ s k))) := Lib.hid (fun k hk => by rw [Z2.cell k, ← hK]; exact key_at s k hk)
      have hBy : Go.Lib.Bytes W g 0 s := fun i hi => by rw [Nat.zero_add, hcell.out i (by omega), at_lt s i hi]
      have hconv := Go.Lib.run_convert_whole (P := Try.prog) W 40 5 9 Try.underlying40 Try.underlying5 Try.underlying9 g 0 s hBy 24
      have hsl := run_key_slice W g s.size hs24
      have Z2 := Lib.hid Z2
      have hK := Lib.hid hK
      have hBs := hB2.size
      clear hBy hgw
      go_loop [5] (fun i => ∃ k : Nat, i = .int .i64 k ∧ k ≤ s.size) (fun i => 24 - (intOf i).toNat)
      case atStart => exact ⟨0, rfl, by omega⟩
      case round =>
        obtain ⟨k, rfl, hk2⟩ := hrel
        by_cases hlt2 : k < s.size
        · have cx := hcell.out k (by omega)
          have hx0 : (at_ s k != 0) = true := by rw [bne_iff_ne]; exact at_pos hsn k hlt2
          have hk24 : (k : Int) < 24 := by omega
          generalize at_ s k = x at *
          clear hconv
          go_wp2_with fail
          go_round
          case rel => exact ⟨k + 1, by go_num, by omega⟩
          case measure => simp [intOf]; omega
        · obtain rfl : k = s.size := by omega
          by_cases h24 : s.size = 24
          · have hk24 : (24 : Int) ≤ (s.size : Int) := by omega
            clear h24
            go_wp2_with (first | (at_builtin; refine wpList_append_own _ rfl (.tmp 27) (.tmp 31) 26 rfl (w.heap.size + 1) 9 i0 _ 1 16 Try.underlying26 hi0 hz0 hz1 hz2 rfl (by omega) _ ss.length _ rfl (hown2.out.alloc _) ⟨W.heap.size, 0, none⟩ 1 1 [.string s] rfl rfl (st_news1 W _ _) (by simp [Value.oneCell']) (by simp only [maxLen]; omega) (by omega) (by simp; omega) ?_; intro v3 w3 hown3 hg3 _))
            have hown4 : RowKit.Hid (w3.ownsRow (w.heap.size + 1) 9 1 v3 (ss ++ [s]).length ((ss ++ [s]).map Value.string)) := Lib.hid (by rw [List.map_append, List.length_append]; exact hown3)
            have hrg3 := World.ranges.kept (hrg2.out.alloc (.cells #[.string s] 9)) hg3 (fun e => by have := (hown2.out.lt _ e.symm).1; omega) (fun e => by have := (hown2.out.lt _ e.symm).1; omega)
            have hle3 := hrg3.left_eq
            have hB3 : RowKit.Below w.heap.size w w3 := (hB2.alloc hB2.size _).grown hg3 (by simp; omega) (fun j hj => by have := (hown2.out.lt _ hj).1; omega)
            exact ⟨⟨_, cnt1, ss ++ [s], Lib.hid hrg3, hown4, hMn, hB3⟩, by rw [hle3, hle.out]; exact hlt⟩
          · have cx := hcell.out s.size (by omega)
            rw [at_end s s.size (Nat.le_refl _)] at cx
            have hk24 : (s.size : Int) < 24 := by omega
            go_wp2_with (first | (at_builtin; refine wpList_append_own _ rfl (.tmp 27) (.tmp 31) 26 rfl (w.heap.size + 1) 9 i0 _ 1 16 Try.underlying26 hi0 hz0 hz1 hz2 rfl (by omega) _ ss.length _ rfl (hown2.out.alloc _) ⟨W.heap.size, 0, none⟩ 1 1 [.string s] rfl rfl (st_news1 W _ _) (by simp [Value.oneCell']) (by simp only [maxLen]; omega) (by omega) (by simp; omega) ?_; intro v3 w3 hown3 hg3 _))
            have hown4 : RowKit.Hid (w3.ownsRow (w.heap.size + 1) 9 1 v3 (ss ++ [s]).length ((ss ++ [s]).map Value.string)) := Lib.hid (by rw [List.map_append, List.length_append]; exact hown3)
            have hrg3 := World.ranges.kept (hrg2.out.alloc (.cells #[.string s] 9)) hg3 (fun e => by have := (hown2.out.lt _ e.symm).1; omega) (fun e => by have := (hown2.out.lt _ e.symm).1; omega)
            have hle3 := hrg3.left_eq
            have hB3 : RowKit.Below w.heap.size w w3 := (hB2.alloc hB2.size _).grown hg3 (by simp; omega) (fun j hj => by have := (hown2.out.lt _ hj).1; omega)
            exact ⟨⟨_, cnt1, ss ++ [s], Lib.hid hrg3, hown4, hMn, hB3⟩, by rw [hle3, hle.out]; exact hlt⟩

end Go.Proofs.Ytceflhffilldeaa
