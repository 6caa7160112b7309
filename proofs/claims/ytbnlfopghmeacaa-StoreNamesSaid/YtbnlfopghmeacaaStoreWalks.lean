/-
  The statements StoreNames and StoreLast: their walks, out of the contracts.
-/
import Derived.Test.YtbnlfopghmeacaaStoreOps
namespace Go.Proofs.Ytbnlfopghmeacaa
set_option linter.unusedVariables false
set_option linter.unusedSimpArgs false
open Go.RowKit Go.Maps Go.WideMaps

theorem fkey_key (s : ByteArray) : WideAt.IsKeyLit (fkey s) := sKeyed.key (keyOf_name s)
theorem text_inj {a b : ByteArray} (h : text a = text b) : a = b := by
  unfold text at h
  injection h with h
  injection h with h
  apply ByteArray.ext
  simpa using congrArg List.toArray h
theorem got_same {D : DataW Unit} (hD : IsMap D) (s t v : ByteArray) (hv : (D.put (fkey s) (text t)).atKey (fkey s) (text ⟨#[]⟩) = text v) : v = t := by
  rw [atKey_put_same hD (fkey_key s)] at hv
  exact (text_inj hv).symm

set_option maxRecDepth 100000 in
theorem law07_wakes (w : World) : Calls Try.prog 32 #[] w fun e w' => e = .returned (.bool true) ∧ Below w.heap.size w w' := by
  have hA : nameOk ⟨#[65, 46, 77, 111, 100]⟩ = true := by decide
  have h1 : nameOk ⟨#[49]⟩ = false := by decide
  have hA := Lib.hid hA
  have h1 := Lib.hid h1
  go_enter Try.func32, Try.ntmps32
  go_wp2_with fail
  refine (store_new _).mono ?_
  rintro e w1 ⟨rfl, hw1⟩
  have hB := Lib.hid (hw1 ▸ Blk.new w 63 #[.map none])
  have hk1 : Below w.heap.size w w1 := hw1 ▸ (Below.refl _ _).alloc (Nat.le_refl _) _
  clear hw1
  go_wp2_with fail
  refine (store_put_nil _ _ _ _ (by decide) hB.out hA.out (by decide)).mono ?_
  rintro e w2 ⟨rfl, b, hB2, ho2, hb2, hk2⟩
  have hB2 := Lib.hid hB2
  have ho2 := Lib.hid ho2
  go_wp2_with fail
  refine (store_get _ _ 1 (.map (some b)) _ _ (by decide) hB2.out (Or.inr ⟨b, rfl, ho2.out⟩) hA.out).mono ?_
  rintro e w3 ⟨⟨v, rfl, hv⟩, hk3⟩
  obtain rfl := got_same isMap_empty _ _ _ hv
  rw [has_put_same isMap_empty (fkey_key _)]
  clear hv
  go_wp2_with fail
  refine (store_put_bad _ _ _ _ (by decide) h1.out).mono ?_
  rintro e w4 ⟨rfl, hk4⟩
  go_wp2_with fail
  go_ret
  have l1 := hB.out.lt
  exact ⟨rfl, ((hk1.trans (hk2.to_below (fun k h => ⟨by omega, by omega⟩))).trans (hk3.mono (Nat.le_trans hk1.size hk2.size))).trans (hk4.mono (Nat.le_trans (Nat.le_trans hk1.size hk2.size) hk3.size))⟩

set_option maxRecDepth 100000 in
theorem law07_names (s : ByteArray) (w : World) (hs : s.size ≤ 9223372036854775807) : Calls Try.prog 10 #[.string s] w fun e w' => e = .returned (.bool true) ∧ Below w.heap.size w w' := by
  by_cases hl : (5000 : Int) < s.size
  · go_enter Try.func10, Try.ntmps10
    go_wp2_with fail
    refine (law07_wakes _).mono ?_
    rintro e w1 ⟨rfl, hk⟩
    go_wp2_with fail
    go_ret
    exact ⟨rfl, hk⟩
  · have hl' : (s.size : Int) ≤ 5000 := by omega
    clear hl
    have N1 := fun W => Lib.hid (store_name s W hs)
    have N2 := fun W => Lib.hid (ref07_name s W hs)
    cases hok : nameOk s
    · rw [hok] at N1 N2
      have P1 := fun a W => Lib.hid (store_put_bad s ⟨#[120]⟩ a W hs hok)
      have hok := Lib.hid hok
      go_enter Try.func10, Try.ntmps10
      go_wp2_with (first | (go_at_call 33; refine (N1 _).out.mono ?_; rintro e w' ⟨rfl, rfl⟩) | (go_at_call 34; refine (N2 _).out.mono ?_; rintro e w' ⟨rfl, rfl⟩))
      refine (store_new _).mono ?_
      rintro e w1 ⟨rfl, hw1⟩
      have hB := Lib.hid (hw1 ▸ Blk.new w 63 #[.map none])
      have hk1 : Below w.heap.size w w1 := hw1 ▸ (Below.refl _ _).alloc (Nat.le_refl _) _
      clear hw1
      go_wp2_with fail
      refine (P1 _ _).out.mono ?_
      rintro e w2 ⟨rfl, hk2⟩
      go_wp2_with (go_at_call 34; refine (N2 _).out.mono ?_; rintro e w' ⟨rfl, rfl⟩)
      refine (law07_wakes _).mono ?_
      rintro e w3 ⟨rfl, hk3⟩
      go_wp2_with fail
      go_ret
      exact ⟨rfl, (hk1.trans (hk2.mono hk1.size)).trans (hk3.mono (Nat.le_trans hk1.size hk2.size))⟩
    · rw [hok] at N1 N2
      have hok := Lib.hid hok
      go_enter Try.func10, Try.ntmps10
      go_wp2_with (first | (go_at_call 33; refine (N1 _).out.mono ?_; rintro e w' ⟨rfl, rfl⟩) | (go_at_call 34; refine (N2 _).out.mono ?_; rintro e w' ⟨rfl, rfl⟩))
      refine (store_new _).mono ?_
      rintro e w1 ⟨rfl, hw1⟩
      have hB := Lib.hid (hw1 ▸ Blk.new w 63 #[.map none])
      have hk1 : Below w.heap.size w w1 := hw1 ▸ (Below.refl _ _).alloc (Nat.le_refl _) _
      clear hw1
      go_wp2_with fail
      refine (store_put_nil _ _ _ _ hs hB.out hok.out (by decide)).mono ?_
      rintro e w2 ⟨rfl, b, hB2, ho2, hb2, hk2⟩
      clear hB2 ho2
      go_wp2_with (go_at_call 34; refine (N2 _).out.mono ?_; rintro e w' ⟨rfl, rfl⟩)
      refine (law07_wakes _).mono ?_
      rintro e w3 ⟨rfl, hk3⟩
      go_wp2_with fail
      go_ret
      have l1 := hB.out.lt
      exact ⟨rfl, (hk1.trans (hk2.to_below (fun k h => ⟨by omega, by omega⟩))).trans (hk3.mono (Nat.le_trans hk1.size hk2.size))⟩

theorem blk3 {w : World} {g : Nat} {t : TypeId} {x y z : Value} (h : Blk w g t #[x, y, z]) : w.cell? ⟨g, 0, none⟩ = some x ∧ w.cell? ⟨g, 1, none⟩ = some y ∧ w.cell? ⟨g, 2, none⟩ = some z := ⟨h.cell 0, h.cell 1, h.cell 2⟩
theorem own_ne {w : World} {g b n : Nat} {t : TypeId} {cs : Array Value} {D : DataW Unit} (h : Blk w g t cs) (ho : w.ownsMap Try.prog 65 (plainElem Try.prog 9) b n D) : g ≠ b := by
  obtain ⟨es, clock, hb, _⟩ := ho
  rintro rfl
  unfold Blk at h
  rw [h] at hb
  cases hb
theorem fkey_ne {a b : ByteArray} (ha : nameOk a = true) (hb : nameOk b = true) (h : a ≠ b) : fkey a ≠ fkey b := fun e => h (fkey_inj a b ha hb e)

set_option maxRecDepth 100000 in
theorem law07_last (a b t0 t1 t2 : ByteArray) (w : World) (ha : a.size ≤ 9223372036854775807) (hb : b.size ≤ 9223372036854775807) (h0 : t0.size ≤ 9223372036854775807) (h1 : t1.size ≤ 9223372036854775807) (h2 : t2.size ≤ 9223372036854775807) :
    Calls Try.prog 11 #[.string a, .string b, .agg #[.string t0, .string t1, .string t2]] w fun e w' => e = .returned (.bool true) ∧ Below w.heap.size w w' := by
  have NA := fun W => Lib.hid (ref07_name a W ha)
  have NB := fun W => Lib.hid (ref07_name b W hb)
  by_cases g1 : (200 : Int) < a.size
  ·
    go_enter Try.func11, Try.ntmps11
    go_wp2_with (first | (go_at_call 34; first | ((with_reducible refine (NA _).out.mono ?_); rintro e w' ⟨rfl, rfl⟩) | ((with_reducible refine (NB _).out.mono ?_); rintro e w' ⟨rfl, rfl⟩)))
    refine (law07_wakes _).mono ?_
    rintro e w1 ⟨rfl, hk⟩
    go_wp2_with fail
    go_ret
    exact ⟨rfl, ((Below.refl _ _).alloc (Nat.le_refl _) _).trans (hk.mono (by simp))⟩
  have g1 : (a.size : Int) ≤ 200 := by omega
  by_cases g2 : (200 : Int) < b.size
  ·
    go_enter Try.func11, Try.ntmps11
    go_wp2_with (first | (go_at_call 34; first | ((with_reducible refine (NA _).out.mono ?_); rintro e w' ⟨rfl, rfl⟩) | ((with_reducible refine (NB _).out.mono ?_); rintro e w' ⟨rfl, rfl⟩)))
    refine (law07_wakes _).mono ?_
    rintro e w1 ⟨rfl, hk⟩
    go_wp2_with fail
    go_ret
    exact ⟨rfl, ((Below.refl _ _).alloc (Nat.le_refl _) _).trans (hk.mono (by simp))⟩
  have g2 : (b.size : Int) ≤ 200 := by omega
  cases g3 : nameOk a
  · rw [g3] at NA
    clear g3
    go_enter Try.func11, Try.ntmps11
    go_wp2_with (first | (go_at_call 34; first | ((with_reducible refine (NA _).out.mono ?_); rintro e w' ⟨rfl, rfl⟩) | ((with_reducible refine (NB _).out.mono ?_); rintro e w' ⟨rfl, rfl⟩)))
    refine (law07_wakes _).mono ?_
    rintro e w1 ⟨rfl, hk⟩
    go_wp2_with fail
    go_ret
    exact ⟨rfl, ((Below.refl _ _).alloc (Nat.le_refl _) _).trans (hk.mono (by simp))⟩
  cases g4 : nameOk b
  · rw [g3] at NA
    rw [g4] at NB
    clear g3 g4
    go_enter Try.func11, Try.ntmps11
    go_wp2_with (first | (go_at_call 34; first | ((with_reducible refine (NA _).out.mono ?_); rintro e w' ⟨rfl, rfl⟩) | ((with_reducible refine (NB _).out.mono ?_); rintro e w' ⟨rfl, rfl⟩)))
    refine (law07_wakes _).mono ?_
    rintro e w1 ⟨rfl, hk⟩
    go_wp2_with fail
    go_ret
    exact ⟨rfl, ((Below.refl _ _).alloc (Nat.le_refl _) _).trans (hk.mono (by simp))⟩
  rw [g3] at NA
  rw [g4] at NB
  have g3 := Lib.hid g3
  have g4 := Lib.hid g4
  by_cases g5 : a = b
  · subst g5
    go_enter Try.func11, Try.ntmps11
    go_wp2_with (first | (go_at_call 34; first | ((with_reducible refine (NA _).out.mono ?_); rintro e w' ⟨rfl, rfl⟩) | ((with_reducible refine (NB _).out.mono ?_); rintro e w' ⟨rfl, rfl⟩)))
    refine (law07_wakes _).mono ?_
    rintro e w1 ⟨rfl, hk⟩
    go_wp2_with fail
    go_ret
    exact ⟨rfl, ((Below.refl _ _).alloc (Nat.le_refl _) _).trans (hk.mono (by simp))⟩
  have g6 : (a.toList == b.toList) = false := by
    rw [beq_eq_false_iff_ne]
    intro h
    rw [ByteArray.toList_eq, ByteArray.toList_eq] at h
    exact g5 (ByteArray.ext (by simpa using congrArg List.toArray h))
  have g5 := Lib.hid g5
  go_enter Try.func11, Try.ntmps11
  go_wp2_with (first | (go_at_call 34; first | ((with_reducible refine (NA _).out.mono ?_); rintro e w' ⟨rfl, rfl⟩) | ((with_reducible refine (NB _).out.mono ?_); rintro e w' ⟨rfl, rfl⟩)))
  go_loop [7] (fun i => ∃ k : Nat, i = .int .i64 k ∧ k ≤ 3 ∧ (0 < k → t0.size ≤ 131072) ∧ (1 < k → t1.size ≤ 131072) ∧ (2 < k → t2.size ≤ 131072)) (fun i => 3 - (intOf i).toNat)
  case atStart => exact ⟨0, rfl, by omega, by omega, by omega, by omega⟩
  case round =>
    obtain ⟨k, rfl, hk, f0, f1, f2⟩ := hrel
    have f0 := Lib.hid f0
    have f1 := Lib.hid f1
    have f2 := Lib.hid f2
    have hk4 : k = 0 ∨ k = 1 ∨ k = 2 ∨ k = 3 := by omega
    rcases hk4 with rfl | rfl | rfl | rfl
    · by_cases hl : (131072 : Int) < t0.size
      · go_wp2_with fail
        refine (law07_wakes _).mono ?_
        rintro e w1 ⟨rfl, hk⟩
        go_wp2_with fail
        go_ret
        exact ⟨rfl, ((Below.refl _ _).alloc (Nat.le_refl _) _).trans (hk.mono (by simp))⟩
      · have hl : (t0.size : Int) ≤ 131072 := by omega
        go_wp2_with fail
        go_round
        case rel => exact ⟨1, by go_num, by omega, fun _ => by omega, fun h => absurd h (by omega), fun h => absurd h (by omega)⟩
        case measure => simp [intOf]
    · by_cases hl : (131072 : Int) < t1.size
      · go_wp2_with fail
        refine (law07_wakes _).mono ?_
        rintro e w1 ⟨rfl, hk⟩
        go_wp2_with fail
        go_ret
        exact ⟨rfl, ((Below.refl _ _).alloc (Nat.le_refl _) _).trans (hk.mono (by simp))⟩
      · have hl : (t1.size : Int) ≤ 131072 := by omega
        go_wp2_with fail
        go_round
        case rel => exact ⟨2, by go_num, by omega, fun _ => f0.out (by omega), fun _ => by omega, fun h => absurd h (by omega)⟩
        case measure => simp [intOf]
    · by_cases hl : (131072 : Int) < t2.size
      · go_wp2_with fail
        refine (law07_wakes _).mono ?_
        rintro e w1 ⟨rfl, hk⟩
        go_wp2_with fail
        go_ret
        exact ⟨rfl, ((Below.refl _ _).alloc (Nat.le_refl _) _).trans (hk.mono (by simp))⟩
      · have hl : (t2.size : Int) ≤ 131072 := by omega
        go_wp2_with fail
        go_round
        case rel => exact ⟨3, by go_num, by omega, fun _ => f0.out (by omega), fun _ => f1.out (by omega), fun _ => by omega⟩
        case measure => simp [intOf]
    · have f0 : (t0.size : Int) ≤ 131072 := by have := f0.out (by omega); omega
      have f1 : (t1.size : Int) ≤ 131072 := by have := f1.out (by omega); omega
      have f2 : (t2.size : Int) ≤ 131072 := by have := f2.out (by omega); omega
      have N1 := Lib.hid (fkey_ne g3.out g4.out g5.out)
      have N2 := Lib.hid (fkey_ne g4.out g3.out (fun e => g5.out e.symm))
      go_wp2_with fail
      refine (store_new _).mono ?_
      rintro e w1 ⟨rfl, hw1⟩
      have B1 := Lib.hid (hw1 ▸ Blk.new (w.alloc (.cells #[.string t0, .string t1, .string t2] 43)) 63 #[.map none])
      have T1 := Lib.hid (hw1 ▸ (Blk.new w 43 #[.string t0, .string t1, .string t2]).alloc (.cells #[.map none] 63))
      have K1 : Below w.heap.size w w1 := hw1 ▸ ((Below.refl _ _).alloc (Nat.le_refl _) _).alloc (by simp) _
      have z1 : w.heap.size + 1 < w1.heap.size := by have := B1.out.lt; simpa using this
      clear hw1
      simp only [World.size_alloc] at B1
      obtain ⟨c0, c1, c2⟩ := blk3 T1.out
      go_wp2_with fail
      refine (store_put_nil _ _ _ _ ha B1.out g3.out f0).mono ?_
      rintro e w2 ⟨rfl, m, hB2, ho2, hm2, hk2⟩
      have B2 := Lib.hid hB2
      have O2 := Lib.hid ho2
      have T2 := Lib.hid (T1.out.kept hk2 ⟨by omega, by omega⟩)
      have K2 : Below w.heap.size w w2 := K1.trans (hk2.to_below (fun k h => ⟨by omega, by omega⟩))
      have z2 := hk2.size
      have y2 : w.heap.size ≤ m := by omega
      clear hB2 ho2 hk2 c0 c1 c2
      obtain ⟨c0, c1, c2⟩ := blk3 T2.out
      go_wp2_with fail
      refine (store_put_some _ _ _ _ _ _ _ hb (B2.out.cell 0) O2.out g4.out (by omega) (Or.inr (by rw [size_put tidy_empty, show has (DataW.map [] : DataW Unit) (fkey a) = false from rfl]; decide)) (by decide)).mono ?_
      rintro e w3 ⟨rfl, ho3, hk3⟩
      have n3 := own_ne B2.out O2.out
      have x3 := own_ne T2.out O2.out
      have B3 := Lib.hid (B2.out.kept hk3 ⟨B2.out.lt, n3⟩)
      have O3 := Lib.hid ho3
      have T3 := Lib.hid (T2.out.kept hk3 ⟨by omega, x3⟩)
      have K3 : Below w.heap.size w w3 := K2.trans (hk3.to_below (fun k h => ⟨by omega, by omega⟩))
      have z3 := hk3.size
      clear ho3 hk3 n3 x3 c0 c1 c2
      obtain ⟨c0, c1, c2⟩ := blk3 T3.out
      go_wp2_with fail
      refine (store_put_some _ _ _ _ _ _ _ ha (B3.out.cell 0) O3.out g3.out (by omega) (Or.inl (by rw [has_put_other N1.out, has_put_same isMap_empty (fkey_key a)])) (by decide)).mono ?_
      rintro e w4 ⟨rfl, ho4, hk4⟩
      have n3 := own_ne B3.out O3.out
      have x3 := own_ne T3.out O3.out
      have B4 := Lib.hid (B3.out.kept hk4 ⟨B3.out.lt, n3⟩)
      have O4 := Lib.hid ho4
      have T4 := Lib.hid (T3.out.kept hk4 ⟨by omega, x3⟩)
      have K4 : Below w.heap.size w w4 := K3.trans (hk4.to_below (fun k h => ⟨by omega, by omega⟩))
      have z4 := hk4.size
      clear ho4 hk4 n3 x3 c0 c1 c2
      obtain ⟨c0, c1, c2⟩ := blk3 T4.out
      have D2 : IsMap ((DataW.put (.map []) (fkey a) (text t0)).put (fkey b) (text t1)) := (isMap_empty.put _ _).put _ _
      generalize hD2 : (DataW.put (.map []) (fkey a) (text t0)).put (fkey b) (text t1) = E2 at *
      have q1 : has (E2.put (fkey a) (text t2)) (fkey a) = true := has_put_same D2 (fkey_key a) _
      have q2 : ∀ v, (E2.put (fkey a) (text t2)).atKey (fkey a) (text ⟨#[]⟩) = text v → v = t2 := fun v hv => got_same D2 a t2 v hv
      have q3 : has (E2.put (fkey a) (text t2)) (fkey b) = true := by rw [has_put_other N2.out, ← hD2, has_put_same (isMap_empty.put _ _) (fkey_key b)]
      have q4 : ∀ v, (E2.put (fkey a) (text t2)).atKey (fkey b) (text ⟨#[]⟩) = text v → v = t1 := fun v hv => by
        rw [atKey_put_other N2.out, ← hD2] at hv; exact got_same (isMap_empty.put _ _) b t1 v hv
      have M4 := Lib.hid (D2.put (fkey a) (text t2))
      have q1 := Lib.hid q1
      have q2 := Lib.hid q2
      have q3 := Lib.hid q3
      have q4 := Lib.hid q4
      clear hD2 D2 O2 O3
      generalize E2.put (fkey a) (text t2) = D4 at *
      have q5 : RowKit.Hid (has (D4.del (fkey a)) (fkey a) = false) := Lib.hid has_del_same
      have q6 : RowKit.Hid (has (D4.del (fkey a)) (fkey b) = true) := Lib.hid (by rw [has_del_other N2.out]; exact q3.out)
      have q7 : RowKit.Hid (∀ v, (D4.del (fkey a)).atKey (fkey b) (text ⟨#[]⟩) = text v → v = t1) := Lib.hid (fun v hv => by rw [atKey_del_other N2.out] at hv; exact q4.out v hv)
      generalize hn : 1 + 1 + 1 = n at *
      clear hn
      go_wp2_with fail
      refine (store_get _ _ n (.map (some m)) D4 _ ha B4.out (Or.inr ⟨m, rfl, O4.out⟩) g3.out).mono ?_
      rintro e w5 ⟨⟨v1, rfl, hv⟩, hk5⟩
      obtain rfl := q2.out _ hv
      rw [q1.out]
      have B5 := Lib.hid (B4.out.below hk5 B4.out.lt)
      have T5 := Lib.hid (T4.out.below hk5 T4.out.lt)
      have O5 : RowKit.Hid (MapIs w5 (.map (some m)) n D4) := Lib.hid (MapIs.kept (w := w4) (Or.inr ⟨m, rfl, O4.out⟩) ((Kept.refl (fun k => k < w4.heap.size) w4).below hk5 (fun k h => h)) (fun b h => by injection h with h; subst h; exact O4.out.lt))
      have K5 : Below w.heap.size w w5 := K4.trans (hk5.mono K4.size)
      have z5 := hk5.size
      clear hk5 hv c0 c1 c2
      obtain ⟨c0, c1, c2⟩ := blk3 T5.out
      go_wp2_with fail
      refine (store_get _ _ n (.map (some m)) D4 _ hb B5.out O5.out g4.out).mono ?_
      rintro e w6 ⟨⟨v2, rfl, hv⟩, hk6⟩
      obtain rfl := q4.out _ hv
      rw [q3.out]
      have B6 := Lib.hid (B5.out.below hk6 B5.out.lt)
      have T6 := Lib.hid (T5.out.below hk6 T5.out.lt)
      have O6 : RowKit.Hid (MapIs w6 (.map (some m)) n D4) := Lib.hid (O5.out.kept ((Kept.refl (fun k => k < w5.heap.size) w5).below hk6 (fun k h => h)) (fun b h => O5.out.lt h))
      have K6 : Below w.heap.size w w6 := K5.trans (hk6.mono K5.size)
      have z6 := hk6.size
      clear hk6 hv c0 c1 c2
      obtain ⟨c0, c1, c2⟩ := blk3 T6.out
      go_wp2_with fail
      refine (store_delete _ _ n (.map (some m)) D4 _ ha B6.out O6.out g3.out).mono ?_
      rintro e w7 ⟨rfl, o7, hk7⟩
      rw [q1.out]
      have n7 : w.heap.size + 1 ≠ m := own_ne B4.out O4.out
      have x7 : w.heap.size ≠ m := own_ne T4.out O4.out
      have O7 := Lib.hid o7
      have B7 := Lib.hid (B6.out.kept hk7 ⟨B6.out.lt, fun h => by injection h with h; omega⟩)
      have T7 := Lib.hid (T6.out.kept hk7 ⟨T6.out.lt, fun h => by injection h with h; omega⟩)
      have K7 : Below w.heap.size w w7 := K6.trans (hk7.to_below (fun k h => ⟨by omega, fun h' => by injection h' with h'; omega⟩))
      have z7 := hk7.size
      clear hk7 o7 c0 c1 c2
      obtain ⟨c0, c1, c2⟩ := blk3 T7.out
      go_wp2_with fail
      refine (store_get _ _ n (.map (some m)) _ _ ha B7.out O7.out g3.out).mono ?_
      rintro e w8 ⟨⟨v3, rfl, hv⟩, hk8⟩
      rw [q5.out]
      have B8 := Lib.hid (B7.out.below hk8 B7.out.lt)
      have T8 := Lib.hid (T7.out.below hk8 T7.out.lt)
      have O8 := Lib.hid (O7.out.kept ((Kept.refl (fun k => k < w7.heap.size) w7).below hk8 (fun k h => h)) (fun b h => O7.out.lt h))
      have K8 : Below w.heap.size w w8 := K7.trans (hk8.mono K7.size)
      have z8 := hk8.size
      clear hk8 hv c0 c1 c2
      obtain ⟨c0, c1, c2⟩ := blk3 T8.out
      go_wp2_with fail
      refine (store_get _ _ n (.map (some m)) _ _ hb B8.out O8.out g4.out).mono ?_
      rintro e w9 ⟨⟨v4, rfl, hv⟩, hk9⟩
      obtain rfl := q7.out _ hv
      rw [q6.out]
      have B9 := Lib.hid (B8.out.below hk9 B8.out.lt)
      have T9 := Lib.hid (T8.out.below hk9 T8.out.lt)
      have O9 := Lib.hid (O8.out.kept ((Kept.refl (fun k => k < w8.heap.size) w8).below hk9 (fun k h => h)) (fun b h => O8.out.lt h))
      have K9 : Below w.heap.size w w9 := K8.trans (hk9.mono K8.size)
      have z9 := hk9.size
      clear hk9 hv c0 c1 c2
      obtain ⟨c0, c1, c2⟩ := blk3 T9.out
      go_wp2_with fail
      refine (store_delete _ _ n (.map (some m)) _ _ ha B9.out O9.out g3.out).mono ?_
      rintro e w10 ⟨rfl, o10, hk10⟩
      rw [q5.out]
      have K10 : Below w.heap.size w w10 := K9.trans (hk10.to_below (fun k h => ⟨by omega, fun h' => by injection h' with h'; omega⟩))
      go_wp2_with fail
      refine (law07_wakes _).mono ?_
      rintro e w11 ⟨rfl, hk11⟩
      go_wp2_with fail
      go_ret
      exact ⟨rfl, K10.trans (hk11.mono K10.size)⟩

end Go.Proofs.Ytbnlfopghmeacaa
