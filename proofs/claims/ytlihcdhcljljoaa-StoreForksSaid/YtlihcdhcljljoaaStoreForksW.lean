/-
  The statement StoreForks: its walk, out of the contracts.
-/
import Derived.Test.YtlihcdhcljljoaaStoreNone
namespace Go.Proofs.Ytlihcdhcljljoaa
set_option linter.unusedVariables false
set_option linter.unusedSimpArgs false
open Go.RowKit Go.Maps Go.WideMaps

theorem blk2 {w : World} {g : Nat} {t : TypeId} {x y : Value} (h : Blk w g t #[x, y]) : w.cell? ⟨g, 0, none⟩ = some x ∧ w.cell? ⟨g, 1, none⟩ = some y := ⟨h.cell 0, h.cell 1⟩
theorem list_ne {a b : ByteArray} (h : a ≠ b) : (a.toList == b.toList) = false := by
  rw [beq_eq_false_iff_ne]
  intro h1
  rw [ByteArray.toList_eq, ByteArray.toList_eq] at h1
  exact h (ByteArray.ext (by simpa using congrArg List.toArray h1))

set_option maxRecDepth 100000 in
set_option maxHeartbeats 4000000 in
theorem law07_forks (a b t0 t1 : ByteArray) (w : World) (ha : a.size ≤ 9223372036854775807) (hb : b.size ≤ 9223372036854775807) (h0 : t0.size ≤ 9223372036854775807) (h1 : t1.size ≤ 9223372036854775807) :
    Calls Try.prog 11 #[.string a, .string b, .agg #[.string t0, .string t1]] w fun e w' => e = .returned (.bool true) ∧ Below w.heap.size w w' := by
  have NA := fun W => Lib.hid (ref07_name a W ha)
  have NB := fun W => Lib.hid (ref07_name b W hb)
  by_cases g1 : (200 : Int) < a.size
  · go_enter Try.func11, Try.ntmps11
    go_wp2_with (first | (go_at_call 40; first | ((with_reducible refine (NA _).out.mono ?_); rintro e w' ⟨rfl, rfl⟩) | ((with_reducible refine (NB _).out.mono ?_); rintro e w' ⟨rfl, rfl⟩)))
    refine (law07_wakes _).mono ?_
    rintro e w1 ⟨rfl, hk⟩
    go_wp2_with fail
    go_ret
    exact ⟨rfl, ((Below.refl _ _).alloc (Nat.le_refl _) _).trans (hk.mono (by simp))⟩
  have g1 : (a.size : Int) ≤ 200 := by omega
  by_cases g2 : (200 : Int) < b.size
  · go_enter Try.func11, Try.ntmps11
    go_wp2_with (first | (go_at_call 40; first | ((with_reducible refine (NA _).out.mono ?_); rintro e w' ⟨rfl, rfl⟩) | ((with_reducible refine (NB _).out.mono ?_); rintro e w' ⟨rfl, rfl⟩)))
    refine (law07_wakes _).mono ?_
    rintro e w1 ⟨rfl, hk⟩
    go_wp2_with fail
    go_ret
    exact ⟨rfl, ((Below.refl _ _).alloc (Nat.le_refl _) _).trans (hk.mono (by simp))⟩
  have g2 : (b.size : Int) ≤ 200 := by omega
  cases g3 : nameOk a
  · rw [g3] at NA
    clear g3
    go_enter Try.func11, Try.ntmps11
    go_wp2_with (first | (go_at_call 40; first | ((with_reducible refine (NA _).out.mono ?_); rintro e w' ⟨rfl, rfl⟩) | ((with_reducible refine (NB _).out.mono ?_); rintro e w' ⟨rfl, rfl⟩)))
    refine (law07_wakes _).mono ?_
    rintro e w1 ⟨rfl, hk⟩
    go_wp2_with fail
    go_ret
    exact ⟨rfl, ((Below.refl _ _).alloc (Nat.le_refl _) _).trans (hk.mono (by simp))⟩
  cases g4 : nameOk b
  · rw [g3] at NA
    rw [g4] at NB
    clear g3 g4
    go_enter Try.func11, Try.ntmps11
    go_wp2_with (first | (go_at_call 40; first | ((with_reducible refine (NA _).out.mono ?_); rintro e w' ⟨rfl, rfl⟩) | ((with_reducible refine (NB _).out.mono ?_); rintro e w' ⟨rfl, rfl⟩)))
    refine (law07_wakes _).mono ?_
    rintro e w1 ⟨rfl, hk⟩
    go_wp2_with fail
    go_ret
    exact ⟨rfl, ((Below.refl _ _).alloc (Nat.le_refl _) _).trans (hk.mono (by simp))⟩
  rw [g3] at NA
  rw [g4] at NB
  have g3 := Lib.hid g3
  have g4 := Lib.hid g4
  by_cases f0 : (131072 : Int) < t0.size
  · go_enter Try.func11, Try.ntmps11
    go_wp2_with (first | (go_at_call 40; first | ((with_reducible refine (NA _).out.mono ?_); rintro e w' ⟨rfl, rfl⟩) | ((with_reducible refine (NB _).out.mono ?_); rintro e w' ⟨rfl, rfl⟩)))
    refine (law07_wakes _).mono ?_
    rintro e w1 ⟨rfl, hk⟩
    go_wp2_with fail
    go_ret
    exact ⟨rfl, ((Below.refl _ _).alloc (Nat.le_refl _) _).trans (hk.mono (by simp))⟩
  have f0 : (t0.size : Int) ≤ 131072 := by omega
  by_cases f1 : (131072 : Int) < t1.size
  · go_enter Try.func11, Try.ntmps11
    go_wp2_with (first | (go_at_call 40; first | ((with_reducible refine (NA _).out.mono ?_); rintro e w' ⟨rfl, rfl⟩) | ((with_reducible refine (NB _).out.mono ?_); rintro e w' ⟨rfl, rfl⟩)))
    refine (law07_wakes _).mono ?_
    rintro e w1 ⟨rfl, hk⟩
    go_wp2_with fail
    go_ret
    exact ⟨rfl, ((Below.refl _ _).alloc (Nat.le_refl _) _).trans (hk.mono (by simp))⟩
  have f1 : (t1.size : Int) ≤ 131072 := by omega
  go_enter Try.func11, Try.ntmps11
  go_wp2_with (first | (go_at_call 40; first | ((with_reducible refine (NA _).out.mono ?_); rintro e w' ⟨rfl, rfl⟩) | ((with_reducible refine (NB _).out.mono ?_); rintro e w' ⟨rfl, rfl⟩)))
  refine (store_new _).mono ?_
  rintro e w1 ⟨rfl, hw1⟩
  have B1 := Lib.hid (hw1 ▸ Blk.new (w.alloc (.cells #[.string t0, .string t1] 86)) 99 #[.map none])
  have T1 := Lib.hid (hw1 ▸ (Blk.new w 86 #[.string t0, .string t1]).alloc (.cells #[.map none] 99))
  have K1 : Below w.heap.size w w1 := hw1 ▸ ((Below.refl _ _).alloc (Nat.le_refl _) _).alloc (by simp) _
  have z1 : w.heap.size + 1 < w1.heap.size := by have := B1.out.lt; simpa using this
  clear hw1
  simp only [World.size_alloc] at B1
  obtain ⟨c0, c1⟩ := blk2 T1.out
  go_wp2_with fail
  refine (store_put_nil _ _ _ _ ha B1.out g3.out f0).mono ?_
  rintro e w2 ⟨rfl, m, hB2, ho2, hm2, hk2⟩
  have B2 := Lib.hid hB2
  have O2 := Lib.hid ho2
  have T2 := Lib.hid (T1.out.kept hk2 ⟨by omega, by omega⟩)
  have K2 : Below w.heap.size w w2 := K1.trans (hk2.to_below (fun k h => ⟨by omega, by omega⟩))
  have z2 := hk2.size
  have y2 : w.heap.size ≤ m := by omega
  clear hB2 ho2 hk2 c0 c1
  obtain ⟨c0, c1⟩ := blk2 T2.out
  have hN : Named (DataW.put (.map []) (fkey a) (text t0)) := named_put named_empty g3.out _
  have hS : Maps.size (DataW.put (.map []) (fkey a) (text t0) : DataW Unit) = 1 := by rw [size_put tidy_empty, show has (DataW.map [] : DataW Unit) (fkey a) = false from rfl]; rfl
  have q1 : has (DataW.put (.map []) (fkey a) (text t0) : DataW Unit) (fkey a) = true := has_put_same isMap_empty (fkey_key a) _
  have q2 : ∀ v, (DataW.put (.map []) (fkey a) (text t0) : DataW Unit).atKey (fkey a) (text ⟨#[]⟩) = text v → v = t0 := fun v hv => got_same isMap_empty a t0 v hv
  have q3 : fkey b ≠ fkey a → has (DataW.put (.map []) (fkey a) (text t0) : DataW Unit) (fkey b) = false := fun h => by rw [has_put_other h]; rfl
  have q4 : IsMap (DataW.put (.map []) (fkey a) (text t0) : DataW Unit) := isMap_empty.put _ _
  have hT : Tidy (DataW.put (.map []) (fkey a) (text t0) : DataW Unit) := tidy_empty.put (fkey_key a) _
  have hN := Lib.hid hN
  have hS := Lib.hid hS
  have q1 := Lib.hid q1
  have q2 := Lib.hid q2
  have q3 := Lib.hid q3
  generalize (DataW.put (.map []) (fkey a) (text t0) : DataW Unit) = D at *
  have m2 := O2.out.lt
  go_wp2_with fail
  refine (store_fork _ _ _ _ _ B2.out O2.out hN.out (by rw [hS.out]; decide)).mono ?_
  rintro e w3 ⟨q, mq, rfl, hBq, hOq, lq, lm, nq, hb3⟩
  have B3 := Lib.hid (B2.out.below hb3 B2.out.lt)
  have T3 := Lib.hid (T2.out.below hb3 T2.out.lt)
  have O3 : RowKit.Hid (w3.ownsMap Try.prog 101 (plainElem Try.prog 9) m _ D) := Lib.hid (O2.out.kept (row := none) ⟨hb3.os, hb3.tape, hb3.output, hb3.size, fun k hk _ => hb3.block k hk⟩ (by simp))
  have BQ := Lib.hid hBq
  have OQ := Lib.hid hOq
  have K3 := K2.trans (hb3.mono K2.size)
  have z3 := hb3.size
  have p2 := B2.out.lt
  clear hb3 hBq hOq c0 c1
  obtain ⟨c0, c1⟩ := blk2 T3.out
  have M3 : RowKit.Hid (MapIs w3 (.map (some m)) 1 D) := Lib.hid (Or.inr ⟨m, rfl, O3.out⟩)
  have r1 : has (D.put (fkey b) (text t1)) (fkey a) = true := by
    by_cases e : fkey a = fkey b
    · rw [e]; exact has_put_same q4 (fkey_key b) _
    · rw [has_put_other e]; exact q1.out
  have r2 : ∀ v, (D.put (fkey b) (text t1)).atKey (fkey a) (text ⟨#[]⟩) = text v → (a = b → v = t1) ∧ (a ≠ b → v = t0) := fun v hv => by
    refine ⟨fun e => ?_, fun e => ?_⟩
    · subst e; exact got_same q4 a t1 v hv
    · rw [atKey_put_other (fkey_ne g3.out g4.out e)] at hv; exact q2.out v hv
  have r3 : has (D.put (fkey b) (text t1)) (fkey b) = true := has_put_same q4 (fkey_key b) _
  have r4 : ∀ v, (D.put (fkey b) (text t1)).atKey (fkey b) (text ⟨#[]⟩) = text v → v = t1 := fun v hv => got_same q4 b t1 v hv
  have r5 : has (D.del (fkey a)) (fkey b) = false := by
    by_cases e : fkey b = fkey a
    · rw [e]; exact has_del_same
    · rw [has_del_other e]; exact q3.out e
  have r6 : Maps.size (D.del (fkey a)) = 0 := by
    have := size_del (k := fkey a) hT
    rw [q1.out, hS.out, if_pos rfl] at this
    omega
  have r1 := Lib.hid r1
  have r2 := Lib.hid r2
  have r3 := Lib.hid r3
  have r4 := Lib.hid r4
  have r5 := Lib.hid r5
  have r6 := Lib.hid r6
  go_wp2_with fail
  refine (store_put_some _ _ _ _ _ _ _ hb (BQ.out.cell 0) OQ.out g4.out (by omega) (Or.inr (by rw [hS.out]; decide)) (by rw [hS.out]; decide)).mono ?_
  rintro e w4 ⟨rfl, ho4, hk4⟩
  have hqe : q < w3.heap.size := BQ.out.lt
  have B4 := Lib.hid (B3.out.kept hk4 ⟨B3.out.lt, by omega⟩)
  have T4 := Lib.hid (T3.out.kept hk4 ⟨T3.out.lt, by omega⟩)
  have M4 : RowKit.Hid (MapIs w4 (.map (some m)) 1 D) := Lib.hid (M3.out.kept hk4 (fun k h => by injection h with h; subst h; exact ⟨M3.out.lt rfl, by omega⟩))
  have BQ4 := Lib.hid (BQ.out.kept hk4 ⟨BQ.out.lt, nq⟩)
  have MQ4 : RowKit.Hid (MapIs w4 (.map (some mq)) (Maps.size D + 1) (D.put (fkey b) (text t1))) := Lib.hid (Or.inr ⟨mq, rfl, ho4⟩)
  have K4 : Below w.heap.size w w4 := K3.trans (hk4.to_below (fun k h => ⟨by omega, by omega⟩))
  have z4 := hk4.size
  clear ho4 hk4 c0 c1 q1 q2 q3 O2 O3 M3 OQ BQ B3 T3 hN
  obtain ⟨c0, c1⟩ := blk2 T4.out
  generalize hD1 : D.put (fkey b) (text t1) = D1 at *
  have hm' := Lib.hid M4.out.tidy
  have q1 : has D (fkey a) = true := by
    cases h : has D (fkey a) with
    | true => rfl
    | false =>
      have := size_del (k := fkey a) hT
      rw [h, hS.out, r6.out] at this
      simp at this
  have q1 := Lib.hid q1
  go_wp2_with fail
  refine (store_delete _ _ 1 (.map (some m)) D _ ha B4.out M4.out g3.out).mono ?_
  rintro e w5 ⟨rfl, hm5, hk5⟩
  rw [q1.out]
  have B5 := Lib.hid (B4.out.kept hk5 ⟨B4.out.lt, fun h => by injection h with h; omega⟩)
  have T5 := Lib.hid (T4.out.kept hk5 ⟨T4.out.lt, fun h => by injection h with h; omega⟩)
  have BQ5 := Lib.hid (BQ4.out.kept hk5 ⟨BQ4.out.lt, fun h => by injection h with h; omega⟩)
  have MQ5 := Lib.hid (MQ4.out.kept hk5 (fun k h => by have hl := MQ4.out.lt h; injection h with h; subst h; exact ⟨hl, fun h' => by injection h' with h'; omega⟩))
  have M5 := Lib.hid hm5
  have K5 : Below w.heap.size w w5 := K4.trans (hk5.to_below (fun k h => ⟨by omega, fun h' => by injection h' with h'; omega⟩))
  clear hm5 hk5 c0 c1 B4 T4 BQ4 MQ4 M4
  obtain ⟨c0, c1⟩ := blk2 T5.out
  generalize D.del (fkey a) = D0 at *
  generalize Maps.size D + 1 = nq1 at *
  go_wp2_with fail
  refine (store_get _ _ nq1 (.map (some mq)) D1 _ ha BQ5.out MQ5.out g3.out).mono ?_
  rintro e w6 ⟨⟨v1, rfl, hv⟩, hk6⟩
  have rv := Lib.hid (r2.out v1 hv)
  rw [r1.out]
  have B6 := Lib.hid (B5.out.below hk6 B5.out.lt)
  have T6 := Lib.hid (T5.out.below hk6 T5.out.lt)
  have BQ6 := Lib.hid (BQ5.out.below hk6 BQ5.out.lt)
  have MQ6 := Lib.hid (MQ5.out.kept ((Kept.refl (fun k => k < w5.heap.size) w5).below hk6 (fun k h => h)) (fun b h => MQ5.out.lt h))
  have M6 := Lib.hid (M5.out.kept ((Kept.refl (fun k => k < w5.heap.size) w5).below hk6 (fun k h => h)) (fun b h => M5.out.lt h))
  have K6 : Below w.heap.size w w6 := K5.trans (hk6.mono K5.size)
  clear hk6 hv c0 c1 B5 T5 BQ5 MQ5 M5
  obtain ⟨c0, c1⟩ := blk2 T6.out
  go_wp2_with fail
  refine (store_get _ _ nq1 (.map (some mq)) D1 _ hb BQ6.out MQ6.out g4.out).mono ?_
  rintro e w7 ⟨⟨v2, rfl, hv⟩, hk7⟩
  obtain rfl := r4.out v2 hv
  rw [r3.out]
  have B7 := Lib.hid (B6.out.below hk7 B6.out.lt)
  have T7 := Lib.hid (T6.out.below hk7 T6.out.lt)
  have M7 := Lib.hid (M6.out.kept ((Kept.refl (fun k => k < w6.heap.size) w6).below hk7 (fun k h => h)) (fun b h => M6.out.lt h))
  have K7 : Below w.heap.size w w7 := K6.trans (hk7.mono K6.size)
  clear hk7 hv c0 c1 B6 T6 BQ6 MQ6 M6
  obtain ⟨c0, c1⟩ := blk2 T7.out
  go_wp2_with fail
  refine (store_get _ _ 1 (.map (some m)) D0 _ hb B7.out M7.out g4.out).mono ?_
  rintro e w8 ⟨⟨v3, rfl, hv⟩, hk8⟩
  rw [r5.out]
  have B8 := Lib.hid (B7.out.below hk8 B7.out.lt)
  have T8 := Lib.hid (T7.out.below hk8 T7.out.lt)
  have M8 := Lib.hid (M7.out.kept ((Kept.refl (fun k => k < w7.heap.size) w7).below hk8 (fun k h => h)) (fun b h => M7.out.lt h))
  have K8 : Below w.heap.size w w8 := K7.trans (hk8.mono K7.size)
  clear hk8 hv c0 c1 B7 T7 M7
  obtain ⟨c0, c1⟩ := blk2 T8.out
  have NN := fun W (hB : Blk W (w.heap.size + 1) 99 #[.map (some m)]) (ho : W.ownsMap Try.prog 101 (plainElem Try.prog 9) m 1 D0) => Lib.hid (names_none (w.heap.size + 1) m 1 D0 W hB ho r6.out)
  have O8 : RowKit.Hid (w8.ownsMap Try.prog 101 (plainElem Try.prog 9) m 1 D0) := Lib.hid (by
    rcases M8.out with ⟨h, _⟩ | ⟨b', h, h2⟩
    · cases h
    · injection h with h; injection h with h; subst h; exact h2)
  have NN := Lib.hid (NN w8 B8.out O8.out)
  by_cases hab : a = b
  · subst hab
    have hv1 := rv.out.1 rfl
    subst hv1
    clear rv
    go_wp2_with fail
    refine NN.out.out.mono ?_
    rintro e w9 ⟨rfl, hb9⟩
    have K9 := K8.trans (hb9.mono K8.size)
    go_wp2_with fail
    refine (law07_wakes _).mono ?_
    rintro e w10 ⟨rfl, hb10⟩
    go_wp2_with fail
    go_ret
    exact ⟨rfl, K9.trans (hb10.mono K9.size)⟩
  · have hv1 := rv.out.2 hab
    have hne := list_ne hab
    subst hv1
    clear rv hab
    go_wp2_with fail
    refine NN.out.out.mono ?_
    rintro e w9 ⟨rfl, hb9⟩
    have K9 := K8.trans (hb9.mono K8.size)
    go_wp2_with fail
    refine (law07_wakes _).mono ?_
    rintro e w10 ⟨rfl, hb10⟩
    go_wp2_with fail
    go_ret
    exact ⟨rfl, K9.trans (hb10.mono K9.size)⟩

end Go.Proofs.Ytlihcdhcljljoaa
