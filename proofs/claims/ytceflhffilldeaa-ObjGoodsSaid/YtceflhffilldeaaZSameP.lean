/-
  The library's Equal at the program's types, and the program's Same, walked.
-/
import Derived.Test.YtceflhffilldeaaZKept
import Derived.Test.YtceflhffilldeaaZObjM
import Derived.Deep.CutBlock
namespace Go.Proofs.Ytceflhffilldeaa
set_option linter.unusedVariables false
set_option linter.unusedSimpArgs false
open Go.RowKit ObjL

theorem drewN_add (w : World) (a b : Nat) : (w.drewN a).drewN b = w.drewN (a + b) := by
  unfold World.drewN
  simp [Nat.add_assoc]
theorem sl_same (a b : ByteArray) : (a.toList == b.toList) = true ↔ a = b := by
  rw [beq_iff_eq, ByteArray.toList_eq, ByteArray.toList_eq]
  exact ⟨fun h => ByteArray.ext (Array.toList_inj.1 h), fun h => by rw [h]⟩
theorem list_ne_at2 {α : Type} [DecidableEq α] {z : α} {l m : List α} {k : Nat} (h : l.getD k z ≠ m.getD k z) : false = decide (l = m) := by
  rw [eq_comm, decide_eq_false_iff_not]
  rintro rfl
  exact h rfl
theorem list_eq_at2 {α : Type} [DecidableEq α] {z : α} {l m : List α} (h : l.length = m.length) (hj : ∀ j, j < l.length → l.getD j z = m.getD j z) : true = decide (l = m) := by
  rw [eq_comm, decide_eq_true_eq]
  apply List.ext_getElem h
  intro i h1 h2
  have := hj i h1
  simpa [List.getD, h1, h2] using this

set_option maxRecDepth 100000 in
theorem sl_eq_u32 (v u : Value) (l m : List Int) (w : World) (hl : Row .u32 w v l) (hm : Row .u32 w u m) :
    Calls Try.prog 78 #[v, u] w fun e w' => e = .returned (.bool (decide (l = m))) ∧ ∃ q, w' = w.drewN q := by
  obtain ⟨hl1, A, c, rfl, hc⟩ := hl
  obtain ⟨hm1, B, d, rfl, hd⟩ := hm
  have hc := Lib.hid hc
  have hd := Lib.hid hd
  by_cases hn : l.length = m.length
  · have hn' := Lib.hid hn
    have e1 : ((l.length : Int) != (m.length : Int)) = false := by rw [hn]; simp
    clear hn
    go_enter Try.func78, Try.ntmps78
    go_wp2_with fail
    go_loopw [13] (fun i wr => ∃ k : Nat, i = .int .i64 k ∧ k ≤ l.length ∧ (∀ j, j < k → l.getD j 0 = m.getD j 0) ∧ ∃ q, wr = w.drewN q) (fun i _ => l.length - (intOf i).toNat)
    case atStart => exact ⟨0, rfl, by omega, fun j hj => by omega, ⟨0, rfl⟩⟩
    case round =>
      obtain ⟨k, rfl, hk, hj, hw⟩ := hrel
      have hj := Lib.hid hj
      have hw := Lib.hid hw
      by_cases hlt : (k : Int) < (l.length : Int)
      · obtain ⟨ad, rfl, -, x1⟩ := hc.out k (by omega)
        obtain ⟨bd, rfl, -, x2⟩ := hd.out k (by have := hn'.out; omega)
        have x3 : wr.cell? (ad.add k) = some (.int .u32 (l.getD k 0)) := by obtain ⟨q, rfl⟩ := hw.out; exact x1
        have x4 : wr.cell? (bd.add k) = some (.int .u32 (m.getD k 0)) := by obtain ⟨q, rfl⟩ := hw.out; exact x2
        clear x1 x2
        have b2 : (k : Int) < (m.length : Int) := by have := hn'.out; omega
        have x3 : wr.drew.cell? (ad.add k) = some (.int .u32 (l.getD k 0)) := x3
        have x4 : wr.drew.cell? (bd.add k) = some (.int .u32 (m.getD k 0)) := x4
        have hK : RowKit.Hid (∃ q, wr.drew = w.drewN q) := Lib.hid (by obtain ⟨q, rfl⟩ := hw.out; exact ⟨q + 1, rfl⟩)
        by_cases heq : l.getD k 0 = m.getD k 0
        · have heq' := Lib.hid heq
          have e2 : (l.getD k 0 != m.getD k 0) = false := by rw [heq]; simp
          clear heq
          generalize hla : l.getD k 0 = la at *
          generalize hma : m.getD k 0 = ma at *
          have hla := Lib.hid hla
          have hma := Lib.hid hma
          go_wp2_with fail
          refine region_drew 8 (by kernel_rfl) (by kernel_rfl) ?_
          simp only [List.take_succ_cons, List.take_zero, List.drop_succ_cons, List.drop_zero]
          repeat still_step
          refine wpStill_nil ?_
          generalize wr.drew = W at *
          go_wp2_with fail
          refine ⟨⟨k + 1, by go_num, by omega, fun j hj' => ?_, hK.out⟩, by simp [intOf]; omega⟩
          rcases Nat.lt_or_ge j k with h | h
          · exact hj.out j h
          · obtain rfl : j = k := by omega
            rw [hla.out, hma.out]; exact heq'.out
        · have heq' := Lib.hid heq
          have e2 : (l.getD k 0 != m.getD k 0) = true := by rw [bne_iff_ne]; exact heq
          clear heq
          generalize hla : l.getD k 0 = la at *
          generalize hma : m.getD k 0 = ma at *
          have hla := Lib.hid hla
          have hma := Lib.hid hma
          go_wp2_with fail
          refine region_drew 8 (by kernel_rfl) (by kernel_rfl) ?_
          simp only [List.take_succ_cons, List.take_zero, List.drop_succ_cons, List.drop_zero]
          repeat still_step
          refine wpStill_nil ?_
          generalize wr.drew = W at *
          go_wp2_with fail
          go_ret
          exact ⟨ret_b (list_ne_at (k := k) (by omega) (by omega) (by rw [hla.out, hma.out]; exact heq'.out)), hK.out⟩
      · go_wp2_with fail
        go_ret
        exact ⟨ret_b (list_eq_at hn'.out (fun j h => hj.out j (by omega))), hw.out⟩
  · go_enter Try.func78, Try.ntmps78
    have e1 : ((l.length : Int) != (m.length : Int)) = true := by rw [bne_iff_ne]; omega
    have hn := Lib.hid hn
    go_wp2_with fail
    go_ret
    exact ⟨ret_b (by rw [eq_comm, decide_eq_false_iff_not]; rintro rfl; exact hn.out rfl), ⟨0, rfl⟩⟩

set_option maxRecDepth 100000 in
theorem sl_eq_int (v u : Value) (l m : List Int) (w : World) (hl : Row .i64 w v l) (hm : Row .i64 w u m) :
    Calls Try.prog 79 #[v, u] w fun e w' => e = .returned (.bool (decide (l = m))) ∧ ∃ q, w' = w.drewN q := by
  obtain ⟨hl1, A, c, rfl, hc⟩ := hl
  obtain ⟨hm1, B, d, rfl, hd⟩ := hm
  have hc := Lib.hid hc
  have hd := Lib.hid hd
  by_cases hn : l.length = m.length
  · have hn' := Lib.hid hn
    have e1 : ((l.length : Int) != (m.length : Int)) = false := by rw [hn]; simp
    clear hn
    go_enter Try.func79, Try.ntmps79
    go_wp2_with fail
    go_loopw [13] (fun i wr => ∃ k : Nat, i = .int .i64 k ∧ k ≤ l.length ∧ (∀ j, j < k → l.getD j 0 = m.getD j 0) ∧ ∃ q, wr = w.drewN q) (fun i _ => l.length - (intOf i).toNat)
    case atStart => exact ⟨0, rfl, by omega, fun j hj => by omega, ⟨0, rfl⟩⟩
    case round =>
      obtain ⟨k, rfl, hk, hj, hw⟩ := hrel
      have hj := Lib.hid hj
      have hw := Lib.hid hw
      by_cases hlt : (k : Int) < (l.length : Int)
      · obtain ⟨ad, rfl, -, x1⟩ := hc.out k (by omega)
        obtain ⟨bd, rfl, -, x2⟩ := hd.out k (by have := hn'.out; omega)
        have x3 : wr.cell? (ad.add k) = some (.int .i64 (l.getD k 0)) := by obtain ⟨q, rfl⟩ := hw.out; exact x1
        have x4 : wr.cell? (bd.add k) = some (.int .i64 (m.getD k 0)) := by obtain ⟨q, rfl⟩ := hw.out; exact x2
        clear x1 x2
        have b2 : (k : Int) < (m.length : Int) := by have := hn'.out; omega
        have x3 : wr.drew.cell? (ad.add k) = some (.int .i64 (l.getD k 0)) := x3
        have x4 : wr.drew.cell? (bd.add k) = some (.int .i64 (m.getD k 0)) := x4
        have hK : RowKit.Hid (∃ q, wr.drew = w.drewN q) := Lib.hid (by obtain ⟨q, rfl⟩ := hw.out; exact ⟨q + 1, rfl⟩)
        by_cases heq : l.getD k 0 = m.getD k 0
        · have heq' := Lib.hid heq
          have e2 : (l.getD k 0 != m.getD k 0) = false := by rw [heq]; simp
          clear heq
          generalize hla : l.getD k 0 = la at *
          generalize hma : m.getD k 0 = ma at *
          have hla := Lib.hid hla
          have hma := Lib.hid hma
          go_wp2_with fail
          refine region_drew 8 (by kernel_rfl) (by kernel_rfl) ?_
          simp only [List.take_succ_cons, List.take_zero, List.drop_succ_cons, List.drop_zero]
          repeat still_step
          refine wpStill_nil ?_
          generalize wr.drew = W at *
          go_wp2_with fail
          refine ⟨⟨k + 1, by go_num, by omega, fun j hj' => ?_, hK.out⟩, by simp [intOf]; omega⟩
          rcases Nat.lt_or_ge j k with h | h
          · exact hj.out j h
          · obtain rfl : j = k := by omega
            rw [hla.out, hma.out]; exact heq'.out
        · have heq' := Lib.hid heq
          have e2 : (l.getD k 0 != m.getD k 0) = true := by rw [bne_iff_ne]; exact heq
          clear heq
          generalize hla : l.getD k 0 = la at *
          generalize hma : m.getD k 0 = ma at *
          have hla := Lib.hid hla
          have hma := Lib.hid hma
          go_wp2_with fail
          refine region_drew 8 (by kernel_rfl) (by kernel_rfl) ?_
          simp only [List.take_succ_cons, List.take_zero, List.drop_succ_cons, List.drop_zero]
          repeat still_step
          refine wpStill_nil ?_
          generalize wr.drew = W at *
          go_wp2_with fail
          go_ret
          exact ⟨ret_b (list_ne_at (k := k) (by omega) (by omega) (by rw [hla.out, hma.out]; exact heq'.out)), hK.out⟩
      · go_wp2_with fail
        go_ret
        exact ⟨ret_b (list_eq_at hn'.out (fun j h => hj.out j (by omega))), hw.out⟩
  · go_enter Try.func79, Try.ntmps79
    have e1 : ((l.length : Int) != (m.length : Int)) = true := by rw [bne_iff_ne]; omega
    have hn := Lib.hid hn
    go_wp2_with fail
    go_ret
    exact ⟨ret_b (by rw [eq_comm, decide_eq_false_iff_not]; rintro rfl; exact hn.out rfl), ⟨0, rfl⟩⟩

set_option maxRecDepth 100000 in
set_option maxHeartbeats 1000000 in
theorem sl_eq_used (v u : Value) (l m : List (List UInt8 × Int)) (w : World) (hl : URow w v l) (hm : URow w u m) :
    Calls Try.prog 77 #[v, u] w fun e w' => e = .returned (.bool (decide (l = m))) ∧ ∃ q, w' = w.drewN q := by
  obtain ⟨hl1, A, c, rfl, hc⟩ := hl
  obtain ⟨hm1, B, d, rfl, hd⟩ := hm
  have hc := Lib.hid hc
  have hd := Lib.hid hd
  by_cases hn : l.length = m.length
  · have hn' := Lib.hid hn
    have e1 : ((l.length : Int) != (m.length : Int)) = false := by rw [hn]; simp
    clear hn
    go_enter Try.func77, Try.ntmps77
    go_wp2_with fail
    go_loopw [13] (fun i wr => ∃ k : Nat, i = .int .i64 k ∧ k ≤ l.length ∧ (∀ j, j < k → l.getD j ([], 0) = m.getD j ([], 0)) ∧ ∃ q, wr = w.drewN q) (fun i _ => l.length - (intOf i).toNat)
    case atStart => exact ⟨0, rfl, by omega, fun j hj => by omega, ⟨0, rfl⟩⟩
    case round =>
      obtain ⟨k, rfl, hk, hj, hw⟩ := hrel
      have hj := Lib.hid hj
      have hw := Lib.hid hw
      by_cases hlt : (k : Int) < (l.length : Int)
      · have hkl : k < l.length := by omega
        have hkm : k < m.length := by have := hn'.out; omega
        obtain ⟨ad, rfl, -, x1⟩ := hc.out k hkl
        obtain ⟨bd, rfl, -, x2⟩ := hd.out k hkm
        obtain ⟨y0, x3, p0⟩ := x1 0 (by decide)
        obtain ⟨y1, x4, p1⟩ := x1 1 (by decide)
        obtain ⟨y2, x5, p2⟩ := x2 0 (by decide)
        obtain ⟨y3, x6, p3⟩ := x2 1 (by decide)
        obtain rfl := p0.1 rfl
        obtain rfl := p1.2 rfl
        obtain rfl := p2.1 rfl
        obtain rfl := p3.2 rfl
        have b2 : (k : Int) < (m.length : Int) := by omega
        have ela : l.getD k ([], 0) = l[k] := by simp [List.getD, hkl]
        have ema : m.getD k ([], 0) = m[k] := by simp [List.getD, hkm]
        have X3 : wr.cell? (ad.add (k * 2)) = some (.string (txt l[k].1)) := by obtain ⟨q, rfl⟩ := hw.out; exact x3
        have X4 : wr.cell? ⟨(ad.add (k * 2)).block, (ad.add (k * 2)).off + 1, none⟩ = some (.int .u32 l[k].2) := by obtain ⟨q, rfl⟩ := hw.out; exact x4
        have X5 : wr.cell? (bd.add (k * 2)) = some (.string (txt m[k].1)) := by obtain ⟨q, rfl⟩ := hw.out; exact x5
        have X6 : wr.cell? ⟨(bd.add (k * 2)).block, (bd.add (k * 2)).off + 1, none⟩ = some (.int .u32 m[k].2) := by obtain ⟨q, rfl⟩ := hw.out; exact x6
        clear x1 x2 x3 x4 x5 x6 p0 p1 p2 p3
        have hW2 : ∀ n, ∃ q, wr.drewN n = w.drewN q := fun n => by obtain ⟨q, rfl⟩ := hw.out; exact ⟨q + n, drewN_add _ _ _⟩
        generalize l[k] = la at *
        generalize m[k] = ma at *
        have ela := Lib.hid ela
        have ema := Lib.hid ema
        obtain ⟨a0, a1⟩ := la
        obtain ⟨b0, b1⟩ := ma
        dsimp only at X3 X4 X5 X6
        by_cases heq : (a0, a1) = (b0, b1)
        · have hnx := Lib.hid hj.out
          injection heq with h0 h1
          subst h0 h1
          go_wp2_with fail
          go_quiet (fail)
          go_wp2_with fail
          refine ⟨⟨k + 1, by go_num, by omega, fun j hj' => ?_, hW2 nq⟩, by simp [intOf]; omega⟩
          rcases Nat.lt_or_ge j k with h | h
          · exact hj.out j h
          · obtain rfl : j = k := by omega
            rw [ela.out, ema.out]
        · have hno := Lib.hid (list_ne_at2 (show l.getD k ([], 0) ≠ m.getD k ([], 0) by rw [ela.out, ema.out]; exact heq))
          by_cases h0 : a0 = b0
          · have h1 : ¬ a1 = b1 := fun h => heq (by rw [h0, h])
            have h1b : (a1 == b1) = false := by rw [beq_eq_false_iff_ne]; exact h1
            subst h0
            clear heq
            go_wp2_with fail
            go_quiet (fail)
            go_wp2_with fail
            go_ret
            exact ⟨ret_b hno.out, hW2 nq⟩
          · have hs : ((txt a0).toList == (txt b0).toList) = false := by rw [Bool.eq_false_iff]; exact fun e => h0 (txt_inj ((sl_same _ _).1 e))
            have hs2 : ¬ (txt a0).toList = (txt b0).toList := by simpa using hs
            clear heq h0
            go_wp2_with fail
            go_quiet (fail)
            go_wp2_with fail
            go_ret
            exact ⟨ret_b hno.out, hW2 nq⟩
      · go_wp2_with fail
        go_ret
        exact ⟨ret_b (list_eq_at2 hn'.out (fun j h => hj.out j (by omega))), hw.out⟩
  · go_enter Try.func77, Try.ntmps77
    have e1 : ((l.length : Int) != (m.length : Int)) = true := by rw [bne_iff_ne]; omega
    have hn := Lib.hid hn
    go_wp2_with fail
    go_ret
    exact ⟨ret_b (by rw [eq_comm, decide_eq_false_iff_not]; rintro rfl; exact hn.out rfl), ⟨0, rfl⟩⟩

set_option maxRecDepth 100000 in
set_option maxHeartbeats 1000000 in
theorem sl_eq_ext (v u : Value) (l m : List (Int × Int)) (w : World) (hl : ERow w v l) (hm : ERow w u m) :
    Calls Try.prog 82 #[v, u] w fun e w' => e = .returned (.bool (decide (l = m))) ∧ ∃ q, w' = w.drewN q := by
  obtain ⟨hl1, A, c, rfl, hc⟩ := hl
  obtain ⟨hm1, B, d, rfl, hd⟩ := hm
  have hc := Lib.hid hc
  have hd := Lib.hid hd
  by_cases hn : l.length = m.length
  · have hn' := Lib.hid hn
    have e1 : ((l.length : Int) != (m.length : Int)) = false := by rw [hn]; simp
    clear hn
    go_enter Try.func82, Try.ntmps82
    go_wp2_with fail
    go_loopw [13] (fun i wr => ∃ k : Nat, i = .int .i64 k ∧ k ≤ l.length ∧ (∀ j, j < k → l.getD j (0, 0) = m.getD j (0, 0)) ∧ ∃ q, wr = w.drewN q) (fun i _ => l.length - (intOf i).toNat)
    case atStart => exact ⟨0, rfl, by omega, fun j hj => by omega, ⟨0, rfl⟩⟩
    case round =>
      obtain ⟨k, rfl, hk, hj, hw⟩ := hrel
      have hj := Lib.hid hj
      have hw := Lib.hid hw
      by_cases hlt : (k : Int) < (l.length : Int)
      · have hkl : k < l.length := by omega
        have hkm : k < m.length := by have := hn'.out; omega
        obtain ⟨ad, rfl, -, x1⟩ := hc.out k hkl
        obtain ⟨bd, rfl, -, x2⟩ := hd.out k hkm
        obtain ⟨y0, x3, p0⟩ := x1 0 (by decide)
        obtain ⟨y1, x4, p1⟩ := x1 1 (by decide)
        obtain ⟨y2, x5, p2⟩ := x2 0 (by decide)
        obtain ⟨y3, x6, p3⟩ := x2 1 (by decide)
        obtain rfl := p0.1 rfl
        obtain rfl := p1.2 rfl
        obtain rfl := p2.1 rfl
        obtain rfl := p3.2 rfl
        have b2 : (k : Int) < (m.length : Int) := by omega
        have ela : l.getD k (0, 0) = l[k] := by simp [List.getD, hkl]
        have ema : m.getD k (0, 0) = m[k] := by simp [List.getD, hkm]
        have X3 : wr.cell? (ad.add (k * 2)) = some (.int .i64 l[k].1) := by obtain ⟨q, rfl⟩ := hw.out; exact x3
        have X4 : wr.cell? ⟨(ad.add (k * 2)).block, (ad.add (k * 2)).off + 1, none⟩ = some (.int .i64 l[k].2) := by obtain ⟨q, rfl⟩ := hw.out; exact x4
        have X5 : wr.cell? (bd.add (k * 2)) = some (.int .i64 m[k].1) := by obtain ⟨q, rfl⟩ := hw.out; exact x5
        have X6 : wr.cell? ⟨(bd.add (k * 2)).block, (bd.add (k * 2)).off + 1, none⟩ = some (.int .i64 m[k].2) := by obtain ⟨q, rfl⟩ := hw.out; exact x6
        clear x1 x2 x3 x4 x5 x6 p0 p1 p2 p3
        have hW2 : ∀ n, ∃ q, wr.drewN n = w.drewN q := fun n => by obtain ⟨q, rfl⟩ := hw.out; exact ⟨q + n, drewN_add _ _ _⟩
        generalize l[k] = la at *
        generalize m[k] = ma at *
        have ela := Lib.hid ela
        have ema := Lib.hid ema
        obtain ⟨a0, a1⟩ := la
        obtain ⟨b0, b1⟩ := ma
        dsimp only at X3 X4 X5 X6
        by_cases heq : (a0, a1) = (b0, b1)
        · have hnx := Lib.hid hj.out
          injection heq with h0 h1
          subst h0 h1
          go_wp2_with fail
          go_quiet (fail)
          go_wp2_with fail
          refine ⟨⟨k + 1, by go_num, by omega, fun j hj' => ?_, hW2 nq⟩, by simp [intOf]; omega⟩
          rcases Nat.lt_or_ge j k with h | h
          · exact hj.out j h
          · obtain rfl : j = k := by omega
            rw [ela.out, ema.out]
        · have hno := Lib.hid (list_ne_at2 (show l.getD k (0, 0) ≠ m.getD k (0, 0) by rw [ela.out, ema.out]; exact heq))
          by_cases h0 : a0 = b0
          · have h1 : ¬ a1 = b1 := fun h => heq (by rw [h0, h])
            have h1b : (a1 == b1) = false := by rw [beq_eq_false_iff_ne]; exact h1
            subst h0
            clear heq
            go_wp2_with fail
            go_quiet (fail)
            go_wp2_with fail
            go_ret
            exact ⟨ret_b hno.out, hW2 nq⟩
          · have h0b : (a0 == b0) = false := by rw [beq_eq_false_iff_ne]; exact h0
            clear heq h0
            go_wp2_with fail
            go_quiet (fail)
            go_wp2_with fail
            go_ret
            exact ⟨ret_b hno.out, hW2 nq⟩
      · go_wp2_with fail
        go_ret
        exact ⟨ret_b (list_eq_at2 hn'.out (fun j h => hj.out j (by omega))), hw.out⟩
  · go_enter Try.func82, Try.ntmps82
    have e1 : ((l.length : Int) != (m.length : Int)) = true := by rw [bne_iff_ne]; omega
    have hn := Lib.hid hn
    go_wp2_with fail
    go_ret
    exact ⟨ret_b (by rw [eq_comm, decide_eq_false_iff_not]; rintro rfl; exact hn.out rfl), ⟨0, rfl⟩⟩

theorem sl_drewN_below (w : World) (q : Nat) : Below w.heap.size w (w.drewN q) := ⟨rfl, rfl, rfl, Nat.le_refl _, fun _ _ => rfl⟩
theorem ERow.slice {w : World} {v : Value} {l : List (Int × Int)} (h : ERow w v l) : ∃ A c, v = .slice A l.length c := by obtain ⟨-, A, c, e, -⟩ := h; exact ⟨A, c, e⟩

set_option maxRecDepth 100000 in
theorem same_desc (x y : Int) (l m : List (Int × Int)) (v u : Value) (w : World) (hl : ERow w v l) (hm : ERow w u m) :
    Calls Try.prog 81 #[.agg #[.int .i64 x, v], .agg #[.int .i64 y, u]] w fun e w' => e = .returned (.bool (decide ((x, l) = (y, m)))) ∧ Below w.heap.size w w' := by
  have B1 : Below w.heap.size w ((w.alloc (.cells #[.int .i64 x, v] 76)).alloc (.cells #[.int .i64 y, u] 76)) := ((Below.refl _ _).alloc (Nat.le_refl _) _).alloc (by simp) _
  have X1 := (Blk.new w 76 #[.int .i64 x, v]).alloc (.cells #[.int .i64 y, u] 76)
  have X2 := Blk.new (w.alloc (.cells #[.int .i64 x, v] 76)) 76 #[.int .i64 y, u]
  have hl2 := hl.below B1
  have hm2 := hm.below B1
  have e1 : (w.alloc (.cells #[.int .i64 x, v] 76)).heap.size = w.heap.size + 1 := by simp
  have CE := fun W h1 h2 => Lib.hid (sl_eq_ext v u l m W h1 h2)
  obtain ⟨A, c, rfl⟩ := hl.slice
  obtain ⟨B, d, rfl⟩ := hm.slice
  have hl2 := Lib.hid hl2
  have hm2 := Lib.hid hm2
  clear hl hm
  go_enter Try.func81, Try.ntmps81
  have hz : w.heap.size < w.heap.size + 1 + 1 := by omega
  by_cases h0 : x = y
  · subst h0
    have hb : decide ((x, l) = (x, m)) = decide (l = m) := by simp
    have hb := Lib.hid hb
    generalize decide (l = m) = b at *
    have B1h := Lib.hid B1
    go_wp2_with fail
    refine (CE _ hl2.out hm2.out).out.mono ?_
    rintro e w1 ⟨rfl, q, rfl⟩
    go_wp2_with fail
    go_ret
    exact ⟨ret_b hb.out.symm, B1h.out.trans ((sl_drewN_below _ q).mono (by simp; omega))⟩
  · have h1 : (x == y) = false := by rw [beq_eq_false_iff_ne]; exact h0
    have hno := Lib.hid (show false = decide ((x, l) = (y, m)) by rw [eq_comm, decide_eq_false_iff_not]; intro e; injection e with e; exact h0 e)
    have B1h := Lib.hid B1
    go_wp2_with fail
    go_ret
    exact ⟨ret_b hno.out, B1h.out⟩

theorem sl_size {w : World} (o1 o2 : Obj) : ((w.alloc o1).alloc o2).heap.size = w.heap.size + 1 + 1 := by simp
set_option maxRecDepth 100000 in
set_option maxHeartbeats 1000000 in
theorem sl_eq_descs (v u : Value) (l m : List (Int × List (Int × Int))) (w : World) (hl : DRow w v l) (hm : DRow w u m) :
    Calls Try.prog 80 #[v, u, .func (.func 81) #[] #[]] w fun e w' => e = .returned (.bool (decide (l = m))) ∧ Below w.heap.size w w' := by
  obtain ⟨hl1, A, c, rfl, hc⟩ := hl
  obtain ⟨hm1, B, d, rfl, hd⟩ := hm
  have hc := Lib.hid hc
  have hd := Lib.hid hd
  by_cases hn : l.length = m.length
  · have hn' := Lib.hid hn
    have e1 : ((l.length : Int) != (m.length : Int)) = false := by rw [hn]; simp
    clear hn
    go_enter Try.func80, Try.ntmps80
    go_wp2_with fail
    go_loopw [17] (fun i wr => ∃ k : Nat, i = .int .i64 k ∧ k ≤ l.length ∧ (∀ j, j < k → l.getD j (0, []) = m.getD j (0, [])) ∧ Below w.heap.size w wr) (fun i _ => l.length - (intOf i).toNat)
    case atStart => exact ⟨0, rfl, by omega, fun j hj => by omega, Below.refl _ _⟩
    case round =>
      obtain ⟨k, rfl, hk, hj, hw⟩ := hrel
      have hj := Lib.hid hj
      have hw := Lib.hid hw
      by_cases hlt : (k : Int) < (l.length : Int)
      · have hkl : k < l.length := by omega
        have hkm : k < m.length := by have := hn'.out; omega
        obtain ⟨ad, rfl, had, x1⟩ := hc.out k hkl
        obtain ⟨bd, rfl, hbd, x2⟩ := hd.out k hkm
        obtain ⟨y0, x3, p0⟩ := x1 0 (by decide)
        obtain ⟨y1, x4, p1⟩ := x1 1 (by decide)
        obtain ⟨y2, x5, p2⟩ := x2 0 (by decide)
        obtain ⟨y3, x6, p3⟩ := x2 1 (by decide)
        obtain rfl := p0.1 rfl
        have E1 := p1.2 rfl
        obtain rfl := p2.1 rfl
        have E2 := p3.2 rfl
        have b2 : (k : Int) < (m.length : Int) := by omega
        have ela : l.getD k (0, []) = l[k] := by simp [List.getD, hkl]
        have ema : m.getD k (0, []) = m[k] := by simp [List.getD, hkm]
        have X3 : wr.cell? (ad.add (k * 2)) = some (.int .i64 l[k].1) := (hw.out.cell (p := ad.add (k * 2)) (by rw [block_add]; exact had)).trans x3
        have X4 : wr.cell? ⟨(ad.add (k * 2)).block, (ad.add (k * 2)).off + 1, none⟩ = some y1 := (hw.out.cell (p := ⟨(ad.add (k * 2)).block, (ad.add (k * 2)).off + 1, none⟩) (by show (ad.add (k * 2)).block < _; rw [block_add]; exact had)).trans x4
        have X5 : wr.cell? (bd.add (k * 2)) = some (.int .i64 m[k].1) := (hw.out.cell (p := bd.add (k * 2)) (by rw [block_add]; exact hbd)).trans x5
        have X6 : wr.cell? ⟨(bd.add (k * 2)).block, (bd.add (k * 2)).off + 1, none⟩ = some y3 := (hw.out.cell (p := ⟨(bd.add (k * 2)).block, (bd.add (k * 2)).off + 1, none⟩) (by show (bd.add (k * 2)).block < _; rw [block_add]; exact hbd)).trans x6
        have hB1 : (ad.add (k * 2)).block < wr.heap.size := by rw [block_add]; exact Nat.lt_of_lt_of_le had hw.out.size
        have hB2 : (bd.add (k * 2)).block < wr.heap.size := by rw [block_add]; exact Nat.lt_of_lt_of_le hbd hw.out.size
        clear x1 x2 x3 x4 x5 x6 p0 p1 p2 p3
        generalize l[k] = la at *
        generalize m[k] = ma at *
        have ela := Lib.hid ela
        have ema := Lib.hid ema
        obtain ⟨a0, a1⟩ := la
        obtain ⟨b0, b1⟩ := ma
        dsimp only at X3 X4 X5 X6 E1 E2
        obtain ⟨A1, c1, rfl⟩ := E1.slice
        obtain ⟨A2, c2, rfl⟩ := E2.slice
        have B1 : Below wr.heap.size wr ((wr.alloc (.cells #[.int .i64 a0, (.slice A1 a1.length c1)] 76)).alloc (.cells #[.int .i64 b0, (.slice A2 b1.length c2)] 76)) := ((Below.refl _ _).alloc (Nat.le_refl _) _).alloc (by simp) _
        have hs1 := sl_size (w := wr) (.cells #[.int .i64 a0, (.slice A1 a1.length c1)] 76) (.cells #[.int .i64 b0, (.slice A2 b1.length c2)] 76)
        have CD := Lib.hid (same_desc a0 b0 a1 b1 (.slice A1 a1.length c1) (.slice A2 b1.length c2) _ (E1.below (hw.out.trans (B1.mono hw.out.size))) (E2.below (hw.out.trans (B1.mono hw.out.size))))
        have hz : wr.heap.size < wr.heap.size + 1 + 1 := by omega
        have BW := Lib.hid (hw.out.trans (B1.mono hw.out.size))
        clear E1 E2 B1 hs1
        go_wp2_with fail
        by_cases heq : (a0, a1) = (b0, b1)
        · rw [decide_eq_true heq] at CD
          have heq := Lib.hid heq
          refine CD.out.mono ?_
          rintro e w1 ⟨rfl, hb1⟩
          have BE := Lib.hid (BW.out.trans (hb1.mono (Nat.le_trans hw.out.size (by simp; omega))))
          clear CD hb1 X3 X4 X5 X6
          go_wp2_with fail
          refine ⟨⟨k + 1, by go_num, by omega, fun j hj' => ?_, BE.out⟩, by simp [intOf]; omega⟩
          rcases Nat.lt_or_ge j k with h | h
          · exact hj.out j h
          · obtain rfl : j = k := by omega
            rw [ela.out, ema.out, heq.out]
        · rw [decide_eq_false heq] at CD
          have hno := Lib.hid (list_ne_at2 (show l.getD k (0, []) ≠ m.getD k (0, []) by rw [ela.out, ema.out]; exact heq))
          clear heq
          refine CD.out.mono ?_
          rintro e w1 ⟨rfl, hb1⟩
          have BE := Lib.hid (BW.out.trans (hb1.mono (Nat.le_trans hw.out.size (by simp; omega))))
          clear CD hb1 X3 X4 X5 X6
          go_wp2_with fail
          go_ret
          exact ⟨ret_b hno.out, BE.out⟩
      · go_wp2_with fail
        go_ret
        exact ⟨ret_b (list_eq_at2 hn'.out (fun j h => hj.out j (by omega))), hw.out⟩
  · go_enter Try.func80, Try.ntmps80
    have e1 : ((l.length : Int) != (m.length : Int)) = true := by rw [bne_iff_ne]; omega
    have hn := Lib.hid hn
    go_wp2_with fail
    go_ret
    exact ⟨ret_b (by rw [eq_comm, decide_eq_false_iff_not]; rintro rfl; exact hn.out rfl), Below.refl _ _⟩

end Go.Proofs.Ytceflhffilldeaa
