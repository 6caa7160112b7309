/-
  The machines' sameness, walked. (Printed by gen_same.py.)
-/
import Derived.Test.YtefgajojimkdiaaZKeep
import Derived.Test.YtefgajojimkdiaaZQMem
import Derived.Test.YtefgajojimkdiaaZCpuKit
import Derived.Test.YtefgajojimkdiaaZCpuHalt
import Derived.Deep.RegionHeld3
namespace Go.Proofs.Ytefgajojimkdiaa
set_option linter.unusedVariables false
set_option linter.unusedSimpArgs false
open Go.RowKit Bw

theorem row_mem {w : World} {mp ap : Nat} {l : List Int} (h : MemAt w mp ap l) (hl : l.length ≤ 65536) : Row .u32 w (.slice (some ⟨ap, 0, none⟩) l.length l.length) l :=
  ⟨by omega, some ⟨ap, 0, none⟩, l.length, rfl, fun k hk => ⟨⟨ap, 0, none⟩, rfl, h.2.lt, by rw [block_add0]; exact h.cell k hk⟩⟩

set_option maxRecDepth 100000 in
theorem keep_wordsq (v u : Value) (l m : List Int) (w : World) (hl : Row .u32 w v l) (hm : Row .u32 w u m) :
    Calls Try.prog 25 #[v, u] w fun e w' => e = .returned (.bool (decide (l = m))) ∧ ∃ q, w' = w.drewN q := by
  obtain ⟨hl1, A, c, rfl, hc⟩ := hl
  obtain ⟨hm1, B, d, rfl, hd⟩ := hm
  have hc := Lib.hid hc
  have hd := Lib.hid hd
  by_cases hn : l.length = m.length
  · have hn' := Lib.hid hn
    have e1 : ((l.length : Int) != (m.length : Int)) = false := by rw [hn]; simp
    clear hn
    go_enter Try.func25, Try.ntmps25
    go_wp2_with fail
    go_loopw [5] (fun i wr => ∃ k : Nat, i = .int .i64 k ∧ k ≤ l.length ∧ (∀ j, j < k → l.getD j 0 = m.getD j 0) ∧ ∃ q, wr = w.drewN q) (fun i _ => l.length - (intOf i).toNat)
    case atStart => exact ⟨0, rfl, by omega, fun j hj => by omega, 0, rfl⟩
    case round =>
      obtain ⟨k, rfl, hk, hj, hw⟩ := hrel
      have hj := Lib.hid hj
      have hw := Lib.hid hw
      by_cases hlt : (k : Int) < (l.length : Int)
      · obtain ⟨ad, rfl, -, x1⟩ := hc.out k (by omega)
        obtain ⟨bd, rfl, -, x2⟩ := hd.out k (by have := hn'.out; omega)
        have x3 : wr.cell? (ad.add k) = some (.int .u32 (l.getD k 0)) := by obtain ⟨q, rfl⟩ := hw.out; exact x1
        have x4 : wr.cell? (bd.add k) = some (.int .u32 (m.getD k 0)) := by obtain ⟨q, rfl⟩ := hw.out; exact x2
        clear x1 x2
        have b2 : (k : Int) < (m.length : Int) := by have := hn'.out; omega
        have x3 : wr.drew.cell? (ad.add k) = some (.int .u32 (l.getD k 0)) := x3
        have x4 : wr.drew.cell? (bd.add k) = some (.int .u32 (m.getD k 0)) := x4
        have hK : RowKit.Hid (∃ q, wr.drew = w.drewN q) := Lib.hid (by obtain ⟨q, rfl⟩ := hw.out; exact ⟨q + 1, rfl⟩)
        by_cases heq : l.getD k 0 = m.getD k 0
        · have heq' := Lib.hid heq
          have e2 : (l.getD k 0 != m.getD k 0) = false := by rw [heq]; simp
          clear heq
          generalize hla : l.getD k 0 = la at *
          generalize hma : m.getD k 0 = ma at *
          have hla := Lib.hid hla
          have hma := Lib.hid hma
          go_wp2_with fail
          refine region_drew 8 (by kernel_rfl) (by kernel_rfl) ?_
          simp only [List.take_succ_cons, List.take_zero, List.drop_succ_cons, List.drop_zero]
          repeat still_step
          refine wpStill_nil ?_
          generalize wr.drew = W at *
          go_wp2_with fail
          refine ⟨⟨k + 1, by go_num, by omega, fun j hj' => ?_, hK.out⟩, by simp [intOf]; omega⟩
          rcases Nat.lt_or_ge j k with h | h
          · exact hj.out j h
          · obtain rfl : j = k := by omega
            rw [hla.out, hma.out]; exact heq'.out
        · have heq' := Lib.hid heq
          have e2 : (l.getD k 0 != m.getD k 0) = true := by rw [bne_iff_ne]; exact heq
          clear heq
          generalize hla : l.getD k 0 = la at *
          generalize hma : m.getD k 0 = ma at *
          have hla := Lib.hid hla
          have hma := Lib.hid hma
          go_wp2_with fail
          refine region_drew 8 (by kernel_rfl) (by kernel_rfl) ?_
          simp only [List.take_succ_cons, List.take_zero, List.drop_succ_cons, List.drop_zero]
          repeat still_step
          refine wpStill_nil ?_
          generalize wr.drew = W at *
          go_wp2_with fail
          go_ret
          exact ⟨ret_b (list_ne_at (k := k) (by omega) (by omega) (by rw [hla.out, hma.out]; exact heq'.out)), hK.out⟩
      · go_wp2_with fail
        go_ret
        exact ⟨ret_b (list_eq_at hn'.out (fun j h => hj.out j (by omega))), hw.out⟩
  · go_enter Try.func25, Try.ntmps25
    have e1 : ((l.length : Int) != (m.length : Int)) = true := by rw [bne_iff_ne]; omega
    have hn := Lib.hid hn
    go_wp2_with fail
    go_ret
    exact ⟨ret_b (by rw [eq_comm, decide_eq_false_iff_not]; rintro rfl; exact hn.out rfl), 0, rfl⟩

set_option maxRecDepth 100000 in
theorem mem_words (mp ap : Nat) (l : List Int) (w : World) (h : MemAt w mp ap l) (hl : l.length ≤ 65536) :
    Calls Try.prog 45 #[.pointer (some ⟨mp, 0, none⟩), .int .i64 0, .int .i64 l.length] w fun e w' => ∃ u, e = .returned (.tuple #[u, .bool true]) ∧ Row .u32 w' u l ∧ Below w.heap.size w w' := by
  have SZ := fun W hW => Lib.hid (mem_size mp ap l W hW)
  have c0 := h.cell0
  have hR := Lib.hid (row_mem h hl)
  have h := Lib.hid h
  by_cases h0 : l = []
  · subst h0
    go_enter Try.func45, Try.ntmps45
    go_wp2_with (go_at_call 46; refine (SZ _ h.out).out.mono ?_; rintro e w1 ⟨rfl, rfl⟩)
    go_ret2
    exact ⟨_, rfl, Row.nil_, Below.refl _ _⟩
  · have h1 : 0 < l.length := List.length_pos_iff.2 h0
    have h2 : ((l.length : Int) == 0) = false := by rw [beq_eq_false_iff_ne]; omega
    have hlI : (l.length : Int) ≤ 65536 := by omega
    have hw0 : IntKind.i64.wrap (0 + (l.length : Int)) = l.length := by rw [IntKind.wrap_i64]; omega
    have CL := fun W hW => Lib.hid (slices_clone l (.slice (some ⟨ap, 0, none⟩) l.length l.length) W hW (by omega))
    clear h0 h1
    go_enter Try.func45, Try.ntmps45
    go_wp2_with (go_at_call 46; refine (SZ _ h.out).out.mono ?_; rintro e w1 ⟨rfl, rfl⟩)
    refine (CL _ hR.out).out.mono ?_
    rintro e w1 ⟨u, rfl, ho, hb⟩
    have ho := Lib.hid ho
    go_wp2_with fail
    go_ret2
    exact ⟨_, rfl, row_of_own ho.out, hb⟩

set_option maxRecDepth 100000 in
set_option maxHeartbeats 1000000 in
theorem qmem_words (mp ap c : Nat) (l : List Int) (w : World) (h : QMem w mp ap c l) (hl : l.length ≤ 65536) :
    Calls Try.prog 47 #[.pointer (some ⟨mp, 0, none⟩), .int .i64 0, .int .i64 l.length] w fun e w' => ∃ u, e = .returned (.tuple #[u, .bool true]) ∧ Row .u32 w' u l ∧ Below w.heap.size w w' := by
  obtain ⟨i0, hi0, hz0, hz1, hz2⟩ := info_parts u32_info
  have SZ := fun W hW => Lib.hid (qmem_size mp ap c l W hW)
  have h := Lib.hid h
  have h3 : ¬ (l.length : Int) < 0 := by omega
  have hlI : (l.length : Int) ≤ 65536 := by omega
  go_enter Try.func47, Try.ntmps47
  go_wp2_with (go_at_call 48; refine (SZ _ h.out).out.mono ?_; rintro e w1 ⟨rfl, rfl⟩)
  go_loopw [8, 9] (fun o i wr => ∃ k : Nat, i = .int .i64 k ∧ k ≤ l.length ∧ wr.ownsRow w.heap.size 43 1 o k ((l.take k).map (.int .u32)) ∧ Below w.heap.size w wr) (fun _ i _ => l.length - (intOf i).toNat)
  case atStart => exact ⟨0, rfl, by omega, World.ownsRow_nil _ _ _ _, Below.refl _ _⟩
  case round =>
    obtain ⟨k, rfl, hk, hown, hb⟩ := hrel
    have hown := Lib.hid hown
    by_cases hlt : (k : Int) < l.length
    · have hkl : k < l.length := by omega
      have hM : QMem wr mp ap c l := ⟨h.out.blk.below hb h.out.lt1, by obtain ⟨e, he⟩ := h.out.row; exact ⟨e, he.below hb h.out.lt2⟩⟩
      have c0 := hM.cell0
      have cx := hM.cell k hkl
      have hM := Lib.hid hM
      have hk2 : l.take (k + 1) = l.take k ++ [l.getD k 0] := by rw [List.take_add_one, List.getElem?_eq_getElem hkl]; simp [List.getD, hkl]
      have hk2 := Lib.hid hk2
      generalize l.getD k 0 = x at *
      have hw0 : IntKind.i64.wrap (0 + (k : Int)) = k := by rw [IntKind.wrap_i64]; omega
      have hb := Lib.hid hb
      have hbs := hb.out.size
      go_wp2_with (at_builtin; refine wpList_append_own _ rfl (.tmp 35) (.tmp 45) 32 rfl w.heap.size 43 i0 _ 1 4 Try.underlying32 hi0 hz0 hz1 hz2 rfl (by omega) _ k _ rfl (hown.out.alloc _) ⟨wr.heap.size, 0, none⟩ 1 1 [.int .u32 x] rfl rfl (news1 wr _ _) (by simp [Value.oneCell']) (by simp only [maxLen]; omega) (by omega) (by simp; exact Nat.le_succ_of_le hb.out.size) ?_; intro v2 w2 hown2 hg2 _)
      have hown2 := Lib.hid hown2
      have hb3 : Below w.heap.size w w2 := (hb.out.alloc hb.out.size _).grown hg2 (by simp; exact Nat.le_succ_of_le hb.out.size) (fun q hq => (hown.out.lt q hq).1)
      go_wp2_with fail
      refine ⟨⟨k + 1, by go_num, by omega, ?_, hb3⟩, by simp [intOf]; omega⟩
      rw [hk2.out, List.map_append]
      exact hown2.out
    · obtain rfl : k = l.length := by omega
      go_wp2_with fail
      go_ret2
      have := hown.out
      rw [List.take_length] at this
      exact ⟨_, rfl, row_of_own this, hb⟩

/-- What region 7 of the law's sameness loads. -/
structure QS2 (N q mq : Nat) (W0 w : World) : Prop where
  b : Below N W0 w
  n : N ≤ w.heap.size
  c : w.cell? ⟨q, 22, none⟩ = some (.pointer (some ⟨mq, 0, none⟩))
theorem QS2.on {N q mq : Nat} {W0 w1 w2 : World} (h : QS2 N q mq W0 w1) (hq : q < N) (hb : Below w1.heap.size w1 w2) : QS2 N q mq W0 w2 :=
  ⟨h.b.trans (hb.mono h.n), Nat.le_trans h.n hb.size, (hb.cell (p := ⟨q, 22, none⟩) (Nat.lt_of_lt_of_le hq h.n)).trans h.c⟩
theorem QS2.all {N q mq : Nat} {W0 w : World} (h : QS2 N q mq W0 w) : QS2 N q mq W0 w ∧ w.cell? ⟨q, 22, none⟩ = some (.pointer (some ⟨mq, 0, none⟩)) := ⟨h, h.c⟩

set_option maxRecDepth 100000 in
set_option maxHeartbeats 4000000 in
theorem law05_same (m : Mc) (p mp ap : Nat) (ov : Value) (q mq aq c : Nat) (oq : Value) (st : Int) (w : World) (h : Mach w p mp ap ov m) (k : QMach w q mq aq c oq st m) :
    Calls Try.prog 28 #[.pointer (some ⟨p, 0, none⟩), .pointer (some ⟨q, 0, none⟩)] w fun e w' => e = .returned (.bool true) ∧ Below w.heap.size w w' := by
  have hml := h.ok.ml
  have RG := fun (a : Nat) (ha : a < 16) W hW => Lib.hid (cpu_reg p mp ap a ov m W hW ha)
  have RO := fun (a : Int) W (ha : a < 0 ∨ 15 < a) => Lib.hid (cpu_reg_out p a W ha)
  have PC := fun W hW => Lib.hid (cpu_pc p mp ap ov m W hW)
  have ME := fun W hW => Lib.hid (cpu_memory p mp ap ov m W hW)
  have SZ1 := fun W hW => Lib.hid (mem_size mp ap m.mem W hW)
  have SZ2 := fun W hW => Lib.hid (qmem_size mq aq c m.mem W hW)
  have WD1 := fun W hW => Lib.hid (mem_words mp ap m.mem W hW hml)
  have WD2 := fun W hW => Lib.hid (qmem_words mq aq c m.mem W hW hml)
  have KW := fun v u W hv hu => Lib.hid (keep_wordsq v u m.mem m.mem W hv hu)
  rw [decide_eq_true rfl] at KW
  have h := Lib.hid h
  have k := Lib.hid k
  clear hml
  go_enter Try.func28, Try.ntmps28
  go_wp2_with fail
  go_loopw [5] (fun i wr => ∃ a : Nat, i = .int .i64 a ∧ a ≤ 16 ∧ Below w.heap.size w wr) (fun i _ => 16 - (intOf i).toNat)
  case atStart => exact ⟨0, rfl, by omega, Below.refl _ _⟩
  case round =>
    obtain ⟨a, rfl, ha, hb⟩ := hrel
    have hM := Lib.hid (h.out.below hb)
    have kM := Lib.hid (k.out.below hb)
    have hb := Lib.hid hb
    by_cases hlt : (a : Int) < 16
    · have haN : a < 16 := by omega
      have ca : wr.drew.cell? ⟨q, a, none⟩ = some (.int .u32 (m.r.getD a 0)) := kM.out.reg a haN
      have RGa := RG a haN wr.drew hM.out.drew
      clear RG RO PC ME SZ1 SZ2 WD1 WD2 KW
      generalize m.r.getD a 0 = x at *
      go_wp2_with fail
      (refine region_drew 9 (by kernel_rfl) (by kernel_rfl) ?_; simp only [List.take_succ_cons, List.take_zero, List.drop_succ_cons, List.drop_zero]; (repeat still_step))
      still_call (RGa.out.mono fun _ _ h => ⟨h.1, h.2.symm⟩)
      repeat still_step
      refine wpStill_nil ?_
      go_wp2_with fail
      exact ⟨⟨a + 1, by go_num, by omega, hb.out.drew⟩, by simp [intOf]; omega⟩
    · obtain rfl : a = 16 := by omega
      clear RG
      go_wp2_with (first | (go_at_call 23; refine (ME _ hM.out).out.mono ?_; rintro e w1 ⟨rfl, rfl⟩) | (go_at_call 46; refine (SZ1 _ hM.out.mem).out.mono ?_; rintro e w1 ⟨rfl, rfl⟩))
      refine (WD1 _ hM.out.mem).out.mono ?_
      rintro e w2 ⟨u1, rfl, hr1, hb2⟩
      have hM2 := Lib.hid (hM.out.below hb2)
      have kM2 := Lib.hid (kM.out.below hb2)
      have B2 := Lib.hid (hb.out.trans (hb2.mono hb.out.size))
      have hr1 := Lib.hid hr1
      clear hb2 hM kM hb
      have RK1 : QS2 w2.heap.size q mq w2 w2.drew := ⟨(Below.refl _ _).drew, Nat.le_refl _, kM2.out.mem_⟩
      have hq2 := kM2.out.blk.lt
      go_wp2_with fail
      go_region_held3 (fun w' => QS2 w2.heap.size q mq w2 w' ∧ w'.cell? ⟨q, 22, none⟩ = some (.pointer (some ⟨mq, 0, none⟩)))
        (first | with_reducible exact QS2.all RK1 | with_reducible exact QS2.all (QS2.on (And.left (by assumption)) hq2 (by assumption)))
        (first | (go_at_call 48; refine (SZ2 _ kM2.out.mem.drew).out.mono ?_; rintro e w3 ⟨rfl, rfl⟩) | (go_at_call 47; refine (WD2 _ kM2.out.mem.drew).out.mono ?_; rintro e w3 ⟨u2, rfl, hr2, hb3⟩))
      have hb3' : Below w2.heap.size w2 w3 := (Below.refl _ _).drew.trans hb3
      have hM3 : ∀ n, Mach (w3.drewN n) p mp ap ov m := fun n => by
        have h3 := hM2.out.below hb3'
        exact ⟨h3.ok, h3.blk, h3.mem, h3.out⟩
      have c21 : w3.cell? ⟨q, 21, none⟩ = some (.int .i64 m.pc) := (kM2.out.below hb3').pc_
      have hR1 : ∀ n, Row .u32 (w3.drewN n) u1 m.mem := fun n => (show Row .u32 w3 u1 m.mem from hr1.out.below hb3')
      have hR2 : ∀ n, Row .u32 (w3.drewN n) u2 m.mem := fun n => hr2
      have B3 := Lib.hid (B2.out.trans (hb3'.mono B2.out.size))
      have hM3 := Lib.hid hM3
      have hR1 := Lib.hid hR1
      have hR2 := Lib.hid hR2
      clear hr2 hb3 hb3' hr1 RK1 hM2 kM2 B2 hq2
      go_wp2_with fail
      go_quiet (first | (go_at_call 20; exact quiet_eq (PC _ (hM3.out _)).out) | (go_at_call 25; exact Calls.quiet_of (KW _ _ _ (hR1.out _) (hR2.out _)).out) | (go_at_call 22; exact quiet_eq (RO _ _ (by decide)).out))
      go_wp2_with fail
      go_ret
      exact ⟨rfl, ⟨B3.out.os, B3.out.tape, B3.out.output, B3.out.size, B3.out.block⟩⟩

end Go.Proofs.Ytefgajojimkdiaa
