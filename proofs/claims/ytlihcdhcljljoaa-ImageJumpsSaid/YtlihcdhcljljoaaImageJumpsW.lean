/-
  The statement ImageJumps: its walk, out of the contracts.
-/
import Derived.Test.YtlihcdhcljljoaaImageWalks
import Derived.Test.YtlihcdhcljljoaaImageLaw2
import Derived.Test.YtlihcdhcljljoaaRiscDecA
namespace Go.Proofs.Ytlihcdhcljljoaa
set_option linter.unusedVariables false
set_option linter.unusedSimpArgs false
open Go.RowKit Bw

theorem fj_drewN {B : Nat} {a w : World} (h : Below B a w) (n : Nat) : Below B a (w.drewN n) := ⟨h.os, h.tape, h.output, h.size, h.block⟩
theorem own0 (w : World) : (w.alloc (.cells #[] 3)).ownsRow w.heap.size 3 1 (.slice (some ⟨w.heap.size, 0, none⟩) 0 0) 0 [] := ⟨rfl, Or.inr ⟨w.heap.size, 0, _, rfl, Nat.le_refl _, heap_alloc_new w _, Nat.le_refl _, by decide, rfl, rfl⟩⟩
theorem own0s (w : World) (p : Addr) (u : Value) : ((w.setCell p u).alloc (.cells #[] 3)).ownsRow w.heap.size 3 1 (.slice (some ⟨w.heap.size, 0, none⟩) 0 0) 0 [] := by
  have h := own0 (w.setCell p u)
  rwa [show (w.setCell p u).heap.size = w.heap.size by simp [World.setCell]] at h
theorem Boot.ok_set (size to : Int) (es : List Int) (K : Nat) (h0 : 0 ≤ to) (h1 : to < size) (h : Boot.ok size es = true) : Boot.ok size (es.set K to) = true := by
  simp only [Boot.ok, Boot.sized, Boot.inside, Bool.and_eq_true, decide_eq_true_eq] at h ⊢
  obtain ⟨⟨h2, h3⟩, h4⟩ := h
  refine ⟨⟨h2, by simpa using h3⟩, fun i hi => ?_⟩
  have hi' : i < es.length := by simpa using hi
  have := h4 i hi'
  by_cases e : i = K
  · subst e; simp only [List.getD_eq_getElem?_getD, List.getElem?_set_self hi', Option.getD_some]; exact ⟨h0, h1⟩
  · simp only [List.getD_eq_getElem?_getD, List.getElem?_set_ne (fun h => e h.symm)] at this ⊢; exact this
theorem set_other (es : List Int) (K : Nat) (to : Int) : ∀ j, j ≠ K → es.getD j 0 = (es.set K to).getD j 0 := by
  intro j hj
  simp only [List.getD_eq_getElem?_getD, List.getElem?_set_ne (fun h => hj h.symm)]

set_option maxRecDepth 100000 in
set_option maxHeartbeats 4000000 in
theorem law25_jumps (size n to : Int) (es : List Int) (v : Value) (w : World) (hv : Row .i64 w v es) (s0 : -9223372036854775808 ≤ size) (s1 : size ≤ 9223372036854775807) (n0 : -9223372036854775808 ≤ n) (n1 : n ≤ 9223372036854775807) (t0 : -9223372036854775808 ≤ to) (t1 : to ≤ 9223372036854775807) :
    Calls Try.prog 3 #[.int .i64 size, v, .agg #[.int .i64 n, .int .i64 to]] w fun e w' => e = .returned (.bool true) ∧ Below w.heap.size w w' := by
  have hv' := Lib.hid hv
  obtain ⟨hm, A, c, rfl, hc⟩ := hv
  have hc := Lib.hid hc
  have B0 : Below w.heap.size w (w.alloc (.cells #[.int .i64 n, .int .i64 to] 23)) := (Below.refl _ _).alloc (Nat.le_refl _) _
  by_cases g1 : (es.length : Int) = 0 ∨ (16 : Int) < es.length ∨ size < 256 ∨ 65536 < size ∨ to < 0 ∨ size ≤ to
  · clear hc
    have g2 : ((es.length : Int) == 0) = true ∨ (((es.length : Int) == 0) = false ∧ ((16 : Int) < es.length ∨ ((es.length : Int) ≤ 16 ∧ (size < 256 ∨ (256 ≤ size ∧ (65536 < size ∨ (size ≤ 65536 ∧ (to < 0 ∨ (0 ≤ to ∧ size ≤ to))))))))) := by
      rw [beq_iff_eq, beq_eq_false_iff_ne]; omega
    clear g1
    rcases g2 with h | ⟨h, h1 | ⟨h1, h2 | ⟨h2, h3 | ⟨h3, h4 | ⟨h4, h5⟩⟩⟩⟩⟩
    · go_enter Try.func3, Try.ntmps3
      go_wp2_with fail
      go_quiet (fail)
      go_wp2_with fail
      all_goals (refine (law25_wakes _).mono ?_; rintro e w9 ⟨rfl, hb9⟩; go_wp2_with fail; go_ret; exact ⟨rfl, by first | exact B0.drew.trans (hb9.mono (by first | exact B0.size | (have := B0.size; simp at this ⊢))) | exact (fj_drewN B0 _).trans (hb9.mono (by first | exact B0.size | (have := B0.size; simp at this ⊢))) | exact B0.trans (hb9.mono (by first | exact B0.size | (have := B0.size; simp at this ⊢)))⟩)
    · go_enter Try.func3, Try.ntmps3
      go_wp2_with fail
      go_quiet (fail)
      go_wp2_with fail
      all_goals (refine (law25_wakes _).mono ?_; rintro e w9 ⟨rfl, hb9⟩; go_wp2_with fail; go_ret; exact ⟨rfl, by first | exact B0.drew.trans (hb9.mono (by first | exact B0.size | (have := B0.size; simp at this ⊢))) | exact (fj_drewN B0 _).trans (hb9.mono (by first | exact B0.size | (have := B0.size; simp at this ⊢))) | exact B0.trans (hb9.mono (by first | exact B0.size | (have := B0.size; simp at this ⊢)))⟩)
    · go_enter Try.func3, Try.ntmps3
      go_wp2_with fail
      go_quiet (fail)
      go_wp2_with fail
      all_goals (refine (law25_wakes _).mono ?_; rintro e w9 ⟨rfl, hb9⟩; go_wp2_with fail; go_ret; exact ⟨rfl, by first | exact B0.drew.trans (hb9.mono (by first | exact B0.size | (have := B0.size; simp at this ⊢))) | exact (fj_drewN B0 _).trans (hb9.mono (by first | exact B0.size | (have := B0.size; simp at this ⊢))) | exact B0.trans (hb9.mono (by first | exact B0.size | (have := B0.size; simp at this ⊢)))⟩)
    · go_enter Try.func3, Try.ntmps3
      go_wp2_with fail
      go_quiet (fail)
      go_wp2_with fail
      all_goals (refine (law25_wakes _).mono ?_; rintro e w9 ⟨rfl, hb9⟩; go_wp2_with fail; go_ret; exact ⟨rfl, by first | exact B0.drew.trans (hb9.mono (by first | exact B0.size | (have := B0.size; simp at this ⊢))) | exact (fj_drewN B0 _).trans (hb9.mono (by first | exact B0.size | (have := B0.size; simp at this ⊢))) | exact B0.trans (hb9.mono (by first | exact B0.size | (have := B0.size; simp at this ⊢)))⟩)
    · go_enter Try.func3, Try.ntmps3
      go_wp2_with fail
      go_quiet (fail)
      go_wp2_with fail
      all_goals (refine (law25_wakes _).mono ?_; rintro e w9 ⟨rfl, hb9⟩; go_wp2_with fail; go_ret; exact ⟨rfl, by first | exact B0.drew.trans (hb9.mono (by first | exact B0.size | (have := B0.size; simp at this ⊢))) | exact (fj_drewN B0 _).trans (hb9.mono (by first | exact B0.size | (have := B0.size; simp at this ⊢))) | exact B0.trans (hb9.mono (by first | exact B0.size | (have := B0.size; simp at this ⊢)))⟩)
    · go_enter Try.func3, Try.ntmps3
      go_wp2_with fail
      go_quiet (fail)
      go_wp2_with fail
      all_goals (refine (law25_wakes _).mono ?_; rintro e w9 ⟨rfl, hb9⟩; go_wp2_with fail; go_ret; exact ⟨rfl, by first | exact B0.drew.trans (hb9.mono (by first | exact B0.size | (have := B0.size; simp at this ⊢))) | exact (fj_drewN B0 _).trans (hb9.mono (by first | exact B0.size | (have := B0.size; simp at this ⊢))) | exact B0.trans (hb9.mono (by first | exact B0.size | (have := B0.size; simp at this ⊢)))⟩)
  · have a1 : 0 < (es.length : Int) := by omega
    have a2 : (es.length : Int) ≤ 16 := by omega
    have a3 : 256 ≤ size := by omega
    have a4 : size ≤ 65536 := by omega
    have a5 : 0 ≤ to := by omega
    have a6 : to < size := by omega
    clear g1
    obtain ⟨ad, rfl, had, -⟩ := hc.out 0 (by omega)
    have hcell : RowKit.Hid (∀ k, k < es.length → w.cell? (ad.add k) = some (.int .i64 (es.getD k 0))) := Lib.hid (fun k hk => by
      obtain ⟨ad', e, _, hx⟩ := hc.out k hk
      injection e with e; subst e; exact hx)
    clear hc
    obtain ⟨K, hK, hKl⟩ : ∃ K : Nat, wrap64 ((IntKind.u64.wrap n).tmod (es.length : Int)) = (K : Int) ∧ K < es.length := by
      have e1 := wrapU64_emod n
      have h0 : 0 ≤ IntKind.u64.wrap n := by rw [e1]; omega
      rw [Int.tmod_eq_emod_of_nonneg h0]
      have h2 := Int.emod_nonneg (IntKind.u64.wrap n) (show (es.length : Int) ≠ 0 by omega)
      have h3 := Int.emod_lt_of_pos (IntKind.u64.wrap n) a1
      refine ⟨(IntKind.u64.wrap n % (es.length : Int)).toNat, ?_, by omega⟩
      rw [show wrap64 (IntKind.u64.wrap n % (es.length : Int)) = IntKind.u64.wrap n % (es.length : Int) by unfold wrap64; omega]
      omega
    have hKl' : (K : Int) < (es.length : Int) := by omega
    obtain ⟨i0, hi0, hz0, hz1, hz2⟩ := info_parts int_info
    have b1 : ((es.length : Int) == 0) = false := by rw [beq_eq_false_iff_ne]; omega
    have b2 : decide ((16 : Int) < (es.length : Int)) = false := by rw [decide_eq_false_iff_not]; omega
    go_enter Try.func3, Try.ntmps3
    go_wp2_with fail
    refine region_drew 5 (by kernel_rfl) (by kernel_rfl) ?_
    simp only [List.take_succ_cons, List.take_zero, List.drop_succ_cons, List.drop_zero]
    repeat still_step
    refine wpStill_nil ?_
    generalize hW1 : (w.alloc (.cells #[.int .i64 n, .int .i64 to] 23)).drew = w1 at *
    have B1 : Below w.heap.size w w1 := hW1 ▸ B0.drew
    clear B0
    go_wp2_with (first
      | (at_builtin; refine wpList_append_own _ rfl (.tmp 56) (.tmp 57) 22 rfl w1.heap.size 3 i0 _ 1 8 Try.underlying22 hi0 hz0 hz1 hz2 rfl (by omega) _ 0 [] rfl (own0 w1) ad es.length c (es.map (Value.int .i64)) rfl (by simp) (row_src (fun k hk => (World.cell?_alloc_lt w1 _ _ (by rw [block_add]; exact Nat.lt_of_lt_of_le had B1.size)).trans ((B1.cell (p := ad.add k) (by rw [block_add]; exact had)).trans (hcell.out k hk)))) (ints_one _ _) (by simp only [maxLen]; omega) (by omega) (by simp) ?_; intro v2 w2 ho2 hg2 _; simp only [Nat.zero_add, List.nil_append] at ho2; have B2 : Below w.heap.size w w2 := (B1.alloc B1.size _).grown hg2 (by simp; exact Nat.le_succ_of_le B1.size) (fun k hk => by have := (own0 w1).lt k hk; exact Nat.le_trans B1.size this.1); obtain ⟨g2, c2, rfl, hg0, z2⟩ := ho2.form (by omega); have cK := ho2.cellAt K (by omega); have fK := ho2.frozenAt K; have ho2 := Lib.hid ho2; clear hg2; rw [List.getElem?_map, List.getElem?_eq_getElem hKl] at cK; simp only [Option.map_some] at cK)
      | (have B3 : Below w.heap.size w (w2.setCell ⟨g2, K, none⟩ (.int .i64 to)) := B2.setCell (p := ⟨g2, K, none⟩) (Nat.le_trans B1.size hg0) _; (at_builtin; refine wpList_append_own _ rfl (.tmp 65) (.tmp 66) 22 rfl w2.heap.size 3 i0 _ 1 8 Try.underlying22 hi0 hz0 hz1 hz2 rfl (by omega) _ 0 [] rfl (own0s w2 ⟨g2, K, none⟩ (.int .i64 to)) ad es.length c (es.map (Value.int .i64)) rfl (by simp) (row_src (fun k hk => (World.cell?_alloc_lt (w2.setCell ⟨g2, K, none⟩ (.int .i64 to)) _ _ (by rw [block_add]; exact Nat.lt_of_lt_of_le had B3.size)).trans ((B3.cell (p := ad.add k) (by rw [block_add]; exact had)).trans (hcell.out k hk)))) (ints_one _ _) (by simp only [maxLen]; omega) (by omega) (by simp) ?_; intro v4 w4 ho4 hg4 _; simp only [Nat.zero_add, List.nil_append] at ho4)))
    have R4 : Row .i64 w4 v4 es := row_of_own ho4
    have S2 := (ho2.out.stored K (.int .i64 to)).1
    rw [← List.map_set] at S2
    have S4 : Row .i64 w4 (.slice (some ⟨g2, 0, none⟩) es.length c2) (es.set K to) := row_of_own ((S2.alloc _).kept hg4 (Or.inr (by
      have := z2
      show some g2 ≠ some w2.heap.size
      intro e; injection e with e; omega)))
    have B4 : Below w.heap.size w w4 := (B3.alloc B3.size _).grown hg4 (by simp [World.setCell]; exact Nat.le_succ_of_le B2.size) (fun k hk => by
      have : w2.heap.size = k := by simpa [Value.ownBlock, Act.eval] using hk
      have := B2.size; omega)
    have hfs : RowKit.Hid ((es.set K to).length = es.length) := Lib.hid (by simp)
    clear hg4 S2
    have R4 := Lib.hid R4
    have S4 := Lib.hid S4
    clear ho4 cK fK z2
    cases hok : Boot.ok size es
    · have e1 : Boot.err size es = 1 := by rw [Boot.err, hok]; rfl
      have e2 : Boot.list size es = [] := by rw [Boot.list, hok]; rfl
      refine (image_boot_any size es _ _ R4.out s0 s1).mono ?_
      rintro e w5 ⟨⟨u5, rfl, R5, -⟩, hb5⟩
      rw [e1]
      rw [e2] at R5
      obtain ⟨-, A5, c5, rfl, -⟩ := R5
      have B5 : Below w.heap.size w w5 := B4.trans (hb5.mono B4.size)
      have S5 := Lib.hid (S4.out.below hb5)
      clear e1 e2 hok
      go_wp2_with fail
      refine (image_boot_any size _ _ _ S5.out s0 s1).mono ?_
      rintro e w6 ⟨⟨u6, rfl, -, -⟩, hb6⟩
      have B6 : Below w.heap.size w w6 := B5.trans (hb6.mono B5.size)
      generalize Boot.err size (es.set K to) = er at *
      go_wp2_with fail
      refine (law25_wakes _).mono ?_
      rintro e w7 ⟨rfl, hb7⟩
      go_wp2_with fail
      go_ret
      exact ⟨rfl, B6.trans (hb7.mono B6.size)⟩
    · have e1 : Boot.err size es = 0 := by rw [Boot.err, hok]; rfl
      have e2 : Boot.list size es = Boot.words size es := by rw [Boot.list, hok]; rfl
      have hok2 := Boot.ok_set size to es K a5 a6 hok
      have e3 : Boot.err size (es.set K to) = 0 := by rw [Boot.err, hok2]; rfl
      have e4 : Boot.list size (es.set K to) = Boot.words size (es.set K to) := by rw [Boot.list, hok2]; rfl
      refine (image_boot_any size es _ _ R4.out s0 s1).mono ?_
      rintro e w5 ⟨⟨u5, rfl, R5, -⟩, hb5⟩
      rw [e1]
      rw [e2] at R5
      have R5 := Lib.hid R5
      have B5 : Below w.heap.size w w5 := B4.trans (hb5.mono B4.size)
      have S5 := Lib.hid (S4.out.below hb5)
      clear e1 e2
      go_wp2_with fail
      refine (image_boot_any size _ _ _ S5.out s0 s1).mono ?_
      rintro e w6 ⟨⟨u6, rfl, R6, -⟩, hb6⟩
      rw [e3]
      rw [e4] at R6
      have B6 : Below w.heap.size w w6 := B5.trans (hb6.mono B5.size)
      have S6 := S5.out.below hb6
      have R5' := R5.out.below hb6
      have l1 : (Boot.words size es).length = es.length + 13 := Boot.words_len size es
      have l2 : (Boot.words size (es.set K to)).length = es.length + 13 := by rw [Boot.words_len]; simp
      have hin := hok2
      simp only [Boot.ok, Boot.sized, Boot.inside, Bool.and_eq_true, decide_eq_true_eq] at hin
      have hin := Lib.hid hin.2
      have hoth : RowKit.Hid (∀ i, i ≠ 10 + K → (Boot.words size es).getD i 0 = (Boot.words size (es.set K to)).getD i 0) := Lib.hid (fun i hi => Boot.words_other size es _ K i (by simp) (set_other es K to) hi)
      have hcal : RowKit.Hid (∀ i, i < es.length → (Boot.words size (es.set K to)).getD (10 + i) 0 = (Boot.call ((es.set K to).getD i 0 - (10 + i) - 1)).E) := Lib.hid (fun i hi => Boot.words_call size _ i (by simpa using hi))
      obtain ⟨-, A5, c5, rfl, x5⟩ := R5'
      obtain ⟨-, A6, c6, rfl, x6⟩ := R6
      obtain ⟨-, AS, cS, hS, xS⟩ := S6
      injection hS with hS1 hS2 hS3
      subst hS1 hS3
      rw [l1] at x5
      rw [l2] at x6
      rw [hfs.out] at xS
      rw [l1, l2]
      clear hok hok2 e3 e4 S5 R5 l1 l2 hb5 hb6 S4 R4 hS2 ho2
      generalize Boot.words size es = L1 at *
      generalize Boot.words size (es.set K to) = L2 at *
      have hfl : RowKit.Hid ((es.set K to).length = es.length) := hfs
      generalize es.set K to = fs at *
      have x5 := Lib.hid x5
      have x6 := Lib.hid x6
      have xS := Lib.hid xS
      go_wp2_with fail
      go_loopw [15] (fun i wr => ∃ k : Nat, i = .int .i64 k ∧ k ≤ es.length + 13 ∧ Kept (fun _ => True) w6 wr) (fun i _ => es.length + 13 - (intOf i).toNat)
      case atStart => exact ⟨0, rfl, by omega, Kept.refl _ _⟩
      case round =>
        obtain ⟨k, rfl, hk, kp⟩ := hrel
        by_cases hlt : (k : Int) < (es.length : Int) + 13
        · obtain ⟨a5, rfl, -, y5⟩ := x5.out k (by omega)
          obtain ⟨a6, rfl, -, y6⟩ := x6.out k (by omega)
          replace y5 : wr.cell? (a5.add k) = _ := (kp.cell (p := a5.add k) trivial).trans y5
          replace y6 : wr.cell? (a6.add k) = _ := (kp.cell (p := a6.add k) trivial).trans y6
          replace kp := Lib.hid kp
          obtain ⟨T, hT⟩ : ∃ T : Int, RowKit.Hid (10 + (K : Int) = T) := ⟨_, Lib.hid rfl⟩
          by_cases hK1 : k = 10 + K
          · have e5 : ((k : Int) != T) = false := by rw [bne_eq_false_iff_eq]; have := hT.out; omega
            have hK2 := Lib.hid hK1
            clear hK1
            go_wp2_with fail
            have w7 : IntKind.i64.wrap (10 + (K : Int)) = T := by rw [IntKind.wrap_i64]; have := hT.out; omega
            go_quiet (fail)
            clear w7
            go_wp2_with fail
            exact ⟨⟨k + 1, by go_num, by omega, by first | exact kp.out.drew | exact kp.out.drewN _⟩, by simp [intOf]; omega⟩
          · have e5 : ((k : Int) != T) = true := by rw [bne_iff_ne]; have := hT.out; omega
            have e6 := hoth.out k hK1
            rw [← e6] at y6
            generalize L1.getD k 0 = q at *
            have hK2 := Lib.hid hK1
            clear hK1
            clear e6
            go_wp2_with fail
            have w7 : IntKind.i64.wrap (10 + (K : Int)) = T := by rw [IntKind.wrap_i64]; have := hT.out; omega
            go_quiet (fail)
            clear w7
            go_wp2_with fail
            exact ⟨⟨k + 1, by go_num, by omega, by first | exact kp.out.drew | exact kp.out.drewN _⟩, by simp [intOf]; omega⟩
        · have kp := Lib.hid kp
          clear hk
          go_wp2_with fail
          go_loopw [16] (fun i ws => ∃ k : Nat, i = .int .i64 k ∧ k ≤ es.length ∧ Below w6.heap.size w6 ws) (fun i _ => es.length - (intOf i).toNat)
          case atStart => exact ⟨0, rfl, by omega, kp.out.all_below⟩
          case round =>
            obtain ⟨k, rfl, hk, kb⟩ := hrel
            by_cases hlt2 : (k : Int) < (es.length : Int)
            · obtain ⟨a6, rfl, h6, y6⟩ := x6.out (10 + k) (by omega)
              obtain ⟨aS, eS, hS6, yS⟩ := xS.out k (by omega)
              injection eS with eS
              subst eS
              have y6 := (kb.cell (p := a6.add (10 + k)) (by rw [block_add]; exact h6)).trans y6
              have yS := (kb.cell (p := (⟨g2, 0, none⟩ : Addr).add k) (by rw [block_add]; exact hS6)).trans yS
              rw [block_add0] at yS
              rw [hcal.out k (by omega)] at y6
              have hb := hin.out k (by have := hfl.out; omega)
              have hd := Lib.hid (Boot.call_dec (fs.getD k 0 - (10 + k) - 1) (by omega) (by omega))
              have hE := Ins.E_bd (Boot.call (fs.getD k 0 - (10 + k) - 1))
              have DE := fun W => Lib.hid (risc_decode _ W hE.1 hE.2)
              rw [hd.out.1, hd.out.2] at DE
              generalize hf : fs.getD k 0 = f at *
              generalize (Boot.call (f - (10 + k) - 1)).E = wd at *
              have kb := Lib.hid kb
              have hf := Lib.hid hf
              simp only [Boot.call, Ins.val, Ins.cells] at DE
              clear hd hE hk
              obtain ⟨d, hd⟩ : ∃ d : Int, RowKit.Hid (f - (10 + k) - 1 = d) := ⟨_, Lib.hid rfl⟩
              rw [hd.out] at DE
              go_wp2_with fail
              refine (DE _).out.mono ?_
              rintro e w7 ⟨rfl, hb7⟩
              have yS7 : w7.cell? ⟨g2, k, none⟩ = some (.int .i64 f) := (hb7.cell (p := ⟨g2, k, none⟩) (Nat.lt_of_lt_of_le hS6 kb.out.size)).trans yS
              have hg7 : g2 < w7.heap.size := Nat.lt_of_lt_of_le (Nat.lt_of_lt_of_le hS6 kb.out.size) hb7.size
              have B7 : Below w6.heap.size w6 w7 := kb.out.trans (hb7.mono kb.out.size)
              clear yS y6
              go_wp2_with fail
              have x8 : Blk (w7.alloc (.cells #[.int .i64 3, .bool true, .bool true, .int .i64 7, .int .i64 0, .int .i64 0, .int .i64 0, .int .i64 d] 32)) w7.heap.size 32 #[.int .i64 3, .bool true, .bool true, .int .i64 7, .int .i64 0, .int .i64 0, .int .i64 0, .int .i64 d] := Blk.new w7 _ _
              have c0 := x8.cell 0
              have c1 := x8.cell 1
              have c2 := x8.cell 2
              have c7 := x8.cell 7
              have cg := (World.cell?_alloc_lt w7 (.cells #[.int .i64 3, .bool true, .bool true, .int .i64 7, .int .i64 0, .int .i64 0, .int .i64 0, .int .i64 d] 32) ⟨g2, k, none⟩ hg7).trans yS7
              have B8 : Below w6.heap.size w6 (w7.alloc (.cells #[.int .i64 3, .bool true, .bool true, .int .i64 7, .int .i64 0, .int .i64 0, .int .i64 0, .int .i64 d] 32)) := B7.alloc B7.size _
              clear x8
              generalize w7.heap.size = g7 at *
              generalize w7.alloc (.cells #[.int .i64 3, .bool true, .bool true, .int .i64 7, .int .i64 0, .int .i64 0, .int .i64 0, .int .i64 d] 32) = W8 at *
              have c0 : W8.cell? ⟨g7, 0, none⟩ = some (.int .i64 3) := c0
              have c1 : W8.cell? ⟨g7, 1, none⟩ = some (.bool true) := c1
              have c2 : W8.cell? ⟨g7, 2, none⟩ = some (.bool true) := c2
              have c7 : W8.cell? ⟨g7, 7, none⟩ = some (.int .i64 d) := c7
              have B8 := Lib.hid B8
              have e9 : (f != f) = false := by simp
              have hk1 : (k : Int) + 1 ≤ 9223372036854775807 := by omega
              have hfb := Lib.hid (hb)
              obtain ⟨T1, hT1⟩ : ∃ T : Int, RowKit.Hid (10 + (k : Int) = T) := ⟨_, Lib.hid rfl⟩
              obtain ⟨T2, hT2⟩ : ∃ T : Int, RowKit.Hid (10 + (k : Int) + 1 = T) := ⟨_, Lib.hid rfl⟩
              have s3 : IntKind.i64.wrap (T2 + d) = f := by rw [IntKind.wrap_i64]; have := hT2.out; have := hd.out; omega
              have s2 : IntKind.i64.wrap (T1 + 1) = T2 := by rw [IntKind.wrap_i64]; have := hT1.out; have := hT2.out; omega
              have s1 : IntKind.i64.wrap (10 + (k : Int)) = T1 := by rw [IntKind.wrap_i64]; have := hT1.out; omega
              go_quiet (fail)
              clear s1 s2 s3
              go_wp2_with fail
              exact ⟨⟨k + 1, by go_num, by omega, by first | exact B8.out.drew | exact fj_drewN B8.out _⟩, by simp [intOf]; omega⟩
            · go_wp2_with fail
              refine (law25_wakes _).mono ?_
              rintro e w7 ⟨rfl, hb7⟩
              go_wp2_with fail
              go_ret
              exact ⟨rfl, (B6.trans (kb.mono B6.size)).trans (hb7.mono (Nat.le_trans B6.size kb.size))⟩

end Go.Proofs.Ytlihcdhcljljoaa
