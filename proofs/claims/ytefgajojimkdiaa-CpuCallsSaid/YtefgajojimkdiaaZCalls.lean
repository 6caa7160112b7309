/-
  The statement CpuCalls: its walk, out of the contracts.
-/
import Derived.Test.YtefgajojimkdiaaZPlayed
namespace Go.Proofs.Ytefgajojimkdiaa
set_option linter.unusedVariables false
set_option linter.unusedSimpArgs false
open Go.RowKit Bw

/-- Instructions' cells, one behind the other. -/
def insFlat (l : List Ins) : List Value := l.flatMap fun x => x.cells.toList
theorem insFlat_len (l : List Ins) : (insFlat l).length = l.length * 8 := by
  induction l with
  | nil => rfl
  | cons y ys ih =>
    have hl : y.cells.toList.length = 8 := rfl
    rw [insFlat, List.flatMap_cons, List.length_append, hl, ← insFlat, ih, List.length_cons]; omega
theorem insFlat_get (x : Ins) (j : Nat) (v : Value) (hv : x.cells.toList[j]? = some v) : ∀ (xs : List Ins) (k : Nat), xs[k]? = some x → (insFlat xs)[k * 8 + j]? = some v := by
  intro xs
  induction xs with
  | nil => intro k hk; simp at hk
  | cons y ys ih =>
    intro k hk
    have hl : y.cells.toList.length = 8 := rfl
    rw [insFlat, List.flatMap_cons, ← insFlat]
    cases k with
    | zero =>
      simp at hk
      subst hk
      rw [Nat.zero_mul, Nat.zero_add, List.getElem?_append_left (by have := (List.getElem?_eq_some_iff.1 hv).1; omega)]
      exact hv
    | succ k =>
      rw [List.getElem?_append_right (by omega), hl, show (k + 1) * 8 + j - 8 = k * 8 + j by omega]
      exact ih k (by simpa using hk)
theorem insFlat_app (l m : List Ins) : insFlat (l ++ m) = insFlat l ++ insFlat m := List.flatMap_append
theorem insFlat_one (x : Ins) : insFlat [x] = x.cells.toList := by rw [insFlat, List.flatMap_cons, List.flatMap_nil, List.append_nil]
theorem insAt_own {w : World} {base g c n : Nat} {l : List Ins} (h : w.ownsRow base 24 8 (.slice (some ⟨g, 0, none⟩) n c) n (insFlat l)) : InsAt w g l := by
  refine ⟨(h.lt g rfl).2, fun k x hx j v hv => ?_⟩
  have := h.cells (g := g) rfl (k * 8 + j) v (insFlat_get x j v hv l k hx)
  rwa [cs_add0] at this
theorem ins_info : (Try.prog.info? 24).map (fun i => (i.zero, i.size, i.bytes)) = some (some Ins.zero.val, 8, 56) := by kernel_rfl
theorem news8 (w : World) (t : TypeId) (cs : Array Value) : ∀ (j : Nat) (u : Value), cs.toList[j]? = some u → (w.alloc (.cells cs t)).cell? ((⟨w.heap.size, 0, none⟩ : Addr).add j) = some u := by
  intro j u hj
  rw [cs_add0, cell_of_row _ _ j _ _ _ (heap_alloc_new w (.cells cs t))]
  simpa using hj
theorem own_slice {w : World} {base n s : Nat} {e : TypeId} {v : Value} {xs : List Value} (h : w.ownsRow base e s v n xs) (hn : 0 < n) : ∃ g c, v = .slice (some ⟨g, 0, none⟩) n c := by
  rcases h.2 with ⟨_, h2⟩ | ⟨g, cap, cur, hv, _⟩
  · omega
  · exact ⟨g, cap, hv⟩
theorem ins_ones (x : Ins) : ∀ u ∈ x.cells.toList, u.oneCell' = true := by
  intro u hu
  have := ins_one x
  rw [Array.all_eq_true'] at this
  exact this u (by simpa using hu)

set_option maxRecDepth 100000 in
set_option maxHeartbeats 4000000 in
theorem law05_calls (n : Int) (b : Bool) (w : World) (hr0 : -9223372036854775808 ≤ n) (hr1 : n ≤ 9223372036854775807) :
    Calls Try.prog 6 #[.int .i64 n, .bool b] w fun e w' => e = .returned (.bool true) ∧ Below w.heap.size w w' := by
  obtain ⟨K, hK, hKl⟩ : ∃ K : Nat, wrap64 ((IntKind.u64.wrap n).tmod 20) = (K : Int) ∧ K < 20 := by
    have e1 : IntKind.u64.wrap n = n % 18446744073709551616 := wrapU64_emod n
    have h0 : 0 ≤ IntKind.u64.wrap n := by rw [e1]; omega
    rw [Int.tmod_eq_emod_of_nonneg h0]
    refine ⟨(IntKind.u64.wrap n % 20).toNat, ?_, by omega⟩
    rw [show wrap64 (IntKind.u64.wrap n % 20) = IntKind.u64.wrap n % 20 by unfold wrap64; omega]
    omega
  have law := calls_law K hKl b
  obtain ⟨C, hC⟩ : ∃ C : Int, (if b then (7 : Int) else 15) = C := ⟨_, rfl⟩
  simp only [callsOk, hC, Bool.and_eq_true, decide_eq_true_eq] at law
  obtain ⟨⟨⟨⟨l1, l2⟩, l3⟩, l4⟩, lg⟩ := law
  obtain ⟨i0, hi0, hz0, hz1, hz2⟩ := info_parts ins_info
  go_enter Try.func6, Try.ntmps6
  cases b
  all_goals
    simp only [if_true, Bool.false_eq_true, if_false] at hC l2 l3 l4
    have hC' := Lib.hid hC
    clear hC
    go_wp2_with fail
    generalize hW : w.alloc _ = W
    have own0 : W.ownsRow w.heap.size 24 8 (.slice (some ⟨w.heap.size, 0, none⟩) 2 2) (2 + 0) (insFlat ([⟨3, true, true, C, 0, 0, 0, K + 1⟩, ⟨1, false, false, 2, 2, 0, 8, 1⟩] ++ List.replicate 0 ⟨1, false, false, 3, 3, 0, 8, 1⟩)) := by
      rw [← hW, ← hC'.out]
      exact ⟨rfl, Or.inr ⟨w.heap.size, 2, _, rfl, Nat.le_refl _, heap_alloc_new w _, by decide, by decide, rfl, rfl⟩⟩
    have B0 : Below w.heap.size w W := by rw [← hW]; exact (Below.refl _ _).alloc (Nat.le_refl _) _
    clear hW
    have B0 := Lib.hid B0
    have lg := Lib.hid lg
    have own0 := Lib.hid own0
    have l1 := Lib.hid l1
    have l2 := Lib.hid l2
    have l3 := Lib.hid l3
    have l4 := Lib.hid l4
    simp only [hK]
    clear hK
    go_loopw [7, 8] (fun o i wr => ∃ j : Nat, i = .int .i64 j ∧ j ≤ K ∧ wr.ownsRow w.heap.size 24 8 o (2 + j) (insFlat ([⟨3, true, true, C, 0, 0, 0, K + 1⟩, ⟨1, false, false, 2, 2, 0, 8, 1⟩] ++ List.replicate j ⟨1, false, false, 3, 3, 0, 8, 1⟩)) ∧ Below w.heap.size w wr) (fun _ i _ => K - (intOf i).toNat)
    case atStart => exact ⟨0, rfl, by omega, own0.out, B0.out⟩
    case round =>
      obtain ⟨j, rfl, hj, hown, hb⟩ := hrel
      have hown := Lib.hid hown
      have hb := Lib.hid hb
      by_cases hlt : (j : Int) < K
      · go_wp2_with (at_builtin; refine wpList_append_own _ rfl (.tmp 28) (.tmp 30) 25 rfl w.heap.size 24 i0 _ 8 56 Try.underlying25 hi0 hz0 hz1 hz2 rfl (by omega) _ (2 + j) _ rfl (hown.out.alloc _) ⟨wr.heap.size, 0, none⟩ 1 1 (Ins.cells ⟨1, false, false, 3, 3, 0, 8, 1⟩).toList rfl rfl (news8 wr _ _) (ins_ones _) (by simp only [maxLen]; omega) (by omega) (by simp; exact Nat.le_succ_of_le hb.out.size) ?_; intro v2 w2 hown2 hg2 _)
        have hb3 : Below w.heap.size w w2 := (hb.out.alloc hb.out.size _).grown hg2 (by simp; exact Nat.le_succ_of_le hb.out.size) (fun q hq => (hown.out.lt q hq).1)
        have hown2 := Lib.hid hown2
        go_wp2_with fail
        refine ⟨⟨j + 1, by go_num, by omega, ?_, hb3⟩, by simp [intOf]; omega⟩
        have := hown2.out
        rw [← insFlat_one, ← insFlat_app, List.append_assoc, ← List.replicate_succ'] at this
        exact this
      · obtain rfl : j = K := by omega
        go_wp2_with (at_builtin; refine wpList_append_own _ rfl (.tmp 32) (.tmp 34) 25 rfl w.heap.size 24 i0 _ 8 56 Try.underlying25 hi0 hz0 hz1 hz2 rfl (by omega) _ (2 + j) _ rfl (hown.out.alloc _) ⟨wr.heap.size, 0, none⟩ 1 1 (Ins.cells ⟨3, false, false, 7, 0, 15, 0, 0⟩).toList rfl rfl (news8 wr _ _) (ins_ones _) (by simp only [maxLen]; omega) (by omega) (by simp; exact Nat.le_succ_of_le hb.out.size) ?_; intro v2 w2 hown2 hg2 _)
        have hb3 : Below w.heap.size w w2 := (hb.out.alloc hb.out.size _).grown hg2 (by simp; exact Nat.le_succ_of_le hb.out.size) (fun q hq => (hown.out.lt q hq).1)
        have hown3 := hown2
        rw [← insFlat_one, ← insFlat_app, List.append_assoc] at hown3
        obtain ⟨g, cap, hv⟩ := own_slice hown3 (by omega)
        subst hv
        have I0 : InsAt w2 g (callsIns j C) := insAt_own hown3
        have hn : (callsIns j C).length = 2 + j + 1 := by simp [callsIns]; omega
        have hb3 := Lib.hid hb3
        have gd : ∀ x ∈ callsIns j C, x.good = true := List.all_eq_true.1 lg.out
        have PL := law05_played (callsIns j C) g cap ⟨#[]⟩ 2 w2 I0 gd (by omega) (by decide) (by decide)
        rw [hn] at PL
        have PL := Lib.hid PL
        clear hown2 hown3 hown hb hg2 hlt I0 gd hn
        refine PL.out.mono ?_
        rintro e w3 ⟨p, mp, ap, ov, rfl, hM, hb4⟩
        have q1 := l1.out
        have q2 := l2.out
        have q3 := l3.out
        have q4 := l4.out
        rw [callsM] at q1 q2 q3 q4
        obtain ⟨M, hMe⟩ : ∃ M, (Mc.start (playW (callsIns j C)) 0 ⟨#[]⟩).run 2 = M := ⟨_, rfl⟩
        obtain ⟨ST, hST⟩ : ∃ ST, (Mc.start (playW (callsIns j C)) 0 ⟨#[]⟩).steps 2 = ST := ⟨_, rfl⟩
        rw [hMe] at hM q1 q2 q3 q4
        rw [hMe, hST]
        obtain ⟨T0, S0, R0, hoc⟩ : ∃ T0 S0 R0, M.oc ST = .agg #[.int .i64 3, .int .i64 T0, .string S0, .int .i64 ST, .int .i64 R0] :=
          ⟨M.trap, strOfNums M.out, M.read, by rw [Mc.oc, if_pos q1]⟩
        rw [hoc]
        clear hoc PL hMe hST l1 l2 l3 l4 lg own0
        have hb4 := hb3.out.trans (hb4.mono hb3.out.size)
        have M1 := Lib.hid (hM.alloc (.cells #[.int .i64 3, .int .i64 T0, .string S0, .int .i64 ST, .int .i64 R0] 28))
        have b2 := Lib.hid (hb4.alloc hb4.size (.cells #[.int .i64 3, .int .i64 T0, .string S0, .int .i64 ST, .int .i64 R0] 28))
        have q2 := Lib.hid q2
        have q3 := Lib.hid q3
        have q4 := Lib.hid q4
        clear hM hb4 q1
        go_wp2_with fail
        refine (cpu_pc p mp ap ov M _ M1.out).mono ?_
        rintro e w4 ⟨rfl, rfl⟩
        rw [q2.out]
        go_wp2_with fail
        refine (cpu_reg p mp ap 15 ov M _ M1.out (by decide)).mono ?_
        rintro e w4 ⟨rfl, rfl⟩
        rw [q3.out]
        go_wp2_with fail
        refine (cpu_reg p mp ap 2 ov M _ M1.out (by decide)).mono ?_
        rintro e w4 ⟨rfl, rfl⟩
        rw [q4.out]
        go_wp2_with fail
        refine (law05_wakes _).mono ?_
        rintro e w4 ⟨rfl, hb5⟩
        have hb5 := Lib.hid hb5
        go_wp2_with fail
        go_ret
        exact ⟨rfl, b2.out.trans (hb5.out.mono b2.out.size)⟩

end Go.Proofs.Ytefgajojimkdiaa
