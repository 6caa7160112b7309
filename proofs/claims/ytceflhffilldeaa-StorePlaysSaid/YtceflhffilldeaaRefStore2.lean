/-
  Texts compared; the document's store: Names, Get, walked. (keep_texts turned out of keep_words.)
-/
import Derived.Test.YtceflhffilldeaaRefStore
import Derived.Test.YtceflhffilldeaaRow
namespace Go.Proofs.Ytceflhffilldeaa
set_option linter.unusedVariables false
set_option linter.unusedSimpArgs false
open Go.RowKit Go.Maps Go.WideMaps

theorem kt_ret {a b : Bool} (h : a = b) : Ending.returned (Value.bool a) = Ending.returned (Value.bool b) := by rw [h]
theorem kt_ne {a b : ByteArray} (h : a ≠ b) : (a.toList == b.toList) = false := by
  rw [beq_eq_false_iff_ne]
  intro e
  apply h
  have h1 : a.data.toList = b.data.toList := by simpa [ByteArray.toList_eq] using e
  exact ByteArray.ext (Array.toList_inj.1 h1)
theorem kt_ne_at {l m : List ByteArray} {k : Nat} (hk : k < l.length) (hk' : k < m.length) (h : l.getD k ⟨#[]⟩ ≠ m.getD k ⟨#[]⟩) : false = decide (l = m) := by
  rw [eq_comm, decide_eq_false_iff_not]
  rintro rfl
  exact h rfl
theorem kt_eq_at {l m : List ByteArray} (h : l.length = m.length) (hj : ∀ j, j < l.length → l.getD j ⟨#[]⟩ = m.getD j ⟨#[]⟩) : true = decide (l = m) := by
  rw [eq_comm, decide_eq_true_eq]
  apply List.ext_getElem h
  intro i h1 h2
  have := hj i h1
  simpa [List.getD, h1, h2] using this

set_option maxRecDepth 100000 in
theorem keep_texts (v u : Value) (l m : List ByteArray) (w : World) (hl : SRow w v l) (hm : SRow w u m) :
    Calls Try.prog 20 #[v, u] w fun e w' => e = .returned (.bool (decide (l = m))) ∧ Kept (fun _ => True) w w' := by
  obtain ⟨hl1, A, c, rfl, hc⟩ := hl
  obtain ⟨hm1, B, d, rfl, hd⟩ := hm
  have hc := Lib.hid hc
  have hd := Lib.hid hd
  by_cases hn : l.length = m.length
  · have hn' := Lib.hid hn
    have e1 : ((l.length : Int) != (m.length : Int)) = false := by rw [hn]; simp
    clear hn
    go_enter Try.func20, Try.ntmps20
    go_wp2_with fail
    go_loopw [5] (fun i wr => ∃ k : Nat, i = .int .i64 k ∧ k ≤ l.length ∧ (∀ j, j < k → l.getD j ⟨#[]⟩ = m.getD j ⟨#[]⟩) ∧ Kept (fun _ => True) w wr) (fun i _ => l.length - (intOf i).toNat)
    case atStart => exact ⟨0, rfl, by omega, fun j hj => by omega, Kept.refl _ _⟩
    case round =>
      obtain ⟨k, rfl, hk, hj, hw⟩ := hrel
      have hj := Lib.hid hj
      have hw := Lib.hid hw
      by_cases hlt : (k : Int) < (l.length : Int)
      · obtain ⟨ad, rfl, -, x1⟩ := hc.out k (by omega)
        obtain ⟨bd, rfl, -, x2⟩ := hd.out k (by have := hn'.out; omega)
        have x3 := hw.out.cell (p := ad.add k) trivial
        have x4 := hw.out.cell (p := bd.add k) trivial
        rw [x1] at x3
        rw [x2] at x4
        clear x1 x2
        have b2 : (k : Int) < (m.length : Int) := by have := hn'.out; omega
        have x3 : wr.drew.cell? (ad.add k) = some (.string (l.getD k ⟨#[]⟩)) := x3
        have x4 : wr.drew.cell? (bd.add k) = some (.string (m.getD k ⟨#[]⟩)) := x4
        have hK := Lib.hid hw.out.drew
        by_cases heq : l.getD k ⟨#[]⟩ = m.getD k ⟨#[]⟩
        · have heq' := Lib.hid heq
          have e2 : ((l.getD k ⟨#[]⟩).toList == (m.getD k ⟨#[]⟩).toList) = true := by rw [heq]; simp
          clear heq
          generalize hla : l.getD k ⟨#[]⟩ = la at *
          generalize hma : m.getD k ⟨#[]⟩ = ma at *
          have hla := Lib.hid hla
          have hma := Lib.hid hma
          go_wp2_with fail
          refine region_drew 8 (by kernel_rfl) (by kernel_rfl) ?_
          simp only [List.take_succ_cons, List.take_zero, List.drop_succ_cons, List.drop_zero]
          repeat still_step
          refine wpStill_nil ?_
          generalize wr.drew = W at *
          go_wp2_with fail
          refine ⟨⟨k + 1, by go_num, by omega, fun j hj' => ?_, hK.out⟩, by simp [intOf]; omega⟩
          rcases Nat.lt_or_ge j k with h | h
          · exact hj.out j h
          · obtain rfl : j = k := by omega
            rw [hla.out, hma.out]; exact heq'.out
        · have heq' := Lib.hid heq
          have e2 : ((l.getD k ⟨#[]⟩).toList == (m.getD k ⟨#[]⟩).toList) = false := kt_ne heq
          clear heq
          generalize hla : l.getD k ⟨#[]⟩ = la at *
          generalize hma : m.getD k ⟨#[]⟩ = ma at *
          have hla := Lib.hid hla
          have hma := Lib.hid hma
          go_wp2_with fail
          refine region_drew 8 (by kernel_rfl) (by kernel_rfl) ?_
          simp only [List.take_succ_cons, List.take_zero, List.drop_succ_cons, List.drop_zero]
          repeat still_step
          refine wpStill_nil ?_
          generalize wr.drew = W at *
          go_wp2_with fail
          go_ret
          exact ⟨kt_ret (kt_ne_at (k := k) (by omega) (by omega) (by rw [hla.out, hma.out]; exact heq'.out)), hK.out⟩
      · go_wp2_with fail
        go_ret
        exact ⟨kt_ret (kt_eq_at hn'.out (fun j h => hj.out j (by omega))), hw.out⟩
  · go_enter Try.func20, Try.ntmps20
    have e1 : ((l.length : Int) != (m.length : Int)) = true := by rw [bne_iff_ne]; omega
    have hn := Lib.hid hn
    go_wp2_with fail
    go_ret
    exact ⟨kt_ret (by rw [eq_comm, decide_eq_false_iff_not]; rintro rfl; exact hn.out rfl), Kept.refl _ _⟩

theorem rs_str_info : (Try.prog.info? 9).map (fun i => (i.zero, i.size, i.bytes)) = some (some (.string ⟨#[]⟩), 1, 16) := by kernel_rfl
theorem ref07_names (p : Nat) (vt v : Value) (N : List ByteArray) (w : World) (hp : Blk w p 28 #[v, vt]) (hN : SRow w v N) (hn : N.length ≤ 1000) :
    Calls Try.prog 17 #[.pointer (some ⟨p, 0, none⟩)] w fun e w' => ∃ u, e = .returned u ∧ w'.ownsRow w.heap.size 9 1 u N.length (N.map Value.string) ∧ Below w.heap.size w w' := by
  have C1 := hp.cell 0
  have hpl := hp.lt
  simp only [List.getElem?_toArray, List.getElem?_cons_zero] at C1
  have hN' := Lib.hid hN
  obtain ⟨hm, A, c, rfl, hc⟩ := hN
  clear hp hc
  go_enter Try.func17, Try.ntmps17
  go_wp2_with (at_builtin; refine wpList_plain rfl fun K hK => ?_; refine wp_app_str (w.alloc (.cells #[] 9)) (.tmp 5) (.tmp 9) 26 9 rfl 16 Try.underlying26 rs_str_info (by omega) w.heap.size (by simp) w.heap.size 0 0 [] ⟨rfl, Or.inr ⟨w.heap.size, 0, _, rfl, Nat.le_refl _, heap_alloc_new w _, Nat.le_refl _, by decide, rfl, rfl⟩⟩ N _ rfl rfl (hN'.out.below ((Below.refl _ _).alloc (Nat.le_refl _) _)) (by omega) ?_; intro g c2 w2 ho2 hg2; refine hK _ _ ?_; clear hK K; have ho2 := Lib.hid ho2; have B2 : Below w.heap.size w w2 := ((Below.refl _ _).alloc (Nat.le_refl _) _).grown hg2 (by simp) (fun q hq => by injection hq with hq; omega))
  go_ret
  have := ho2.out
  rw [Nat.zero_add, List.nil_append] at this
  exact ⟨_, rfl, this, B2⟩

theorem ref07_get (p : Nat) (v vt : Value) (N T : List ByteArray) (s : ByteArray) (w : World) (hp : Blk w p 28 #[v, vt]) (hN : SRow w v N) (hT : SRow w vt T) (hl : N.length = T.length) (hi : (plc s N).2 = true → (plc s N).1 < N.length) :
    Calls Try.prog 14 #[.pointer (some ⟨p, 0, none⟩), .string s] w fun e w' => e = .returned (.tuple #[.string (if (plc s N).2 = true then T.getD (plc s N).1 ⟨#[]⟩ else ⟨#[]⟩), .bool (plc s N).2]) ∧ w = w' := by
  have PL := Lib.hid (ref_place p vt v N s w hp hN)
  have C1 := hp.cell 1
  simp only [List.getElem?_toArray, List.getElem?_cons_zero, List.getElem?_cons_succ] at C1
  obtain ⟨hm, A, c, rfl, hc⟩ := hT
  cases hb : (plc s N).2
  · rw [hb] at PL
    generalize ((plc s N).1 : Int) = i at *
    clear hi hc hp
    go_enter Try.func14, Try.ntmps14
    go_wp2_with fail
    refine PL.out.mono ?_
    rintro e w1 ⟨rfl, rfl⟩
    go_wp2_with fail
    go_ret2
    exact ⟨rfl, rfl⟩
  · rw [hb] at PL
    have hlt := hi hb
    generalize (plc s N).1 = i at *
    obtain ⟨ad, rfl, -, hx⟩ := hc i (by omega)
    have hlt' : (i : Int) < T.length := by omega
    generalize T.getD i ⟨#[]⟩ = x at *
    clear hi hc hp
    go_enter Try.func14, Try.ntmps14
    go_wp2_with fail
    refine PL.out.mono ?_
    rintro e w1 ⟨rfl, rfl⟩
    go_wp2_with fail
    go_ret2
    exact ⟨rfl, rfl⟩

end Go.Proofs.Ytceflhffilldeaa
