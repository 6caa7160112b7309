/-
  The document's Reader: Raw, Byte, Word, Text, Bad, End, Spoil, walked.
-/
import Derived.Test.YtceflhffilldeaaZRead
import Derived.Test.YtceflhffilldeaaZRider
import Derived.Test.YtceflhffilldeaaZBits
namespace Go.Proofs.Ytceflhffilldeaa
set_option linter.unusedVariables false
set_option linter.unusedSimpArgs false
open Go.RowKit ObjL Bw

abbrev rfT : TypeId := 103
set_option maxRecDepth 100000 in
theorem rf_raw (p : Nat) (s : List UInt8) (st : Lft) (n : Int) (w : World) (h : RdIs rfT w p s st) (hs : s.length ≤ 1000000) (hn : I64 n) :
    Calls Try.prog 66 #[.pointer (some ⟨p, 0, none⟩), .int .i64 n] w (RdEnd rfT p s (rRaw n) tVal (tOk s) st w) := by
  obtain ⟨a, bad, hB, ha, rfl⟩ := h
  have c0 := hB.cell 0
  have c1 := hB.cell 1
  have c2 := hB.cell 2
  have f1 := hB.frozen 1
  have f2 := hB.frozen 2
  simp only [List.getElem?_toArray, List.getElem?_cons_zero, List.getElem?_cons_succ] at c0 c1 c2
  have hss := txt_size s
  have hBH := Lib.hid hB
  clear hB
  cases bad
  · obtain ⟨hn1, hn2⟩ := hn
    by_cases h0 : n < 0
    · have hres := Lib.hid (raw_no (s := s) (a := a) (n := n) (by omega) ha)
      go_enter Try.func66, Try.ntmps66
      go_wp2_with fail
      go_quiet (fail)
      go_wp2_with fail
      go_ret
      exact RdEnd.mk [] none rfl (Took.no hres.out) ⟨a, true, hBH.out.drewN _ |>.set_ 2 _, ha, rfl⟩ (((RdK.refl _ _).drewN _).set_ 2 _) (Nat.zero_le _)
    · have hd0 : decide (n < 0) = false := decide_eq_false h0
      obtain ⟨N, rfl⟩ : ∃ N : Nat, n = N := ⟨n.toNat, by omega⟩
      by_cases h1 : (s.length : Int) - a < N
      · have hres := Lib.hid (raw_no (s := s) (a := a) (n := N) (by omega) ha)
        have hw1 : IntKind.i64.wrap ((s.length : Int) - a) = (s.length : Int) - a := by rw [IntKind.wrap_i64]; omega
        go_enter Try.func66, Try.ntmps66
        go_wp2_with fail
        go_quiet (fail)
        go_wp2_with fail
        go_ret
        exact RdEnd.mk [] none rfl (Took.no hres.out) ⟨a, true, hBH.out.drewN _ |>.set_ 2 _, ha, rfl⟩ (((RdK.refl _ _).drewN _).set_ 2 _) (Nat.zero_le _)
      · have hres := Lib.hid (raw_yes (s := s) (a := a) (n := N) (by omega))
        have hw1 : IntKind.i64.wrap ((s.length : Int) - a) = (s.length : Int) - a := by rw [IntKind.wrap_i64]; omega
        have hw2 : IntKind.i64.wrap ((a : Int) + N) = (a : Int) + N := by rw [IntKind.wrap_i64]; omega
        have hd1 : decide ((s.length : Int) - a < N) = false := decide_eq_false h1
        have haN := Lib.hid (show a + N ≤ s.length by omega)
        go_enter Try.func66, Try.ntmps66
        go_wp2_with fail
        go_quiet (fail)
        clear hw1 hd1
        have hw3 : IntKind.i64.wrap ((a : Int) + N - N) = (a : Int) := by rw [IntKind.wrap_i64]; omega
        have hx1 : (a : Int) + N - N = a := by omega
        go_wp2_with fail
        have B8 := Lib.hid ((hBH.out.drewN nq).set_ 1 (.int .i64 ((a : Int) + N)))
        have K8 := Lib.hid (((RdK.refl p w).drewN nq).set_ 1 (.int .i64 ((a : Int) + N)))
        generalize (w.drewN nq).setCell ⟨p, 1, none⟩ (.int .i64 ((a : Int) + N)) = W8 at *
        have c0 : W8.cell? ⟨p, 0, none⟩ = some (.string (txt s)) := B8.out.cell 0
        have c1 : W8.cell? ⟨p, 1, none⟩ = some (.int .i64 ((a : Int) + N)) := B8.out.cell 1
        have g1 : (0 : Int) ≤ (a : Int) := by omega
        have g2 : (a : Int) ≤ (a : Int) + N := by omega
        have g3 : (a : Int) + N ≤ (s.length : Int) := by omega
        have g4 : (0 : Int) ≤ (a : Int) + N := by omega
        have g5 : ((a : Int) + N).toNat = a + N := by omega
        have e1 := txt_part s a (a + N)
        rw [take_drop_mid] at e1
        go_quiet (fail)
        go_wp2_with fail
        go_ret
        exact RdEnd.mk ((s.drop a).take N) (some (s.drop (a + N))) rfl (Took.yes hres.out) ⟨a + N, false, B8.out.drewN _, haN.out, rfl⟩ (K8.out.drewN _) (by unfold tOk; rw [List.length_take, List.length_drop]; omega)
  · go_enter Try.func66, Try.ntmps66
    go_wp2_with fail
    go_quiet (fail)
    go_wp2_with fail
    go_ret
    exact RdEnd.mk [] none rfl (Took.bad _ _) ⟨a, true, hBH.out.drewN _ |>.set_ 2 _, ha, rfl⟩ (((RdK.refl _ _).drewN _).set_ 2 _) (Nat.zero_le _)

/-- A reader's flag. -/
theorem rd_flag {T : TypeId} {w : World} {p : Nat} {s : List UInt8} {st : Lft} (h : RdIs T w p s st) : w.cell? ⟨p, 2, none⟩ = some (.bool st.isNone) := by
  obtain ⟨a, bad, hB, ha, rfl⟩ := h
  refine (hB.cell 2).trans ?_
  cases bad <;> rfl
theorem rf_bad (p : Nat) (s : List UInt8) (st : Lft) (w : World) (h : RdIs rfT w p s st) :
    Calls Try.prog 64 #[.pointer (some ⟨p, 0, none⟩)] w fun e w' => e = .returned (.bool st.isNone) ∧ w = w' := by
  have c2 := rd_flag h
  clear h
  generalize st.isNone = b at *
  go_enter Try.func64, Try.ntmps64
  go_wp2_with fail
  go_ret
  exact ⟨rfl, rfl⟩
theorem rf_spoil (p : Nat) (s : List UInt8) (st : Lft) (w : World) (h : RdIs rfT w p s st) :
    Calls Try.prog 105 #[.pointer (some ⟨p, 0, none⟩)] w fun e w' => e = .returned (.tuple #[]) ∧ RdIs rfT w' p s none ∧ RdK p w w' := by
  have c2 := rd_flag h
  obtain ⟨a, bad, hB, ha, rfl⟩ := h
  have f2 := hB.frozen 2
  have hBH := Lib.hid hB
  clear hB
  go_enter Try.func105, Try.ntmps105
  go_wp2_with fail
  go_end0
  exact ⟨rfl, ⟨a, true, hBH.out.set_ 2 _, ha, rfl⟩, (RdK.refl _ _).set_ 2 _⟩

theorem rf_end (p : Nat) (s : List UInt8) (st : Lft) (w : World) (h : RdIs rfT w p s st) (hs : s.length ≤ 1000000) :
    Calls Try.prog 67 #[.pointer (some ⟨p, 0, none⟩)] w fun e w' => e = .returned (.bool (decide (st = some []))) ∧ ∃ q, w' = w.drewN q := by
  obtain ⟨a, bad, hB, ha, rfl⟩ := h
  have c0 := hB.cell 0
  have c1 := hB.cell 1
  have c2 := hB.cell 2
  simp only [List.getElem?_toArray, List.getElem?_cons_zero, List.getElem?_cons_succ] at c0 c1 c2
  have hss := txt_size s
  clear hB
  cases bad
  · have hq : RowKit.Hid (decide ((if false = true then none else some (s.drop a) : Lft) = some []) = ((a : Int) == (s.length : Int))) := Lib.hid (by
      rw [if_neg (by decide), Bool.eq_iff_iff, decide_eq_true_eq, beq_iff_eq]
      constructor
      · intro h
        injection h with h
        have := congrArg List.length h
        rw [List.length_drop, List.length_nil] at this
        omega
      · intro h
        rw [List.drop_eq_nil_of_le (by omega)])
    rw [hq.out]
    clear hq
    go_enter Try.func67, Try.ntmps67
    go_wp2_with fail
    go_quiet (fail)
    go_wp2_with fail
    go_ret
    exact ⟨rfl, _, rfl⟩
  · go_enter Try.func67, Try.ntmps67
    go_wp2_with fail
    go_quiet (fail)
    go_wp2_with fail
    go_ret
    exact ⟨rfl, _, rfl⟩

def rByte : List UInt8 → Option (UInt8 × List UInt8)
  | [] => none
  | c :: r => some (c, r)
theorem took_byte_no {st : Lft} {t : List UInt8} {x : UInt8} (h : Took (rRaw 1) st t none) : Took rByte st x none := by
  cases st with
  | none => rfl
  | some l =>
    have h : rRaw 1 l = none := h
    show rByte l = none
    unfold rRaw at h
    split at h
    · cases h
    · rename_i hl
      match l with
      | [] => rfl
      | a :: r => simp at hl; omega
theorem took_byte_yes {st : Lft} {t r : List UInt8} (h : Took (rRaw 1) st t (some r)) : ∃ c : UInt8, t = [c] ∧ Took rByte st c (some r) := by
  cases st with
  | none => cases h
  | some l =>
    have h : rRaw 1 l = some (t, r) := h
    unfold rRaw at h
    split at h
    · rename_i hl
      injection h with h
      injection h with h1 h2
      subst h1 h2
      match l, hl with
      | a :: r, _ => exact ⟨a, rfl, rfl⟩
      | [], hl => simp at hl
    · cases h
def bVal (c : UInt8) : Value := .int .i64 c.toNat
theorem rf_byte (p : Nat) (s : List UInt8) (st : Lft) (w : World) (h : RdIs rfT w p s st) (hs : s.length ≤ 1000000) :
    Calls Try.prog 106 #[.pointer (some ⟨p, 0, none⟩)] w (RdEnd rfT p s rByte bVal (fun _ => True) st w) := by
  have RW := Lib.hid (rf_raw p s st 1 w h hs ⟨by decide, by decide⟩)
  clear h
  go_enter Try.func106, Try.ntmps106
  go_wp2_with fail
  refine RW.out.mono ?_
  rintro e w1 ⟨t, st', rfl, h1, h2, h3, h4⟩
  have c2 := rd_flag h2
  have h2 := Lib.hid h2
  clear h4
  unfold tVal
  cases st' with
  | none =>
    have c2 : w1.cell? ⟨p, 2, none⟩ = some (.bool true) := c2
    go_wp2_with fail
    go_ret
    exact RdEnd.mk 0 none rfl (took_byte_no h1) h2.out h3 trivial
  | some r =>
    have c2 : w1.cell? ⟨p, 2, none⟩ = some (.bool false) := c2
    obtain ⟨b, rfl, hw⟩ := took_byte_yes h1
    have hw := Lib.hid hw
    clear h1
    have q0 := b.toNat_lt
    have i0 : ∀ h, (txt [b])[0]'h = b := fun _ => rfl
    have hsz : (txt [b]).size = 1 := rfl
    go_wp2_with fail
    go_ret
    exact RdEnd.mk b (some r) rfl hw.out h2.out h3 trivial

set_option maxRecDepth 100000 in
theorem rf_word (p : Nat) (s : List UInt8) (st : Lft) (w : World) (h : RdIs rfT w p s st) (hs : s.length ≤ 1000000) :
    Calls Try.prog 62 #[.pointer (some ⟨p, 0, none⟩)] w (RdEnd rfT p s rWord (Value.int .u32) wOk st w) := by
  have RW := Lib.hid (rf_raw p s st 4 w h hs ⟨by decide, by decide⟩)
  clear h
  go_enter Try.func62, Try.ntmps62
  go_wp2_with fail
  refine RW.out.mono ?_
  rintro e w1 ⟨t, st', rfl, h1, h2, h3, h4⟩
  have c2 := rd_flag h2
  have h2 := Lib.hid h2
  clear h4
  unfold tVal
  cases st' with
  | none =>
    have c2 : w1.cell? ⟨p, 2, none⟩ = some (.bool true) := c2
    go_wp2_with fail
    go_ret
    exact RdEnd.mk 0 none rfl (took_word_no h1) h2.out h3 ⟨by decide, by decide⟩
  | some r =>
    have c2 : w1.cell? ⟨p, 2, none⟩ = some (.bool false) := c2
    obtain ⟨b0, b1, b2, b3, rfl, hw⟩ := took_word_yes h1
    have hw := Lib.hid hw
    clear h1
    have q0 := b0.toNat_lt
    have q1 := b1.toNat_lt
    have q2 := b2.toNat_lt
    have q3 := b3.toNat_lt
    have i0 : ∀ h, (txt [b0, b1, b2, b3])[0]'h = b0 := fun _ => rfl
    have i1 : ∀ h, (txt [b0, b1, b2, b3])[1]'h = b1 := fun _ => rfl
    have i2 : ∀ h, (txt [b0, b1, b2, b3])[2]'h = b2 := fun _ => rfl
    have i3 : ∀ h, (txt [b0, b1, b2, b3])[3]'h = b3 := fun _ => rfl
    have hsz : (txt [b0, b1, b2, b3]).size = 4 := rfl
    go_wp2_with fail
    refine wp_loop_rounds 5 ?_
    rw [rounds_succ]
    go_wp2_with fail
    rw [rounds_succ]
    go_wp2_with fail
    rw [rounds_succ]
    go_wp2_with fail
    rw [rounds_succ]
    go_wp2_with fail
    rw [rounds_succ]
    go_wp2_with fail
    go_ret
    refine RdEnd.mk ((b0.toNat : Int) + 256 * b1.toNat + 65536 * b2.toNat + 16777216 * b3.toNat) (some r) ?_ hw.out h2.out h3 ⟨by omega, by omega⟩
    congr 1
    omega

theorem find_at {l : List UInt8} {n : Nat} (hn : n < l.length) (h0 : l[n] = 0) (hb : ∀ j (h : j < l.length), j < n → l[j] ≠ 0) (h64 : n ≤ 64) : rText l = some (l.take n, l.drop (n + 1)) := by
  have e : l.findIdx? (· == 0) = some n := List.findIdx?_eq_some_iff_getElem.2 ⟨hn, by rw [h0]; rfl, fun j hj => by simpa using hb j (by omega) hj⟩
  unfold rText
  rw [e]
  dsimp only
  rw [if_pos h64]
theorem find_no {l : List UInt8} {n : Nat} (hb : ∀ j (h : j < l.length), j < n → l[j] ≠ 0) (he : l.length ≤ n ∨ 65 ≤ n) : rText l = none := by
  unfold rText
  cases e : l.findIdx? (· == 0) with
  | none => rfl
  | some m =>
    obtain ⟨h1, h2, -⟩ := List.findIdx?_eq_some_iff_getElem.1 e
    dsimp only
    rw [if_neg]
    intro hm
    exact hb m h1 (by omega) (by simpa using h2)
set_option maxRecDepth 100000 in
theorem rf_text (p : Nat) (s : List UInt8) (st : Lft) (w : World) (h : RdIs rfT w p s st) (hs : s.length ≤ 1000000) :
    Calls Try.prog 61 #[.pointer (some ⟨p, 0, none⟩)] w (RdEnd rfT p s rText tVal (tOk s) st w) := by
  obtain ⟨a, bad, hB, ha, rfl⟩ := h
  cases bad
  · have c2 : w.cell? ⟨p, 2, none⟩ = some (.bool false) := hB.cell 2
    have hss := txt_size s
    obtain ⟨ts, hts, htl, HT⟩ : ∃ ts : ByteArray, txt s = ts ∧ ts.size = s.length ∧ ∀ k (hk : k < s.length) (h : k < ts.size), ts[k]'h = s[k] := ⟨txt s, rfl, txt_size s, fun k hk h => by first | rfl | (show ((txt s).data[k]'_) = _; first | rfl | (simp [txt]; done) | (simp [txt]; rfl))⟩
    have HT2 := Lib.hid HT
    have hBH := Lib.hid hB
    clear hB hss HT
    have hpart := Lib.hid (fun n => (txt_part s a (a + n)).trans (by rw [take_drop_mid]))
    rw [hts] at hpart hBH
    have htsH := Lib.hid hts
    clear hts
    go_enter Try.func61, Try.ntmps61
    go_wp2_with fail
    clear c2
    go_loopw [3] (fun i wr => ∃ (n : Nat), i = .int .i64 n ∧ n ≤ 65 ∧ a + n ≤ s.length ∧ RowKit.Hid (∃ q, wr = w.drewN q) ∧ RowKit.Hid (∀ j (h : j < (s.drop a).length), j < n → (s.drop a)[j] ≠ 0)) (fun i _ => 65 - (intOf i).toNat)
    case atStart => exact ⟨0, rfl, by omega, by omega, Lib.hid ⟨0, rfl⟩, Lib.hid (fun j h hj => by omega)⟩
    case round =>
      obtain ⟨n, rfl, hn65, han, hwq, hall⟩ := hrel
      have hBr : RowKit.Hid (Blk wr p rfT #[.string ts, .int .i64 (a : Int), .bool false]) := Lib.hid (by obtain ⟨q, rfl⟩ := hwq.out; exact hBH.out.drewN q)
      have hKr : RowKit.Hid (RdK p w wr) := Lib.hid (by obtain ⟨q, rfl⟩ := hwq.out; exact (RdK.refl _ _).drewN q)
      have hnx : RowKit.Hid (∀ q, ∃ q', wr.drewN q = w.drewN q') := Lib.hid (fun q => by obtain ⟨q0, rfl⟩ := hwq.out; exact ⟨_, World.drewN_drewN _ _ _⟩)
      have c0 : wr.cell? ⟨p, 0, none⟩ = some (.string ts) := hBr.out.cell 0
      have c1 : wr.cell? ⟨p, 1, none⟩ = some (.int .i64 (a : Int)) := hBr.out.cell 1
      have c2 : wr.cell? ⟨p, 2, none⟩ = some (.bool false) := hBr.out.cell 2
      have f1 := hBr.out.frozen 1
      have f2 := hBr.out.frozen 2
      by_cases h64 : (n : Int) ≤ 64
      · have g0 : (0 : Int) ≤ (a : Int) + n := by omega
        have g5 : ((a : Int) + n).toNat = a + n := by omega
        by_cases hlt : (a : Int) + n < s.length
        · have hnl : n < (s.drop a).length := by rw [List.length_drop]; omega
          have hat : ∀ h, ts[a + n]'h = (s.drop a)[n] := fun h => by rw [HT2.out (a + n) (by omega) h, List.getElem_drop]
          have hfd := Lib.hid (fun h0 => find_at hnl h0 hall.out (by omega))
          have hst := Lib.hid (show (s.drop a)[n] ≠ 0 → ∀ j (h : j < (s.drop a).length), j < n + 1 → (s.drop a)[j] ≠ 0 from fun h j hj hjn => by
            by_cases e : j = n
            · subst e; exact h
            · exact hall.out j hj (by omega))
          have hdd := Lib.hid (show (s.drop a).drop (n + 1) = s.drop (a + n + 1) by rw [List.drop_drop, Nat.add_assoc])
          have hlen := Lib.hid (show a + n + 1 ≤ s.length by omega)
          have hp := hpart.out n
          generalize (s.drop a)[n] = c at *
          have hcl := c.toNat_lt
          clear hall
          by_cases hc : c = 0
          · subst hc
            have hres := Lib.hid (hfd.out rfl)
            clear hfd hst
            have hc0 : ((0 : UInt8).toNat : Int) = 0 := rfl
            have hw1 : IntKind.i64.wrap ((a : Int) + n) = (a : Int) + n := by rw [IntKind.wrap_i64]; omega
            go_wp2_with fail
            go_quiet (fail)
            have hBr5 := Lib.hid (hBr.out.drewN nq)
            have hKr5 := Lib.hid (hKr.out.drewN nq)
            have hnx5 : RowKit.Hid (∀ q, ∃ q', (wr.drewN nq).drewN q = w.drewN q') := Lib.hid (fun q => by rw [World.drewN_drewN]; exact hnx.out _)
            clear c0 c1 c2 f1 f2
            generalize wr.drewN nq = w5 at *
            have c0 : w5.cell? ⟨p, 0, none⟩ = some (.string ts) := hBr5.out.cell 0
            have c1 : w5.cell? ⟨p, 1, none⟩ = some (.int .i64 (a : Int)) := hBr5.out.cell 1
            have c2 : w5.cell? ⟨p, 2, none⟩ = some (.bool false) := hBr5.out.cell 2
            have f1 := hBr5.out.frozen 1
            go_wp2_with fail
            go_quiet (fail)
            clear hw1
            go_upto_region 7 with fail
            have B8 := Lib.hid ((hBr5.out.drewN nq).set_ 1 (.int .i64 ((a : Int) + ((n : Int) + 1))))
            have K8 := Lib.hid ((hKr5.out.drewN nq).set_ 1 (.int .i64 ((a : Int) + ((n : Int) + 1))))
            clear c0 c1 c2 f1
            generalize (w5.drewN nq).setCell ⟨p, 1, none⟩ (.int .i64 ((a : Int) + ((n : Int) + 1))) = W8 at *
            have c0 : W8.cell? ⟨p, 0, none⟩ = some (.string ts) := B8.out.cell 0
            have c1 : W8.cell? ⟨p, 1, none⟩ = some (.int .i64 ((a : Int) + ((n : Int) + 1))) := B8.out.cell 1
            have hw1 : IntKind.i64.wrap ((a : Int) + ((n : Int) + 1) - n) = (a : Int) + 1 := by rw [IntKind.wrap_i64]; omega
            have hw2 : IntKind.i64.wrap ((a : Int) + 1 - 1) = (a : Int) := by rw [IntKind.wrap_i64]; omega
            have hw3 : IntKind.i64.wrap ((a : Int) + ((n : Int) + 1) - 1) = (a : Int) + n := by rw [IntKind.wrap_i64]; omega
            have r1 : (a : Int) + ((n : Int) + 1) - n = a + 1 := by omega
            have r2 : (a : Int) + 1 - 1 = a := by omega
            have r3 : (a : Int) + ((n : Int) + 1) - 1 = (a : Int) + n := by omega
            have g3 : (a : Int) + n ≤ (s.length : Int) := by omega
            have g6 : (a : Int) ≤ (a : Int) + n := by omega
            go_quiet (fail)
            go_wp2_with fail
            go_ret
            exact RdEnd.mk ((s.drop a).take n) (some (s.drop (a + n + 1))) rfl (Took.yes (hres.out.trans (by rw [hdd.out]))) ⟨a + n + 1, false, by rw [htsH.out]; exact B8.out.drewN _, hlen.out, rfl⟩ (K8.out.drewN _) (by unfold tOk; rw [List.length_take, List.length_drop]; omega)
          · have hc1 : ¬ (c.toNat : Int) = 0 := fun e => hc (UInt8.toNat_inj.1 (by simpa using e))
            have hc2 : ((c.toNat : Int) == 0) = false := by rw [beq_eq_false_iff_ne]; exact hc1
            have hres := Lib.hid (hst.out hc)
            clear hfd hst hc
            have hw1 : IntKind.i64.wrap ((a : Int) + n) = (a : Int) + n := by rw [IntKind.wrap_i64]; omega
            go_wp2_with fail
            go_quiet (fail)
            have hBr5 := Lib.hid (hBr.out.drewN nq)
            have hKr5 := Lib.hid (hKr.out.drewN nq)
            have hnx5 : RowKit.Hid (∀ q, ∃ q', (wr.drewN nq).drewN q = w.drewN q') := Lib.hid (fun q => by rw [World.drewN_drewN]; exact hnx.out _)
            clear c0 c1 c2 f1 f2
            generalize wr.drewN nq = w5 at *
            have c0 : w5.cell? ⟨p, 0, none⟩ = some (.string ts) := hBr5.out.cell 0
            have c1 : w5.cell? ⟨p, 1, none⟩ = some (.int .i64 (a : Int)) := hBr5.out.cell 1
            have c2 : w5.cell? ⟨p, 2, none⟩ = some (.bool false) := hBr5.out.cell 2
            have f1 := hBr5.out.frozen 1
            go_wp2_with fail
            go_quiet (fail)
            clear hw1
            go_wp2_with fail
            exact ⟨⟨n + 1, by go_num, by omega, by omega, Lib.hid (hnx5.out _), hres⟩, by simp [intOf]; omega⟩
        · have hres := Lib.hid (find_no hall.out (Or.inl (by rw [List.length_drop]; omega)))
          have hw1 : IntKind.i64.wrap ((a : Int) + n) = (a : Int) + n := by rw [IntKind.wrap_i64]; omega
          go_wp2_with fail
          go_quiet (fail)
          go_wp2_with fail
          go_ret
          exact RdEnd.mk [] none rfl (Took.no hres.out) ⟨a, true, by rw [htsH.out]; exact (hBr.out.drewN _).set_ 2 _, ha, rfl⟩ ((hKr.out.drewN _).set_ 2 _) (Nat.zero_le _)
      · have hres := Lib.hid (find_no hall.out (Or.inr (by omega)))
        have hd : decide ((n : Int) ≤ 64) = false := decide_eq_false h64
        go_wp2_with fail
        go_quiet (fail)
        go_wp2_with fail
        go_ret
        exact RdEnd.mk [] none rfl (Took.no hres.out) ⟨a, true, by rw [htsH.out]; exact (hBr.out.drewN _).set_ 2 _, ha, rfl⟩ ((hKr.out.drewN _).set_ 2 _) (Nat.zero_le _)
  · have c2 : w.cell? ⟨p, 2, none⟩ = some (.bool true) := hB.cell 2
    have f2 := hB.frozen 2
    have hBH := Lib.hid hB
    clear hB
    go_enter Try.func61, Try.ntmps61
    go_wp2_with fail
    go_ret
    exact RdEnd.mk [] none rfl (Took.bad _ _) ⟨a, true, hBH.out.set_ 2 _, ha, rfl⟩ ((RdK.refl _ _).set_ 2 _) (Nat.zero_le _)

end Go.Proofs.Ytceflhffilldeaa

/-
  The document's Writer, walked.
-/
namespace Go.Proofs.Ytceflhffilldeaa
set_option linter.unusedVariables false
set_option linter.unusedSimpArgs false
open Go.RowKit ObjL Bw

theorem cell_byte (x : Int) (hx : 0 ≤ x) (hx' : x ≤ 255) : cellsOf [byte x] = [.int .u8 x] := by
  show [Value.int .u8 ((byte x).toNat : Int)] = _
  rw [byte_toNat, show x % 256 = x by omega]

set_option maxRecDepth 100000 in
theorem wd_byte (B p : Nat) (acc : List UInt8) (x : Int) (sp : Bool) (w : World) (h : WdIs B w p acc sp) (hB : B ≤ w.heap.size) (hl : acc.length ≤ 10000000) (hx : 0 ≤ x) (hx' : x ≤ 255) :
    Calls Try.prog 92 #[.pointer (some ⟨p, 0, none⟩), .int .i64 x] w fun e w' => e = .returned (.tuple #[]) ∧ WdIs B w' p (acc ++ [byte x]) sp ∧ Below B w w' := by
  obtain ⟨h0, v, h1, h2⟩ := h
  have c0 := h1.cell 0
  have f0 := h1.frozen 0
  have hpl := h1.lt
  simp only [List.getElem?_toArray, List.getElem?_cons_zero, List.getElem?_cons_succ] at c0
  have hne := own_ne_p h2 h1 (by decide)
  have hbase : ∀ k, v.ownBlock = some k → B ≤ k := fun k hk => (h2.lt k hk).1
  obtain ⟨i0, hi0, hz0, hz1, hz2⟩ := info_parts rw_u8_info
  obtain ⟨A0, k0, rfl⟩ := own_slice h2
  have h1' := Lib.hid h1
  have h2' := Lib.hid h2
  have hcb := Lib.hid (cell_byte x hx hx')
  clear h1 h2
  have e1 : ((x % 256 + 256) % 256) = x := by omega
  have q1 : x.tmod 256 = x := by rw [Int.tmod_eq_emod_of_nonneg hx]; omega
  have q2 : (x + 256).tmod 256 = x := by rw [Int.tmod_eq_emod_of_nonneg (by omega)]; omega
  have q3 : (x + 256) % 256 = x := by omega
  have q4 : x % 256 = x := by omega
  go_enter Try.func92, Try.ntmps92
  go_wp2_with (at_builtin; refine wpList_append_own _ rfl (.tmp 8) (.tmp 14) 40 rfl B 5 i0 _ 1 1 Try.underlying40 hi0 hz0 hz1 hz2 rfl (by omega) _ acc.length (cellsOf acc) rfl (h2'.out.alloc _) ⟨w.heap.size, 0, none⟩ 1 1 [.int .u8 x] rfl rfl (news_one w _ _) (by simp [Value.oneCell']) (by simp only [maxLen]; omega) (by omega) (by simp; omega) ?_; intro v2 w2 ho2 hg2 _; obtain ⟨A2, k2, rfl⟩ := own_slice ho2; have L2 := (h1'.out.alloc _).grown hg2 (Ne.symm (by exact hne)); have C0 := L2.cell 0; have F0 := L2.frozen 0; simp only [List.getElem?_toArray, List.getElem?_cons_zero, List.getElem?_cons_succ] at C0; have B2 := Lib.hid (((Below.refl B w).alloc hB (.cells #[.int .u8 x] 5)).grown hg2 (by simp; omega) hbase); have L2 := Lib.hid L2; have ho2 := Lib.hid ho2; clear hg2)
  go_end0
  refine ⟨rfl, ⟨h0, .slice A2 (acc.length + 1) k2, L2.out.set_ 0 _, ?_⟩, B2.out.setCell h0 _⟩
  have hn2 := own_ne_p ho2.out L2.out (by decide)
  rw [cellsOf_app, hcb.out, List.length_append]
  exact ownsRow_setCell_other ho2.out hn2 _

theorem wd_raw (B p : Nat) (acc s : List UInt8) (sp : Bool) (w : World) (h : WdIs B w p acc sp) (hB : B ≤ w.heap.size) (hl : acc.length ≤ 10000000) (hs : s.length ≤ 10000000) :
    Calls Try.prog 48 #[.pointer (some ⟨p, 0, none⟩), .string (txt s)] w fun e w' => e = .returned (.tuple #[]) ∧ WdIs B w' p (acc ++ s) sp ∧ Below B w w' := by
  obtain ⟨h0, v, h1, h2⟩ := h
  have c0 := h1.cell 0
  have f0 := h1.frozen 0
  have hpl := h1.lt
  simp only [List.getElem?_toArray, List.getElem?_cons_zero, List.getElem?_cons_succ] at c0
  have hne := own_ne_p h2 h1 (by decide)
  have hbase : ∀ k, v.ownBlock = some k → B ≤ k := fun k hk => (h2.lt k hk).1
  obtain ⟨i0, hi0, hz0, hz1, hz2⟩ := info_parts rw_u8_info
  obtain ⟨A0, k0, rfl⟩ := own_slice h2
  have h1' := Lib.hid h1
  have h2' := Lib.hid h2
  have hsz := Lib.hid (txt_size s)
  have hbs : (txt s).size ≤ 10000000 := by rw [txt_size]; omega
  have hsc := Lib.hid (strCells_txt s)
  clear h1 h2
  generalize txt s = ts at *
  go_enter Try.func48, Try.ntmps48
  go_wp2_with (at_builtin; refine Go.Lib.wpList_append_own_string _ rfl (.tmp 8) (.tmp 9) 40 9 rfl B 5 i0 Try.underlying40 Try.underlying9 hi0 hz0 hz1 hz2 _ acc.length (cellsOf acc) rfl h2'.out ts rfl (by simp only [maxLen]; omega) (by omega) hB ?_; intro v2 w2 ho2 hg2 _; obtain ⟨A2, k2, rfl⟩ := own_slice ho2; have L2 := h1'.out.grown hg2 (Ne.symm (by exact hne)); have C0 := L2.cell 0; have F0 := L2.frozen 0; simp only [List.getElem?_toArray, List.getElem?_cons_zero, List.getElem?_cons_succ] at C0; have B2 := Lib.hid ((Below.refl B w).grown hg2 hB hbase); have L2 := Lib.hid L2; have ho2 := Lib.hid ho2; clear hg2)
  go_end0
  have e1 : (acc ++ s).length = acc.length + ts.size := by rw [List.length_append, hsz.out]
  refine ⟨rfl, ⟨h0, .slice A2 (acc.length + ts.size) k2, L2.out.set_ 0 _, ?_⟩, B2.out.setCell h0 _⟩
  have hn2 := own_ne_p ho2.out L2.out (by decide)
  rw [e1, cellsOf_app, ← hsc.out]
  exact ownsRow_setCell_other ho2.out hn2 _

theorem wd_bytes (B p : Nat) (acc : List UInt8) (w : World) (h : WdIs B w p acc false) (hl : acc.length ≤ 10000000) :
    Calls Try.prog 49 #[.pointer (some ⟨p, 0, none⟩)] w fun e w' => e = .returned (if 131072 < acc.length then .tuple #[.string (txt []), .int .i64 2] else .tuple #[.string (txt acc), .int .i64 0]) ∧ w = w' := by
  obtain ⟨h0, v, h1, h2⟩ := h
  have c0 := h1.cell 0
  have c1 := h1.cell 1
  simp only [List.getElem?_toArray, List.getElem?_cons_zero, List.getElem?_cons_succ] at c0 c1
  have hcv := conv_own h2
  obtain ⟨A0, k0, rfl⟩ := own_slice h2
  by_cases hlong : 131072 < acc.length
  · rw [if_pos hlong]
    have hl2 : (131072 : Int) < acc.length := by omega
    clear h1 h2 hlong
    go_enter Try.func49, Try.ntmps49
    go_wp2_with fail
    go_ret2
    exact ⟨rfl, rfl⟩
  · rw [if_neg hlong]
    have hl2 : ¬ (131072 : Int) < acc.length := by omega
    clear h1 h2 hlong
    go_enter Try.func49, Try.ntmps49
    go_wp2_with fail
    go_ret2
    exact ⟨rfl, rfl⟩

set_option maxRecDepth 100000 in
theorem wd_num (B p : Nat) (acc : List UInt8) (x : Int) (sp : Bool) (w : World) (h : WdIs B w p acc sp) (hB : B ≤ w.heap.size) (hl : acc.length ≤ 9000000) (hx : fits x = true) :
    Calls Try.prog 47 #[.pointer (some ⟨p, 0, none⟩), .int .i64 x] w fun e w' => e = .returned (.tuple #[]) ∧ WdIs B w' p (acc ++ numB x) sp ∧ Below B w w' := by
  have hx0 := hx
  unfold fits at hx0
  simp only [Bool.and_eq_true, decide_eq_true_eq] at hx0
  have FT := fun W => Lib.hid (ref01_fits x 32 W (by omega) (by omega))
  rw [fits32, hx] at FT
  have hh := Lib.hid h
  have e5 : numB x = numF 4 x := numF_more 4 x (by simp only [wide7]; omega) (by simp only [wide7]; omega)
  have e5' := Lib.hid e5
  clear h hx e5
  go_enter Try.func47, Try.ntmps47
  go_wp2_with fail
  refine (FT _).out.mono ?_
  rintro e w1 ⟨rfl, rfl⟩
  go_wp2_with fail
  go_loopw [1] (fun m wr => ∃ (k : Nat) (y : Int) (pre : List UInt8), m = .int .i64 y ∧ k ≤ 4 ∧ pre.length = k ∧ RowKit.Hid (WdIs B wr p (acc ++ pre) sp) ∧ RowKit.Hid (numB x = pre ++ numF (4 - k) y) ∧ -(64 * wide7 (4 - k)) ≤ y ∧ y < 64 * wide7 (4 - k) ∧ Below B w wr) (fun m _ => (intOf m).natAbs)
  case atStart => exact ⟨0, x, [], rfl, by omega, rfl, Lib.hid (by simpa using hh.out), Lib.hid (by simpa using e5'.out), by simp only [wide7]; omega, by simp only [wide7]; omega, Below.refl _ _⟩
  case round =>
    obtain ⟨k, y, pre, rfl, hk, hpre, hW, hpr, hy1, hy2, hb⟩ := hrel
    have hy64 : -34359738368 ≤ y ∧ y ≤ 34359738368 := by
      have h4 : ∀ j, j ≤ 4 → wide7 j ≤ 268435456 := by decide
      have := h4 (4 - k) (by omega)
      omega
    have hBr : B ≤ wr.heap.size := Nat.le_trans hB hb.size
    have hlp : (acc ++ pre).length ≤ 10000000 := by rw [List.length_append]; omega
    cases hs : small y
    · have hk4 : k < 4 := by
        rcases Nat.lt_or_ge k 4 with h | h
        · exact h
        · obtain rfl : k = 4 := by omega
          have e1 : wide7 (4 - 4) = 1 := rfl
          rw [e1] at hy1 hy2
          unfold small at hs
          simp at hs
          omega
      have e1 : 4 - k = (4 - (k + 1)) + 1 := by omega
      have hnext := hpr.out
      rw [e1, numF, if_neg (by rw [hs]; simp)] at hnext
      rw [e1] at hy1 hy2
      simp only [wide7] at hy1 hy2
      have hns : ¬ (-64 ≤ y ∧ y < 64) := by
        unfold small at hs
        simp at hs
        omega
      have hnext := Lib.hid hnext
      have P1 := Lib.hid (wd_byte B p (acc ++ pre) (y % 128 + 128) sp wr hW.out hBr hlp (by omega) (by omega))
      have q0 : ((y.tmod 128 + 128).tmod 128) = y % 128 := by
        rw [Int.tmod_eq_emod_of_nonneg (by have := Int.tmod_lt_of_pos y (show (0 : Int) < 128 by decide); have : -128 < y.tmod 128 := by rw [Int.tmod_eq_emod]; split <;> omega
                                           omega)]
        rw [Int.tmod_eq_emod]; split <;> omega
      have q1 : (y - y % 128).tdiv 128 = y / 128 := by
        have h1 : y - y % 128 = y / 128 * 128 := by omega
        rw [h1]
        exact Int.mul_tdiv_cancel _ (by decide)
      have b1 : -128 < y.tmod 128 := by rw [Int.tmod_eq_emod]; split <;> omega
      have b2 : y.tmod 128 < 128 := Int.tmod_lt_of_pos y (by decide)
      have hny : y < -64 ∨ 63 < y := by omega
      have q2 : decide (y < -64) = true ∨ decide (y < -64) = false ∧ decide (63 < y) = true := by
        by_cases h : y < -64
        · exact Or.inl (decide_eq_true h)
        · exact Or.inr ⟨decide_eq_false h, decide_eq_true (by omega)⟩
      have fin : ∀ wz, WdIs B wz p (acc ++ pre ++ [byte (y % 128 + 128)]) sp → Below B wr wz → (∃ (k' : Nat) (y' : Int) (pre' : List UInt8), Value.int IntKind.i64 (y / 128) = .int .i64 y' ∧ k' ≤ 4 ∧ pre'.length = k' ∧ RowKit.Hid (WdIs B wz p (acc ++ pre') sp) ∧ RowKit.Hid (numB x = pre' ++ numF (4 - k') y') ∧ -(64 * wide7 (4 - k')) ≤ y' ∧ y' < 64 * wide7 (4 - k') ∧ Below B w wz) ∧ (intOf (Value.int IntKind.i64 (y / 128))).natAbs < (intOf (Value.int IntKind.i64 y)).natAbs := fun wz h1 h2 =>
        ⟨⟨k + 1, y / 128, pre ++ [byte (y % 128 + 128)], rfl, by omega, by simp [hpre], Lib.hid (by rw [← List.append_assoc]; exact h1), Lib.hid (by rw [hnext.out]; simp), by omega, by omega, hb.trans h2⟩, by simp only [intOf]; omega⟩
      have fin := Lib.hid fin
      clear hpr hW hnext hs
      rcases q2 with q2 | ⟨q2, q3⟩
      · have hlt : y < -64 := by simpa using q2
        clear q2 hny hns
        go_wp2_with fail
        refine P1.out.mono ?_
        rintro e w2 ⟨rfl, h2, hb2⟩
        go_wp2_with fail
        exact fin.out _ h2 hb2
      · have hlt : ¬ y < -64 := by simpa using q2
        have hlt2 : 63 < y := by simpa using q3
        clear q2 q3 hny hns
        go_wp2_with fail
        refine P1.out.mono ?_
        rintro e w2 ⟨rfl, h2, hb2⟩
        go_wp2_with fail
        exact fin.out _ h2 hb2
    · have hsm : -64 ≤ y ∧ y < 64 := by
        unfold small at hs
        simpa using hs
      obtain ⟨s1, s2⟩ := hsm
      have hfin : numB x = pre ++ [byte (y % 128)] := by
        have := hpr.out
        rcases Nat.lt_or_ge k 4 with h | h
        · rw [show 4 - k = (4 - (k + 1)) + 1 by omega, numF, if_pos hs] at this; exact this
        · obtain rfl : k = 4 := by omega
          exact this
      have P1 := Lib.hid (wd_byte B p (acc ++ pre) (y % 128) sp wr hW.out hBr hlp (by omega) (by omega))
      have q0 : (y + 128).tmod 128 = y % 128 := by rw [Int.tmod_eq_emod_of_nonneg (by omega)]; omega
      have q1 : (y + 128) % 128 = y % 128 := by omega
      have hfin' := Lib.hid hfin
      have hlt : ¬ y < -64 := by omega
      have hlt2 : ¬ 63 < y := by omega
      clear hpr hW hs hfin
      go_wp2_with fail
      refine P1.out.mono ?_
      rintro e w2 ⟨rfl, h2, hb2⟩
      go_wp2_with fail
      go_end0
      exact ⟨rfl, by rw [hfin'.out, ← List.append_assoc]; exact h2, hb.trans hb2⟩

theorem WdIs.drewN {B : Nat} {w : World} {p : Nat} {acc : List UInt8} {sp : Bool} (h : WdIs B w p acc sp) (n : Nat) : WdIs B (w.drewN n) p acc sp := by
  obtain ⟨h0, v, h1, h2⟩ := h
  exact ⟨h0, v, h1, h2⟩
theorem bel_drewN (B : Nat) (w : World) (n : Nat) : Below B w (w.drewN n) := ⟨rfl, rfl, rfl, Nat.le_refl _, fun _ _ => rfl⟩
theorem wd_get (x : Int) (i v : Int) (W : World) (hx : 0 ≤ x) (hx' : x ≤ 4294967295) (hi : i = 0 ∧ v = x % 256 ∨ i = 8 ∧ v = x / 256 % 256 ∨ i = 16 ∧ v = x / 65536 % 256 ∨ i = 24 ∧ v = x / 16777216) :
    Calls Try.prog 93 #[.int .u32 x, .int .i64 i, .int .i64 8] W fun e w' => e = .returned (.int .u32 v) ∧ ∃ n, w' = W.drewN n := by
  have h := ref01_get x i 8 W hx (by omega) (by omega) (by omega) (by decide) (by decide)
  have e : Get x i 8 = v := by
    unfold Get
    rcases hi with ⟨rfl, rfl⟩ | ⟨rfl, rfl⟩ | ⟨rfl, rfl⟩ | ⟨rfl, rfl⟩
    · rw [if_pos (by decide)]; show x / 1 % 256 = _; omega
    · rw [if_pos (by decide)]; rfl
    · rw [if_pos (by decide)]; rfl
    · rw [if_pos (by decide)]; show x / 16777216 % 256 = _; omega
  rw [e] at h
  exact h
set_option maxRecDepth 100000 in
theorem wd_word (B p : Nat) (acc : List UInt8) (x : Int) (sp : Bool) (w : World) (h : WdIs B w p acc sp) (hB : B ≤ w.heap.size) (hl : acc.length ≤ 9000000) (hx : 0 ≤ x) (hx' : x ≤ 4294967295) :
    Calls Try.prog 46 #[.pointer (some ⟨p, 0, none⟩), .int .u32 x] w fun e w' => e = .returned (.tuple #[]) ∧ WdIs B w' p (acc ++ wordB x) sp ∧ Below B w w' := by
  have hh := Lib.hid h
  have BY := fun (a : List UInt8) (y : Int) W (h : WdIs B W p a sp) (hB : B ≤ W.heap.size) (hl : a.length ≤ 10000000) (h1 : 0 ≤ y) (h2 : y ≤ 255) => Lib.hid (wd_byte B p a y sp W h hB hl h1 h2)
  have G0 := fun W => Lib.hid (wd_get x 0 (x % 256) W hx hx' (by simp))
  have G1 := fun W => Lib.hid (wd_get x 8 (x / 256 % 256) W hx hx' (by simp))
  have G2 := fun W => Lib.hid (wd_get x 16 (x / 65536 % 256) W hx hx' (by simp))
  have G3 := fun W => Lib.hid (wd_get x 24 (x / 16777216) W hx hx' (by simp))
  have hb0 : byte (x % 256) = byte x := byte_mod x
  have hb1 : byte (x / 256 % 256) = byte (x / 256) := byte_mod _
  have hb2 : byte (x / 65536 % 256) = byte (x / 65536) := byte_mod _
  have hfin := Lib.hid (show acc ++ [byte (x % 256)] ++ [byte (x / 256 % 256)] ++ [byte (x / 65536 % 256)] ++ [byte (x / 16777216)] = acc ++ wordB x by rw [hb0, hb1, hb2]; unfold wordB; simp)
  clear h hb0 hb1 hb2
  go_enter Try.func46, Try.ntmps46
  go_wp2_with fail
  refine wp_loop_rounds 5 ?_
  rw [rounds_succ]
  go_wp2_with fail
  refine (G0 _).out.mono ?_
  rintro e w1 ⟨rfl, n1, rfl⟩
  have P0 := BY acc (x % 256) _ (hh.out.drewN n1) hB (by omega) (by omega) (by omega)
  clear G0
  go_wp2_with fail
  refine P0.out.mono ?_
  rintro e w2 ⟨rfl, h2, hb2⟩
  have hB2 := Nat.le_trans hB hb2.size
  have hb2 := Lib.hid hb2
  have h2 := Lib.hid h2
  clear P0
  go_wp2_with fail
  rw [rounds_succ]
  go_wp2_with fail
  refine (G1 _).out.mono ?_
  rintro e w3 ⟨rfl, n3, rfl⟩
  have P1 := BY _ (x / 256 % 256) _ (h2.out.drewN n3) hB2 (by simp; omega) (by omega) (by omega)
  clear G1
  go_wp2_with fail
  refine P1.out.mono ?_
  rintro e w4 ⟨rfl, h4, hb4⟩
  have hB4 := Nat.le_trans hB2 hb4.size
  have hb4 := Lib.hid hb4
  have h4 := Lib.hid h4
  clear P1
  go_wp2_with fail
  rw [rounds_succ]
  go_wp2_with fail
  refine (G2 _).out.mono ?_
  rintro e w5 ⟨rfl, n5, rfl⟩
  have P2 := BY _ (x / 65536 % 256) _ (h4.out.drewN n5) hB4 (by simp; omega) (by omega) (by omega)
  clear G2
  go_wp2_with fail
  refine P2.out.mono ?_
  rintro e w6 ⟨rfl, h6, hb6⟩
  have hB6 := Nat.le_trans hB4 hb6.size
  have hb6 := Lib.hid hb6
  have h6 := Lib.hid h6
  clear P2
  go_wp2_with fail
  rw [rounds_succ]
  go_wp2_with fail
  refine (G3 _).out.mono ?_
  rintro e w7 ⟨rfl, n7, rfl⟩
  have P3 := BY _ (x / 16777216) _ (h6.out.drewN n7) hB6 (by simp; omega) (by omega) (by omega)
  clear G3
  go_wp2_with fail
  refine P3.out.mono ?_
  rintro e w8 ⟨rfl, h8, hb8⟩
  rw [hfin.out] at h8
  have hb8 := Lib.hid hb8
  have h8 := Lib.hid h8
  clear P3
  go_wp2_with fail
  rw [rounds_succ]
  go_wp2_with fail
  go_end0
  exact ⟨rfl, h8.out, (((((((bel_drewN B w n1).trans hb2.out).trans (bel_drewN B _ n3)).trans hb4.out).trans (bel_drewN B _ n5)).trans hb6.out).trans (bel_drewN B _ n7)).trans hb8.out⟩

set_option maxRecDepth 100000 in
theorem wd_text (B p : Nat) (acc t : List UInt8) (sp : Bool) (w : World) (h : WdIs B w p acc sp) (hB : B ≤ w.heap.size) (hl : acc.length ≤ 9000000) (ht : textOk t = true) :
    Calls Try.prog 45 #[.pointer (some ⟨p, 0, none⟩), .string (txt t)] w fun e w' => e = .returned (.tuple #[]) ∧ WdIs B w' p (acc ++ textB t) sp ∧ Below B w w' := by
  have ht0 := ht
  unfold textOk at ht0
  simp only [Bool.and_eq_true, decide_eq_true_eq, Bool.not_eq_true'] at ht0
  obtain ⟨ht1, ht2⟩ := ht0
  have hs64 : ((txt t).size : Int) ≤ 64 := by rw [txt_size]; omega
  have hat : ∀ k (hk : k < (txt t).size), (((txt t)[k]'hk).toNat : Int) ≠ 0 := by
    intro k hk e
    have hk' : k < t.length := by rw [txt_size] at hk; exact hk
    have e1 : ((txt t)[k]'hk) = t[k] := by
      show ((txt t).data[k]'_) = _
      simp [txt]
    rw [e1] at e
    have e2 : t[k] = 0 := UInt8.toNat_inj.1 (by simpa using e)
    have : (0 : UInt8) ∈ t := e2 ▸ List.getElem_mem hk'
    rw [List.contains_iff_mem.2 this] at ht2
    cases ht2
  obtain ⟨h0, v, h1, h2⟩ := h
  have c0 := h1.cell 0
  have f0 := h1.frozen 0
  have hpl := h1.lt
  simp only [List.getElem?_toArray, List.getElem?_cons_zero, List.getElem?_cons_succ] at c0
  have hne := own_ne_p h2 h1 (by decide)
  have hbase : ∀ k, v.ownBlock = some k → B ≤ k := fun k hk => (h2.lt k hk).1
  obtain ⟨i0, hi0, hz0, hz1, hz2⟩ := info_parts rw_u8_info
  obtain ⟨A0, k0, rfl⟩ := own_slice h2
  have h1' := Lib.hid h1
  have h2' := Lib.hid h2
  have hsz := Lib.hid (txt_size t)
  have hbs : (txt t).size ≤ 64 := by rw [txt_size]; omega
  have hsc := Lib.hid (strCells_txt t)
  have hat := Lib.hid hat
  clear h1 h2 ht2
  generalize txt t = ts at *
  go_enter Try.func45, Try.ntmps45
  go_wp2_with fail
  go_loop [4] (fun i => ∃ k : Nat, i = .int .i64 k ∧ k ≤ ts.size) (fun i => ts.size - (intOf i).toNat)
  case atStart => exact ⟨0, rfl, by omega⟩
  case round =>
    obtain ⟨k, rfl, hk⟩ := hrel
    by_cases hlt : k < ts.size
    · have hz := hat.out k hlt
      have hzb : (((ts[k]'hlt).toNat : Int) == 0) = false := by simpa using hz
      have hlt' : (k : Int) < ts.size := by omega
      go_wp2_with fail
      go_round
      case rel => exact ⟨k + 1, by go_num, by omega⟩
      case measure => simp [intOf]; omega
    · have hlt' : ¬ (k : Int) < ts.size := by omega
      go_wp2_with (first
        | (at_builtin; refine Go.Lib.wpList_append_own_string _ rfl (.tmp 28) (.tmp 29) 40 9 rfl B 5 i0 Try.underlying40 Try.underlying9 hi0 hz0 hz1 hz2 _ acc.length (cellsOf acc) rfl h2'.out ts rfl (by simp only [maxLen]; omega) (by omega) hB ?_; intro v2 w2 ho2 hg2 _; obtain ⟨A2, k2, rfl⟩ := own_slice ho2; have L2 := h1'.out.grown hg2 (Ne.symm (by exact hne)); have B2 := Lib.hid ((Below.refl B w).grown hg2 hB hbase); have hn2 := own_ne_p ho2 L2 (by decide); have hbase2 : ∀ k, (Value.slice A2 (acc.length + ts.size) k2).ownBlock = some k → B ≤ k := fun k hk => (ho2.lt k hk).1; have L2 := Lib.hid L2; have ho2 := Lib.hid ho2; have hs2 := hg2.size; clear hg2)
        | (at_builtin; refine wpList_append_own _ rfl (.tmp 30) (.tmp 31) 40 rfl B 5 i0 _ 1 1 Try.underlying40 hi0 hz0 hz1 hz2 rfl (by omega) _ (acc.length + ts.size) (cellsOf acc ++ Go.Lib.strCells ts) rfl (ho2.out.alloc _) ⟨w2.heap.size, 0, none⟩ 1 1 [.int .u8 0] rfl rfl (news_one w2 _ _) (by simp [Value.oneCell']) (by simp only [maxLen]; omega) (by omega) (by simp; omega) ?_; intro v3 w3 ho3 hg3 _; obtain ⟨A3, k3, rfl⟩ := own_slice ho3; have L3 := (L2.out.alloc _).grown hg3 (Ne.symm (by exact hn2)); have C3 := L3.cell 0; have F3 := L3.frozen 0; simp only [List.getElem?_toArray, List.getElem?_cons_zero, List.getElem?_cons_succ] at C3; have B3 := Lib.hid ((B2.out.alloc (Nat.le_trans hB hs2) (.cells #[.int .u8 0] 5)).grown hg3 (by simp; omega) hbase2); have L3 := Lib.hid L3; have ho3 := Lib.hid ho3; clear hg3))
      go_end0
      have hn3 := own_ne_p ho3.out L3.out (by decide)
      have e1 : (acc ++ textB t).length = acc.length + ts.size + 1 := by unfold textB; rw [List.length_append, List.length_append, hsz.out]; simp; omega
      have e2 : cellsOf (acc ++ textB t) = cellsOf acc ++ Go.Lib.strCells ts ++ [.int .u8 0] := by
        rw [hsc.out]
        unfold textB
        rw [cellsOf_app, cellsOf_app, List.append_assoc]
        rfl
      refine ⟨rfl, ⟨h0, .slice A3 (acc.length + ts.size + 1) k3, L3.out.set_ 0 _, ?_⟩, B3.out.setCell h0 _⟩
      rw [e1, e2]
      exact ownsRow_setCell_other ho3.out hn3 _

end Go.Proofs.Ytceflhffilldeaa
