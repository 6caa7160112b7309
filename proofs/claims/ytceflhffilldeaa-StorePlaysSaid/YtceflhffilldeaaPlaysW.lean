/-
  The statement StorePlays: its walk, out of the contracts.
-/
import Derived.Test.YtceflhffilldeaaPlaysC
import Derived.Test.YtceflhffilldeaaRowsOpen
import Derived.Test.YtceflhffilldeaaRefStore2
import Derived.Deep.CutBlock
import Derived.Deep.CutRange
import Derived.Deep.RegionHeld3
namespace Go.Proofs.Ytceflhffilldeaa
set_option linter.unusedVariables false
set_option linter.unusedSimpArgs false
open Go.RowKit Go.Maps Go.WideMaps Plays

/-- Both stores, whatever is in them, behind k rounds. -/
def Side (B : Nat) (W : World) (p q k : Nat) : Prop := ∃ m n D v u N T, Both B W p q m n D v u N T ∧ Rel D N T ∧ n ≤ 100 + k
theorem Side.drew {B p q k : Nat} {W : World} (h : Side B W p q k) : Side B W.drew p q k := by
  obtain ⟨m, n, D, v, u, N, T, h1, h2⟩ := h
  exact ⟨m, n, D, v, u, N, T, h1.drew, h2⟩
theorem side_start (w : World) : Side w.heap.size ((w.alloc (.cells #[.map none] 66)).alloc (.cells #[.slice none 0 0, .slice none 0 0] 28)) w.heap.size (w.heap.size + 1) 0 := by
  have e1 : (w.alloc (.cells #[.map none] 66)).heap.size = w.heap.size + 1 := by simp
  have b2 := Blk.new (w.alloc (.cells #[.map none] 66)) 28 #[.slice none 0 0, .slice none 0 0]
  rw [e1] at b2
  exact ⟨.map none, 0, .map [], _, _, [], [], ⟨(Blk.new w _ _).alloc _, Or.inl ⟨rfl, rfl⟩, ⟨b2, World.ownsRow_nil _ _ _ _, World.ownsRow_nil _ _ _ _, rfl, by simp, (fun k hk => by cases hk), (fun k hk => by cases hk), (fun k hk => by cases hk)⟩,
    Nat.le_refl _, by omega, (fun b hb => by cases hb), (fun b hb => by cases hb), (fun b hb => by cases hb), by simp, by omega⟩, Rel.empty, by omega⟩

theorem Side.mono {B p q k k' : Nat} {W : World} (h : Side B W p q k) (hk : k ≤ k') : Side B W p q k' := by
  obtain ⟨m, n, D, v, u, N, T, h1, h2, h3⟩ := h
  exact ⟨m, n, D, v, u, N, T, h1, h2, by omega⟩
theorem side_next {w wr : World} {p q k : Nat} {x : Array Value} (h : Side w.heap.size wr p q k) (hb : Below w.heap.size w wr) :
    Side w.heap.size (wr.alloc (.cells x 30)) p q k ∧ Below w.heap.size w (wr.alloc (.cells x 30)) ∧ Blk (wr.alloc (.cells x 30)) wr.heap.size 30 x := by
  obtain ⟨m, n, D, v, u, N, T, h1, h2, h3⟩ := h
  exact ⟨⟨m, n, D, v, u, N, T, h1.below ((Below.refl _ _).alloc (Nat.le_refl _) _), h2, by omega⟩, hb.alloc hb.size _, Blk.new wr _ _⟩

set_option maxRecDepth 100000 in
set_option maxHeartbeats 4000000 in
theorem law07_plays (vs : Value) (l : List Ste) (w : World) (hv : SteRow w vs l) (hsz : ∀ x ∈ l, x.name.size ≤ 9223372036854775807 ∧ x.text.size ≤ 9223372036854775807 ∧ (-9223372036854775808 ≤ x.n ∧ x.n ≤ 9223372036854775807)) :
    Calls Try.prog 3 #[vs] w fun e w' => e = .returned (.bool true) ∧ Below w.heap.size w w' := by
  have hv' := Lib.hid hv
  obtain ⟨hm, A, c, rfl, -⟩ := hv
  have hsz' := Lib.hid hsz
  clear hsz
  have SS := Lib.hid (side_start w)
  go_enter Try.func3, Try.ntmps3
  go_wp2_with fail
  refine (store_new _).mono ?_
  rintro e w1 ⟨rfl, rfl⟩
  go_wp2_with fail
  have B0 : Below w.heap.size w ((w.alloc (.cells #[.map none] 66)).alloc (.cells #[.slice none 0 0, .slice none 0 0] 28)) := ((Below.refl _ _).alloc (Nat.le_refl _) _).alloc (by simp) _
  have B0 := Lib.hid B0
  generalize (w.alloc (.cells #[.map none] 66)).alloc (.cells #[.slice none 0 0, .slice none 0 0] 28) = W0 at *
  go_loopw [3, 4, 5] (fun a b i wr => ∃ p q k : Nat, a = .pointer (some ⟨p, 0, none⟩) ∧ b = .pointer (some ⟨q, 0, none⟩) ∧ i = .int .i64 k ∧ k ≤ 150 ∧ RowKit.Hid (Side w.heap.size wr p q k) ∧ RowKit.Hid (Below w.heap.size w wr)) (fun _ _ i _ => 150 - (intOf i).toNat)
  case atStart => exact ⟨_, _, 0, rfl, rfl, rfl, by omega, SS, B0⟩
  case round =>
    clear SS B0
    obtain ⟨p, q, k, rfl, rfl, rfl, hk, hS, hB⟩ := hrel
    by_cases hlt : (k : Int) < (l.length : Int)
    · by_cases hl2 : (k : Int) < 150
      · obtain ⟨-, A1, c1, e1, hc⟩ := hv'.out.below hB.out
        injection e1 with e1 _ e2
        subst e1 e2
        obtain ⟨ad, rfl, had, x0, x1, x2, x3⟩ := hc k (by omega)
        obtain ⟨s1, s2, s3, s4⟩ := hsz'.out _ (List.getElem_mem (show k < l.length by omega))
        clear hc
        generalize l[k].kind = kd at *
        generalize l[k].name = nm at *
        generalize l[k].text = tx at *
        generalize l[k].n = nn at *
        have x0 : wr.cell? (ad.add (k * 4)) = some (.int .i64 kd) := x0
        have x1 : wr.cell? ⟨(ad.add (k * 4)).block, (ad.add (k * 4)).off + 1, none⟩ = some (.string nm) := x1
        have x2 : wr.cell? ⟨(ad.add (k * 4)).block, (ad.add (k * 4)).off + 2, none⟩ = some (.string tx) := x2
        have x3 : wr.cell? ⟨(ad.add (k * 4)).block, (ad.add (k * 4)).off + 3, none⟩ = some (.int .i64 nn) := x3
        by_cases g1 : (200 : Int) < nm.size
        · go_wp2_with fail
          exact ⟨⟨p, q, k + 1, rfl, rfl, by go_num, by omega, Lib.hid ((side_next hS.out hB.out).1.mono (Nat.le_succ k)), Lib.hid (side_next hS.out hB.out).2.1⟩, by simp [intOf]; omega⟩
        · by_cases g2 : (262144 : Int) < tx.size
          · go_wp2_with fail
            exact ⟨⟨p, q, k + 1, rfl, rfl, by go_num, by omega, Lib.hid ((side_next hS.out hB.out).1.mono (Nat.le_succ k)), Lib.hid (side_next hS.out hB.out).2.1⟩, by simp [intOf]; omega⟩
          · go_upto_block 2 with fail
            obtain ⟨S1, B1, X1⟩ := side_next (x := #[.int .i64 kd, .string nm, .string tx, .int .i64 nn]) hS.out hB.out
            have S1 := Lib.hid S1
            have B1 := Lib.hid B1
            have X1 := Lib.hid X1
            clear x0 x1 x2 x3 had hS hB
            generalize wr.heap.size = g at *
            generalize wr.alloc (.cells #[.int .i64 kd, .string nm, .string tx, .int .i64 nn] 30) = W1 at *
            go_cut [3, 4, 7, 8, 9, 10, 11, 12, 13] from 45 to 140 (fun a b _ _ _ _ _ _ _ wx => ∃ p' q' : Nat, a = .pointer (some ⟨p', 0, none⟩) ∧ b = .pointer (some ⟨q', 0, none⟩) ∧ Side w.heap.size wx p' q' (k + 1) ∧ Below w.heap.size w wx)
            case first =>
              have c0 : W1.cell? ⟨g, 0, none⟩ = some (.int .i64 kd) := X1.out.cell 0
              have c1 : W1.cell? ⟨g, 1, none⟩ = some (.string nm) := X1.out.cell 1
              have c2 : W1.cell? ⟨g, 2, none⟩ = some (.string tx) := X1.out.cell 2
              have c3 : W1.cell? ⟨g, 3, none⟩ = some (.int .i64 nn) := X1.out.cell 3
              obtain ⟨m, n, D, v, u, N, T, hb0, hr, hn⟩ := S1.out
              have hb := Lib.hid hb0
              clear hb0
              by_cases k0 : kd = 0
              · obtain rfl : kd = 0 := k0
                obtain ⟨r, D', N', T', hr', P1, P2⟩ := put_pair hr nm tx s1
                have P1 := Lib.hid (P1 hb.out.drew (by omega))
                have P2' := fun {B W p q m n D0 v u} h => Lib.hid (P2 (B := B) (W := W) (p := p) (q := q) (m := m) (n := n) (D0 := D0) (v := v) (u := u) h)
                clear P2
                go_wp2_with fail
                go_region_held3 (fun w' => w'.cell? ⟨g, 1, none⟩ = some (.string nm) ∧ w'.cell? ⟨g, 2, none⟩ = some (.string tx)) (first | exact ⟨c1, c2⟩ | exact ⟨y1, y2⟩ | exact ⟨z1, z2⟩)
                  (first
                    | (go_at_call 11; refine P1.out.mono ?_; rintro e w2 ⟨rfl, m2, n2, hb2, hn2, hB2, hx2⟩; have X2 := hx2 _ _ X1.out; have y1 := X2.cell 1; have y2 := X2.cell 2; simp only [List.getElem?_toArray, List.getElem?_cons_zero, List.getElem?_cons_succ] at y1 y2; have hb2 := Lib.hid hb2; have hB2 := Lib.hid hB2; have X2 := Lib.hid X2; clear hx2)
                    | (go_at_call 12; refine (P2' hb2.out).out.mono ?_; rintro e w3 ⟨rfl, v3, u3, hb3, hB3, hx3⟩; have X3 := hx3 _ _ X2.out; have z1 := X3.cell 1; have z2 := X3.cell 2; simp only [List.getElem?_toArray, List.getElem?_cons_zero, List.getElem?_cons_succ] at z1 z2; have hb3 := Lib.hid hb3; have hB3 := Lib.hid hB3; clear hx3))
                go_wp2_with fail
                go_meet
                exact ⟨p, q, rfl, rfl, ⟨_, _, _, _, _, _, _, hb3.out, hr', by omega⟩, (B1.out.drew.trans hB2.out).trans hB3.out⟩
              · have f0 : (kd == 0) = false := by simp [k0]
                by_cases k1 : kd = 1
                · obtain rfl : kd = 1 := k1
                  obtain ⟨t, b, P1, P2⟩ := get_pair hr nm s1
                  have P1 := Lib.hid (P1 hb.out)
                  have P2' := fun {B W p q m n v u} h => Lib.hid (P2 (B := B) (W := W) (p := p) (q := q) (m := m) (n := n) (v := v) (u := u) h)
                  clear P2
                  go_wp2_with fail
                  refine P1.out.mono ?_
                  rintro e w2 ⟨rfl, hb2, hB2, hx2⟩
                  have X2 := hx2 _ _ X1.out
                  have y1 := X2.cell 1
                  simp only [List.getElem?_toArray, List.getElem?_cons_zero, List.getElem?_cons_succ] at y1
                  have P2 := P2' hb2
                  have hb2 := Lib.hid hb2
                  have hB2 := Lib.hid hB2
                  clear hx2 X2 P2' P1
                  go_wp2_with fail
                  refine P2.out.mono ?_
                  rintro e w3 ⟨rfl, rfl⟩
                  go_wp2_with fail
                  go_meet
                  exact ⟨p, q, rfl, rfl, ⟨_, _, _, _, _, _, _, hb2.out, hr, by omega⟩, B1.out.trans hB2.out⟩
                · have f1 : (kd == 1) = false := by simp [k1]
                  by_cases k2 : kd = 2
                  · obtain rfl : kd = 2 := k2
                    obtain ⟨r, D', N', T', hr', P1, P2⟩ := del_pair hr nm s1
                    have P1 := Lib.hid (P1 hb.out.drew)
                    have P2' := fun {B W p q m n D0 v u} h => Lib.hid (P2 (B := B) (W := W) (p := p) (q := q) (m := m) (n := n) (D0 := D0) (v := v) (u := u) h)
                    clear P2
                    go_wp2_with fail
                    go_region_held3 (fun w' => w'.cell? ⟨g, 1, none⟩ = some (.string nm)) (first | exact c1 | exact y1 | exact z1)
                      (first
                        | (go_at_call 15; refine P1.out.mono ?_; rintro e w2 ⟨rfl, hb2, hB2, hx2⟩; have X2 := hx2 _ _ X1.out; have y1 := X2.cell 1; simp only [List.getElem?_toArray, List.getElem?_cons_zero, List.getElem?_cons_succ] at y1; have hb2 := Lib.hid hb2; have hB2 := Lib.hid hB2; have X2 := Lib.hid X2; clear hx2)
                        | (go_at_call 16; refine (P2' hb2.out).out.mono ?_; rintro e w3 ⟨rfl, v3, u3, hb3, hB3, hx3⟩; have X3 := hx3 _ _ X2.out; have z1 := X3.cell 1; simp only [List.getElem?_toArray, List.getElem?_cons_zero, List.getElem?_cons_succ] at z1; have hb3 := Lib.hid hb3; have hB3 := Lib.hid hB3; clear hx3))
                    go_wp2_with fail
                    go_meet
                    exact ⟨p, q, rfl, rfl, ⟨_, _, _, _, _, _, _, hb3.out, hr', by omega⟩, (B1.out.drew.trans hB2.out).trans hB3.out⟩
                  · have f2 : (kd == 2) = false := by simp [k2]
                    by_cases k3 : kd = 3
                    · obtain rfl : kd = 3 := k3
                      have NM := Lib.hid (both_names2 hb.out)
                      obtain ⟨r, D', N', T', hr', P1, P2⟩ := put_pair hr ⟨#[79, 116, 104, 101, 114]⟩ ⟨#[49]⟩ (by decide)
                      have P1' := fun {B W p q m n v u} h hn => Lib.hid (P1 (B := B) (W := W) (p := p) (q := q) (m := m) (n := n) (v := v) (u := u) h hn)
                      have P2' := fun {B W p q m n D0 v u} h => Lib.hid (P2 (B := B) (W := W) (p := p) (q := q) (m := m) (n := n) (D0 := D0) (v := v) (u := u) h)
                      clear P1 P2
                      go_wp2_with fail
                      refine NM.out.mono ?_
                      rintro e w2 ⟨r0, rfl, hr0, hb2, hB2⟩
                      have F1 := Lib.hid (both_fork1 hb2 hr)
                      have hb2 := Lib.hid hb2
                      have hB2 := Lib.hid hB2
                      have hr0 := Lib.hid hr0
                      clear NM
                      go_wp2_with fail
                      refine F1.out.mono ?_
                      rintro e w3 ⟨p', b', rfl, q1, q2, q3, q4, hB3⟩
                      have F2 := Lib.hid (both_fork2 (W0 := w2) (hb2.out.below hB3) q1 q2 q3 q4 hB3.size)
                      have hB3 := Lib.hid hB3
                      clear F1 q1 q2 q3 q4
                      go_wp2_with fail
                      refine F2.out.mono ?_
                      rintro e w4 ⟨q', v4, u4, rfl, hb4, -, hB4⟩
                      have G1 := P1' hb4 (by omega)
                      have hB4 := Lib.hid hB4
                      clear F2 hb4 P1'
                      go_wp2_with fail
                      refine G1.out.mono ?_
                      rintro e w5 ⟨rfl, m5, n5, hb5, hn5, hB5, -⟩
                      have G2 := P2' hb5
                      have hB5 := Lib.hid hB5
                      clear G1 hb5 P2'
                      go_wp2_with fail
                      refine G2.out.mono ?_
                      rintro e w6 ⟨rfl, v6, u6, hb6, hB6, -⟩
                      have hT : Below w2.heap.size w2 w6 := ((hB3.out.trans (hB4.out.mono hB3.out.size)).trans hB5.out).trans hB6
                      have NM := Lib.hid (both_names1 (hb2.out.below hT) hr)
                      have hr6 := Lib.hid (hr0.out.below hT)
                      have hT := Lib.hid hT
                      have hb6 := Lib.hid hb6
                      clear G2 hr0 hB3 hB4 hB5 hB6 hb2
                      go_wp2_with fail
                      refine NM.out.mono ?_
                      rintro e w7 ⟨r7, rfl, hr7, -, hB7⟩
                      have KT := Lib.hid (keep_texts r7 r0 N N w7 hr7 (hr6.out.below hB7))
                      have hB7 := Lib.hid hB7
                      clear hr7 hr6 NM
                      go_wp2_with fail
                      refine KT.out.mono ?_
                      rintro e w8 ⟨rfl, hk8⟩
                      have hbe : decide (N = N) = true := by simp
                      have hb8 := Lib.hid (((hb6.out.below hB7.out).below hk8.all_below).base (Nat.le_trans B1.out.size hB2.out.size))
                      have hB8 : RowKit.Hid (Below w.heap.size w w8) := Lib.hid (((B1.out.trans (hB2.out.mono B1.out.size)).trans (hT.out.mono (Nat.le_trans B1.out.size hB2.out.size))).trans ((hB7.out.mono (Nat.le_trans (Nat.le_trans B1.out.size hB2.out.size) hT.out.size)).trans hk8.all_below))
                      clear KT hk8 hb6 hB7
                      go_wp2_with fail
                      go_meet
                      exact ⟨p', q', rfl, rfl, ⟨_, _, _, _, _, _, _, hb8.out, hr', by omega⟩, hB8.out⟩
                    · have f3 : (kd == 3) = false := by simp [k3]
                      by_cases k4 : kd = 4
                      · obtain rfl : kd = 4 := k4
                        by_cases n0 : 131070 ≤ nn
                        · by_cases n1 : nn ≤ 131074
                          · obtain ⟨M, rfl⟩ : ∃ M : Nat, nn = (M : Int) := ⟨nn.toNat, by omega⟩
                            obtain ⟨i0, hi0, hz0, hz1, hz2⟩ := info_parts pl_u8_info
                            have gsz := X1.out.lt
                            obtain ⟨r, D', N', T', hr', P1, P2⟩ := put_pair hr nm (zeros M) s1
                            have P1' := fun {B W p q m n v u} h hn => Lib.hid (P1 (B := B) (W := W) (p := p) (q := q) (m := m) (n := n) (v := v) (u := u) h hn)
                            have P2' := fun {B W p q m n D0 v u} h => Lib.hid (P2 (B := B) (W := W) (p := p) (q := q) (m := m) (n := n) (D0 := D0) (v := v) (u := u) h)
                            clear P1 P2
                            go_wp2_with (at_make; refine wpList_make_full _ rfl (.tmp 127) (.tmp 127) 40 rfl W1.heap.size 5 i0 _ 1 Try.underlying40 hi0 hz0 hz1 .i64 .i64 _ _ M rfl rfl rfl rfl (by rw [hz2]; omega) (by simp only [maxLen]; omega) (Nat.le_refl _) ?_; intro w2 hown hg; have hconv := zeros_conv hown; have hB2 := Lib.hid ((Below.refl W1.heap.size W1).grown hg (Nat.le_refl _) (fun k hk => by cases hk)); clear hg hown; generalize zeros M = zz at *)
                            have X2 := X1.out.below hB2.out gsz
                            have y1 := X2.cell 1
                            simp only [List.getElem?_toArray, List.getElem?_cons_zero, List.getElem?_cons_succ] at y1
                            have P1 := P1' (hb.out.below hB2.out).drew (by omega)
                            have X2 := Lib.hid X2
                            clear hconv P1' c0 c1 c2 c3
                            go_region_held3 (fun w' => w'.cell? ⟨g, 1, none⟩ = some (.string nm)) (first | exact y1 | exact z1 | exact t1)
                              (first
                                | (go_at_call 11; refine P1.out.mono ?_; rintro e w3 ⟨rfl, m3, n3, hb3, hn3, hB3, hx3⟩; have X3 := hx3 _ _ X2.out; have z1 := X3.cell 1; simp only [List.getElem?_toArray, List.getElem?_cons_zero, List.getElem?_cons_succ] at z1; have hb3 := Lib.hid hb3; have hB3 := Lib.hid hB3; have X3 := Lib.hid X3; clear hx3)
                                | (go_at_call 12; refine (P2' hb3.out).out.mono ?_; rintro e w4 ⟨rfl, v4, u4, hb4, hB4, hx4⟩; have X4 := hx4 _ _ X3.out; have t1 := X4.cell 1; simp only [List.getElem?_toArray, List.getElem?_cons_zero, List.getElem?_cons_succ] at t1; have hb4 := Lib.hid hb4; have hB4 := Lib.hid hB4; clear hx4))
                            go_wp2_with fail
                            go_meet
                            exact ⟨p, q, rfl, rfl, ⟨_, _, _, _, _, _, _, hb4.out, hr', by omega⟩, ((B1.out.trans (hB2.out.mono B1.out.size)).drew.trans hB3.out).trans hB4.out⟩
                          · go_wp2_with fail
                            go_meet
                            exact ⟨p, q, rfl, rfl, S1.out.mono (Nat.le_succ k), B1.out⟩
                        · go_wp2_with fail
                          go_meet
                          exact ⟨p, q, rfl, rfl, S1.out.mono (Nat.le_succ k), B1.out⟩
                      · have f4 : (kd == 4) = false := by simp [k4]
                        go_wp2_with fail
                        go_meet
                        exact ⟨p, q, rfl, rfl, S1.out.mono (Nat.le_succ k), B1.out⟩
            case rest =>
              obtain ⟨p', q', rfl, rfl, ⟨m, n, D, v, u, N, T, hb0, hr, hn⟩, hB2⟩ := hcut
              have NM1 := Lib.hid (both_names1 hb0 hr)
              have hB2 := Lib.hid hB2
              clear hb0 S1 B1 X1
              go_wp2_with fail
              refine NM1.out.mono ?_
              rintro e w2 ⟨r1, rfl, hr1, hb1, hB3⟩
              have NM2 := Lib.hid (both_names2 hb1)
              have hr1 := Lib.hid hr1
              have hB3 := Lib.hid hB3
              clear hb1 NM1
              go_wp2_with fail
              refine NM2.out.mono ?_
              rintro e w3 ⟨r2, rfl, hr2, hb2, hB4⟩
              have KT := Lib.hid (keep_texts r1 r2 N N w3 (hr1.out.below hB4) hr2)
              have hb2 := Lib.hid hb2
              have hB4 := Lib.hid hB4
              clear hr2 NM2
              go_wp2_with fail
              refine KT.out.mono ?_
              rintro e w4 ⟨rfl, hk4⟩
              have hbe : decide (N = N) = true := by simp
              have hb4 := Lib.hid (hb2.out.below hk4.all_below)
              have hB5 : RowKit.Hid (Below w.heap.size w w4) := Lib.hid (((hB2.out.trans (hB3.out.mono hB2.out.size)).trans (hB4.out.mono (Nat.le_trans hB2.out.size hB3.out.size))).trans hk4.all_below)
              clear KT hk4
              go_wp2_with fail
              exact ⟨⟨p', q', k + 1, rfl, rfl, by go_num, by omega, Lib.hid ⟨m, n, D, v, u, N, T, hb4.out, hr, hn⟩, hB5⟩, by simp [intOf]; omega⟩
      · go_wp2_with fail
        refine (law07_wakes _).mono ?_
        rintro e w2 ⟨rfl, hb2⟩
        go_wp2_with fail
        go_ret
        exact ⟨rfl, hB.out.trans (hb2.mono hB.out.size)⟩
    · go_wp2_with fail
      refine (law07_wakes _).mono ?_
      rintro e w2 ⟨rfl, hb2⟩
      go_wp2_with fail
      go_ret
      exact ⟨rfl, hB.out.trans (hb2.mono hB.out.size)⟩

end Go.Proofs.Ytceflhffilldeaa
