/-
  One step of the document's machine: its ends.
-/
import Derived.Test.YtefgajojimkdiaaZQMem
import Derived.Test.YtefgajojimkdiaaZRiscRefDec
import Derived.Deep.RegionHeld3
namespace Go.Proofs.Ytefgajojimkdiaa
set_option linter.unusedVariables false
set_option linter.unusedSimpArgs false
open Go.RowKit Bw

theorem below8 {N g : Nat} (w : World) (hg : N ≤ g) (a b c d e f h i : Value) : Below N w ((((((((w.setCell ⟨g, 0, none⟩ a).setCell ⟨g, 1, none⟩ b).setCell ⟨g, 2, none⟩ c).setCell ⟨g, 3, none⟩ d).setCell ⟨g, 4, none⟩ e).setCell ⟨g, 5, none⟩ f).setCell ⟨g, 6, none⟩ h).setCell ⟨g, 7, none⟩ i) :=
  ((((((((Below.refl N w).setCell (p := ⟨g, 0, none⟩) hg a).setCell (p := ⟨g, 1, none⟩) hg b).setCell (p := ⟨g, 2, none⟩) hg c).setCell (p := ⟨g, 3, none⟩) hg d).setCell (p := ⟨g, 4, none⟩) hg e).setCell (p := ⟨g, 5, none⟩) hg f).setCell (p := ⟨g, 6, none⟩) hg h).setCell (p := ⟨g, 7, none⟩) hg i
theorem blk8 {w : World} {g : Nat} {t : TypeId} {x0 x1 x2 x3 x4 x5 x6 x7 : Value} (hb : Blk w g t #[x0, x1, x2, x3, x4, x5, x6, x7]) (a b c d e f h i : Value) : Blk ((((((((w.setCell ⟨g, 0, none⟩ a).setCell ⟨g, 1, none⟩ b).setCell ⟨g, 2, none⟩ c).setCell ⟨g, 3, none⟩ d).setCell ⟨g, 4, none⟩ e).setCell ⟨g, 5, none⟩ f).setCell ⟨g, 6, none⟩ h).setCell ⟨g, 7, none⟩ i) g t #[a, b, c, d, e, f, h, i] := by
  have k0 : Blk _ g t #[a, x1, x2, x3, x4, x5, x6, x7] := hb.set_ 0 a
  have k1 : Blk _ g t #[a, b, x2, x3, x4, x5, x6, x7] := k0.set_ 1 b
  have k2 : Blk _ g t #[a, b, c, x3, x4, x5, x6, x7] := k1.set_ 2 c
  have k3 : Blk _ g t #[a, b, c, d, x4, x5, x6, x7] := k2.set_ 3 d
  have k4 : Blk _ g t #[a, b, c, d, e, x5, x6, x7] := k3.set_ 4 e
  have k5 : Blk _ g t #[a, b, c, d, e, f, x6, x7] := k4.set_ 5 f
  have k6 : Blk _ g t #[a, b, c, d, e, f, h, x7] := k5.set_ 6 h
  exact k6.set_ 7 i
theorem zs_new {w w' : World} {t : TypeId} {cs : Array Value} (hb : Below (w.alloc (.cells cs t)).drew.heap.size (w.alloc (.cells cs t)).drew w') : Blk w' w.heap.size t cs := (Blk.new w t cs).drew.below hb (by simp)
theorem zs_le {w w' : World} {o : Obj} (hb : Below (w.alloc o).drew.heap.size (w.alloc o).drew w') : w.heap.size ≤ w'.heap.size := Nat.le_trans (by simp) hb.size
theorem zs_le0 {w w' : World} (hb : Below w.drew.heap.size w.drew w') : w.heap.size ≤ w'.heap.size := hb.size
/-- What the step's reading loads, while only blocks from N on turn. -/
structure QRd (N p mp ap L c k : Nat) (pc x : Int) (W0 w : World) : Prop where
  b : Below N W0 w
  n : N ≤ w.heap.size
  p22 : w.cell? ⟨p, 22, none⟩ = some (.pointer (some ⟨mp, 0, none⟩))
  p21 : w.cell? ⟨p, 21, none⟩ = some (.int .i64 pc)
  m0 : w.cell? ⟨mp, 0, none⟩ = some (.slice (some ⟨ap, 0, none⟩) L c)
  a0 : w.cell? ⟨ap, k, none⟩ = some (.int .u32 x)
theorem QRd.on {N p mp ap n c k : Nat} {pc x : Int} {W0 w1 w2 : World} (h : QRd N p mp ap n c k pc x W0 w1) (hp : p < N) (hm : mp < N) (ha : ap < N) (hb : Below N w1 w2) : QRd N p mp ap n c k pc x W0 w2 :=
  ⟨h.b.trans hb, Nat.le_trans h.n hb.size, (hb.cell (p := ⟨p, 22, none⟩) hp).trans h.p22, (hb.cell (p := ⟨p, 21, none⟩) hp).trans h.p21, (hb.cell (p := ⟨mp, 0, none⟩) hm).trans h.m0, (hb.cell (p := ⟨ap, k, none⟩) ha).trans h.a0⟩
theorem QRd.alloc {N p mp ap n c k : Nat} {pc x : Int} {W0 w1 : World} (h : QRd N p mp ap n c k pc x W0 w1) (hp : p < N) (hm : mp < N) (ha : ap < N) (o : Obj) : QRd N p mp ap n c k pc x W0 (w1.alloc o) := h.on hp hm ha ((Below.refl _ _).alloc h.n o)
theorem QRd.re {N p mp ap n c k : Nat} {pc x : Int} {W0 w1 : World} {o1 : Obj} (h : QRd N p mp ap n c k pc x W0 (w1.alloc o1)) (hp : p < N) (hm : mp < N) (ha : ap < N) (hn : N ≤ w1.heap.size) (o2 : Obj) : QRd N p mp ap n c k pc x W0 (w1.alloc o2) := by
  have b1 := (Below.refl N w1).alloc hn o1
  have b2 := (Below.refl N w1).alloc hn o2
  exact h.on hp hm ha ⟨b2.os.trans b1.os.symm, b2.tape.trans b1.tape.symm, b2.output.trans b1.output.symm, by simp, fun k hk => (b2.block k hk).trans (b1.block k hk).symm⟩
theorem QRd.all {N p mp ap n c k : Nat} {pc x : Int} {W0 w : World} (h : QRd N p mp ap n c k pc x W0 w) : QRd N p mp ap n c k pc x W0 w ∧ w.cell? ⟨p, 22, none⟩ = some (.pointer (some ⟨mp, 0, none⟩)) ∧ w.cell? ⟨p, 21, none⟩ = some (.int .i64 pc) ∧ w.cell? ⟨mp, 0, none⟩ = some (.slice (some ⟨ap, 0, none⟩) n c) ∧ w.cell? ⟨ap, k, none⟩ = some (.int .u32 x) :=
  ⟨h, h.p22, h.p21, h.m0, h.a0⟩

set_option maxRecDepth 100000 in
set_option maxHeartbeats 4000000 in
theorem q_step_end (S : Nat → Prop) (p mp ap c : Nat) (ov : Value) (st : Int) (m : Mc) (w : World) (h : QMach w p mp ap c ov st m) (hF : Free S p ap ov) (hS : ∀ k, S k → k < w.heap.size) (hs0 : 0 ≤ st) (hs1 : st ≤ 4194304) (hlt : ¬ m.pc < m.size) :
    Calls Try.prog 44 #[.pointer (some ⟨p, 0, none⟩)] w fun e w' => e = .returned (.tuple #[]) ∧ QStored S p mp ap c (st + 1) { m with en := 5 } w w' := by
  have hlt' : ¬ m.pc < (m.mem.length : Int) := hlt
  have c26 := h.st_
  have f26 := h.froz 26
  have h1 := h.set_st (st + 1)
  have K1 := (Kept.refl S w).then_ hF.1 26 (.int .i64 (st + 1))
  have SZ := fun W hW => Lib.hid (qmem_size mp ap c m.mem W hW)
  have h1 := Lib.hid h1
  have K1 := Lib.hid K1
  have hF := Lib.hid hF
  have hS := Lib.hid hS
  have hpc := h.ok.pc
  clear hlt h
  go_enter Try.func44, Try.ntmps44
  go_wp2_with fail
  generalize hW : w.setCell ⟨p, 26, none⟩ (.int .i64 (st + 1)) = W at *
  have hsz : W.heap.size = w.heap.size := by rw [← hW]; simp [World.setCell]
  clear hW c26 f26
  have c21 := h1.out.pc_
  have c22 := h1.out.mem_
  have c27 := h1.out.en_
  have f27 := h1.out.froz 27
  (refine region_drew 9 (by kernel_rfl) (by kernel_rfl) ?_; simp only [List.take_succ_cons, List.take_zero, List.drop_succ_cons, List.drop_zero]; (repeat still_step))
  still_call ((SZ _ h1.out.drew.mem).out.mono fun _ _ h => ⟨h.1, h.2.symm⟩)
  repeat still_step
  refine wpStill_nil ?_
  go_wp2_with fail
  refine bodyPost_ret (results_none rfl _ _ _) rfl ?_
  exact ⟨rfl, QStored.en h1.out.drew K1.out.drew hF.out (fun k hk => by have := hS.out k hk; show k < W.heap.size; omega) 5⟩

end Go.Proofs.Ytefgajojimkdiaa

/-
  One step of the document's machine, walked, no instruction. (Printed by gen_qstep.py.)
-/
namespace Go.Proofs.Ytefgajojimkdiaa
set_option linter.unusedVariables false
set_option linter.unusedSimpArgs false
open Go.RowKit Bw

set_option maxRecDepth 100000 in
set_option maxHeartbeats 4000000 in
theorem q_step_op (S : Nat → Prop) (p mp ap d : Nat) (ov : Value) (st : Int) (m : Mc) (w : World) (h : QMach w p mp ap d ov st m) (hF : Free S p ap ov) (hS : ∀ k, S k → k < w.heap.size) (hs0 : 0 ≤ st) (hs1 : st ≤ 4194304) (hlt : m.pc < m.size) (x : Int) (hx : m.mem.getD m.pc.toNat 0 = x) (hd : Ins.derr x ≠ 0) :
    Calls Try.prog 44 #[.pointer (some ⟨p, 0, none⟩)] w fun e w' => e = .returned (.tuple #[]) ∧ QStored S p mp ap d (st + 1) { m with en := 4 } w w' := by
  have hlt' : m.pc < (m.mem.length : Int) := hlt
  have c26 := h.st_
  have f26 := h.froz 26
  have h1 := h.set_st (st + 1)
  have K1 := (Kept.refl S w).then_ hF.1 26 (.int .i64 (st + 1))
  have SZ := fun W hW => Lib.hid (qmem_size mp ap d m.mem W hW)
  have hx0 := h.ok.word m.pc.toNat
  rw [hx] at hx0
  have DE := fun W => ref02_decode x W hx0.1 hx0.2
  rw [(Ins.dec_none x hd).1, (Ins.dec_none x hd).2] at DE
  simp only [Ins.val, Ins.cells, Ins.zero] at DE
  have DE := fun W => Lib.hid (DE W)
  clear hd
  have h1 := Lib.hid h1
  have K1 := Lib.hid K1
  have hF := Lib.hid hF
  have hS := Lib.hid hS
  have hpc := h.ok.pc
  have hml := h.ok.ml
  obtain ⟨k, hk⟩ : ∃ k : Nat, m.pc = k := ⟨m.pc.toNat, by omega⟩
  have hkn : k < m.mem.length := by omega
  rw [hk, Int.toNat_natCast] at hx
  clear hlt h hx0
  go_enter Try.func44, Try.ntmps44
  go_wp2_with fail
  generalize hW : w.setCell ⟨p, 26, none⟩ (.int .i64 (st + 1)) = W at *
  have hsz : W.heap.size = w.heap.size := by rw [← hW]; simp [World.setCell]
  clear hW c26 f26
  have c21 := h1.out.pc_
  have c22 := h1.out.mem_
  rw [hk] at c21
  have hlt2 : ¬ (m.mem.length : Int) ≤ (k : Int) := by omega
  have hlt3 : (k : Int) < m.mem.length := by omega
  clear hlt'
  (refine region_drew 9 (by kernel_rfl) (by kernel_rfl) ?_; simp only [List.take_succ_cons, List.take_zero, List.drop_succ_cons, List.drop_zero]; (repeat still_step))
  still_call ((SZ _ h1.out.drew.mem).out.mono fun _ _ h => ⟨h.1, h.2.symm⟩)
  repeat still_step
  refine wpStill_nil ?_
  go_wp2_with fail
  generalize hW2 : W.drew = W2 at *
  have h2 : RowKit.Hid (QMach W2 p mp ap d ov (st + 1) m) := Lib.hid (hW2 ▸ h1.out.drew)
  have K2 : RowKit.Hid (Kept S w W2) := Lib.hid (hW2 ▸ K1.out.drew)
  have hsz2' : W2.heap.size = w.heap.size := by rw [← hW2]; exact hsz
  have hsz2 := Lib.hid hsz2'
  clear hsz2'
  clear hW2 h1 K1 c21 c22 hsz
  have hpN := h2.out.blk.lt
  have hmN := h2.out.mem.lt1
  have haN := h2.out.mem.lt2
  have q22 := h2.out.mem_
  have q21 := h2.out.pc_
  rw [hk] at q21
  have qm := h2.out.mem.cell0
  have qa := h2.out.mem.cell k hkn
  rw [hx] at qa
  have RK1 : QRd W2.heap.size p mp ap m.mem.length d k k x W2 W2.drew := ⟨(Below.refl _ _).drew, Nat.le_refl _, q22, q21, qm, qa⟩
  clear q22 q21 qm qa
  go_region_held3 (fun w' => QRd W2.heap.size p mp ap m.mem.length d k k x W2 w' ∧ w'.cell? ⟨p, 22, none⟩ = some (.pointer (some ⟨mp, 0, none⟩)) ∧ w'.cell? ⟨p, 21, none⟩ = some (.int .i64 k) ∧ w'.cell? ⟨mp, 0, none⟩ = some (.slice (some ⟨ap, 0, none⟩) m.mem.length d) ∧ w'.cell? ⟨ap, k, none⟩ = some (.int .u32 x))
    (first | (have _s := SB.out; simp only [_s, and_self]; done) | with_reducible exact QRd.all RK1 | with_reducible exact QRd.all (QRd.on (And.left (by assumption)) hpN hmN haN ((by assumption : Below _ _ _).mono (QRd.n (And.left (by assumption))))) | with_reducible exact QRd.all (QRd.alloc (And.left (by assumption)) hpN hmN haN _) | with_reducible exact QRd.all (QRd.re (And.left (by assumption)) hpN hmN haN hs3 _))
    (first | (go_at_call 61; refine (DE _).out.mono ?_; rintro e w3 ⟨rfl, hb3⟩; have hs3 : W2.heap.size ≤ w3.heap.size := (by first | with_reducible exact zs_le0 hb3 | with_reducible exact zs_le hb3); try (have Z : Blk w3 W2.heap.size 24 #[.int .i64 0, .bool false, .bool false, .int .i64 0, .int .i64 0, .int .i64 0, .int .i64 0, .int .i64 0] := (by with_reducible exact zs_new hb3); have zc0 := Z.cell 0; have zc1 := Z.cell 1; have zc2 := Z.cell 2; have zc3 := Z.cell 3; have zc4 := Z.cell 4; have zc5 := Z.cell 5; have zc6 := Z.cell 6; have zc7 := Z.cell 7; have zf0 := Z.frozen 0; have zf1 := Z.frozen 1; have zf2 := Z.frozen 2; have zf3 := Z.frozen 3; have zf4 := Z.frozen 4; have zf5 := Z.frozen 5; have zf6 := Z.frozen 6; have zf7 := Z.frozen 7; simp only [List.getElem?_toArray, List.getElem?_cons_zero, List.getElem?_cons_succ] at zc0 zc1 zc2 zc3 zc4 zc5 zc6 zc7; have Z := Lib.hid Z; have hq3 := QRd.on (And.left (by assumption)) hpN hmN haN (hb3.mono (QRd.n (And.left (by assumption)))); have B8 := below8 (N := W2.heap.size) (g := W2.heap.size) w3 (Nat.le_refl _) (.int .i64 0) (.bool false) (.bool false) (.int .i64 0) (.int .i64 0) (.int .i64 0) (.int .i64 0) (.int .i64 0); have SB := Lib.hid (QRd.all (QRd.on hq3 hpN hmN haN B8)); clear hq3 B8)))
  · have hR : QRd W2.heap.size p mp ap m.mem.length d k k x W2 (w3.alloc (.cells #[.int .i64 0, .bool false, .bool false, .int .i64 0, .int .i64 0, .int .i64 0, .int .i64 0, .int .i64 0] 24)) := And.left (by assumption)
    have Z4 := Blk.new w3 24 #[.int .i64 0, .bool false, .bool false, .int .i64 0, .int .i64 0, .int .i64 0, .int .i64 0, .int .i64 0]
    have h4 := Lib.hid (h2.out.below hR.b)
    have K4 := Lib.hid (K2.out.below hR.b (fun k hk => Nat.lt_of_lt_of_le (hS.out k hk) K2.out.size))
    clear hR
    generalize hWW : w3.alloc (.cells #[.int .i64 0, .bool false, .bool false, .int .i64 0, .int .i64 0, .int .i64 0, .int .i64 0, .int .i64 0] 24) = W4 at *
    clear hWW
    have c27 := h4.out.en_
    have f27 := h4.out.froz 27
    go_wp2_with fail
    refine bodyPost_ret (results_none rfl _ _ _) rfl ?_
    exact ⟨rfl, QStored.en h4.out K4.out hF.out (fun k hk => Nat.lt_of_lt_of_le (hS.out k hk) K4.out.size) 4⟩
  · have hR : QRd W2.heap.size p mp ap m.mem.length d k k x W2 ((((((((w3.setCell ⟨W2.heap.size, 0, none⟩ (.int .i64 0)).setCell ⟨W2.heap.size, 1, none⟩ (.bool false)).setCell ⟨W2.heap.size, 2, none⟩ (.bool false)).setCell ⟨W2.heap.size, 3, none⟩ (.int .i64 0)).setCell ⟨W2.heap.size, 4, none⟩ (.int .i64 0)).setCell ⟨W2.heap.size, 5, none⟩ (.int .i64 0)).setCell ⟨W2.heap.size, 6, none⟩ (.int .i64 0)).setCell ⟨W2.heap.size, 7, none⟩ (.int .i64 0)) := And.left (by assumption)
    have Z4 := blk8 Z.out (.int .i64 0) (.bool false) (.bool false) (.int .i64 0) (.int .i64 0) (.int .i64 0) (.int .i64 0) (.int .i64 0)
    have h4 := Lib.hid (h2.out.below hR.b)
    have K4 := Lib.hid (K2.out.below hR.b (fun k hk => Nat.lt_of_lt_of_le (hS.out k hk) K2.out.size))
    clear hR
    generalize hWW : (((((((w3.setCell ⟨W2.heap.size, 0, none⟩ (.int .i64 0)).setCell ⟨W2.heap.size, 1, none⟩ (.bool false)).setCell ⟨W2.heap.size, 2, none⟩ (.bool false)).setCell ⟨W2.heap.size, 3, none⟩ (.int .i64 0)).setCell ⟨W2.heap.size, 4, none⟩ (.int .i64 0)).setCell ⟨W2.heap.size, 5, none⟩ (.int .i64 0)).setCell ⟨W2.heap.size, 6, none⟩ (.int .i64 0)).setCell ⟨W2.heap.size, 7, none⟩ (.int .i64 0) = W4 at *
    clear hWW
    have c27 := h4.out.en_
    have f27 := h4.out.froz 27
    go_wp2_with fail
    refine bodyPost_ret (results_none rfl _ _ _) rfl ?_
    exact ⟨rfl, QStored.en h4.out K4.out hF.out (fun k hk => Nat.lt_of_lt_of_le (hS.out k hk) K4.out.size) 4⟩

end Go.Proofs.Ytefgajojimkdiaa

/-
  One step of the document's machine, walked, an instruction. (Printed by gen_qstep.py.)
-/
namespace Go.Proofs.Ytefgajojimkdiaa
set_option linter.unusedVariables false
set_option linter.unusedSimpArgs false
open Go.RowKit Bw

set_option maxRecDepth 100000 in
set_option maxHeartbeats 4000000 in
theorem q_step_does (hR : QRegs) (S : Nat → Prop) (p mp ap d : Nat) (ov : Value) (st : Int) (m : Mc) (w : World) (h : QMach w p mp ap d ov st m) (hF : Free S p ap ov) (hS : ∀ k, S k → k < w.heap.size) (hs0 : 0 ≤ st) (hs1 : st ≤ 4194304) (hlt : m.pc < m.size) (x : Int) (hx : m.mem.getD m.pc.toNat 0 = x) (hd : Ins.derr x = 0) :
    Calls Try.prog 44 #[.pointer (some ⟨p, 0, none⟩)] w fun e w' => e = .returned (.tuple #[]) ∧ QStored S p mp ap d (st + 1) (({ m with pc := m.pc + 1 } : Mc).does (Ins.dec x)) w w' := by
  have hlt' : m.pc < (m.mem.length : Int) := hlt
  have c26 := h.st_
  have f26 := h.froz 26
  have h1 := h.set_st (st + 1)
  have K1 := (Kept.refl S w).then_ hF.1 26 (.int .i64 (st + 1))
  have SZ := fun W hW => Lib.hid (qmem_size mp ap d m.mem W hW)
  have hx0 := h.ok.word m.pc.toNat
  rw [hx] at hx0
  have DE := fun W => ref02_decode x W hx0.1 hx0.2
  have hg := (Ins.dec_good x hd).1
  rw [hd] at DE
  generalize Ins.dec x = X at *
  obtain ⟨form, u, v, a, b, c, op, im⟩ := X
  have hfr := Ins.good_range _ hg
  simp only at hfr
  have MV := fun (hf : form = 2) W st' hm hF hS => q_memory S ⟨form, u, v, a, b, c, op, im⟩ hg hf p mp ap d ov st' { m with pc := m.pc + 1 } W hm hF hS
  have JP := fun (hf : form = 3) W st' hm hF hS => q_jumpX S ⟨form, u, v, a, b, c, op, im⟩ hg hf p mp ap d ov st' { m with pc := m.pc + 1 } W hm hF hS
  have RC := fun (hf : form = 0 ∨ form = 1) W st' hm hF hS => hR S ⟨form, u, v, a, b, c, op, im⟩ hg hf p mp ap d ov st' { m with pc := m.pc + 1 } W hm hF hS
  simp only [Ins.val, Ins.cells] at DE MV JP RC
  have DE := fun W => Lib.hid (DE W)
  clear hd hR hg
  have h1 := Lib.hid h1
  have K1 := Lib.hid K1
  have hF := Lib.hid hF
  have hS := Lib.hid hS
  have hpc := h.ok.pc
  have hml := h.ok.ml
  obtain ⟨k, hk⟩ : ∃ k : Nat, m.pc = k := ⟨m.pc.toNat, by omega⟩
  have hkn : k < m.mem.length := by omega
  rw [hk, Int.toNat_natCast] at hx
  simp only [hk] at MV JP RC ⊢
  have MV' := Lib.hid MV
  have JP' := Lib.hid JP
  have RC' := Lib.hid RC
  clear MV JP RC
  clear hlt h hx0
  go_enter Try.func44, Try.ntmps44
  go_wp2_with fail
  generalize hW : w.setCell ⟨p, 26, none⟩ (.int .i64 (st + 1)) = W at *
  have hsz : W.heap.size = w.heap.size := by rw [← hW]; simp [World.setCell]
  clear hW c26 f26
  have c21 := h1.out.pc_
  have c22 := h1.out.mem_
  rw [hk] at c21
  have hlt2 : ¬ (m.mem.length : Int) ≤ (k : Int) := by omega
  have hlt3 : (k : Int) < m.mem.length := by omega
  clear hlt'
  (refine region_drew 9 (by kernel_rfl) (by kernel_rfl) ?_; simp only [List.take_succ_cons, List.take_zero, List.drop_succ_cons, List.drop_zero]; (repeat still_step))
  still_call ((SZ _ h1.out.drew.mem).out.mono fun _ _ h => ⟨h.1, h.2.symm⟩)
  repeat still_step
  refine wpStill_nil ?_
  go_wp2_with fail
  generalize hW2 : W.drew = W2 at *
  have h2 : RowKit.Hid (QMach W2 p mp ap d ov (st + 1) m) := Lib.hid (hW2 ▸ h1.out.drew)
  have K2 : RowKit.Hid (Kept S w W2) := Lib.hid (hW2 ▸ K1.out.drew)
  have hsz2' : W2.heap.size = w.heap.size := by rw [← hW2]; exact hsz
  have hsz2 := Lib.hid hsz2'
  clear hsz2'
  clear hW2 h1 K1 c21 c22 hsz
  have hpN := h2.out.blk.lt
  have hmN := h2.out.mem.lt1
  have haN := h2.out.mem.lt2
  have q22 := h2.out.mem_
  have q21 := h2.out.pc_
  rw [hk] at q21
  have qm := h2.out.mem.cell0
  have qa := h2.out.mem.cell k hkn
  rw [hx] at qa
  have RK1 : QRd W2.heap.size p mp ap m.mem.length d k k x W2 W2.drew := ⟨(Below.refl _ _).drew, Nat.le_refl _, q22, q21, qm, qa⟩
  clear q22 q21 qm qa
  go_region_held3 (fun w' => QRd W2.heap.size p mp ap m.mem.length d k k x W2 w' ∧ w'.cell? ⟨p, 22, none⟩ = some (.pointer (some ⟨mp, 0, none⟩)) ∧ w'.cell? ⟨p, 21, none⟩ = some (.int .i64 k) ∧ w'.cell? ⟨mp, 0, none⟩ = some (.slice (some ⟨ap, 0, none⟩) m.mem.length d) ∧ w'.cell? ⟨ap, k, none⟩ = some (.int .u32 x))
    (first | (have _s := SB.out; simp only [_s, and_self]; done) | with_reducible exact QRd.all RK1 | with_reducible exact QRd.all (QRd.on (And.left (by assumption)) hpN hmN haN ((by assumption : Below _ _ _).mono (QRd.n (And.left (by assumption))))) | with_reducible exact QRd.all (QRd.alloc (And.left (by assumption)) hpN hmN haN _) | with_reducible exact QRd.all (QRd.re (And.left (by assumption)) hpN hmN haN hs3 _))
    (first | (go_at_call 61; refine (DE _).out.mono ?_; rintro e w3 ⟨rfl, hb3⟩; have hs3 : W2.heap.size ≤ w3.heap.size := (by first | with_reducible exact zs_le0 hb3 | with_reducible exact zs_le hb3); try (have Z : Blk w3 W2.heap.size 24 #[.int .i64 0, .bool false, .bool false, .int .i64 0, .int .i64 0, .int .i64 0, .int .i64 0, .int .i64 0] := (by with_reducible exact zs_new hb3); have zc0 := Z.cell 0; have zc1 := Z.cell 1; have zc2 := Z.cell 2; have zc3 := Z.cell 3; have zc4 := Z.cell 4; have zc5 := Z.cell 5; have zc6 := Z.cell 6; have zc7 := Z.cell 7; have zf0 := Z.frozen 0; have zf1 := Z.frozen 1; have zf2 := Z.frozen 2; have zf3 := Z.frozen 3; have zf4 := Z.frozen 4; have zf5 := Z.frozen 5; have zf6 := Z.frozen 6; have zf7 := Z.frozen 7; simp only [List.getElem?_toArray, List.getElem?_cons_zero, List.getElem?_cons_succ] at zc0 zc1 zc2 zc3 zc4 zc5 zc6 zc7; have Z := Lib.hid Z; have hq3 := QRd.on (And.left (by assumption)) hpN hmN haN (hb3.mono (QRd.n (And.left (by assumption)))); have B8 := below8 (N := W2.heap.size) (g := W2.heap.size) w3 (Nat.le_refl _) (.int .i64 form) (.bool u) (.bool v) (.int .i64 a) (.int .i64 b) (.int .i64 c) (.int .i64 op) (.int .i64 im); have SB := Lib.hid (QRd.all (QRd.on hq3 hpN hmN haN B8)); clear hq3 B8)))
  · have hR : QRd W2.heap.size p mp ap m.mem.length d k k x W2 (w3.alloc (.cells #[.int .i64 form, .bool u, .bool v, .int .i64 a, .int .i64 b, .int .i64 c, .int .i64 op, .int .i64 im] 24)) := And.left (by assumption)
    have Z4 := Blk.new w3 24 #[.int .i64 form, .bool u, .bool v, .int .i64 a, .int .i64 b, .int .i64 c, .int .i64 op, .int .i64 im]
    have h4 := Lib.hid (h2.out.below hR.b)
    have K4 := Lib.hid (K2.out.below hR.b (fun k hk => Nat.lt_of_lt_of_le (hS.out k hk) K2.out.size))
    clear hR
    generalize hWW : w3.alloc (.cells #[.int .i64 form, .bool u, .bool v, .int .i64 a, .int .i64 b, .int .i64 c, .int .i64 op, .int .i64 im] 24) = W4 at *
    have n1 : p ≠ w3.heap.size := h4.out.blk.ne_ Z4 (by decide)
    have n2 : w3.heap.size ≠ p := fun e => n1 e.symm
    clear hWW
    have l0 := Z4.cell 0
    have l1 := Z4.cell 1
    have l2 := Z4.cell 2
    have l3 := Z4.cell 3
    have l4 := Z4.cell 4
    have l5 := Z4.cell 5
    have l6 := Z4.cell 6
    have l7 := Z4.cell 7
    simp only [List.getElem?_toArray, List.getElem?_cons_zero, List.getElem?_cons_succ] at l0 l1 l2 l3 l4 l5 l6 l7
    have c21 := h4.out.pc_
    have f21 := h4.out.froz 21
    rw [hk] at c21
    have hM := Lib.hid (h4.out.set_pc (k + 1) (by omega))
    have hK := Lib.hid (K4.out.then_ hF.out.1 21 (.int .i64 (k + 1)))
    have hS5 := Lib.hid (fun j hj => Nat.lt_of_lt_of_le (hS.out j hj) hK.out.size)
    have Z4 := Lib.hid Z4
    clear h4 K4 h2 K2
    by_cases hf2 : form = 2
    · subst hf2
      have e1 : ({ m with pc := (k : Int) + 1 } : Mc).does ⟨2, u, v, a, b, c, op, im⟩ = ({ m with pc := (k : Int) + 1 } : Mc).moves ⟨2, u, v, a, b, c, op, im⟩ := rfl
      have e1' := Lib.hid e1
      clear e1
      go_wp2_with fail
      refine (MV'.out (by trivial) _ _ hM.out hF.out hS5.out).mono ?_
      rintro e w5 ⟨rfl, hst⟩
      go_wp2_with fail
      go_end0
      exact ⟨rfl, e1'.out ▸ hst.from_ hK.out⟩
    by_cases hf3 : form = 3
    · subst hf3
      have e1 : ({ m with pc := (k : Int) + 1 } : Mc).does ⟨3, u, v, a, b, c, op, im⟩ = ({ m with pc := (k : Int) + 1 } : Mc).jumps ⟨3, u, v, a, b, c, op, im⟩ := rfl
      have e1' := Lib.hid e1
      clear e1
      go_wp2_with fail
      refine (JP'.out (by trivial) _ _ hM.out hF.out hS5.out).mono ?_
      rintro e w5 ⟨rfl, hst⟩
      go_wp2_with fail
      go_end0
      exact ⟨rfl, e1'.out ▸ hst.from_ hK.out⟩
    have hf01 : form = 0 ∨ form = 1 := by omega
    have e1 : ({ m with pc := (k : Int) + 1 } : Mc).does ⟨form, u, v, a, b, c, op, im⟩ = ({ m with pc := (k : Int) + 1 } : Mc).reckons ⟨form, u, v, a, b, c, op, im⟩ := by
      unfold Mc.does; rw [if_neg hf2, if_neg hf3]
    have e1' := Lib.hid e1
    clear e1
    have hf01' := Lib.hid hf01
    rcases hf01 with hz | hz
    all_goals
      subst hz
      go_wp2_with fail
      refine (RC'.out hf01'.out _ _ hM.out hF.out hS5.out).mono ?_
      rintro e w5 ⟨rfl, hst⟩
      go_wp2_with fail
      go_end0
      exact ⟨rfl, e1'.out ▸ hst.from_ hK.out⟩
  · have hR : QRd W2.heap.size p mp ap m.mem.length d k k x W2 ((((((((w3.setCell ⟨W2.heap.size, 0, none⟩ (.int .i64 form)).setCell ⟨W2.heap.size, 1, none⟩ (.bool u)).setCell ⟨W2.heap.size, 2, none⟩ (.bool v)).setCell ⟨W2.heap.size, 3, none⟩ (.int .i64 a)).setCell ⟨W2.heap.size, 4, none⟩ (.int .i64 b)).setCell ⟨W2.heap.size, 5, none⟩ (.int .i64 c)).setCell ⟨W2.heap.size, 6, none⟩ (.int .i64 op)).setCell ⟨W2.heap.size, 7, none⟩ (.int .i64 im)) := And.left (by assumption)
    have Z4 := blk8 Z.out (.int .i64 form) (.bool u) (.bool v) (.int .i64 a) (.int .i64 b) (.int .i64 c) (.int .i64 op) (.int .i64 im)
    have h4 := Lib.hid (h2.out.below hR.b)
    have K4 := Lib.hid (K2.out.below hR.b (fun k hk => Nat.lt_of_lt_of_le (hS.out k hk) K2.out.size))
    clear hR
    generalize hWW : (((((((w3.setCell ⟨W2.heap.size, 0, none⟩ (.int .i64 form)).setCell ⟨W2.heap.size, 1, none⟩ (.bool u)).setCell ⟨W2.heap.size, 2, none⟩ (.bool v)).setCell ⟨W2.heap.size, 3, none⟩ (.int .i64 a)).setCell ⟨W2.heap.size, 4, none⟩ (.int .i64 b)).setCell ⟨W2.heap.size, 5, none⟩ (.int .i64 c)).setCell ⟨W2.heap.size, 6, none⟩ (.int .i64 op)).setCell ⟨W2.heap.size, 7, none⟩ (.int .i64 im) = W4 at *
    have n1 : p ≠ W2.heap.size := h4.out.blk.ne_ Z4 (by decide)
    have n2 : W2.heap.size ≠ p := fun e => n1 e.symm
    clear hWW
    have l0 := Z4.cell 0
    have l1 := Z4.cell 1
    have l2 := Z4.cell 2
    have l3 := Z4.cell 3
    have l4 := Z4.cell 4
    have l5 := Z4.cell 5
    have l6 := Z4.cell 6
    have l7 := Z4.cell 7
    simp only [List.getElem?_toArray, List.getElem?_cons_zero, List.getElem?_cons_succ] at l0 l1 l2 l3 l4 l5 l6 l7
    have c21 := h4.out.pc_
    have f21 := h4.out.froz 21
    rw [hk] at c21
    have hM := Lib.hid (h4.out.set_pc (k + 1) (by omega))
    have hK := Lib.hid (K4.out.then_ hF.out.1 21 (.int .i64 (k + 1)))
    have hS5 := Lib.hid (fun j hj => Nat.lt_of_lt_of_le (hS.out j hj) hK.out.size)
    have Z4 := Lib.hid Z4
    clear h4 K4 h2 K2
    by_cases hf2 : form = 2
    · subst hf2
      have e1 : ({ m with pc := (k : Int) + 1 } : Mc).does ⟨2, u, v, a, b, c, op, im⟩ = ({ m with pc := (k : Int) + 1 } : Mc).moves ⟨2, u, v, a, b, c, op, im⟩ := rfl
      have e1' := Lib.hid e1
      clear e1
      go_wp2_with fail
      refine (MV'.out (by trivial) _ _ hM.out hF.out hS5.out).mono ?_
      rintro e w5 ⟨rfl, hst⟩
      go_wp2_with fail
      go_end0
      exact ⟨rfl, e1'.out ▸ hst.from_ hK.out⟩
    by_cases hf3 : form = 3
    · subst hf3
      have e1 : ({ m with pc := (k : Int) + 1 } : Mc).does ⟨3, u, v, a, b, c, op, im⟩ = ({ m with pc := (k : Int) + 1 } : Mc).jumps ⟨3, u, v, a, b, c, op, im⟩ := rfl
      have e1' := Lib.hid e1
      clear e1
      go_wp2_with fail
      refine (JP'.out (by trivial) _ _ hM.out hF.out hS5.out).mono ?_
      rintro e w5 ⟨rfl, hst⟩
      go_wp2_with fail
      go_end0
      exact ⟨rfl, e1'.out ▸ hst.from_ hK.out⟩
    have hf01 : form = 0 ∨ form = 1 := by omega
    have e1 : ({ m with pc := (k : Int) + 1 } : Mc).does ⟨form, u, v, a, b, c, op, im⟩ = ({ m with pc := (k : Int) + 1 } : Mc).reckons ⟨form, u, v, a, b, c, op, im⟩ := by
      unfold Mc.does; rw [if_neg hf2, if_neg hf3]
    have e1' := Lib.hid e1
    clear e1
    have hf01' := Lib.hid hf01
    rcases hf01 with hz | hz
    all_goals
      subst hz
      go_wp2_with fail
      refine (RC'.out hf01'.out _ _ hM.out hF.out hS5.out).mono ?_
      rintro e w5 ⟨rfl, hst⟩
      go_wp2_with fail
      go_end0
      exact ⟨rfl, e1'.out ▸ hst.from_ hK.out⟩

end Go.Proofs.Ytefgajojimkdiaa

/-
  One step of the document's machine, walked. (Printed by gen_qstep.py.)
-/
namespace Go.Proofs.Ytefgajojimkdiaa
set_option linter.unusedVariables false
set_option linter.unusedSimpArgs false
open Go.RowKit Bw

theorem q_step (hR : QRegs) (S : Nat → Prop) (p mp ap d : Nat) (ov : Value) (st : Int) (m : Mc) (w : World) (h : QMach w p mp ap d ov st m) (hF : Free S p ap ov) (hS : ∀ k, S k → k < w.heap.size) (hs0 : 0 ≤ st) (hs1 : st ≤ 4194304) :
    Calls Try.prog 44 #[.pointer (some ⟨p, 0, none⟩)] w fun e w' => e = .returned (.tuple #[]) ∧ QStored S p mp ap d (st + 1) m.step w w' := by
  unfold Mc.step
  by_cases hlt : m.pc < m.size
  · rw [if_pos hlt]
    simp only
    by_cases hd : Ins.derr (m.mem.getD m.pc.toNat 0) = 0
    · rw [if_pos hd]
      exact q_step_does hR S p mp ap d ov st m w h hF hS hs0 hs1 hlt _ rfl hd
    · rw [if_neg hd]
      exact q_step_op S p mp ap d ov st m w h hF hS hs0 hs1 hlt _ rfl hd
  · rw [if_neg hlt]
    exact q_step_end S p mp ap d ov st m w h hF hS hs0 hs1 hlt

end Go.Proofs.Ytefgajojimkdiaa
