/-
  The document's machine's Run, walked.
-/
import Derived.Test.YtefgajojimkdiaaZQMem
import Derived.Test.YtefgajojimkdiaaZCpuStep
import Derived.Test.YtefgajojimkdiaaZQStp
import Derived.Test.YtefgajojimkdiaaZQRg
import Derived.Test.YtefgajojimkdiaaZMem
import Derived.Test.YtefgajojimkdiaaZCpuKit
namespace Go.Proofs.Ytefgajojimkdiaa
set_option linter.unusedVariables false
set_option linter.unusedSimpArgs false
open Go.RowKit Bw

/-- What is asked of the document's step. -/
def QSteps : Prop := ∀ (S : Nat → Prop) (p mp ap d : Nat) (ov : Value) (st : Int) (m : Mc) (w : World) (h : QMach w p mp ap d ov st m) (hF : Free S p ap ov) (hS : ∀ k, S k → k < w.heap.size) (hs0 : 0 ≤ st) (hs1 : st ≤ 4194304),
    Calls Try.prog 44 #[.pointer (some ⟨p, 0, none⟩)] w fun e w' => e = .returned (.tuple #[]) ∧ QStored S p mp ap d (st + 1) m.step w w'

/-- What the Outcome is made of. -/
structure QEnd (p : Nat) (M : Mc) (st : Int) (ov : Value) (w : World) : Prop where
  c28 : w.cell? ⟨p, 28, none⟩ = some (.int .i64 M.trap)
  c24 : w.cell? ⟨p, 24, none⟩ = some ov
  c26 : w.cell? ⟨p, 26, none⟩ = some (.int .i64 st)
  c25 : w.cell? ⟨p, 25, none⟩ = some (.int .i64 M.read)
  own : w.ownsRow 0 5 1 ov M.out.length (M.out.map (Value.int .u8))
theorem QEnd.of {w : World} {p mp ap c : Nat} {ov : Value} {st : Int} {m : Mc} (h : QMach w p mp ap c ov st m) : QEnd p m st ov w := ⟨h.trap_, h.out_, h.st_, h.read_, h.out⟩
theorem QEnd.drew {p : Nat} {M : Mc} {st : Int} {ov : Value} {w : World} (h : QEnd p M st ov w) : QEnd p M st ov w.drew := ⟨h.c28, h.c24, h.c26, h.c25, h.own⟩
theorem QEnd.all {p : Nat} {M : Mc} {st : Int} {ov : Value} {w : World} (h : QEnd p M st ov w) : QEnd p M st ov w ∧ w.cell? ⟨p, 28, none⟩ = some (.int .i64 M.trap) ∧ w.cell? ⟨p, 24, none⟩ = some ov ∧ w.cell? ⟨p, 26, none⟩ = some (.int .i64 st) ∧ w.cell? ⟨p, 25, none⟩ = some (.int .i64 M.read) ∧
    (convert 75 9 ov).run Try.prog w = .ok (.string (strOfNums M.out)) w := ⟨h, h.c28, h.c24, h.c26, h.c25, run_convert_out h.own⟩
theorem QEnd.far {p g : Nat} {M : Mc} {st : Int} {ov : Value} {w : World} (h : QEnd p M st ov w) (hg : p ≠ g) (hb : ∀ b, ov.ownBlock = some b → b ≠ g) (k : Nat) (v : Value) : QEnd p M st ov (w.setCell ⟨g, k, none⟩ v) := by
  have K := Kept.cell_ w g k v
  exact ⟨(K.cell (p := ⟨p, 28, none⟩) hg).trans h.c28, (K.cell (p := ⟨p, 24, none⟩) hg).trans h.c24, (K.cell (p := ⟨p, 26, none⟩) hg).trans h.c26, (K.cell (p := ⟨p, 25, none⟩) hg).trans h.c25, own_kept h.own K hb⟩

/-- The steps that the machine in block p has told. -/
def stOf (w : World) (p : Nat) : Nat := match w.cell? ⟨p, 26, none⟩ with | some v => (intOf v).toNat | none => 0
theorem QMach.stOf_ {w : World} {p mp ap c : Nat} {ov : Value} {st : Int} {m : Mc} (h : QMach w p mp ap c ov st m) : stOf w p = st.toNat := by
  unfold stOf; rw [h.st_]; rfl

set_option maxRecDepth 100000 in
set_option maxHeartbeats 4000000 in
theorem q_run_of (hR : QSteps) (S : Nat → Prop) (n : Nat) (p mp ap d : Nat) (ov : Value) (st0 : Int) (m : Mc) (w : World) (h : QMach w p mp ap d ov st0 m) (hn : (n : Int) ≤ 4194304) (hF : Free S p ap ov) (hS : ∀ k, S k → k < w.heap.size) :
    Calls Try.prog 26 #[.pointer (some ⟨p, 0, none⟩), .int .i64 n] w fun e w' => e = .returned (.tuple #[(m.run n).oc (m.steps n), .int .i64 0]) ∧ QStored S p mp ap d (m.steps n) (m.run n) w w' := by
  have hp := h.blk.lt
  have npg : p ≠ w.heap.size := Nat.ne_of_lt hp
  have c26a := h.st_
  have f26a := h.froz 26
  have sz : (w.setCell ⟨p, 26, none⟩ (.int .i64 0)).heap.size = w.heap.size := by simp [World.setCell]
  have B0 := Blk.new (w.setCell ⟨p, 26, none⟩ (.int .i64 0)) 28 #[.int .i64 0, .int .i64 0, .string ⟨#[]⟩, .int .i64 0, .int .i64 0]
  rw [sz] at B0
  have h0 := Lib.hid ((h.set_st 0).alloc (.cells #[.int .i64 0, .int .i64 0, .string ⟨#[]⟩, .int .i64 0, .int .i64 0] 28))
  have K0 := ((Kept.refl S w).then_ hF.1 26 (.int .i64 0)).alloc (by intro k hk; rw [sz]; exact hS k hk) (.cells #[.int .i64 0, .int .i64 0, .string ⟨#[]⟩, .int .i64 0, .int .i64 0] 28)
  have hlt := fun b hb => (h.out.lt b hb).2
  have hap := h.mem.lt2
  have hmp := h.mem.lt1
  have z0 := B0.lt
  have hF2 : Free (fun k => S k ∨ k = w.heap.size) p ap ov := ⟨by rintro (h1 | h1); exact hF.1 h1; omega, by rintro (h1 | h1); exact hF.2.1 h1; omega, fun b hb => by rintro (h1 | h1); exact hF.2.2 b hb h1; have := hlt b hb; omega⟩
  have hF2 := Lib.hid hF2
  have ST := fun (k : Nat) (hk : k ≤ n) ov W hm hF hS => hR (fun k => S k ∨ k = w.heap.size) p mp ap d ov k (m.run k) W hm hF hS (by omega) (by omega)
  have ST := Lib.hid ST
  clear h hlt hap hR sz
  go_enter Try.func26, Try.ntmps26
  go_wp2_with fail
  generalize hW : (w.setCell ⟨p, 26, none⟩ (.int .i64 0)).alloc (.cells #[.int .i64 0, .int .i64 0, .string ⟨#[]⟩, .int .i64 0, .int .i64 0] 28) = W at *
  clear hW c26a f26a
  have hS2 : RowKit.Hid (∀ k, (S k ∨ k = w.heap.size) → k < W.heap.size) := Lib.hid (by
    rintro k (hk | rfl)
    · exact Nat.lt_of_lt_of_le (hS k hk) K0.size
    · exact z0)
  have hS := Lib.hid hS
  have hF := Lib.hid hF
  have K0 := Lib.hid K0
  have B0 := Lib.hid B0
  go_loopw [33] (fun _ wr => ∃ (k : Nat), k ≤ n ∧ m.steps k = k ∧ RowKit.Hid (QStored (fun k => S k ∨ k = w.heap.size) p mp ap d k (m.run k) W wr)) (fun _ wr => n - stOf wr p)
  case atStart => exact ⟨0, by omega, rfl, Lib.hid ⟨ov, h0.out, Kept.refl _ _, hF2.out, hS2.out⟩⟩
  case round =>
    obtain ⟨k, hk, hst, hrel⟩ := hrel
    obtain ⟨ov1, h1, K1, F1, S1⟩ := hrel.out
    have c27 := h1.en_
    have c26 := h1.st_
    have h1 := Lib.hid h1
    have K1 := Lib.hid K1
    have F1 := Lib.hid F1
    have S1 := Lib.hid S1
    clear hrel
    by_cases hen : (m.run k).en = 0
    · by_cases hlt : k < n
      · have hlt' : (k : Int) < (n : Int) := by omega
        have hnext : m.run (k + 1) = (m.run k).step := by rw [Mc.run_succ, if_pos hen]
        have hsteps : m.steps (k + 1) = k + 1 := by rw [Mc.steps_succ, if_pos hen, hst]
        have hst' := Lib.hid hst
        clear hst
        go_wp2_with fail
        refine (ST.out k hk ov1 _ h1.out F1.out S1.out).mono ?_
        rintro e w5 ⟨rfl, hst5⟩
        rw [← hnext] at hst5
        have hst5 : QStored (fun k => S k ∨ k = w.heap.size) p mp ap d ((k + 1 : Nat) : Int) (m.run (k + 1)) wr w5 := hst5
        have e1 : stOf wr p = k := by rw [h1.out.stOf_]; rfl
        have e2 : stOf w5 p = k + 1 := by obtain ⟨_, h5, _⟩ := hst5; rw [h5.stOf_]; rfl
        have hst5 := Lib.hid (hst5.from_ K1.out)
        go_wp2_with fail
        refine ⟨⟨k + 1, hlt, hsteps, hst5⟩, ?_⟩
        simp only [e1, e2]
        omega
      · have hkn : k = n := by omega
        subst hkn
        have hlt' : ¬ (k : Int) < (k : Int) := by omega
        clear ST
        have rs2' := Lib.hid hst
        obtain ⟨M, hMe⟩ : ∃ M, m.run k = M := ⟨_, rfl⟩
        rw [hMe] at h1 hen c27
        have rs1' := Lib.hid hMe
        clear hMe hst
        have RE := QEnd.of h1.out
        have bne : ∀ b, ov1.ownBlock = some b → b ≠ w.heap.size := fun b hb e => F1.out.2.2 b hb (Or.inr e)
        have R5 := (((((RE.far npg bne 0 (.int .i64 3)).far npg bne 1 (.int .i64 M.trap)).far npg bne 2 (.string (strOfNums M.out))).far npg bne 3 (.int .i64 k)).far npg bne 4 (.int .i64 M.read)).drew
        have RE := RE.drew
        have BK : Blk wr w.heap.size 28 _ := B0.out.kept K1.out (Or.inr rfl)
        have b0 := BK.cell 0
        have b1 := BK.cell 1
        have b2 := BK.cell 2
        have b3 := BK.cell 3
        have b4 := BK.cell 4
        simp only [List.getElem?_toArray, List.getElem?_cons_zero, List.getElem?_cons_succ] at b0 b1 b2 b3 b4
        have g0 := BK.frozen 0
        have g1 := BK.frozen 1
        have g2 := BK.frozen 2
        have g3 := BK.frozen 3
        have g4 := BK.frozen 4
        have hz := BK.lt
        have BK := Lib.hid BK
        go_wp2_with fail
        go_region_held3 (fun w' => QEnd p M k ov1 w' ∧ w'.cell? ⟨p, 28, none⟩ = some (.int .i64 M.trap) ∧ w'.cell? ⟨p, 24, none⟩ = some ov1 ∧ w'.cell? ⟨p, 26, none⟩ = some (.int .i64 k) ∧ w'.cell? ⟨p, 25, none⟩ = some (.int .i64 M.read) ∧
            (convert 75 9 ov1).run Try.prog w' = .ok (.string (strOfNums M.out)) w')
          (first | with_reducible exact QEnd.all RE | with_reducible exact QEnd.all R5) (fail)
        have nS : ¬ S w.heap.size := fun h => Nat.lt_irrefl _ (hS.out _ h)
        have KS : Kept S w wr := K0.out.trans (K1.out.mono fun k h => Or.inl h)
        have KF := ((((KS.then_ nS 0 (.int .i64 3)).then_ nS 1 (.int .i64 M.trap)).then_ nS 2 (.string (strOfNums M.out))).then_ nS 3 (.int .i64 k)).then_ nS 4 (.int .i64 M.read)
        have KM := ((((Kept.cell_ wr w.heap.size 0 (.int .i64 3)).then_ (fun e => e rfl) 1 (.int .i64 M.trap)).then_ (fun e => e rfl) 2 (.string (strOfNums M.out))).then_ (fun e => e rfl) 3 (.int .i64 k)).then_ (fun e => e rfl) 4 (.int .i64 M.read)
        have ft := F1.out
        have MF := h1.out.kept KM npg (Nat.ne_of_lt hmp) (fun e => ft.2.1 (Or.inr e)) bne
        have QS : QStored S p mp ap d k M w _ := ⟨ov1, MF.drew, KF.drew, ⟨fun e => ft.1 (Or.inl e), fun e => ft.2.1 (Or.inl e), fun b hb e => ft.2.2 b hb (Or.inl e)⟩, fun k hk => Nat.lt_of_lt_of_le (hS.out k hk) KF.drew.size⟩
        have k0 : Blk (wr.setCell ⟨w.heap.size, 0, none⟩ (.int .i64 3)) w.heap.size 28 #[.int .i64 3, .int .i64 0, .string ⟨#[]⟩, .int .i64 0, .int .i64 0] := BK.out.set_ 0 (.int .i64 3)
        have k1 : Blk ((wr.setCell ⟨w.heap.size, 0, none⟩ (.int .i64 3)).setCell ⟨w.heap.size, 1, none⟩ (.int .i64 M.trap)) w.heap.size 28 #[.int .i64 3, .int .i64 M.trap, .string ⟨#[]⟩, .int .i64 0, .int .i64 0] := k0.set_ 1 (.int .i64 M.trap)
        have k2 : Blk (((wr.setCell ⟨w.heap.size, 0, none⟩ (.int .i64 3)).setCell ⟨w.heap.size, 1, none⟩ (.int .i64 M.trap)).setCell ⟨w.heap.size, 2, none⟩ (.string (strOfNums M.out))) w.heap.size 28 #[.int .i64 3, .int .i64 M.trap, .string (strOfNums M.out), .int .i64 0, .int .i64 0] := k1.set_ 2 (.string (strOfNums M.out))
        have k3 : Blk ((((wr.setCell ⟨w.heap.size, 0, none⟩ (.int .i64 3)).setCell ⟨w.heap.size, 1, none⟩ (.int .i64 M.trap)).setCell ⟨w.heap.size, 2, none⟩ (.string (strOfNums M.out))).setCell ⟨w.heap.size, 3, none⟩ (.int .i64 k)) w.heap.size 28 #[.int .i64 3, .int .i64 M.trap, .string (strOfNums M.out), .int .i64 k, .int .i64 0] := k2.set_ 3 (.int .i64 k)
        have k4 : Blk (((((wr.setCell ⟨w.heap.size, 0, none⟩ (.int .i64 3)).setCell ⟨w.heap.size, 1, none⟩ (.int .i64 M.trap)).setCell ⟨w.heap.size, 2, none⟩ (.string (strOfNums M.out))).setCell ⟨w.heap.size, 3, none⟩ (.int .i64 k)).setCell ⟨w.heap.size, 4, none⟩ (.int .i64 M.read)) w.heap.size 28 #[.int .i64 3, .int .i64 M.trap, .string (strOfNums M.out), .int .i64 k, .int .i64 M.read] := k3.set_ 4 (.int .i64 M.read)
        have BF : Blk (((((wr.setCell ⟨w.heap.size, 0, none⟩ (.int .i64 3)).setCell ⟨w.heap.size, 1, none⟩ (.int .i64 M.trap)).setCell ⟨w.heap.size, 2, none⟩ (.string (strOfNums M.out))).setCell ⟨w.heap.size, 3, none⟩ (.int .i64 k)).setCell ⟨w.heap.size, 4, none⟩ (.int .i64 M.read)).drew w.heap.size 28 #[.int .i64 3, .int .i64 M.trap, .string (strOfNums M.out), .int .i64 k, .int .i64 M.read] := k4.drew
        have QS := Lib.hid QS
        clear k0 k1 k2 k3 k4 KF KM MF b0 b1 b2 b3 b4 g0 g1 g2 g3 g4 hz R5 RE
        generalize hWF : (((((wr.setCell ⟨w.heap.size, 0, none⟩ (.int .i64 3)).setCell ⟨w.heap.size, 1, none⟩ (.int .i64 M.trap)).setCell ⟨w.heap.size, 2, none⟩ (.string (strOfNums M.out))).setCell ⟨w.heap.size, 3, none⟩ (.int .i64 k)).setCell ⟨w.heap.size, 4, none⟩ (.int .i64 M.read)).drew = WF at *
        clear hWF
        have b0 := BF.cell 0
        have b1 := BF.cell 1
        have b2 := BF.cell 2
        have b3 := BF.cell 3
        have b4 := BF.cell 4
        simp only [List.getElem?_toArray, List.getElem?_cons_zero, List.getElem?_cons_succ] at b0 b1 b2 b3 b4
        have hz := BF.lt
        have BF := Lib.hid BF
        go_wp2_with fail
        refine bodyPost_ret (by simp only [results, Try.results26]; go_simp; rfl) rfl ⟨?_, ?_⟩
        · rw [rs1'.out, rs2'.out, Mc.oc, if_pos hen]
        rw [rs1'.out, rs2'.out]
        exact QS.out
    · obtain ⟨rs1, rs2⟩ := run_stop m k n hk hen
      rw [hst] at rs2
      clear ST
      have rs1' := Lib.hid rs1
      have rs2' := Lib.hid rs2
      clear rs1 rs2 hst
      generalize m.run k = M at *
      have hen' : (M.en == 0) = false := by rw [beq_eq_false_iff_ne]; exact hen
      have RE := QEnd.of h1.out
      have bne : ∀ b, ov1.ownBlock = some b → b ≠ w.heap.size := fun b hb e => F1.out.2.2 b hb (Or.inr e)
      have R5 := (((((RE.far npg bne 0 (.int .i64 M.en)).far npg bne 1 (.int .i64 M.trap)).far npg bne 2 (.string (strOfNums M.out))).far npg bne 3 (.int .i64 k)).far npg bne 4 (.int .i64 M.read)).drew
      have RE := RE.drew
      have BK : Blk wr w.heap.size 28 _ := B0.out.kept K1.out (Or.inr rfl)
      have b0 := BK.cell 0
      have b1 := BK.cell 1
      have b2 := BK.cell 2
      have b3 := BK.cell 3
      have b4 := BK.cell 4
      simp only [List.getElem?_toArray, List.getElem?_cons_zero, List.getElem?_cons_succ] at b0 b1 b2 b3 b4
      have g0 := BK.frozen 0
      have g1 := BK.frozen 1
      have g2 := BK.frozen 2
      have g3 := BK.frozen 3
      have g4 := BK.frozen 4
      have hz := BK.lt
      have BK := Lib.hid BK
      go_wp2_with fail
      go_region_held3 (fun w' => QEnd p M k ov1 w' ∧ w'.cell? ⟨p, 28, none⟩ = some (.int .i64 M.trap) ∧ w'.cell? ⟨p, 24, none⟩ = some ov1 ∧ w'.cell? ⟨p, 26, none⟩ = some (.int .i64 k) ∧ w'.cell? ⟨p, 25, none⟩ = some (.int .i64 M.read) ∧
          (convert 75 9 ov1).run Try.prog w' = .ok (.string (strOfNums M.out)) w')
        (first | with_reducible exact QEnd.all RE | with_reducible exact QEnd.all R5) (fail)
      have nS : ¬ S w.heap.size := fun h => Nat.lt_irrefl _ (hS.out _ h)
      have KS : Kept S w wr := K0.out.trans (K1.out.mono fun k h => Or.inl h)
      have KF := ((((KS.then_ nS 0 (.int .i64 M.en)).then_ nS 1 (.int .i64 M.trap)).then_ nS 2 (.string (strOfNums M.out))).then_ nS 3 (.int .i64 k)).then_ nS 4 (.int .i64 M.read)
      have KM := ((((Kept.cell_ wr w.heap.size 0 (.int .i64 M.en)).then_ (fun e => e rfl) 1 (.int .i64 M.trap)).then_ (fun e => e rfl) 2 (.string (strOfNums M.out))).then_ (fun e => e rfl) 3 (.int .i64 k)).then_ (fun e => e rfl) 4 (.int .i64 M.read)
      have ft := F1.out
      have MF := h1.out.kept KM npg (Nat.ne_of_lt hmp) (fun e => ft.2.1 (Or.inr e)) bne
      have QS : QStored S p mp ap d k M w _ := ⟨ov1, MF.drew, KF.drew, ⟨fun e => ft.1 (Or.inl e), fun e => ft.2.1 (Or.inl e), fun b hb e => ft.2.2 b hb (Or.inl e)⟩, fun k hk => Nat.lt_of_lt_of_le (hS.out k hk) KF.drew.size⟩
      have k0 : Blk (wr.setCell ⟨w.heap.size, 0, none⟩ (.int .i64 M.en)) w.heap.size 28 #[.int .i64 M.en, .int .i64 0, .string ⟨#[]⟩, .int .i64 0, .int .i64 0] := BK.out.set_ 0 (.int .i64 M.en)
      have k1 : Blk ((wr.setCell ⟨w.heap.size, 0, none⟩ (.int .i64 M.en)).setCell ⟨w.heap.size, 1, none⟩ (.int .i64 M.trap)) w.heap.size 28 #[.int .i64 M.en, .int .i64 M.trap, .string ⟨#[]⟩, .int .i64 0, .int .i64 0] := k0.set_ 1 (.int .i64 M.trap)
      have k2 : Blk (((wr.setCell ⟨w.heap.size, 0, none⟩ (.int .i64 M.en)).setCell ⟨w.heap.size, 1, none⟩ (.int .i64 M.trap)).setCell ⟨w.heap.size, 2, none⟩ (.string (strOfNums M.out))) w.heap.size 28 #[.int .i64 M.en, .int .i64 M.trap, .string (strOfNums M.out), .int .i64 0, .int .i64 0] := k1.set_ 2 (.string (strOfNums M.out))
      have k3 : Blk ((((wr.setCell ⟨w.heap.size, 0, none⟩ (.int .i64 M.en)).setCell ⟨w.heap.size, 1, none⟩ (.int .i64 M.trap)).setCell ⟨w.heap.size, 2, none⟩ (.string (strOfNums M.out))).setCell ⟨w.heap.size, 3, none⟩ (.int .i64 k)) w.heap.size 28 #[.int .i64 M.en, .int .i64 M.trap, .string (strOfNums M.out), .int .i64 k, .int .i64 0] := k2.set_ 3 (.int .i64 k)
      have k4 : Blk (((((wr.setCell ⟨w.heap.size, 0, none⟩ (.int .i64 M.en)).setCell ⟨w.heap.size, 1, none⟩ (.int .i64 M.trap)).setCell ⟨w.heap.size, 2, none⟩ (.string (strOfNums M.out))).setCell ⟨w.heap.size, 3, none⟩ (.int .i64 k)).setCell ⟨w.heap.size, 4, none⟩ (.int .i64 M.read)) w.heap.size 28 #[.int .i64 M.en, .int .i64 M.trap, .string (strOfNums M.out), .int .i64 k, .int .i64 M.read] := k3.set_ 4 (.int .i64 M.read)
      have BF : Blk (((((wr.setCell ⟨w.heap.size, 0, none⟩ (.int .i64 M.en)).setCell ⟨w.heap.size, 1, none⟩ (.int .i64 M.trap)).setCell ⟨w.heap.size, 2, none⟩ (.string (strOfNums M.out))).setCell ⟨w.heap.size, 3, none⟩ (.int .i64 k)).setCell ⟨w.heap.size, 4, none⟩ (.int .i64 M.read)).drew w.heap.size 28 #[.int .i64 M.en, .int .i64 M.trap, .string (strOfNums M.out), .int .i64 k, .int .i64 M.read] := k4.drew
      have QS := Lib.hid QS
      clear k0 k1 k2 k3 k4 KF KM MF b0 b1 b2 b3 b4 g0 g1 g2 g3 g4 hz R5 RE
      generalize hWF : (((((wr.setCell ⟨w.heap.size, 0, none⟩ (.int .i64 M.en)).setCell ⟨w.heap.size, 1, none⟩ (.int .i64 M.trap)).setCell ⟨w.heap.size, 2, none⟩ (.string (strOfNums M.out))).setCell ⟨w.heap.size, 3, none⟩ (.int .i64 k)).setCell ⟨w.heap.size, 4, none⟩ (.int .i64 M.read)).drew = WF at *
      clear hWF
      have b0 := BF.cell 0
      have b1 := BF.cell 1
      have b2 := BF.cell 2
      have b3 := BF.cell 3
      have b4 := BF.cell 4
      simp only [List.getElem?_toArray, List.getElem?_cons_zero, List.getElem?_cons_succ] at b0 b1 b2 b3 b4
      have hz := BF.lt
      have BF := Lib.hid BF
      go_wp2_with fail
      refine bodyPost_ret (by simp only [results, Try.results26]; go_simp; rfl) rfl ⟨?_, ?_⟩
      · rw [rs1'.out, rs2'.out, Mc.oc, if_neg hen]
      rw [rs1'.out, rs2'.out]
      exact QS.out

end Go.Proofs.Ytefgajojimkdiaa

/-
  The document's step, whole.
-/
namespace Go.Proofs.Ytefgajojimkdiaa
set_option linter.unusedVariables false

theorem qsteps_all : QSteps := q_step qregs_all

end Go.Proofs.Ytefgajojimkdiaa

/-
  The document's machine and memory, made: walked.
-/
namespace Go.Proofs.Ytefgajojimkdiaa
set_option linter.unusedVariables false
set_option linter.unusedSimpArgs false
open Go.RowKit Bw

theorem qmem_of_own {w : World} {mp g c base : Nat} {l : List Int} (h : w.ownsRow base 43 1 (.slice (some ⟨g, 0, none⟩) l.length c) l.length (l.map (Value.int .u32))) (hb : Blk w mp 112 #[.slice (some ⟨g, 0, none⟩) l.length c]) : QMem w mp g c l := by
  refine ⟨hb, ?_⟩
  rcases h.2 with ⟨h1, _⟩ | ⟨g', cap, cur, hv, hb', hh, hn, hc, hs, ht⟩
  · cases h1
  · injection hv with h1 h2 h3
    injection h1 with h1
    injection h1 with h1
    subst h1 h3
    rw [Nat.mul_one] at ht
    refine ⟨cur.toList.drop l.length, ?_⟩
    unfold Blk
    rw [hh, ← ht, List.take_append_drop]
/-- What New comes to. -/
def MadeQMem (w : World) (l : List Int) (e : Ending) (w' : World) : Prop :=
  ∃ mp ap c, e = .returned (.tuple #[.pointer (some ⟨mp, 0, none⟩), .int .i64 0]) ∧ w.heap.size ≤ mp ∧ w.heap.size ≤ ap ∧ QMem w' mp ap c l ∧ Below w.heap.size w w'

set_option maxRecDepth 100000 in
set_option maxHeartbeats 2000000 in
theorem qmem_new (l : List Int) (v : Value) (w : World) (h : Row .u32 w v l) (hl : l.length ≤ 65536) :
    Calls Try.prog 43 #[v] w fun e w' => MadeQMem w l e w' := by
  have hl' : ¬ (65536 : Int) < l.length := by omega
  have h' := Lib.hid h
  obtain ⟨hm, A, c, rfl, hc⟩ := h
  clear hc
  go_enter Try.func43, Try.ntmps43
  go_wp2_with (at_builtin; refine wpList_clone w rfl (.tmp 7) (.tmp 8) 32 43 rfl .u32 4 Try.underlying32 clone_u32 (by omega) l _ rfl rfl h'.out (by omega) ?_; intro g c2 w2 ho2 B2 hg1 hg2; have ho2 := Lib.hid ho2)
  go_ret2
  exact ⟨w2.heap.size, g, c2, rfl, B2.size, hg1, qmem_of_own (ho2.out.alloc _) (Blk.new _ _ _), B2.alloc B2.size _⟩

set_option maxRecDepth 100000 in
set_option maxHeartbeats 1000000 in
theorem qmem_new_many (l : List Int) (v : Value) (w : World) (h : Row .u32 w v l) (hl : 65536 < l.length) :
    Calls Try.prog 43 #[v] w fun e w' => e = .returned (.tuple #[.pointer none, .int .i64 3]) ∧ w = w' := by
  have hl' : (65536 : Int) < l.length := by omega
  obtain ⟨hm, A, c, rfl, hc⟩ := h
  clear hc
  go_enter Try.func43, Try.ntmps43
  go_wp2_with fail
  go_ret2
  exact ⟨rfl, rfl⟩

/-- What New comes to. -/
def MadeQ (w : World) (l : List Int) (st : Int) (s : ByteArray) (e : Ending) (w' : World) : Prop :=
  ∃ p mp ap c, e = .returned (.tuple #[.pointer (some ⟨p, 0, none⟩), .int .i64 0]) ∧ w.heap.size ≤ p ∧ w.heap.size ≤ mp ∧ w.heap.size ≤ ap ∧ QMach w' p mp ap c (.slice none 0 0) 0 (Mc.start l st s) ∧ Below w.heap.size w w'
theorem qcells_start (l : List Int) (st : Int) (s : ByteArray) (mp : Nat) : qcells (Mc.start l st s) 0 mp (.slice none 0 0) = #[.int .u32 0, .int .u32 0, .int .u32 0, .int .u32 0, .int .u32 0, .int .u32 0, .int .u32 0, .int .u32 0, .int .u32 0, .int .u32 0, .int .u32 0, .int .u32 0, .int .u32 0, .int .u32 0, .int .u32 0, .int .u32 0,
    .int .u32 0, .bool false, .bool false, .bool false, .bool false, .int .i64 st, .pointer (some ⟨mp, 0, none⟩), .string s, .slice none 0 0, .int .i64 0, .int .i64 0, .int .i64 0, .int .i64 0] := rfl

set_option maxRecDepth 100000 in
set_option maxHeartbeats 4000000 in
theorem q_new (l : List Int) (st : Int) (s : ByteArray) (v : Value) (w : World) (h : Row .u32 w v l) (hu : ∀ x ∈ l, Mc.W32 x) (hl : l.length ≤ 65536) (hs : s.size ≤ 4096) (h0 : 0 ≤ st) (h1 : st ≤ l.length) :
    Calls Try.prog 24 #[v, .int .i64 st, .string s] w fun e w' => MadeQ w l st s e w' := by
  have MN := fun w' hw => Lib.hid (qmem_new l v w' hw hl)
  have ok := Lib.hid (Mc.start_ok l st s hu hl hs h0 h1)
  have h' := Lib.hid h
  obtain ⟨hm, A, c, rfl, hc⟩ := h
  have hs' : (s.size : Int) ≤ 4096 := by omega
  clear hc hu
  go_enter Try.func24, Try.ntmps24
  go_wp2_with fail
  refine (MN _ h'.out).out.mono ?_
  rintro e w1 ⟨mp, ap, c3, rfl, hmp, hap, hm1, hb1⟩
  have hm1 := Lib.hid hm1
  have hb1 := Lib.hid hb1
  have hmp := Lib.hid hmp
  have hap := Lib.hid hap
  go_wp2_with fail
  go_ret2
  have hb := hb1.out.size
  refine ⟨w1.heap.size, mp, ap, c3, rfl, hb, hmp.out, hap.out, ?_, hb1.out.alloc hb _⟩
  refine ⟨ok.out, ?_, hm1.out.alloc _, World.ownsRow_nil _ _ _ _⟩
  rw [qcells_start]
  exact Blk.new _ _ _

set_option maxRecDepth 100000 in
set_option maxHeartbeats 4000000 in
theorem q_new_none (l : List Int) (st : Int) (s : ByteArray) (v : Value) (w : World) (h : Row .u32 w v l) (hn : Mc.noStart l st s ≠ 0) (hsz : s.size ≤ 9223372036854775807) :
    Calls Try.prog 24 #[v, .int .i64 st, .string s] w fun e w' => e = .returned (.tuple #[.pointer none, .int .i64 (Mc.noStart l st s)]) ∧ Below w.heap.size w w' := by
  have h' := Lib.hid h
  unfold Mc.noStart at hn ⊢
  by_cases hl : 65536 < l.length
  · rw [if_pos hl]
    have MN := fun w' hw => Lib.hid (qmem_new_many l v w' hw hl)
    obtain ⟨hm, A, c, rfl, hc⟩ := h
    clear hc hn
    go_enter Try.func24, Try.ntmps24
    go_wp2_with fail
    refine (MN _ h'.out).out.mono ?_
    rintro e w1 ⟨rfl, rfl⟩
    go_wp2_with fail
    go_ret2
    exact ⟨rfl, Below.refl _ _⟩
  rw [if_neg hl] at hn ⊢
  have MN := fun w' hw => Lib.hid (qmem_new l v w' hw (by omega))
  obtain ⟨hm, A, c, rfl, hc⟩ := h
  by_cases hs : 4096 < s.size
  · rw [if_pos hs]
    have hs' : (4096 : Int) < s.size := by omega
    clear hc hn
    go_enter Try.func24, Try.ntmps24
    go_wp2_with fail
    refine (MN _ h'.out).out.mono ?_
    rintro e w1 ⟨mp, ap, c3, rfl, hmp, hap, hm1, hb1⟩
    have hb1 := Lib.hid hb1
    clear hm1 hmp hap
    go_wp2_with fail
    go_ret2
    exact ⟨rfl, hb1.out⟩
  rw [if_neg hs] at hn ⊢
  have hs' : (s.size : Int) ≤ 4096 := by omega
  by_cases hb : st < 0 ∨ (l.length : Int) < st
  · rw [if_pos hb]
    clear hc hn
    by_cases h0 : st < 0
    · go_enter Try.func24, Try.ntmps24
      go_wp2_with fail
      refine (MN _ h'.out).out.mono ?_
      rintro e w1 ⟨mp, ap, c3, rfl, hmp, hap, hm1, hb1⟩
      have hb1 := Lib.hid hb1
      clear hm1 hmp hap
      go_wp2_with fail
      go_ret2
      exact ⟨rfl, hb1.out⟩
    · have h1 : (l.length : Int) < st := by omega
      clear hb
      go_enter Try.func24, Try.ntmps24
      go_wp2_with fail
      refine (MN _ h'.out).out.mono ?_
      rintro e w1 ⟨mp, ap, c3, rfl, hmp, hap, hm1, hb1⟩
      have hb1 := Lib.hid hb1
      clear hm1 hmp hap
      go_wp2_with fail
      go_ret2
      exact ⟨rfl, hb1.out⟩
  · rw [if_neg hb] at hn
    exact absurd rfl hn

end Go.Proofs.Ytefgajojimkdiaa
