/-
  The program's machine and the document's, beside one another.
-/
import Derived.Test.YtefgajojimkdiaaZSame
import Derived.Test.YtefgajojimkdiaaZQRun
import Derived.Test.YtefgajojimkdiaaZQKit
import Derived.Test.YtefgajojimkdiaaZCpuKit
namespace Go.Proofs.Ytefgajojimkdiaa
set_option linter.unusedVariables false
set_option linter.unusedSimpArgs false
open Go.RowKit Bw

/-- The program's machine and the document's, in blocks from N on, none shared. -/
structure Two (N : Nat) (w : World) (p mp ap : Nat) (ov : Value) (X : Mc) (q mq aq c : Nat) (oq : Value) (st : Int) (Y : Mc) : Prop where
  m : Mach w p mp ap ov X
  k : QMach w q mq aq c oq st Y
  a : ap ≠ aq
  o : ∀ b, ov.ownBlock = some b → oq.ownBlock ≠ some b
  n : N ≤ w.heap.size
  np : N ≤ p
  na : N ≤ ap
  no : ∀ b, ov.ownBlock = some b → N ≤ b
  nq : N ≤ q
  naq : N ≤ aq
  noq : ∀ b, oq.ownBlock = some b → N ≤ b

section
variable {N : Nat} {w w' : World} {p mp ap : Nat} {ov : Value} {X : Mc} {q mq aq c : Nat} {oq : Value} {st : Int} {Y : Mc}
theorem Two.below (h : Two N w p mp ap ov X q mq aq c oq st Y) (hb : Below w.heap.size w w') : Two N w' p mp ap ov X q mq aq c oq st Y :=
  ⟨h.m.below hb, h.k.below hb, h.a, h.o, Nat.le_trans h.n hb.size, h.np, h.na, h.no, h.nq, h.naq, h.noq⟩
theorem Two.run1 (h : Two N w p mp ap ov X q mq aq c oq st Y) {X' : Mc} (hs : Stored (Others w p ap ov) p mp ap X' w w') : ∃ ov', Two N w' p mp ap ov' X' q mq aq c oq st Y ∧ Below N w w' := by
  obtain ⟨ov', hM, hK, hF, hS⟩ := hs
  obtain ⟨e, haq⟩ := h.k.mem.row
  have q1 : Others w p ap ov q := Others.blk h.m h.k.blk (by decide) (by decide) (by decide)
  have q2 : Others w p ap ov mq := Others.blk h.m h.k.mem.blk (by decide) (by decide) (by decide)
  have q3 : Others w p ap ov aq := ⟨haq.lt, fun e => Blk.ne_ (w := w) h.m.blk haq (by decide) e.symm, fun e => h.a e.symm, fun e => own_blk_ne h.m.out haq (by decide) aq e rfl⟩
  have q4 : ∀ b, oq.ownBlock = some b → Others w p ap ov b := fun b hb => ⟨(h.k.out.lt b hb).2, fun e => own_blk_ne h.k.out h.m.blk (by decide) b hb e.symm, fun e => own_blk_ne h.k.out h.m.mem.2 (by decide) b hb e.symm, fun e => h.o b e hb⟩
  refine ⟨ov', ⟨hM, h.k.kept hK q1 q2 q3 q4, h.a, fun b hb hq => hF.2.2 b hb (q4 b hq), Nat.le_trans h.n hK.size, h.np, h.na, fun b hb => ?_, h.nq, h.naq, h.noq⟩, Others.below h.m hK h.n h.np h.na h.no⟩
  have n1 := own_blk_ne hM.out hM.blk (by decide) b hb
  have n2 := own_blk_ne hM.out hM.mem.2 (by decide) b hb
  have n3 := hF.2.2 b hb
  rcases Nat.lt_or_ge b w.heap.size with h1 | h1
  · by_cases h2 : ov.ownBlock = some b
    · exact h.no b h2
    · exact absurd ⟨h1, fun e => n1 e.symm, fun e => n2 e.symm, h2⟩ n3
  · exact Nat.le_trans h.n h1
theorem Two.run2 (h : Two N w p mp ap ov X q mq aq c oq st Y) {Y' : Mc} {st' : Int} (hs : QStored (Others w q aq oq) q mq aq c st' Y' w w') : ∃ oq', Two N w' p mp ap ov X q mq aq c oq' st' Y' ∧ Below N w w' ∧ ∀ g cs, Blk w g 28 cs → Blk w' g 28 cs := by
  obtain ⟨oq', hM, hK, hF, hS⟩ := hs
  obtain ⟨e, haq⟩ := h.k.mem.row
  have q1 : Others w q aq oq p := ⟨h.m.blk.lt, Blk.ne_ (w := w) h.m.blk h.k.blk (by decide), Blk.ne_ (w := w) h.m.blk haq (by decide), fun e => own_blk_ne h.k.out h.m.blk (by decide) p e rfl⟩
  have q2 : Others w q aq oq mp := ⟨h.m.mem.1.lt, Blk.ne_ (w := w) h.m.mem.1 h.k.blk (by decide), Blk.ne_ (w := w) h.m.mem.1 haq (by decide), fun e => own_blk_ne h.k.out h.m.mem.1 (by decide) mp e rfl⟩
  have q3 : Others w q aq oq ap := ⟨h.m.mem.2.lt, Blk.ne_ (w := w) h.m.mem.2 h.k.blk (by decide), h.a, fun e => own_blk_ne h.k.out h.m.mem.2 (by decide) ap e rfl⟩
  have q4 : ∀ b, ov.ownBlock = some b → Others w q aq oq b := fun b hb => ⟨(h.m.out.lt b hb).2, fun e => own_blk_ne h.m.out h.k.blk (by decide) b hb e.symm, fun e => own_blk_ne h.m.out haq (by decide) b hb e.symm, h.o b hb⟩
  have bel : Below N w w' := hK.to_below fun k hlt => ⟨Nat.lt_of_lt_of_le hlt h.n, fun e => by have := h.nq; omega, fun e => by have := h.naq; omega, fun e => by have := h.noq k e; omega⟩
  refine ⟨oq', ⟨h.m.kept hK q1 q2 q3 q4, hM, h.a, fun b hb hq => hF.2.2 b hq (q4 b hb), Nat.le_trans h.n hK.size, h.np, h.na, h.no, h.nq, h.naq, fun b hb => ?_⟩, bel, fun g cs hg => hg.kept hK ⟨hg.lt, fun e => Blk.ne_ (w := w) h.k.blk hg (by decide) e.symm, fun e => Blk.ne_ (w := w) haq hg (by decide) e.symm, fun e => own_blk_ne h.k.out hg (by decide) g e rfl⟩⟩
  obtain ⟨e', haq'⟩ := hM.mem.row
  have n1 := own_blk_ne hM.out hM.blk (by decide) b hb
  have n2 := own_blk_ne hM.out haq' (by decide) b hb
  have n3 := hF.2.2 b hb
  rcases Nat.lt_or_ge b w.heap.size with h1 | h1
  · by_cases h2 : oq.ownBlock = some b
    · exact h.noq b h2
    · exact absurd ⟨h1, fun e => n1 e.symm, fun e => n2 e.symm, h2⟩ n3
  · exact Nat.le_trans h.n h1
end
/-- What one Run tells of both machines. -/
theorem two_runs (n : Int) (X : Mc) : ∃ (a0 a1 : Int) (t : ByteArray) (a3 a4 er : Int) (X' : Mc),
    (∀ N w p mp ap ov q mq aq c oq st Y, Two N w p mp ap ov X q mq aq c oq st Y → Calls Try.prog 19 #[.pointer (some ⟨p, 0, none⟩), .int .i64 n] w fun e w' => e = .returned (.tuple #[.agg #[.int .i64 a0, .int .i64 a1, .string t, .int .i64 a3, .int .i64 a4], .int .i64 er]) ∧ ∃ ov', Two N w' p mp ap ov' X' q mq aq c oq st Y ∧ Below N w w') ∧
    (∀ N w p mp ap ov q mq aq c oq st Y, Two N w p mp ap ov Y q mq aq c oq st X → Calls Try.prog 26 #[.pointer (some ⟨q, 0, none⟩), .int .i64 n] w fun e w' => e = .returned (.tuple #[.agg #[.int .i64 a0, .int .i64 a1, .string t, .int .i64 a3, .int .i64 a4], .int .i64 er]) ∧ ∃ oq' st', Two N w' p mp ap ov Y q mq aq c oq' st' X' ∧ Below N w w' ∧ ∀ g cs, Blk w g 28 cs → Blk w' g 28 cs) := by
  by_cases hn : n < 0 ∨ 4194304 < n
  · exact ⟨0, 0, ⟨#[]⟩, 0, 0, 1, X, fun N w p mp ap ov q mq aq c oq st Y h => (cpu_run_none p n w hn).mono fun _ _ hh => ⟨hh.1, ov, h.below hh.2, hh.2.mono h.n⟩,
      fun N w p mp ap ov q mq aq c oq st Y h => (q_run_none q n w hn).mono fun _ _ hh => ⟨hh.1, oq, st, h.below hh.2, hh.2.mono h.n, fun g cs hg => hg.below hh.2 hg.lt⟩⟩
  · obtain ⟨k, rfl⟩ := Int.eq_ofNat_of_zero_le (by omega : 0 ≤ n)
    refine ⟨(X.run k).endv, (X.run k).trap, strOfNums (X.run k).out, (X.steps k : Int), ((X.run k).read : Int), 0, X.run k, fun N w p mp ap ov q mq aq c oq st Y h => (cpu_run_o k p mp ap ov X w h.m (by omega)).mono fun e w' hh => ⟨?_, h.run1 hh.2⟩,
      fun N w p mp ap ov q mq aq c oq st Y h => (q_run_of qsteps_all (Others w q aq oq) k q mq aq c oq st X w h.k (by omega) (Others.free w q aq oq) (fun k hk => hk.1)).mono fun e w' hh => ⟨?_, ?_⟩⟩
    · rw [hh.1, oc_form]
    · rw [hh.1, oc_form]
    · obtain ⟨oq', h1, h2, h3⟩ := h.run2 hh.2
      exact ⟨oq', _, h1, h2, h3⟩

set_option maxHeartbeats 1000000 in
theorem q_nil_run (n : Int) (w : World) :
    Calls Try.prog 26 #[.pointer none, .int .i64 n] w fun e w' => e = .returned (.tuple #[.agg #[.int .i64 0, .int .i64 0, .string ⟨#[]⟩, .int .i64 0, .int .i64 0], .int .i64 1]) ∧ Below w.heap.size w w' := by
  go_enter Try.func26, Try.ntmps26
  go_wp2_with fail
  refine bodyPost_ret (by simp only [results, Try.results26]; go_simp) rfl ⟨rfl, ?_⟩
  exact (Below.refl _ _).alloc (Nat.le_refl _) _

end Go.Proofs.Ytefgajojimkdiaa
