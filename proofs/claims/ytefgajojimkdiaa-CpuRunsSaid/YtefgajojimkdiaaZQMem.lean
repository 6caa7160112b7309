/-
  How the document's machine lies in memory. No walk.
-/
import Derived.Test.YtefgajojimkdiaaZMem
import Derived.Test.YtefgajojimkdiaaZCpuMoves
import Derived.Test.YtefgajojimkdiaaZBits
import Derived.Deep.MidRow
import Derived.Deep.AppendLies
import Derived.OwnWalk
namespace Go.Proofs.Ytefgajojimkdiaa
set_option linter.unusedVariables false
set_option linter.unusedSimpArgs false
open Go.RowKit Bw

/-- The document's memory: its struct lies in block mp, its words at the beginning of block ap. -/
structure QMem (w : World) (mp ap c : Nat) (l : List Int) : Prop where
  blk : Blk w mp 112 #[.slice (some ⟨ap, 0, none⟩) l.length c]
  row : ∃ ext : List Value, Blk w ap 43 (l.map (Value.int .u32) ++ ext).toArray
namespace QMem
variable {w w' : World} {mp ap c : Nat} {l : List Int}
theorem lt1 (h : QMem w mp ap c l) : mp < w.heap.size := h.blk.lt
theorem lt2 (h : QMem w mp ap c l) : ap < w.heap.size := by obtain ⟨_, e, hb⟩ := h; exact hb.lt
theorem cell0 (h : QMem w mp ap c l) : w.cell? ⟨mp, 0, none⟩ = some (.slice (some ⟨ap, 0, none⟩) l.length c) := h.blk.cell 0
theorem cell (h : QMem w mp ap c l) (k : Nat) (hk : k < l.length) : w.cell? ⟨ap, k, none⟩ = some (.int .u32 (l.getD k 0)) := by
  obtain ⟨_, e, hb⟩ := h
  rw [hb.cell k, List.getElem?_toArray, List.getElem?_append_left (by simpa using hk)]; simp [List.getD, hk]
theorem frozen (h : QMem w mp ap c l) (k : Nat) : w.frozen? ⟨ap, k, none⟩ = false := by obtain ⟨_, e, hb⟩ := h; exact hb.frozen k
theorem alloc (h : QMem w mp ap c l) (o : Obj) : QMem (w.alloc o) mp ap c l := ⟨h.blk.alloc o, by obtain ⟨e, hb⟩ := h.row; exact ⟨e, hb.alloc o⟩⟩
theorem drew (h : QMem w mp ap c l) : QMem w.drew mp ap c l := ⟨h.blk, h.row⟩
theorem kept {S : Nat → Prop} (h : QMem w mp ap c l) (hk : Kept S w w') (h1 : S mp) (h2 : S ap) : QMem w' mp ap c l := ⟨h.blk.kept hk h1, by obtain ⟨e, hb⟩ := h.row; exact ⟨e, hb.kept hk h2⟩⟩
theorem ne_ (h : QMem w mp ap c l) : mp ≠ ap := by obtain ⟨h1, e, hb⟩ := h; exact h1.ne_ hb (by decide)
theorem ne1 {p : Nat} {t : TypeId} {cs : Array Value} (h : QMem w mp ap c l) (hb : Blk w p t cs) (ht : 112 ≠ t) : mp ≠ p := h.blk.ne_ hb ht
theorem ne2 {p : Nat} {t : TypeId} {cs : Array Value} (h : QMem w mp ap c l) (hb : Blk w p t cs) (ht : 43 ≠ t) : ap ≠ p := by obtain ⟨_, e, h2⟩ := h; exact h2.ne_ hb ht
theorem far {p k : Nat} (h : QMem w mp ap c l) (h1 : mp ≠ p) (h2 : ap ≠ p) (v : Value) : QMem (w.setCell ⟨p, k, none⟩ v) mp ap c l := ⟨h.blk.far (p := ⟨p, k, none⟩) h1 v, by obtain ⟨e, hb⟩ := h.row; exact ⟨e, hb.far (p := ⟨p, k, none⟩) h2 v⟩⟩
theorem set_ (h : QMem w mp ap c l) (k : Nat) (v : Int) (hk : k < l.length) : QMem (w.setCell ⟨ap, k, none⟩ (.int .u32 v)) mp ap c (l.set k v) := by
  refine ⟨?_, ?_⟩
  · have := h.blk.far (p := ⟨ap, k, none⟩) h.ne_ (.int .u32 v)
    simpa using this
  · obtain ⟨e, hb⟩ := h.row
    refine ⟨e, ?_⟩
    have := hb.set_ k (.int .u32 v)
    rwa [List.setIfInBounds_toArray, List.set_append_left _ _ (by simpa using hk), ← List.map_set] at this
end QMem

/-- The document's machine's cells. -/
def qcells (m : Mc) (st : Int) (mp : Nat) (ov : Value) : Array Value :=
  (m.r.map (Value.int .u32) ++ [.int .u32 m.h, .bool m.f.n, .bool m.f.z, .bool m.f.c, .bool m.f.v, .int .i64 m.pc, .pointer (some ⟨mp, 0, none⟩), .string m.inp, ov, .int .i64 m.read, .int .i64 st, .int .i64 m.en, .int .i64 m.trap]).toArray
/-- The document's machine m lies in block p. -/
structure QMach (w : World) (p mp ap c : Nat) (ov : Value) (st : Int) (m : Mc) : Prop where
  ok : m.Ok
  blk : Blk w p 94 (qcells m st mp ov)
  mem : QMem w mp ap c m.mem
  out : w.ownsRow 0 5 1 ov m.out.length (m.out.map (Value.int .u8))

theorem qcells_reg {m : Mc} (h : m.Ok) (st : Int) (mp : Nat) (ov : Value) (a : Nat) (ha : a < 16) : (qcells m st mp ov)[a]? = some (.int .u32 (m.r.getD a 0)) := by
  have hr := h.r
  simp [qcells, List.getElem?_append, hr, ha, List.getD]
theorem qcells_tail {m : Mc} (h : m.Ok) (st : Int) (mp : Nat) (ov : Value) (k : Nat) : (qcells m st mp ov)[16 + k]? = ([Value.int .u32 m.h, .bool m.f.n, .bool m.f.z, .bool m.f.c, .bool m.f.v, .int .i64 m.pc, .pointer (some ⟨mp, 0, none⟩), .string m.inp, ov, .int .i64 m.read, .int .i64 st, .int .i64 m.en, .int .i64 m.trap])[k]? := by
  have hr := h.r
  unfold qcells
  rw [List.getElem?_toArray, List.getElem?_append_right (by simp [hr])]
  simp [hr]
theorem qset (m : Mc) (h : m.Ok) (st : Int) (mp : Nat) (ov v : Value) (k : Nat) : (qcells m st mp ov).setIfInBounds (16 + k) v = (m.r.map (Value.int .u32) ++ ([Value.int .u32 m.h, .bool m.f.n, .bool m.f.z, .bool m.f.c, .bool m.f.v, .int .i64 m.pc, .pointer (some ⟨mp, 0, none⟩), .string m.inp, ov, .int .i64 m.read, .int .i64 st, .int .i64 m.en, .int .i64 m.trap]).set k v).toArray := by
  have hr := h.r
  unfold qcells
  rw [List.setIfInBounds_toArray, List.set_append_right _ _ (by simp [hr])]
  simp [hr]
section
variable {w : World} {p mp ap c : Nat} {ov : Value} {st : Int} {m : Mc}
theorem QMach.reg (h : QMach w p mp ap c ov st m) (a : Nat) (ha : a < 16) : w.cell? ⟨p, a, none⟩ = some (.int .u32 (m.r.getD a 0)) := (h.blk.cell a).trans (qcells_reg h.ok st mp ov a ha)
theorem QMach.tail (h : QMach w p mp ap c ov st m) (k : Nat) : w.cell? ⟨p, 16 + k, none⟩ = ([Value.int .u32 m.h, .bool m.f.n, .bool m.f.z, .bool m.f.c, .bool m.f.v, .int .i64 m.pc, .pointer (some ⟨mp, 0, none⟩), .string m.inp, ov, .int .i64 m.read, .int .i64 st, .int .i64 m.en, .int .i64 m.trap])[k]? := (h.blk.cell _).trans (qcells_tail h.ok st mp ov k)
theorem QMach.froz (h : QMach w p mp ap c ov st m) (a : Nat) : w.frozen? ⟨p, a, none⟩ = false := h.blk.frozen a
theorem QMach.h_ (h : QMach w p mp ap c ov st m) : w.cell? ⟨p, 16, none⟩ = some (.int .u32 m.h) := h.tail 0
theorem QMach.fn (h : QMach w p mp ap c ov st m) : w.cell? ⟨p, 17, none⟩ = some (.bool m.f.n) := h.tail 1
theorem QMach.fz (h : QMach w p mp ap c ov st m) : w.cell? ⟨p, 18, none⟩ = some (.bool m.f.z) := h.tail 2
theorem QMach.fc (h : QMach w p mp ap c ov st m) : w.cell? ⟨p, 19, none⟩ = some (.bool m.f.c) := h.tail 3
theorem QMach.fv (h : QMach w p mp ap c ov st m) : w.cell? ⟨p, 20, none⟩ = some (.bool m.f.v) := h.tail 4
theorem QMach.pc_ (h : QMach w p mp ap c ov st m) : w.cell? ⟨p, 21, none⟩ = some (.int .i64 m.pc) := h.tail 5
theorem QMach.mem_ (h : QMach w p mp ap c ov st m) : w.cell? ⟨p, 22, none⟩ = some (.pointer (some ⟨mp, 0, none⟩)) := h.tail 6
theorem QMach.inp_ (h : QMach w p mp ap c ov st m) : w.cell? ⟨p, 23, none⟩ = some (.string m.inp) := h.tail 7
theorem QMach.out_ (h : QMach w p mp ap c ov st m) : w.cell? ⟨p, 24, none⟩ = some ov := h.tail 8
theorem QMach.read_ (h : QMach w p mp ap c ov st m) : w.cell? ⟨p, 25, none⟩ = some (.int .i64 m.read) := h.tail 9
theorem QMach.st_ (h : QMach w p mp ap c ov st m) : w.cell? ⟨p, 26, none⟩ = some (.int .i64 st) := h.tail 10
theorem QMach.en_ (h : QMach w p mp ap c ov st m) : w.cell? ⟨p, 27, none⟩ = some (.int .i64 m.en) := h.tail 11
theorem QMach.trap_ (h : QMach w p mp ap c ov st m) : w.cell? ⟨p, 28, none⟩ = some (.int .i64 m.trap) := h.tail 12
theorem QMach.drew (h : QMach w p mp ap c ov st m) : QMach w.drew p mp ap c ov st m := ⟨h.ok, h.blk, h.mem.drew, h.out⟩
theorem QMach.alloc (h : QMach w p mp ap c ov st m) (o : Obj) : QMach (w.alloc o) p mp ap c ov st m := ⟨h.ok, h.blk.alloc o, h.mem.alloc o, h.out.alloc o⟩
theorem QMach.kept {S : Nat → Prop} {w' : World} (h : QMach w p mp ap c ov st m) (hk : Kept S w w') (h1 : S p) (h2 : S mp) (h3 : S ap) (h4 : ∀ b, ov.ownBlock = some b → S b) : QMach w' p mp ap c ov st m :=
  ⟨h.ok, h.blk.kept hk h1, h.mem.kept hk h2 h3, own_kept h.out hk h4⟩
theorem QMach.below {w' : World} (h : QMach w p mp ap c ov st m) (hb : Below w.heap.size w w') : QMach w' p mp ap c ov st m :=
  h.kept ((Kept.refl (fun k => k < w.heap.size) w).below hb fun k h => h) h.blk.lt h.mem.lt1 h.mem.lt2 fun b hb => (h.out.lt b hb).2
/-- A store into the machine's own block. -/
theorem QMach.store {m' : Mc} {ov' : Value} {st' : Int} (h : QMach w p mp ap c ov st m) (k : Nat) (v : Value) (hc : (qcells m st mp ov).setIfInBounds k v = qcells m' st' mp ov') (hok : m'.Ok) (hm : m'.mem = m.mem) (ho : (w.setCell ⟨p, k, none⟩ v).ownsRow 0 5 1 ov' m'.out.length (m'.out.map (Value.int .u8))) :
    QMach (w.setCell ⟨p, k, none⟩ v) p mp ap c ov' st' m' := by
  refine ⟨hok, ?_, ?_, ho⟩
  · have := h.blk.set_ k v
    rwa [hc] at this
  · rw [hm]
    exact h.mem.far (h.mem.ne1 h.blk (by decide)) (h.mem.ne2 h.blk (by decide)) v
theorem QMach.out_set (h : QMach w p mp ap c ov st m) (k : Nat) (v : Value) : (w.setCell ⟨p, k, none⟩ v).ownsRow 0 5 1 ov m.out.length (m.out.map (Value.int .u8)) := by
  refine own_kept (S := fun b => b ≠ p) h.out ((Kept.refl _ w).setCell (p := ⟨p, k, none⟩) (fun e => e rfl) v) fun b hb => ?_
  exact fun e => own_blk_ne h.out h.blk (by decide) b hb e.symm
theorem QMach.set_r (h : QMach w p mp ap c ov st m) (a : Nat) (v : Int) (ha : a < 16) (hv : Mc.W32 v) : QMach (w.setCell ⟨p, a, none⟩ (.int .u32 v)) p mp ap c ov st { m with r := m.r.set a v } := by
  refine h.store a _ ?_ ⟨by simp [h.ok.r], Mc.set_all h.ok.rb hv, h.ok.h, h.ok.pc, h.ok.ml, h.ok.mb, h.ok.il, h.ok.rd, h.ok.ol, h.ok.ob⟩ rfl (h.out_set a _)
  unfold qcells
  rw [List.setIfInBounds_toArray, List.set_append_left _ _ (by simp [h.ok.r, ha]), List.map_set]
theorem QMach.set_h (h : QMach w p mp ap c ov st m) (v : Int) (hv : Mc.W32 v) : QMach (w.setCell ⟨p, 16, none⟩ (.int .u32 v)) p mp ap c ov st { m with h := v } :=
  h.store 16 _ (qset m h.ok st mp ov _ 0) ⟨h.ok.r, h.ok.rb, hv, h.ok.pc, h.ok.ml, h.ok.mb, h.ok.il, h.ok.rd, h.ok.ol, h.ok.ob⟩ rfl (h.out_set 16 _)
theorem QMach.set_n (h : QMach w p mp ap c ov st m) (v : Bool) : QMach (w.setCell ⟨p, 17, none⟩ (.bool v)) p mp ap c ov st { m with f := { m.f with n := v } } :=
  h.store 17 _ (qset m h.ok st mp ov _ 1) ⟨h.ok.r, h.ok.rb, h.ok.h, h.ok.pc, h.ok.ml, h.ok.mb, h.ok.il, h.ok.rd, h.ok.ol, h.ok.ob⟩ rfl (h.out_set 17 _)
theorem QMach.set_z (h : QMach w p mp ap c ov st m) (v : Bool) : QMach (w.setCell ⟨p, 18, none⟩ (.bool v)) p mp ap c ov st { m with f := { m.f with z := v } } :=
  h.store 18 _ (qset m h.ok st mp ov _ 2) ⟨h.ok.r, h.ok.rb, h.ok.h, h.ok.pc, h.ok.ml, h.ok.mb, h.ok.il, h.ok.rd, h.ok.ol, h.ok.ob⟩ rfl (h.out_set 18 _)
theorem QMach.set_c (h : QMach w p mp ap c ov st m) (v : Bool) : QMach (w.setCell ⟨p, 19, none⟩ (.bool v)) p mp ap c ov st { m with f := { m.f with c := v } } :=
  h.store 19 _ (qset m h.ok st mp ov _ 3) ⟨h.ok.r, h.ok.rb, h.ok.h, h.ok.pc, h.ok.ml, h.ok.mb, h.ok.il, h.ok.rd, h.ok.ol, h.ok.ob⟩ rfl (h.out_set 19 _)
theorem QMach.set_v (h : QMach w p mp ap c ov st m) (v : Bool) : QMach (w.setCell ⟨p, 20, none⟩ (.bool v)) p mp ap c ov st { m with f := { m.f with v := v } } :=
  h.store 20 _ (qset m h.ok st mp ov _ 4) ⟨h.ok.r, h.ok.rb, h.ok.h, h.ok.pc, h.ok.ml, h.ok.mb, h.ok.il, h.ok.rd, h.ok.ol, h.ok.ob⟩ rfl (h.out_set 20 _)
theorem QMach.set_pc (h : QMach w p mp ap c ov st m) (v : Int) (hv : 0 ≤ v ∧ v ≤ 1073741824) : QMach (w.setCell ⟨p, 21, none⟩ (.int .i64 v)) p mp ap c ov st { m with pc := v } :=
  h.store 21 _ (qset m h.ok st mp ov _ 5) ⟨h.ok.r, h.ok.rb, h.ok.h, hv, h.ok.ml, h.ok.mb, h.ok.il, h.ok.rd, h.ok.ol, h.ok.ob⟩ rfl (h.out_set 21 _)
theorem QMach.set_read (h : QMach w p mp ap c ov st m) (v : Nat) (hv : v ≤ m.inp.size) : QMach (w.setCell ⟨p, 25, none⟩ (.int .i64 v)) p mp ap c ov st { m with read := v } :=
  h.store 25 _ (qset m h.ok st mp ov _ 9) ⟨h.ok.r, h.ok.rb, h.ok.h, h.ok.pc, h.ok.ml, h.ok.mb, h.ok.il, hv, h.ok.ol, h.ok.ob⟩ rfl (h.out_set 25 _)
theorem QMach.set_st (h : QMach w p mp ap c ov st m) (v : Int) : QMach (w.setCell ⟨p, 26, none⟩ (.int .i64 v)) p mp ap c ov v m :=
  h.store 26 _ (qset m h.ok st mp ov _ 10) h.ok rfl (h.out_set 26 _)
theorem QMach.set_en (h : QMach w p mp ap c ov st m) (v : Int) : QMach (w.setCell ⟨p, 27, none⟩ (.int .i64 v)) p mp ap c ov st { m with en := v } :=
  h.store 27 _ (qset m h.ok st mp ov _ 11) ⟨h.ok.r, h.ok.rb, h.ok.h, h.ok.pc, h.ok.ml, h.ok.mb, h.ok.il, h.ok.rd, h.ok.ol, h.ok.ob⟩ rfl (h.out_set 27 _)
theorem QMach.set_trap (h : QMach w p mp ap c ov st m) (v : Int) : QMach (w.setCell ⟨p, 28, none⟩ (.int .i64 v)) p mp ap c ov st { m with trap := v } :=
  h.store 28 _ (qset m h.ok st mp ov _ 12) ⟨h.ok.r, h.ok.rb, h.ok.h, h.ok.pc, h.ok.ml, h.ok.mb, h.ok.il, h.ok.rd, h.ok.ol, h.ok.ob⟩ rfl (h.out_set 28 _)
theorem QMach.set_mem (h : QMach w p mp ap c ov st m) (k : Nat) (x : Int) (hk : k < m.mem.length) (hx : Mc.W32 x) : QMach (w.setCell ⟨ap, k, none⟩ (.int .u32 x)) p mp ap c ov st { m with mem := m.mem.set k x } :=
  ⟨⟨h.ok.r, h.ok.rb, h.ok.h, h.ok.pc, by simp [h.ok.ml], Mc.set_all h.ok.mb hx, h.ok.il, h.ok.rd, h.ok.ol, h.ok.ob⟩, h.blk.far (p := ⟨ap, k, none⟩) (fun e => h.mem.ne2 h.blk (by decide) e.symm) _, h.mem.set_ k x hk,
    own_kept (S := fun b => b ≠ ap) h.out ((Kept.refl _ w).setCell (p := ⟨ap, k, none⟩) (fun e => e rfl) _) (fun b hb e => by obtain ⟨ext, h2⟩ := h.mem.row; exact own_blk_ne h.out h2 (by decide) b hb e.symm)⟩
end

end Go.Proofs.Ytefgajojimkdiaa

/-
  The document's memory, walked.
-/
namespace Go.Proofs.Ytefgajojimkdiaa
set_option linter.unusedVariables false
set_option linter.unusedSimpArgs false
open Go.RowKit Bw

theorem qmem_size (mp ap c : Nat) (l : List Int) (w : World) (h : QMem w mp ap c l) : Calls Try.prog 48 #[.pointer (some ⟨mp, 0, none⟩)] w fun e w' => e = .returned (.int .i64 l.length) ∧ w = w' := by
  have c0 := h.cell0
  have h := Lib.hid h
  go_enter Try.func48, Try.ntmps48
  go_wp2_with fail
  go_ret
  exact ⟨rfl, rfl⟩

theorem qmem_there (mp ap c k : Nat) (at_ : Int) (l : List Int) (w : World) (h : QMem w mp ap c l) (hk : at_ / 4 = k) (h0 : 0 ≤ at_) (h1 : at_ < 4294967296) :
    Calls Try.prog 112 #[.pointer (some ⟨mp, 0, none⟩), .int .u32 at_] w fun e w' => e = .returned (.bool (decide (k < l.length))) ∧ w = w' := by
  have SZ := Lib.hid (qmem_size mp ap c l w h)
  have h := Lib.hid h
  go_enter Try.func112, Try.ntmps112
  go_wp2_with fail
  refine SZ.out.mono ?_
  rintro e w1 ⟨rfl, rfl⟩
  go_wp2_with fail
  go_ret
  exact ⟨by simp, rfl⟩

theorem qmem_scale (at_ : Int) (r : Nat) (w : World) (h0 : 0 ≤ at_) (h1 : at_ < 4294967296) (hr : at_ % 4 = r) :
    Calls Try.prog 113 #[.int .u32 at_] w fun e w' => e = .returned (.int .u32 (256 ^ r)) ∧ w = w' := by
  have hr4 : r ≤ 3 := by omega
  go_enter Try.func113, Try.ntmps113
  go_wp2_with fail
  go_loop [3, 4] (fun s i => ∃ k : Nat, i = .int .u32 k ∧ k ≤ r ∧ s = .int .u32 (256 ^ k)) (fun _ i => r - (intOf i).toNat)
  case atStart => exact ⟨0, rfl, by omega, rfl⟩
  case round =>
    obtain ⟨k, rfl, hk, rfl⟩ := hrel
    by_cases hlt : (k : Int) < r
    · have h3 : k = 0 ∨ k = 1 ∨ k = 2 := by omega
      rcases h3 with rfl | rfl | rfl
      · go_wp2_with fail
        exact ⟨⟨1, rfl, by omega, rfl⟩, by simp [intOf]; omega⟩
      · go_wp2_with fail
        exact ⟨⟨2, rfl, by omega, rfl⟩, by simp [intOf]; omega⟩
      · go_wp2_with fail
        exact ⟨⟨3, rfl, by omega, rfl⟩, by simp [intOf]; omega⟩
    · obtain rfl : k = r := by omega
      go_wp2_with fail
      go_ret
      exact ⟨rfl, rfl⟩

theorem qmem_load (mp ap c k : Nat) (at_ : Int) (l : List Int) (w : World) (h : QMem w mp ap c l) (hk : at_ / 4 = k) (h0 : 0 ≤ at_) (h1 : at_ < 4294967296) (ok : Bool) (hok : (at_ % 4 == 0 && decide (k < l.length)) = ok) :
    Calls Try.prog 110 #[.pointer (some ⟨mp, 0, none⟩), .int .u32 at_] w fun e w' => e = .returned (.tuple #[.int .u32 (if ok = true then l.getD k 0 else 0), .bool ok]) ∧ w = w' := by
  have TH := Lib.hid (qmem_there mp ap c k at_ l w h hk h0 h1)
  have c0 := h.cell0
  by_cases h4 : at_ % 4 = 0
  · have h4' : (at_ % 4 != 0) = false := by simp [h4]
    have hok' : decide (k < l.length) = ok := by rw [← hok, h4]; rfl
    rw [hok'] at TH
    cases ok
    · clear hok c0
      go_enter Try.func110, Try.ntmps110
      go_wp2_with (go_at_call 112; refine TH.out.mono ?_; rintro e w' ⟨rfl, rfl⟩)
      go_ret2
      exact ⟨rfl, rfl⟩
    · have hlt : k < l.length := of_decide_eq_true hok'
      have hlt' : (k : Int) < l.length := by omega
      have cx := h.cell k hlt
      have h := Lib.hid h
      clear hok
      go_enter Try.func110, Try.ntmps110
      go_wp2_with (go_at_call 112; refine TH.out.mono ?_; rintro e w' ⟨rfl, rfl⟩)
      go_ret2
      exact ⟨rfl, rfl⟩
  · have h4' : (at_ % 4 != 0) = true := by simp [h4]
    have hok : ok = false := by rw [← hok, show (at_ % 4 == 0) = false by rw [beq_eq_false_iff_ne]; exact h4]; rfl
    subst hok
    clear h4
    go_enter Try.func110, Try.ntmps110
    go_wp2_with fail
    go_ret2
    exact ⟨rfl, rfl⟩

theorem qmem_store (mp ap c k : Nat) (at_ v : Int) (l : List Int) (w : World) (h : QMem w mp ap c l) (hk : at_ / 4 = k) (h0 : 0 ≤ at_) (h1 : at_ < 4294967296) (ok : Bool) (hok : (at_ % 4 == 0 && decide (k < l.length)) = ok) :
    Calls Try.prog 108 #[.pointer (some ⟨mp, 0, none⟩), .int .u32 at_, .int .u32 v] w fun e w' => e = .returned (.bool ok) ∧ w' = if ok = true then w.setCell ⟨ap, k, none⟩ (.int .u32 v) else w := by
  have TH := Lib.hid (qmem_there mp ap c k at_ l w h hk h0 h1)
  have c0 := h.cell0
  by_cases h4 : at_ % 4 = 0
  · have h4' : (at_ % 4 != 0) = false := by simp [h4]
    have hok' : decide (k < l.length) = ok := by rw [← hok, h4]; rfl
    rw [hok'] at TH
    cases ok
    · clear hok c0
      go_enter Try.func108, Try.ntmps108
      go_wp2_with (go_at_call 112; refine TH.out.mono ?_; rintro e w' ⟨rfl, rfl⟩)
      go_ret
      exact ⟨rfl, rfl⟩
    · have hlt : k < l.length := of_decide_eq_true hok'
      have hlt' : (k : Int) < l.length := by omega
      have cx := h.cell k hlt
      have fx := h.frozen k
      have h := Lib.hid h
      clear hok
      go_enter Try.func108, Try.ntmps108
      go_wp2_with (go_at_call 112; refine TH.out.mono ?_; rintro e w' ⟨rfl, rfl⟩)
      go_ret
      exact ⟨rfl, rfl⟩
  · have h4' : (at_ % 4 != 0) = true := by simp [h4]
    have hok : ok = false := by rw [← hok, show (at_ % 4 == 0) = false by rw [beq_eq_false_iff_ne]; exact h4]; rfl
    subst hok
    clear h4
    go_enter Try.func108, Try.ntmps108
    go_wp2_with fail
    go_ret
    exact ⟨rfl, rfl⟩

theorem part_r (x at_ : Int) (r : Nat) (hr : at_ % 4 = r) (h3 : r ≤ 3) : Mc.part x at_ = x / 256 ^ r % 256 := by
  unfold Mc.part
  rw [hr]
  have : r = 0 ∨ r = 1 ∨ r = 2 ∨ r = 3 := by omega
  rcases this with rfl | rfl | rfl | rfl <;> rfl

theorem byte_arith1 (x : Int) (h0 : 0 ≤ x) (h1 : x < 4294967296) : (IntKind.u32.wrap x).tmod 256 = x % 256 := by
  rw [show IntKind.u32.wrap x = x by rw [IntKind.wrap_u32]; omega, Int.tmod_eq_emod_of_nonneg h0]
theorem byte_arith (x s : Int) (h0 : 0 ≤ x) (h1 : x < 4294967296) (hs : 0 < s) : (IntKind.u32.wrap (x.tdiv s)).tmod 256 = x / s % 256 := by
  have h2 : 0 ≤ x / s := Int.ediv_nonneg h0 (by omega)
  have h3 : x / s ≤ x := Int.ediv_le_self s h0
  rw [Int.tdiv_eq_ediv_of_nonneg h0, byte_arith1 _ h2 (by omega)]

set_option maxRecDepth 100000 in
theorem qmem_byte (mp ap c k : Nat) (at_ : Int) (l : List Int) (w : World) (h : QMem w mp ap c l) (hk : at_ / 4 = k) (h0 : 0 ≤ at_) (h1 : at_ < 4294967296) (hw : ∀ x ∈ l, Mc.W32 x) (ok : Bool) (hok : decide (k < l.length) = ok) :
    Calls Try.prog 109 #[.pointer (some ⟨mp, 0, none⟩), .int .u32 at_] w fun e w' => e = .returned (.tuple #[.int .u32 (if ok = true then Mc.part (l.getD k 0) at_ else 0), .bool ok]) ∧ Below w.heap.size w w' := by
  have TH := Lib.hid (qmem_there mp ap c k at_ l w h hk h0 h1)
  have c0 := h.cell0
  rw [hok] at TH
  cases ok
  · clear c0
    go_enter Try.func109, Try.ntmps109
    go_wp2_with (go_at_call 112; refine TH.out.mono ?_; rintro e w' ⟨rfl, rfl⟩)
    go_ret2
    exact ⟨rfl, Below.refl _ _⟩
  · have hlt : k < l.length := of_decide_eq_true hok
    have hlt' : (k : Int) < l.length := by omega
    have cx := h.cell k hlt
    obtain ⟨r, hr⟩ : ∃ r : Nat, at_ % 4 = r := ⟨(at_ % 4).toNat, by omega⟩
    have h3 : r ≤ 3 := by omega
    have hp := Lib.hid (part_r (l.getD k 0) at_ r hr h3)
    have SC := fun W => Lib.hid (qmem_scale at_ r W h0 h1 hr)
    have hx : Mc.W32 (l.getD k 0) := hw _ (by simp [List.getD, hlt])
    obtain ⟨hx0, hx1⟩ := hx
    have h := Lib.hid h
    have hq4 : IntKind.u32.wrap (at_.tdiv 4) = k := by rw [Int.tdiv_eq_ediv_of_nonneg h0, IntKind.wrap_u32]; omega
    clear hok hr hw
    generalize l.getD k 0 = x at *
    generalize Mc.part x at_ = pt at *
    have h4 : r = 0 ∨ r = 1 ∨ r = 2 ∨ r = 3 := by omega
    rcases h4 with rfl | rfl | rfl | rfl
    all_goals
      simp only [Int.pow_zero, Int.reducePow] at SC hp
      have hp2 := hp.out
      try rw [Int.ediv_one] at hp2
      go_enter Try.func109, Try.ntmps109
      go_wp2_with (go_at_call 112; refine TH.out.mono ?_; rintro e w' ⟨rfl, rfl⟩)
      (refine region_drew 12 (by kernel_rfl) (by kernel_rfl) ?_; simp only [List.take_succ_cons, List.take_zero, List.drop_succ_cons, List.drop_zero]; (repeat still_step))
      still_call ((SC _).out.mono fun _ _ h => ⟨h.1, h.2.symm⟩)
      repeat still_step
      refine wpStill_nil ?_
      go_wp2_with fail
      go_ret2
      refine ⟨byte_ret ?_, (Below.refl _ _).drew⟩
      first | exact byte_arith x _ hx0 hx1 (by decide) | exact byte_arith1 x hx0 hx1

theorem turned_r (x at_ v : Int) (r : Nat) (hr : at_ % 4 = r) (h3 : r ≤ 3) : Mc.turned x at_ v = x - Mc.part x at_ * 256 ^ r + v % 256 * 256 ^ r := by
  unfold Mc.turned
  rw [hr]
  have : r = 0 ∨ r = 1 ∨ r = 2 ∨ r = 3 := by omega
  rcases this with rfl | rfl | rfl | rfl <;> rfl
theorem put_world {w : World} {g : Nat} {k : Nat} {a b : Int} (h : a = b) : (w.setCell ⟨g, k, none⟩ (.int .u32 a)).drew = (w.setCell ⟨g, k, none⟩ (.int .u32 b)).drew := by rw [h]
/-- What PutByte leaves: the word with the byte, or nothing. -/
def PutB (w : World) (ap k : Nat) (ok : Bool) (x : Int) (w' : World) : Prop := if ok = true then ∃ w1, Below w.heap.size w w1 ∧ w' = (w1.setCell ⟨ap, k, none⟩ (.int .u32 x)).drew else w' = w

set_option maxRecDepth 100000 in
theorem qmem_putbyte (mp ap c k : Nat) (at_ v : Int) (l : List Int) (w : World) (h : QMem w mp ap c l) (hk : at_ / 4 = k) (h0 : 0 ≤ at_) (h1 : at_ < 4294967296) (hw : ∀ x ∈ l, Mc.W32 x) (hv : Mc.W32 v) (ok : Bool) (hok : decide (k < l.length) = ok) :
    Calls Try.prog 107 #[.pointer (some ⟨mp, 0, none⟩), .int .u32 at_, .int .u32 v] w fun e w' => e = .returned (.bool ok) ∧ PutB w ap k ok (Mc.turned (l.getD k 0) at_ v) w' := by
  have TH := Lib.hid (qmem_there mp ap c k at_ l w h hk h0 h1)
  have c0 := h.cell0
  cases ok
  · rw [hok] at TH
    clear c0
    go_enter Try.func107, Try.ntmps107
    go_wp2_with (go_at_call 112; refine TH.out.mono ?_; rintro e w' ⟨rfl, rfl⟩)
    go_ret
    exact ⟨rfl, rfl⟩
  · have hlt : k < l.length := of_decide_eq_true hok
    have hlt' : (k : Int) < l.length := by omega
    have cx := h.cell k hlt
    have BY := qmem_byte mp ap c k at_ l w h hk h0 h1 hw true hok
    rw [if_pos rfl] at BY
    have BY := Lib.hid BY
    rw [hok] at TH
    obtain ⟨r, hr⟩ : ∃ r : Nat, at_ % 4 = r := ⟨(at_ % 4).toNat, by omega⟩
    have h3 : r ≤ 3 := by omega
    have hp := Lib.hid (part_r (l.getD k 0) at_ r hr h3)
    have ht := Lib.hid (turned_r (l.getD k 0) at_ v r hr h3)
    have hpb := Mc.part_bd (l.getD k 0) at_
    have SC := fun W => Lib.hid (qmem_scale at_ r W h0 h1 hr)
    have hx : Mc.W32 (l.getD k 0) := hw _ (by simp [List.getD, hlt])
    obtain ⟨hx0, hx1⟩ := hx
    obtain ⟨hv0, hv1⟩ := hv
    have fx := h.frozen k
    have hz := h.lt2
    have hz1 := h.lt1
    have hh := Lib.hid h
    clear h
    have hq4 : IntKind.u32.wrap (at_.tdiv 4) = k := by rw [Int.tdiv_eq_ediv_of_nonneg h0, IntKind.wrap_u32]; omega
    clear hok hr hw
    generalize l.getD k 0 = x at *
    generalize hpt : Mc.part x at_ = pt at *
    clear hpt
    generalize Mc.turned x at_ v = tt at *
    have h4 : r = 0 ∨ r = 1 ∨ r = 2 ∨ r = 3 := by omega
    rcases h4 with rfl | rfl | rfl | rfl
    all_goals
      simp only [Int.pow_zero, Int.reducePow] at SC hp ht
      go_enter Try.func107, Try.ntmps107
      go_wp2_with (go_at_call 112; refine TH.out.mono ?_; rintro e w' ⟨rfl, rfl⟩)
      refine BY.out.mono ?_
      rintro e w1 ⟨rfl, hb⟩
      have c0' := (hb.cell (p := ⟨mp, 0, none⟩) hz1).trans c0
      have cx' := (hb.cell (p := ⟨ap, k, none⟩) hz).trans cx
      have fx' := (hb.frozen (p := ⟨ap, k, none⟩) hz).trans fx
      have hb := Lib.hid hb
      go_wp2_with fail
      (refine region_drew 25 (by kernel_rfl) (by kernel_rfl) ?_; simp only [List.take_succ_cons, List.take_zero, List.drop_succ_cons, List.drop_zero]; (repeat still_step))
      still_call ((SC _).out.mono fun _ _ h => ⟨h.1, h.2.symm⟩)
      repeat still_step
      still_call ((SC _).out.mono fun _ _ h => ⟨h.1, h.2.symm⟩)
      repeat still_step
      refine wpStill_nil ?_
      go_wp2_with fail
      go_ret
      refine ⟨rfl, w1, hb.out, put_world ?_⟩
      have e1 := ht.out
      have e2 := hp.out
      omega

end Go.Proofs.Ytefgajojimkdiaa

/-
  The document's machine, walked: registers and loads.
-/
namespace Go.Proofs.Ytefgajojimkdiaa
set_option linter.unusedVariables false
set_option linter.unusedSimpArgs false
open Go.RowKit Bw

/-- What a step leaves. -/
def QStored (S : Nat → Prop) (p mp ap c : Nat) (st : Int) (m' : Mc) (w w' : World) : Prop := ∃ ov', QMach w' p mp ap c ov' st m' ∧ Kept S w w' ∧ Free S p ap ov' ∧ (∀ k, S k → k < w'.heap.size)
theorem QStored.of {S : Nat → Prop} {p mp ap c : Nat} {st : Int} {m' : Mc} {ov : Value} {w w' : World} (h : QMach w' p mp ap c ov st m') (hk : Kept S w w') (hF : Free S p ap ov) (hS : ∀ k, S k → k < w.heap.size) : QStored S p mp ap c st m' w w' :=
  ⟨ov, h, hk, hF, fun k hs => Nat.lt_of_lt_of_le (hS k hs) hk.size⟩
theorem QStored.from_ {S : Nat → Prop} {p mp ap c : Nat} {st : Int} {m' : Mc} {w w1 w2 : World} (h : QStored S p mp ap c st m' w1 w2) (hk : Kept S w w1) : QStored S p mp ap c st m' w w2 := by
  obtain ⟨ov', h1, h2, h3, h4⟩ := h
  exact ⟨ov', h1, hk.trans h2, h3, h4⟩
theorem Kept.below_ {S : Nat → Prop} {w w' : World} (hb : Below w.heap.size w w') (hS : ∀ k, S k → k < w.heap.size) : Kept S w w' := (Kept.refl S w).below hb hS

set_option maxRecDepth 100000 in
theorem q_set (a : Nat) (v : Int) (p mp ap c : Nat) (ov : Value) (st : Int) (m : Mc) (w : World) (h : QMach w p mp ap c ov st m) (ha : a < 16) (hv : Mc.W32 v) :
    Calls Try.prog 84 #[.pointer (some ⟨p, 0, none⟩), .int .i64 a, .int .u32 v] w fun e w' => e = .returned (.tuple #[]) ∧ QMach w' p mp ap c ov st (m.sets a v) ∧ Kept (fun k => k ≠ p) w w' := by
  have c0 := h.reg a ha
  have f0 := h.froz a
  have c17 := h.fn
  have f17 := h.froz 17
  have c18 := h.fz
  have f18 := h.froz 18
  have n17 : ¬ a = 17 := by omega
  have n18 : ¬ a = 18 := by omega
  have ha' : (a : Int) < 16 := by omega
  have h := Lib.hid h
  have hv' := Lib.hid hv
  have hv1 := hv.1
  have hv2 := hv.2
  go_enter Try.func84, Try.ntmps84
  go_wp2_with fail
  go_end0
  refine ⟨rfl, ?_, ((Kept.cell_ w p a _).then_ (fun e => e rfl) 17 _).then_ (fun e => e rfl) 18 _⟩
  exact ((h.out.set_r a v ha hv'.out).set_n _).set_z _

/-- What load tells, and the machine behind. -/
def Mc.ldV (m : Mc) (at_ : Int) (small : Bool) : Int :=
  if at_ = 4294967240 then (if m.read < m.inp.size then m.inByte else 0) else if at_ = 4294967244 then (if m.read < m.inp.size then 1 else 0) else if m.loadOk at_ small = true then m.loadV at_ small else 0
def Mc.ldOk (m : Mc) (at_ : Int) (small : Bool) : Bool := decide (at_ = 4294967240) || decide (at_ = 4294967244) || m.loadOk at_ small
def Mc.ldM (m : Mc) (at_ : Int) : Mc := if at_ = 4294967240 then (if m.read < m.inp.size then { m with read := m.read + 1 } else m) else m
theorem Mc.loads_ld (m : Mc) (a at_ : Int) (small : Bool) : m.loads a at_ small = if m.ldOk at_ small = true then (m.ldM at_).sets a (m.ldV at_ small) else { m with en := 5 } := by
  unfold Mc.loads Mc.ldOk Mc.ldM Mc.ldV
  by_cases h1 : at_ = 4294967240
  · simp only [h1, if_true, decide_true, Bool.true_or]
    split <;> rfl
  · by_cases h2 : at_ = 4294967244
    · simp only [h2, decide_true, Bool.true_or, Bool.or_true, if_true]
      rfl
    · simp only [h1, h2, if_false, decide_false, Bool.false_or]
      split <;> rfl
def QLoaded (S : Nat → Prop) (p mp ap c : Nat) (ov : Value) (st : Int) (v : Int) (ok : Bool) (m' : Mc) (w : World) (e : Ending) (w' : World) : Prop :=
  e = .returned (.tuple #[.int .u32 v, .bool ok]) ∧ QMach w' p mp ap c ov st m' ∧ Kept S w w'

set_option maxRecDepth 100000 in
set_option maxHeartbeats 4000000 in
theorem q_load (S : Nat → Prop) (AT : Int) (v : Bool) (p mp ap c : Nat) (ov : Value) (st : Int) (m : Mc) (w : World) (h : QMach w p mp ap c ov st m) (hat : Mc.W32 AT) (hF : Free S p ap ov) (hS : ∀ k, S k → k < w.heap.size) :
    Calls Try.prog 87 #[.pointer (some ⟨p, 0, none⟩), .int .u32 AT, .bool v] w fun e w' => QLoaded S p mp ap c ov st (m.ldV AT v) (m.ldOk AT v) (m.ldM AT) w e w' := by
  have c22 := h.mem_
  have c23 := h.inp_
  have c25 := h.read_
  have f25 := h.froz 25
  have hrd := h.ok.rd
  have hil := h.ok.il
  have hml := h.ok.ml
  have hmb := h.ok.mb
  have ok := Lib.hid h.ok
  have h := Lib.hid h
  have hF := Lib.hid hF
  have hS := Lib.hid hS
  obtain ⟨ha0, ha1⟩ := hat
  by_cases e1 : AT = 4294967240
  · subst e1
    by_cases e2 : m.read < m.inp.size
    · have r1 : m.ldV 4294967240 v = m.inByte := by rw [Mc.ldV, if_pos rfl, if_pos e2]
      have r2 : m.ldM 4294967240 = { m with read := m.read + 1 } := by rw [Mc.ldM, if_pos rfl, if_pos e2]
      have r3 : m.ldOk 4294967240 v = true := rfl
      rw [r1, r2, r3]
      have e2' : (m.read : Int) < (m.inp.size : Int) := by omega
      have hw : IntKind.i64.wrap (m.read : Int) = m.read := by rw [IntKind.wrap_i64]; omega
      clear r1 r2 r3
      go_enter Try.func87, Try.ntmps87
      go_wp2_with fail
      (refine region_drew 9 (by kernel_rfl) (by kernel_rfl) ?_; simp only [List.take_succ_cons, List.take_zero, List.drop_succ_cons, List.drop_zero]; (repeat still_step))
      refine wpStill_nil ?_
      go_wp2_with fail
      (refine region_drew 11 (by kernel_rfl) (by kernel_rfl) ?_; simp only [List.take_succ_cons, List.take_zero, List.drop_succ_cons, List.drop_zero]; (repeat still_step))
      refine wpStill_nil ?_
      go_wp2_with fail
      go_ret2
      rw [← inByte_eq m e2]
      exact ⟨rfl, (h.out.set_read (m.read + 1) (by omega)).drew.drew, ((Kept.refl S w).drew.then_ hF.out.1 25 _).drew⟩
    · have r1 : m.ldV 4294967240 v = 0 := by rw [Mc.ldV, if_pos rfl, if_neg e2]
      have r2 : m.ldM 4294967240 = m := by rw [Mc.ldM, if_pos rfl, if_neg e2]
      have r3 : m.ldOk 4294967240 v = true := rfl
      rw [r1, r2, r3]
      have e2' : ¬ (m.read : Int) < (m.inp.size : Int) := by omega
      clear r1 r2 r3
      go_enter Try.func87, Try.ntmps87
      go_wp2_with fail
      (refine region_drew 9 (by kernel_rfl) (by kernel_rfl) ?_; simp only [List.take_succ_cons, List.take_zero, List.drop_succ_cons, List.drop_zero]; (repeat still_step))
      refine wpStill_nil ?_
      go_wp2_with fail
      go_ret2
      exact ⟨rfl, h.out.drew, (Kept.refl S w).drew⟩
  have e1' : (AT == 4294967240) = false := by rw [beq_eq_false_iff_ne]; exact e1
  by_cases e2 : AT = 4294967244
  · subst e2
    have r2 : m.ldM 4294967244 = m := by rw [Mc.ldM, if_neg e1]
    have r3 : m.ldOk 4294967244 v = true := rfl
    by_cases e3 : m.read < m.inp.size
    · have r1 : m.ldV 4294967244 v = 1 := by rw [Mc.ldV, if_neg e1, if_pos rfl, if_pos e3]
      rw [r1, r2, r3]
      have e3' : (m.read : Int) < (m.inp.size : Int) := by omega
      clear r1 r2 r3
      go_enter Try.func87, Try.ntmps87
      go_wp2_with fail
      (refine region_drew 9 (by kernel_rfl) (by kernel_rfl) ?_; simp only [List.take_succ_cons, List.take_zero, List.drop_succ_cons, List.drop_zero]; (repeat still_step))
      refine wpStill_nil ?_
      go_wp2_with fail
      go_ret2
      exact ⟨rfl, h.out.drew, (Kept.refl S w).drew⟩
    · have r1 : m.ldV 4294967244 v = 0 := by rw [Mc.ldV, if_neg e1, if_pos rfl, if_neg e3]
      rw [r1, r2, r3]
      have e3' : ¬ (m.read : Int) < (m.inp.size : Int) := by omega
      clear r1 r2 r3
      go_enter Try.func87, Try.ntmps87
      go_wp2_with fail
      (refine region_drew 9 (by kernel_rfl) (by kernel_rfl) ?_; simp only [List.take_succ_cons, List.take_zero, List.drop_succ_cons, List.drop_zero]; (repeat still_step))
      refine wpStill_nil ?_
      go_wp2_with fail
      go_ret2
      exact ⟨rfl, h.out.drew, (Kept.refl S w).drew⟩
  have e2' : (AT == 4294967244) = false := by rw [beq_eq_false_iff_ne]; exact e2
  obtain ⟨k, hk⟩ : ∃ k : Nat, AT / 4 = (k : Int) := ⟨(AT / 4).toNat, by omega⟩
  have hth : m.there AT = decide (k < m.mem.length) := by
    rw [Mc.there, hk, Mc.size]
    exact decide_eq_decide.2 (by omega)
  have hkt : (AT / 4).toNat = k := by rw [hk]; exact Int.toNat_natCast k
  have r2 : m.ldM AT = m := by rw [Mc.ldM, if_neg e1]
  have r3 : m.ldOk AT v = m.loadOk AT v := by rw [Mc.ldOk, decide_eq_false e1, decide_eq_false e2]; rfl
  have r1 : m.ldV AT v = if m.loadOk AT v = true then m.loadV AT v else 0 := by rw [Mc.ldV, if_neg e1, if_neg e2]
  rw [r1, r2, r3]
  cases v
  · have hok : (AT % 4 == 0 && decide (k < m.mem.length)) = m.loadOk AT false := by rw [Mc.loadOk, hth, Bool.false_or]
    have hv : m.loadV AT false = m.mem.getD k 0 := by rw [Mc.loadV, Mc.word, hkt]; rfl
    rw [hv]
    have LD := Lib.hid (qmem_load mp ap c k AT m.mem w h.out.mem hk ha0 ha1 (m.loadOk AT false) hok)
    generalize m.loadOk AT false = OK at *
    generalize (if OK = true then m.mem.getD k 0 else 0) = VV at *
    clear r1 r2 r3 hth hkt hv hok hk e1 e2
    go_enter Try.func87, Try.ntmps87
    go_wp2_with fail
    refine LD.out.mono ?_
    rintro e w2 ⟨rfl, rfl⟩
    go_wp2_with fail
    go_ret2
    exact ⟨rfl, h.out, Kept.refl S w⟩
  · have hok : decide (k < m.mem.length) = m.loadOk AT true := by rw [Mc.loadOk, hth, Bool.true_or, Bool.true_and]
    have hv : m.loadV AT true = Mc.part (m.mem.getD k 0) AT := by rw [Mc.loadV, Mc.word, hkt]; rfl
    rw [hv]
    have LD := Lib.hid (qmem_byte mp ap c k AT m.mem w h.out.mem hk ha0 ha1 hmb (m.loadOk AT true) hok)
    generalize m.loadOk AT true = OK at *
    generalize (if OK = true then Mc.part (m.mem.getD k 0) AT else 0) = VV at *
    clear r1 r2 r3 hth hkt hv hok hk e1 e2
    go_enter Try.func87, Try.ntmps87
    go_wp2_with fail
    refine LD.out.mono ?_
    rintro e w2 ⟨rfl, hb⟩
    have hb := Lib.hid hb
    go_wp2_with fail
    go_ret2
    exact ⟨rfl, h.out.below hb.out, Kept.below_ hb.out hS.out⟩

end Go.Proofs.Ytefgajojimkdiaa

/-
  The document's machine, walked: stores.
-/
namespace Go.Proofs.Ytefgajojimkdiaa
set_option linter.unusedVariables false
set_option linter.unusedSimpArgs false
open Go.RowKit Bw

def Mc.stOk (m : Mc) (at_ : Int) (small : Bool) : Bool := decide (at_ = 4294967240) || decide (at_ = 4294967236) || decide (at_ = 4294967232) || m.loadOk at_ small
def Mc.stM (m : Mc) (at_ v : Int) (small : Bool) : Mc := if m.stOk at_ small = true then m.stores at_ v small else m
theorem Mc.stores_st (m : Mc) (at_ v : Int) (small : Bool) : m.stores at_ v small = if m.stOk at_ small = true then m.stM at_ v small else { m with en := 5 } := by
  unfold Mc.stM
  by_cases h : m.stOk at_ small = true
  · rw [if_pos h, if_pos h]
  · rw [if_neg h]
    unfold Mc.stOk at h
    simp only [Bool.or_eq_true, decide_eq_true_eq, not_or] at h
    obtain ⟨⟨⟨h1, h2⟩, h3⟩, h4⟩ := h
    rw [Mc.stores, if_neg h1, if_neg h2, if_neg h3, if_neg h4]
/-- The machine with one byte more put out. -/
theorem QMach.put {w w2 : World} {p mp ap c g cap : Nat} {ov : Value} {st : Int} {m : Mc} (h : QMach w p mp ap c ov st m) (hg : w.grownBy w2 ov.ownBlock) (x : Int) (hx : 0 ≤ x ∧ x < 256) (hl : m.out.length + 1 ≤ 4096) (hown : w2.ownsRow 0 5 1 (.slice (some ⟨g, 0, none⟩) (m.out.length + 1) cap) (m.out.length + 1) (m.out.map (Value.int .u8) ++ [.int .u8 x])) :
    QMach (w2.setCell ⟨p, 24, none⟩ (.slice (some ⟨g, 0, none⟩) (m.out.length + 1) cap)) p mp ap c (.slice (some ⟨g, 0, none⟩) (m.out.length + 1) cap) st { m with out := m.out ++ [x] } := by
  have b2 : Blk w2 p 94 (qcells m st mp ov) := h.blk.grown hg (own_ne_blk h.out h.blk (by decide))
  have m2 : QMem w2 mp ap c m.mem := by
    refine ⟨h.mem.blk.grown hg (own_ne_blk h.out h.mem.blk (by decide)), ?_⟩
    obtain ⟨e, hb⟩ := h.mem.row
    exact ⟨e, hb.grown hg (own_ne_blk h.out hb (by decide))⟩
  refine ⟨⟨h.ok.r, h.ok.rb, h.ok.h, h.ok.pc, h.ok.ml, h.ok.mb, h.ok.il, h.ok.rd, by simpa using hl, ?_⟩, ?_, m2.far (m2.ne1 b2 (by decide)) (m2.ne2 b2 (by decide)) _, ?_⟩
  · intro y hy
    rcases List.mem_append.1 hy with h1 | h1
    · exact h.ok.ob y h1
    · simp at h1; subst h1; exact hx
  · have := b2.set_ 24 (.slice (some ⟨g, 0, none⟩) (m.out.length + 1) cap)
    rw [show (24 : Nat) = 16 + 8 from rfl, qset m h.ok st mp ov _ 8] at this
    exact this
  · have h3 : w2.ownsRow 0 5 1 (.slice (some ⟨g, 0, none⟩) (m.out.length + 1) cap) (m.out ++ [x]).length ((m.out ++ [x]).map (Value.int .u8)) := by rw [List.map_append, List.length_append]; exact hown
    exact own_kept (S := fun b => b ≠ p) h3 ((Kept.refl _ w2).setCell (p := ⟨p, 24, none⟩) (fun e => e rfl) _) (fun b hb e => own_blk_ne h3 b2 (by decide) b hb e.symm)
theorem QMach.out_cell {w w2 : World} {p mp ap c : Nat} {ov : Value} {st : Int} {m : Mc} (h : QMach w p mp ap c ov st m) (hg : w.grownBy w2 ov.ownBlock) : w2.cell? ⟨p, 24, none⟩ = some ov ∧ w2.frozen? ⟨p, 24, none⟩ = false := by
  have b2 : Blk w2 p 94 (qcells m st mp ov) := h.blk.grown hg (own_ne_blk h.out h.blk (by decide))
  exact ⟨(b2.cell 24).trans (qcells_tail h.ok st mp ov 8), b2.frozen 24⟩
theorem QStored.en {S : Nat → Prop} {p mp ap c : Nat} {ov : Value} {st : Int} {m : Mc} {w w0 : World} (h : QMach w p mp ap c ov st m) (hk : Kept S w0 w) (hF : Free S p ap ov) (hS : ∀ k, S k → k < w.heap.size) (v : Int) : QStored S p mp ap c st { m with en := v } w0 (w.setCell ⟨p, 27, none⟩ (.int .i64 v)) :=
  ⟨ov, h.set_en v, hk.setCell (p := ⟨p, 27, none⟩) hF.1 _, hF, fun k hk => by simpa [World.setCell] using hS k hk⟩

set_option maxRecDepth 100000 in
set_option maxHeartbeats 4000000 in
theorem q_store (S : Nat → Prop) (at_ v : Int) (small : Bool) (p mp ap c : Nat) (ov : Value) (st : Int) (m : Mc) (w : World) (h : QMach w p mp ap c ov st m) (ha : Mc.W32 at_) (hv : Mc.W32 v) (hF : Free S p ap ov) (hS : ∀ k, S k → k < w.heap.size) :
    Calls Try.prog 86 #[.pointer (some ⟨p, 0, none⟩), .int .u32 at_, .int .u32 v, .bool small] w fun e w' => e = .returned (.bool (m.stOk at_ small)) ∧ QStored S p mp ap c st (m.stM at_ v small) w w' := by
  have c22 := h.mem_
  have c24 := h.out_
  have c27 := h.en_
  have c28 := h.trap_
  have f24 := h.froz 24
  have f27 := h.froz 27
  have f28 := h.froz 28
  have h := Lib.hid h
  have hF := Lib.hid hF
  have hS := Lib.hid hS
  have hv' := Lib.hid hv
  obtain ⟨ha0, ha1⟩ := ha
  obtain ⟨hv0, hv1⟩ := hv
  by_cases e1 : at_ = 4294967240
  · subst e1
    have r1 : m.stOk 4294967240 small = true := rfl
    have r2 : m.stM 4294967240 v small = m.stores 4294967240 v small := by rw [Mc.stM, if_pos r1]
    rw [r1, r2]
    clear r1 r2
    by_cases e2 : m.out.length = 4096
    · have hr : m.stores 4294967240 v small = { m with en := 6 } := by rw [Mc.stores, if_pos rfl, if_pos e2]
      rw [hr]
      have hlen : ((m.out.length : Int) == 4096) = true := by rw [beq_iff_eq]; omega
      obtain ⟨A, c', hov⟩ : ∃ A c, ov = .slice A m.out.length c := by
        rcases h.out.out.2 with ⟨rfl, h2⟩ | ⟨g, cap, cur, rfl, -⟩
        · rw [h2]; exact ⟨_, _, rfl⟩
        · exact ⟨_, _, rfl⟩
      subst hov
      clear hr e2
      go_enter Try.func86, Try.ntmps86
      go_wp2_with fail
      go_ret
      exact ⟨rfl, QStored.en h.out (Kept.refl S w) hF.out hS.out 6⟩
    · have hr : m.stores 4294967240 v small = { m with out := m.out ++ [v % 256] } := by rw [Mc.stores, if_pos rfl, if_neg e2]
      rw [hr]
      have hol := h.out.ok.ol
      have hlen : ((m.out.length : Int) == 4096) = false := by rw [beq_eq_false_iff_ne]; omega
      obtain ⟨A, c', hov⟩ : ∃ A c, ov = .slice A m.out.length c := by
        rcases h.out.out.2 with ⟨rfl, h2⟩ | ⟨g, cap, cur, rfl, -⟩
        · rw [h2]; exact ⟨_, _, rfl⟩
        · exact ⟨_, _, rfl⟩
      subst hov
      obtain ⟨i0, hi0, hz0, hz1, hz2⟩ := info_parts u8_info
      have hpl := h.out.blk.lt
      clear hr
      go_enter Try.func86, Try.ntmps86
      go_wp2_with (at_builtin; refine wpList_append_lies _ rfl (.tmp 25) (.tmp 29) 75 rfl 0 5 i0 _ 1 1 Try.underlying75 hi0 hz0 hz1 hz2 rfl (by omega) _ m.out.length _ rfl (h.out.out.alloc _) ⟨w.heap.size, 0, none⟩ 1 1 [.int .u8 (v % 256)] rfl rfl (cs_news1 w _ _) (by simp [Value.oneCell']) (by omega) (by simp only [maxLen]; omega) (by omega) (Nat.zero_le _) (w.heap.size + 1) (by simp) ?_; intro g cap w2 hown2 hg2 hgg hlt2; obtain ⟨cc, fc⟩ := (h.out.alloc _).out_cell hg2)
      go_ret
      refine ⟨rfl, _, (h.out.alloc _).put hg2 (v % 256) (by omega) (by omega) hown2, ?_, ?_, fun k hk => ?_⟩
      · exact (((Kept.refl S w).alloc hS.out _).grown hg2 (fun k hk => by have := hS.out k hk; simp; omega) (fun k hk hs => hF.out.2.2 k hk hs)).setCell (p := ⟨p, 24, none⟩) hF.out.1 _
      · refine ⟨hF.out.1, hF.out.2.1, fun b hb hs => ?_⟩
        have hb' : g = b := by simpa [Value.ownBlock] using hb
        subst hb'
        rcases hgg with h1 | h1
        · exact hF.out.2.2 g h1 hs
        · have := hS.out g hs
          omega
      · have h1 := hS.out k hk
        have h2 := hg2.size
        simp [World.setCell] at h2 ⊢
        omega
  by_cases e2 : at_ = 4294967236
  · subst e2
    have r1 : m.stOk 4294967236 small = true := rfl
    have r2 : m.stM 4294967236 v small = m.stores 4294967236 v small := by rw [Mc.stM, if_pos r1]
    rw [r1, r2]
    clear r1 r2
    have hr : m.stores 4294967236 v small = { m with en := 2, trap := wrap32 v } := by rw [Mc.stores, if_neg (by decide), if_pos rfl]
    rw [hr]
    have SG := fun W => Lib.hid (ref01_signed v W hv0 hv1)
    go_enter Try.func86, Try.ntmps86
    go_wp2_with fail
    refine (SG _).out.mono ?_
    rintro e w1 ⟨rfl, rfl⟩
    go_wp2_with fail
    go_ret
    refine ⟨rfl, ov, (h.out.set_en 2).set_trap (wrap32 v), ((Kept.refl S w).setCell (p := ⟨p, 27, none⟩) hF.out.1 _).setCell (p := ⟨p, 28, none⟩) hF.out.1 _, hF.out, fun k hk => by simpa [World.setCell] using hS.out k hk⟩
  by_cases e3 : at_ = 4294967232
  · subst e3
    have r1 : m.stOk 4294967232 small = true := rfl
    have r2 : m.stM 4294967232 v small = m.stores 4294967232 v small := by rw [Mc.stM, if_pos r1]
    rw [r1, r2]
    clear r1 r2
    have hr : m.stores 4294967232 v small = { m with en := 1 } := by rw [Mc.stores, if_neg (by decide), if_neg (by decide), if_pos rfl]
    rw [hr]
    go_enter Try.func86, Try.ntmps86
    go_wp2_with fail
    go_ret
    exact ⟨rfl, QStored.en h.out (Kept.refl S w) hF.out hS.out 1⟩
  obtain ⟨k, hk⟩ : ∃ k : Nat, at_ / 4 = (k : Int) := ⟨(at_ / 4).toNat, by omega⟩
  have hml := h.out.ok.ml
  have hmb := h.out.ok.mb
  have e1' : (at_ == 4294967240) = false := by rw [beq_eq_false_iff_ne]; exact e1
  have e2' : (at_ == 4294967236) = false := by rw [beq_eq_false_iff_ne]; exact e2
  have e3' : (at_ == 4294967232) = false := by rw [beq_eq_false_iff_ne]; exact e3
  have hth : m.there at_ = decide (k < m.mem.length) := by
    rw [Mc.there, hk, Mc.size]
    exact decide_eq_decide.2 (by omega)
  have hkt : (at_ / 4).toNat = k := by rw [hk]; exact Int.toNat_natCast k
  have r1 : m.stOk at_ small = m.loadOk at_ small := by rw [Mc.stOk, decide_eq_false e1, decide_eq_false e2, decide_eq_false e3]; rfl
  have r2 : m.stM at_ v small = if m.loadOk at_ small = true then { m with mem := m.mem.set k (if small then Mc.turned (m.mem.getD k 0) at_ v else v) } else m := by
    rw [Mc.stM, r1, Mc.stores, if_neg e1, if_neg e2, if_neg e3, Mc.word, hkt]
    by_cases hq : m.loadOk at_ small = true
    · rw [if_pos hq, if_pos hq, if_pos hq]
    · rw [if_neg hq, if_neg hq]
  rw [r1, r2]
  cases small
  · have hok : (at_ % 4 == 0 && decide (k < m.mem.length)) = m.loadOk at_ false := by rw [Mc.loadOk, hth, Bool.false_or]
    have hte : (if false = true then Mc.turned (m.mem.getD k 0) at_ v else v) = v := if_neg (by decide)
    rw [hte]
    clear hte
    have ST := Lib.hid (qmem_store mp ap c k at_ v m.mem w h.out.mem hk ha0 ha1 (m.loadOk at_ false) hok)
    have hlt : m.loadOk at_ false = true → k < m.mem.length := fun e => by rw [← hok, Bool.and_eq_true, decide_eq_true_eq] at e; exact e.2
    have hlt := Lib.hid hlt
    generalize m.loadOk at_ false = OK at *
    clear r1 r2 hth hkt hok hk e1 e2 e3
    cases OK
    · rw [if_neg (by decide)]
      go_enter Try.func86, Try.ntmps86
      go_wp2_with fail
      refine ST.out.mono ?_
      rintro e w2 ⟨rfl, hw⟩
      have hw2 : w = w2 := by simpa using hw.symm
      subst hw2
      clear hw
      go_wp2_with fail
      go_ret
      exact ⟨rfl, QStored.of h.out (Kept.refl S w) hF.out hS.out⟩
    · rw [if_pos rfl]
      go_enter Try.func86, Try.ntmps86
      go_wp2_with fail
      refine ST.out.mono ?_
      rintro e w2 ⟨rfl, hw⟩
      simp only [if_true] at hw
      subst hw
      go_wp2_with fail
      go_ret
      exact ⟨rfl, ov, h.out.set_mem k v (hlt.out trivial) hv'.out, (Kept.refl S w).setCell (p := ⟨ap, k, none⟩) hF.out.2.1 _, hF.out, fun k hk => by simpa [World.setCell] using hS.out k hk⟩
  · have hok : decide (k < m.mem.length) = m.loadOk at_ true := by rw [Mc.loadOk, hth, Bool.true_or, Bool.true_and]
    have ST := Lib.hid (qmem_putbyte mp ap c k at_ v m.mem w h.out.mem hk ha0 ha1 hmb hv'.out (m.loadOk at_ true) hok)
    have hlt : m.loadOk at_ true = true → k < m.mem.length := fun e => by rw [← hok, decide_eq_true_eq] at e; exact e
    have hlt := Lib.hid hlt
    have hT := Lib.hid (Mc.turned_bd (m.mem.getD k 0) at_ v (h.out.ok.word k))
    have hte : (if true = true then Mc.turned (m.mem.getD k 0) at_ v else v) = Mc.turned (m.mem.getD k 0) at_ v := if_pos rfl
    rw [hte]
    clear hte
    generalize Mc.turned (m.mem.getD k 0) at_ v = tv at *
    generalize m.loadOk at_ true = OK at *
    clear r1 r2 hth hkt hok hk e1 e2 e3
    cases OK
    · rw [if_neg (by decide)]
      go_enter Try.func86, Try.ntmps86
      go_wp2_with fail
      refine ST.out.mono ?_
      rintro e w2 ⟨rfl, hw⟩
      rw [PutB, if_neg (by decide)] at hw
      subst hw
      go_wp2_with fail
      go_ret
      exact ⟨rfl, QStored.of h.out (Kept.refl S _) hF.out hS.out⟩
    · rw [if_pos rfl]
      go_enter Try.func86, Try.ntmps86
      go_wp2_with fail
      refine ST.out.mono ?_
      rintro e w2 ⟨rfl, hw⟩
      rw [PutB, if_pos rfl] at hw
      obtain ⟨w1, hb, hw⟩ := hw
      subst hw
      have hb := Lib.hid hb
      go_wp2_with fail
      go_ret
      refine ⟨rfl, ov, ((h.out.below hb.out).set_mem k _ (hlt.out trivial) hT.out).drew, ((Kept.below_ hb.out hS.out).setCell (p := ⟨ap, k, none⟩) hF.out.2.1 _).drew, hF.out, fun k hk => ?_⟩
      have := hS.out k hk
      have := hb.out.size
      simp [World.setCell, World.drew]
      omega

end Go.Proofs.Ytefgajojimkdiaa

/-
  The document's machine, walked: memory.
-/
namespace Go.Proofs.Ytefgajojimkdiaa
set_option linter.unusedVariables false
set_option linter.unusedSimpArgs false
open Go.RowKit Bw

theorem u32_sumq (r im : Int) : IntKind.u32.wrap (r + im % 4294967296) = (r + im) % 4294967296 := by
  rw [IntKind.wrap_u32]; omega
theorem Free.addq {S : Nat → Prop} {p mp ap c : Nat} {ov : Value} {st : Int} {m : Mc} {w : World} (h : Free S p ap ov) (hm : QMach w p mp ap c ov st m) {g : Nat} (hg : w.heap.size ≤ g) : Free (fun k => S k ∨ k = g) p ap ov := by
  have h1 := hm.blk.lt
  have h2 := hm.mem.lt2
  refine ⟨?_, ?_, fun b hb => ?_⟩
  · rintro (h3 | h3)
    · exact h.1 h3
    · omega
  · rintro (h3 | h3)
    · exact h.2.1 h3
    · omega
  · have h4 := (hm.out.lt b hb).2
    rintro (h3 | h3)
    · exact h.2.2 b hb h3
    · omega

set_option maxRecDepth 100000 in
set_option maxHeartbeats 4000000 in
theorem q_memory_store (S : Nat → Prop) (v : Bool) (A B : Nat) (cc op im : Int) (p mp ap c : Nat) (ov : Value) (st : Int) (m : Mc) (w : World) (h : QMach w p mp ap c ov st m) (hA : A < 16) (hB : B < 16) (i0 : -524288 ≤ im) (i1 : im < 524288) (hF : Free S p ap ov) (hS : ∀ k, S k → k < w.heap.size) :
    Calls Try.prog 63 #[.pointer (some ⟨p, 0, none⟩), Ins.val ⟨2, true, v, A, B, cc, op, im⟩] w fun e w' => e = .returned (.tuple #[]) ∧ QStored S p mp ap c st (m.stores ((m.r.getD B 0 + im) % 4294967296) (m.r.getD A 0) v) w w' := by
  simp only [Ins.val, Ins.cells]
  have L0 := Blk.new w 24 #[.int .i64 2, .bool true, .bool v, .int .i64 A, .int .i64 B, .int .i64 cc, .int .i64 op, .int .i64 im]
  have h1 := Lib.hid (h.alloc (.cells #[.int .i64 2, .bool true, .bool v, .int .i64 A, .int .i64 B, .int .i64 cc, .int .i64 op, .int .i64 im] 24))
  have rA := h1.out.reg A hA
  have rB := h1.out.reg B hB
  have bA := h.ok.reg (A : Int)
  have bB := h.ok.reg (B : Int)
  have K1 : Kept S w (w.alloc (.cells #[.int .i64 2, .bool true, .bool v, .int .i64 A, .int .i64 B, .int .i64 cc, .int .i64 op, .int .i64 im] 24)) := (Kept.refl S w).alloc hS _
  have S1 : ∀ k, S k → k < (w.alloc (.cells #[.int .i64 2, .bool true, .bool v, .int .i64 A, .int .i64 B, .int .i64 cc, .int .i64 op, .int .i64 im] 24)).heap.size := fun k hk => by have := hS k hk; simp; omega
  simp only [Mc.reg, Int.toNat_natCast] at bA bB
  have K1 := Lib.hid K1
  have S1 := Lib.hid S1
  have hS := Lib.hid hS
  have hF := Lib.hid hF
  have hA' : (A : Int) < 16 := by omega
  have hB' : (B : Int) < 16 := by omega
  generalize m.r.getD A 0 = xa at *
  generalize m.r.getD B 0 = xb at *
  have hsum := u32_sumq xb im
  have hat : Mc.W32 ((xb + im) % 4294967296) := by unfold Mc.W32; omega
  generalize (xb + im) % 4294967296 = AT at *
  have WD := fun W => Lib.hid (ref01_word im W (by omega) (by omega))
  have hz : im % 4294967296 = im % 4294967296 := rfl
  have ST := fun W (hm : QMach W p mp ap c ov st m) hSW => q_store S AT xa v p mp ap c ov st m W hm hat bA hF.out hSW
  rw [Mc.stores_st]
  clear h
  cases hOK : m.stOk AT v
  · rw [if_neg (by decide)]
    have e1 : m.stM AT xa v = m := by rw [Mc.stM, hOK]; rfl
    simp only [hOK, e1] at ST
    have ST := fun W hm hSW => Lib.hid (ST W hm hSW)
    clear hOK e1
    go_enter Try.func63, Try.ntmps63
    go_wp2_with fail
    (refine region_drew 11 (by kernel_rfl) (by kernel_rfl) ?_; simp only [List.take_succ_cons, List.take_zero, List.drop_succ_cons, List.drop_zero]; (repeat still_step))
    still_call ((WD _).out.mono fun _ _ h => ⟨h.1, h.2.symm⟩)
    repeat still_step
    refine wpStill_nil ?_
    go_wp2_with fail
    (refine region_drew 11 (by kernel_rfl) (by kernel_rfl) ?_; simp only [List.take_succ_cons, List.take_zero, List.drop_succ_cons, List.drop_zero]; (repeat still_step))
    refine wpStill_nil ?_
    go_wp2_with (go_at_call 86; refine (ST _ h1.out.drew.drew S1.out).out.mono ?_; rintro e w2 ⟨rfl, ov2, hM2, hK2, hF2, hS2⟩; have c27 := hM2.en_; have f27 := hM2.froz 27; have hM2 := Lib.hid hM2; have hK2 := Lib.hid hK2; have hF2 := Lib.hid hF2; have hS2 := Lib.hid hS2)
    refine bodyPost_ret (results_none rfl _ _ _) rfl ?_
    exact ⟨rfl, (QStored.en hM2.out hK2.out hF2.out hS2.out 5).from_ K1.out.drew.drew⟩
  · rw [if_pos rfl]
    simp only [hOK] at ST
    have ST := fun W hm hSW => Lib.hid (ST W hm hSW)
    clear hOK
    go_enter Try.func63, Try.ntmps63
    go_wp2_with fail
    (refine region_drew 11 (by kernel_rfl) (by kernel_rfl) ?_; simp only [List.take_succ_cons, List.take_zero, List.drop_succ_cons, List.drop_zero]; (repeat still_step))
    still_call ((WD _).out.mono fun _ _ h => ⟨h.1, h.2.symm⟩)
    repeat still_step
    refine wpStill_nil ?_
    go_wp2_with fail
    (refine region_drew 11 (by kernel_rfl) (by kernel_rfl) ?_; simp only [List.take_succ_cons, List.take_zero, List.drop_succ_cons, List.drop_zero]; (repeat still_step))
    refine wpStill_nil ?_
    go_wp2_with (go_at_call 86; refine (ST _ h1.out.drew.drew S1.out).out.mono ?_; rintro e w2 ⟨rfl, hst⟩)
    refine bodyPost_ret (results_none rfl _ _ _) rfl ?_
    exact ⟨rfl, hst.from_ K1.out.drew.drew⟩

set_option maxRecDepth 100000 in
set_option maxHeartbeats 4000000 in
theorem q_memory_load (S : Nat → Prop) (v : Bool) (A B : Nat) (cc op im : Int) (p mp ap c : Nat) (ov : Value) (st : Int) (m : Mc) (w : World) (h : QMach w p mp ap c ov st m) (hA : A < 16) (hB : B < 16) (i0 : -524288 ≤ im) (i1 : im < 524288) (hF : Free S p ap ov) (hS : ∀ k, S k → k < w.heap.size) :
    Calls Try.prog 63 #[.pointer (some ⟨p, 0, none⟩), Ins.val ⟨2, false, v, A, B, cc, op, im⟩] w fun e w' => e = .returned (.tuple #[]) ∧ QStored S p mp ap c st (m.loads A ((m.r.getD B 0 + im) % 4294967296) v) w w' := by
  simp only [Ins.val, Ins.cells]
  have L0 := Blk.new w 24 #[.int .i64 2, .bool false, .bool v, .int .i64 A, .int .i64 B, .int .i64 cc, .int .i64 op, .int .i64 im]
  have h1 := Lib.hid (h.alloc (.cells #[.int .i64 2, .bool false, .bool v, .int .i64 A, .int .i64 B, .int .i64 cc, .int .i64 op, .int .i64 im] 24))
  have rB := h1.out.reg B hB
  have bB := h.ok.reg (B : Int)
  have K1 : Kept S w (w.alloc (.cells #[.int .i64 2, .bool false, .bool v, .int .i64 A, .int .i64 B, .int .i64 cc, .int .i64 op, .int .i64 im] 24)) := (Kept.refl S w).alloc hS _
  have S1 : ∀ k, (S k ∨ k = w.heap.size) → k < (w.alloc (.cells #[.int .i64 2, .bool false, .bool v, .int .i64 A, .int .i64 B, .int .i64 cc, .int .i64 op, .int .i64 im] 24)).heap.size := by
    rintro k (hk | rfl)
    · have := hS k hk; simp; omega
    · simp
  have F1 := hF.addq h (Nat.le_refl _)
  have l3 := L0.cell 3
  simp only [List.getElem?_toArray, List.getElem?_cons_zero, List.getElem?_cons_succ] at l3
  simp only [Mc.reg, Int.toNat_natCast] at bB
  have K1 := Lib.hid K1
  have S1 := Lib.hid S1
  have F1 := Lib.hid F1
  have hS := Lib.hid hS
  have hF := Lib.hid hF
  have hB' : (B : Int) < 16 := by omega
  have hok := Lib.hid h.ok
  generalize m.r.getD B 0 = xb at *
  have hsum := u32_sumq xb im
  have hat : Mc.W32 ((xb + im) % 4294967296) := by unfold Mc.W32; omega
  generalize (xb + im) % 4294967296 = AT at *
  have WD := fun W => Lib.hid (ref01_word im W (by omega) (by omega))
  have LD := fun W (hm : QMach W p mp ap c ov st m) hSW => q_load (fun k => S k ∨ k = w.heap.size) AT v p mp ap c ov st m W hm hat F1.out hSW
  rw [Mc.loads_ld]
  have hV : Mc.W32 (m.ldV AT v) := by
    have hi : Mc.W32 m.inByte := by
      unfold Mc.inByte Mc.W32
      split
      · have := (m.inp.data.getD m.read 0).toNat_lt; omega
      · omega
    unfold Mc.ldV
    split
    · split
      · exact hi
      · simp [Mc.W32]
    split
    · split <;> simp [Mc.W32]
    split
    · unfold Mc.loadV
      split
      · have := Mc.part_bd (m.word AT) AT; unfold Mc.W32; omega
      · exact hok.out.word _
    · simp [Mc.W32]
  have hV := Lib.hid hV
  clear h
  have hM5 : m.ldOk AT v = false → m.ldM AT = m := by
    intro e
    unfold Mc.ldOk at e
    simp only [Bool.or_eq_false_iff, decide_eq_false_iff_not] at e
    rw [Mc.ldM, if_neg e.1.1]
  generalize m.ldM AT = M2 at *
  generalize m.ldV AT v = V at *
  cases hOK : m.ldOk AT v
  · rw [if_neg (by decide)]
    obtain rfl := hM5 hOK
    simp only [hOK] at LD
    have LD := fun W hm hSW => Lib.hid (LD W hm hSW)
    clear hOK hM5
    go_enter Try.func63, Try.ntmps63
    go_wp2_with fail
    (refine region_drew 11 (by kernel_rfl) (by kernel_rfl) ?_; simp only [List.take_succ_cons, List.take_zero, List.drop_succ_cons, List.drop_zero]; (repeat still_step))
    still_call ((WD _).out.mono fun _ _ h => ⟨h.1, h.2.symm⟩)
    repeat still_step
    refine wpStill_nil ?_
    go_wp2_with fail
    refine (LD _ h1.out.drew S1.out).out.mono ?_
    rintro e w2 ⟨rfl, hM2, hK2⟩
    have c27 := hM2.en_
    have f27 := hM2.froz 27
    have hM2 := Lib.hid hM2
    have hK2 := Lib.hid hK2
    go_wp2_with fail
    refine bodyPost_ret (results_none rfl _ _ _) rfl ?_
    have K2 := hK2.out.mono fun k (hk : S k) => Or.inl hk
    exact ⟨rfl, (QStored.en hM2.out K2 hF.out (fun k hk => Nat.lt_of_lt_of_le (S1.out k (Or.inl hk)) K2.size) 5).from_ K1.out.drew⟩
  · rw [if_pos rfl]
    simp only [hOK] at LD
    have LD := fun W hm hSW => Lib.hid (LD W hm hSW)
    clear hOK hM5
    go_enter Try.func63, Try.ntmps63
    go_wp2_with fail
    (refine region_drew 11 (by kernel_rfl) (by kernel_rfl) ?_; simp only [List.take_succ_cons, List.take_zero, List.drop_succ_cons, List.drop_zero]; (repeat still_step))
    still_call ((WD _).out.mono fun _ _ h => ⟨h.1, h.2.symm⟩)
    repeat still_step
    refine wpStill_nil ?_
    go_wp2_with fail
    refine (LD _ h1.out.drew S1.out).out.mono ?_
    rintro e w2 ⟨rfl, hM2, hK2⟩
    have l3' := (hK2.cell (p := ⟨w.heap.size, 3, none⟩) (Or.inr rfl)).trans l3
    have hM2 := Lib.hid hM2
    have hK2 := Lib.hid hK2
    go_wp2_with fail
    refine (q_set A V p mp ap c ov st _ _ hM2.out hA hV.out).mono ?_
    rintro e w3 ⟨rfl, hM3, hK3⟩
    have hM3 := Lib.hid hM3
    have hK3 := Lib.hid hK3
    go_wp2_with fail
    go_end0
    have K2 := hK2.out.mono fun k (hk : S k) => Or.inl hk
    have K3 := (K1.out.drew.trans K2).trans (kept_ne hK3.out hF.out.1)
    exact ⟨rfl, QStored.of hM3.out K3 hF.out hS.out⟩

end Go.Proofs.Ytefgajojimkdiaa

/-
  The document's machine, walked: jumps.
-/
namespace Go.Proofs.Ytefgajojimkdiaa
set_option linter.unusedVariables false
set_option linter.unusedSimpArgs false
open Go.RowKit Bw

theorem tmod30 (x : Int) : x.tmod 1073741824 = if 0 ≤ x then x % 1073741824 else -((-x) % 1073741824) := by
  split
  · rw [Int.tmod_eq_emod_of_nonneg (by omega)]
  · have h : x = -(-x) := by omega
    conv => lhs; rw [h, Int.neg_tmod, Int.tmod_eq_emod_of_nonneg (show 0 ≤ -x by omega)]
theorem tmod30_bd (x : Int) : -1073741824 < x.tmod 1073741824 ∧ x.tmod 1073741824 < 1073741824 := by
  rw [tmod30]
  split <;> omega

set_option maxRecDepth 100000 in
set_option maxHeartbeats 4000000 in
theorem q_jump (S : Nat → Prop) (u v : Bool) (A : Int) (C : Nat) (b op im : Int) (p mp ap c : Nat) (ov : Value) (st : Int) (m : Mc) (w : World) (h : QMach w p mp ap c ov st m) (hA : 0 ≤ A ∧ A < 16) (hC : C < 16) (i0 : -8388608 ≤ im) (i1 : im < 8388608) (hF : Free S p ap ov) (hS : ∀ k, S k → k < w.heap.size) :
    Calls Try.prog 64 #[.pointer (some ⟨p, 0, none⟩), Ins.val ⟨3, u, v, A, b, C, op, im⟩] w fun e w' => e = .returned (.tuple #[]) ∧ QStored S p mp ap c st (m.jumps ⟨3, u, v, A, b, C, op, im⟩) w w' := by
  simp only [Ins.val, Ins.cells]
  have L0 := Blk.new w 24 #[.int .i64 3, .bool u, .bool v, .int .i64 A, .int .i64 b, .int .i64 C, .int .i64 op, .int .i64 im]
  have h1 := Lib.hid (h.alloc (.cells #[.int .i64 3, .bool u, .bool v, .int .i64 A, .int .i64 b, .int .i64 C, .int .i64 op, .int .i64 im] 24))
  have K1 : Kept S w (w.alloc (.cells #[.int .i64 3, .bool u, .bool v, .int .i64 A, .int .i64 b, .int .i64 C, .int .i64 op, .int .i64 im] 24)) := (Kept.refl S w).alloc hS _
  have S1 : ∀ k, S k → k < (w.alloc (.cells #[.int .i64 3, .bool u, .bool v, .int .i64 A, .int .i64 b, .int .i64 C, .int .i64 op, .int .i64 im] 24)).heap.size := fun k hk => by have := hS k hk; simp; omega
  have lz : w.heap.size < (w.alloc (.cells #[.int .i64 3, .bool u, .bool v, .int .i64 A, .int .i64 b, .int .i64 C, .int .i64 op, .int .i64 im] 24)).heap.size := by simp
  have c17 := h1.out.fn
  have c18 := h1.out.fz
  have c19 := h1.out.fc
  have c20 := h1.out.fv
  have l1 := L0.cell 1
  have l2 := L0.cell 2
  have l3 := L0.cell 3
  have l5 := L0.cell 5
  have l7 := L0.cell 7
  simp only [List.getElem?_toArray, List.getElem?_cons_zero, List.getElem?_cons_succ] at l1 l2 l3 l5 l7
  have K1 := Lib.hid K1
  have S1 := Lib.hid S1
  have hF := Lib.hid hF
  have hS := Lib.hid hS
  have lz := Lib.hid lz
  have HO := fun W => Lib.hid (ref03_holds A m.f W (by omega) (by omega))
  simp only [Fl.val, Fl.cells] at HO
  have hok := h.ok
  have hpc := hok.pc
  have bC := hok.reg (C : Int)
  simp only [Mc.reg, Int.toNat_natCast] at bC
  have hjm : m.jumps ⟨3, u, v, A, b, C, op, im⟩ = if Alu.holds A m.f = true then { m with pc := if u = true then (m.pc + im) % 1073741824 else m.r.getD C 0 / 4, r := if v = true then m.r.set 15 (m.pc * 4 % 4294967296) else m.r } else m := rfl
  generalize m.jumps ⟨3, u, v, A, b, C, op, im⟩ = R at *
  have hC' : (C : Int) < 16 := by omega
  have bC0 := bC.1
  have bC1 := bC.2
  have P1 : 0 ≤ (m.pc + im) % 1073741824 ∧ (m.pc + im) % 1073741824 ≤ 1073741824 := by omega
  have P2 : 0 ≤ m.r.getD C 0 / 4 ∧ m.r.getD C 0 / 4 ≤ 1073741824 := by omega
  have P3 : Mc.W32 (m.pc * 4 % 4294967296) := by unfold Mc.W32; omega
  have w1 : IntKind.i64.wrap (m.pc + im) = m.pc + im := by rw [IntKind.wrap_i64]; omega
  have t30 := tmod30_bd (m.pc + im)
  have w2 : IntKind.i64.wrap ((m.pc + im).tmod 1073741824 + 1073741824) = (m.pc + im).tmod 1073741824 + 1073741824 := by rw [IntKind.wrap_i64]; omega
  have w4 : IntKind.i64.wrap (4 * m.pc) = 4 * m.pc := by rw [IntKind.wrap_i64]; omega
  have w5 : ((m.pc + im).tmod 1073741824 + 1073741824).tmod 1073741824 = (m.pc + im) % 1073741824 := by
    rw [Int.tmod_eq_emod_of_nonneg (by omega), tmod30]
    split <;> omega
  have WD := fun W => Lib.hid (ref01_word (4 * m.pc) W (by omega) (by omega))
  have w6 : 4 * m.pc % 4294967296 = m.pc * 4 % 4294967296 := by omega
  rw [w6] at WD
  clear w6 t30
  clear h hok L0 bC
  obtain ⟨xc, eC⟩ : ∃ xc, m.r.getD C 0 = xc := ⟨_, rfl⟩
  rw [eC] at hjm bC0 bC1 P2
  have w7 : IntKind.u32.wrap (xc.tdiv 4) = xc / 4 := by rw [Int.tdiv_eq_ediv_of_nonneg bC0, IntKind.wrap_u32]; omega
  have eC' := Lib.hid eC
  clear eC
  have eC := eC'
  clear eC'
  have hjm := Lib.hid hjm
  have P1 := Lib.hid P1
  have P2 := Lib.hid P2
  have P3 := Lib.hid P3
  cases hh : Alu.holds A m.f
  · have hjm' : R = m := by have h1 := hjm.out; rw [hh, if_neg (by decide)] at h1; exact h1
    have hjm' := Lib.hid hjm'
    rw [hh] at HO
    clear hjm hh
    go_enter Try.func64, Try.ntmps64
    go_wp2_with fail
    (refine region_drew 6 (by kernel_rfl) (by kernel_rfl) ?_; simp only [List.take_succ_cons, List.take_zero, List.drop_succ_cons, List.drop_zero]; (repeat still_step))
    refine wpStill_nil ?_
    go_wp2_with (go_at_call 88; refine (HO _).out.mono ?_; rintro e w3 ⟨rfl, hb3⟩)
    refine bodyPost_ret (results_none rfl _ _ _) rfl ?_
    rw [hjm'.out]
    exact ⟨rfl, ov, h1.out.drew.below hb3, K1.out.drew.below hb3 S1.out, hF.out, fun k hk => Nat.lt_of_lt_of_le (S1.out k hk) hb3.size⟩
  · have hjm' := hjm.out
    rw [hh, if_pos rfl] at hjm'
    rw [hh] at HO
    clear hjm hh
    cases u <;> cases v
    all_goals
      simp only [Bool.false_eq_true, if_true, if_false] at hjm'
      subst hjm'
      go_enter Try.func64, Try.ntmps64
      go_wp2_with fail
      (refine region_drew 6 (by kernel_rfl) (by kernel_rfl) ?_; simp only [List.take_succ_cons, List.take_zero, List.drop_succ_cons, List.drop_zero]; (repeat still_step))
      refine wpStill_nil ?_
      go_wp2_with (go_at_call 88; refine (HO _).out.mono ?_; rintro e w3 ⟨rfl, hb3⟩; have l1' := (hb3.cell (p := ⟨w.heap.size, 1, none⟩) lz.out).trans l1; have l2' := (hb3.cell (p := ⟨w.heap.size, 2, none⟩) lz.out).trans l2; have l5' := (hb3.cell (p := ⟨w.heap.size, 5, none⟩) lz.out).trans l5; have l7' := (hb3.cell (p := ⟨w.heap.size, 7, none⟩) lz.out).trans l7; have h3 := Lib.hid (h1.out.drew.below hb3); have K3 := Lib.hid (K1.out.drew.below hb3 S1.out); have S3 := Lib.hid (show ∀ k, S k → k < w3.heap.size from fun k hk => Nat.lt_of_lt_of_le (S1.out k hk) hb3.size); clear h1 K1 S1 hb3 l1 l2 l3 l5 l7 c17 c18 c19 c20; have c21 := h3.out.pc_; have f21 := h3.out.froz 21; have c15 := h3.out.reg 15 (by omega); have f15 := h3.out.froz 15; have cC := h3.out.reg C hC; rw [eC.out] at cC)
    · (refine region_drew 10 (by kernel_rfl) (by kernel_rfl) ?_; simp only [List.take_succ_cons, List.take_zero, List.drop_succ_cons, List.drop_zero]; (repeat still_step))
      refine wpStill_nil ?_
      go_wp2_with fail
      go_end0
      exact ⟨rfl, ov, (h3.out.set_pc _ P2.out).drew, (K3.out.then_ hF.out.1 21 _).drew, hF.out, fun k hk => by simpa [World.setCell] using S3.out k hk⟩
    · (refine region_drew 10 (by kernel_rfl) (by kernel_rfl) ?_; simp only [List.take_succ_cons, List.take_zero, List.drop_succ_cons, List.drop_zero]; (repeat still_step))
      refine wpStill_nil ?_
      go_wp2_with fail
      (refine region_drew 6 (by kernel_rfl) (by kernel_rfl) ?_; simp only [List.take_succ_cons, List.take_zero, List.drop_succ_cons, List.drop_zero]; (repeat still_step))
      still_call ((WD _).out.mono fun _ _ h => ⟨h.1, h.2.symm⟩)
      repeat still_step
      refine wpStill_nil ?_
      go_wp2_with fail
      go_end0
      exact ⟨rfl, ov, ((h3.out.set_pc _ P2.out).drew.set_r 15 _ (by omega) P3.out).drew, ((K3.out.then_ hF.out.1 21 _).drew.then_ hF.out.1 15 _).drew, hF.out, fun k hk => by simpa [World.setCell] using S3.out k hk⟩
    · (refine region_drew 11 (by kernel_rfl) (by kernel_rfl) ?_; simp only [List.take_succ_cons, List.take_zero, List.drop_succ_cons, List.drop_zero]; (repeat still_step))
      refine wpStill_nil ?_
      go_wp2_with fail
      go_end0
      exact ⟨rfl, ov, (h3.out.set_pc _ P1.out).drew, (K3.out.then_ hF.out.1 21 _).drew, hF.out, fun k hk => by simpa [World.setCell] using S3.out k hk⟩
    · (refine region_drew 11 (by kernel_rfl) (by kernel_rfl) ?_; simp only [List.take_succ_cons, List.take_zero, List.drop_succ_cons, List.drop_zero]; (repeat still_step))
      refine wpStill_nil ?_
      go_wp2_with fail
      (refine region_drew 6 (by kernel_rfl) (by kernel_rfl) ?_; simp only [List.take_succ_cons, List.take_zero, List.drop_succ_cons, List.drop_zero]; (repeat still_step))
      still_call ((WD _).out.mono fun _ _ h => ⟨h.1, h.2.symm⟩)
      repeat still_step
      refine wpStill_nil ?_
      go_wp2_with fail
      go_end0
      exact ⟨rfl, ov, ((h3.out.set_pc _ P1.out).drew.set_r 15 _ (by omega) P3.out).drew, ((K3.out.then_ hF.out.1 21 _).drew.then_ hF.out.1 15 _).drew, hF.out, fun k hk => by simpa [World.setCell] using S3.out k hk⟩

end Go.Proofs.Ytefgajojimkdiaa

/-
  What the document's reckoning loads and stores. No walk.
-/
namespace Go.Proofs.Ytefgajojimkdiaa
set_option linter.unusedVariables false
set_option linter.unusedSimpArgs false
open Go.RowKit Bw

theorem below7 {N g : Nat} (w : World) (hg : N ≤ g) (a b c d e f h : Value) : Below N w (((((((w.setCell ⟨g, 0, none⟩ a).setCell ⟨g, 1, none⟩ b).setCell ⟨g, 2, none⟩ c).setCell ⟨g, 3, none⟩ d).setCell ⟨g, 4, none⟩ e).setCell ⟨g, 5, none⟩ f).setCell ⟨g, 6, none⟩ h) :=
  (((((((Below.refl N w).setCell (p := ⟨g, 0, none⟩) hg a).setCell (p := ⟨g, 1, none⟩) hg b).setCell (p := ⟨g, 2, none⟩) hg c).setCell (p := ⟨g, 3, none⟩) hg d).setCell (p := ⟨g, 4, none⟩) hg e).setCell (p := ⟨g, 5, none⟩) hg f).setCell (p := ⟨g, 6, none⟩) hg h
theorem blk7 {w : World} {g : Nat} {t : TypeId} {x0 x1 x2 x3 x4 x5 x6 : Value} (hb : Blk w g t #[x0, x1, x2, x3, x4, x5, x6]) (a b c d e f h : Value) : Blk (((((((w.setCell ⟨g, 0, none⟩ a).setCell ⟨g, 1, none⟩ b).setCell ⟨g, 2, none⟩ c).setCell ⟨g, 3, none⟩ d).setCell ⟨g, 4, none⟩ e).setCell ⟨g, 5, none⟩ f).setCell ⟨g, 6, none⟩ h) g t #[a, b, c, d, e, f, h] := by
  have k0 : Blk _ g t #[a, x1, x2, x3, x4, x5, x6] := hb.set_ 0 a
  have k1 : Blk _ g t #[a, b, x2, x3, x4, x5, x6] := k0.set_ 1 b
  have k2 : Blk _ g t #[a, b, c, x3, x4, x5, x6] := k1.set_ 2 c
  have k3 : Blk _ g t #[a, b, c, d, x4, x5, x6] := k2.set_ 3 d
  have k4 : Blk _ g t #[a, b, c, d, e, x5, x6] := k3.set_ 4 e
  have k5 : Blk _ g t #[a, b, c, d, e, f, x6] := k4.set_ 5 f
  have k6 : Blk _ g t #[a, b, c, d, e, f, h] := k5.set_ 6 h
  exact k6
theorem zr_new {w w' : World} {t : TypeId} {cs : Array Value} (hb : Below (w.alloc (.cells cs t)).drew.heap.size (w.alloc (.cells cs t)).drew w') : Blk w' w.heap.size t cs := (Blk.new w t cs).drew.below hb (by simp)
theorem zr_le {w w' : World} {o : Obj} (hb : Below (w.alloc o).drew.heap.size (w.alloc o).drew w') : w.heap.size ≤ w'.heap.size := Nat.le_trans (by simp) hb.size
theorem zr_le0 {w w' : World} (hb : Below w.drew.heap.size w.drew w') : w.heap.size ≤ w'.heap.size := hb.size
/-- What the stores behind the reckoning load. -/
structure Qtl (gx g7 A : Nat) (r1 h1 : Int) (f1 f2 f3 f4 : Bool) (w : World) : Prop where
  g3 : w.cell? ⟨gx, 3, none⟩ = some (.int .i64 A)
  c0 : w.cell? ⟨g7, 0, none⟩ = some (.int .u32 r1)
  c1 : w.cell? ⟨g7, 1, none⟩ = some (.int .u32 h1)
  c2 : w.cell? ⟨g7, 2, none⟩ = some (.bool f1)
  c3 : w.cell? ⟨g7, 3, none⟩ = some (.bool f2)
  c4 : w.cell? ⟨g7, 4, none⟩ = some (.bool f3)
  c5 : w.cell? ⟨g7, 5, none⟩ = some (.bool f4)
theorem Qtl.set_ {gx g7 A p : Nat} {r1 h1 : Int} {f1 f2 f3 f4 : Bool} {w : World} (h : Qtl gx g7 A r1 h1 f1 f2 f3 f4 w) (hx : p ≠ gx) (h7 : p ≠ g7) (k : Nat) (v : Value) : Qtl gx g7 A r1 h1 f1 f2 f3 f4 (w.setCell ⟨p, k, none⟩ v) := by
  have hk := Kept.cell_ w p k v
  have h8 := fun e => h7 (Eq.symm e)
  exact ⟨(hk.cell (p := ⟨gx, 3, none⟩) (fun e => hx e.symm)).trans h.g3, (hk.cell (p := ⟨g7, 0, none⟩) h8).trans h.c0, (hk.cell (p := ⟨g7, 1, none⟩) h8).trans h.c1, (hk.cell (p := ⟨g7, 2, none⟩) h8).trans h.c2, (hk.cell (p := ⟨g7, 3, none⟩) h8).trans h.c3, (hk.cell (p := ⟨g7, 4, none⟩) h8).trans h.c4, (hk.cell (p := ⟨g7, 5, none⟩) h8).trans h.c5⟩
theorem Qtl.drew {gx g7 A : Nat} {r1 h1 : Int} {f1 f2 f3 f4 : Bool} {w : World} (h : Qtl gx g7 A r1 h1 f1 f2 f3 f4 w) : Qtl gx g7 A r1 h1 f1 f2 f3 f4 w.drew := ⟨h.g3, h.c0, h.c1, h.c2, h.c3, h.c4, h.c5⟩
theorem Qtl.all {gx g7 A : Nat} {r1 h1 : Int} {f1 f2 f3 f4 : Bool} {w : World} (h : Qtl gx g7 A r1 h1 f1 f2 f3 f4 w) : Qtl gx g7 A r1 h1 f1 f2 f3 f4 w ∧ w.cell? ⟨gx, 3, none⟩ = some (.int .i64 A) ∧ w.cell? ⟨g7, 0, none⟩ = some (.int .u32 r1) ∧ w.cell? ⟨g7, 1, none⟩ = some (.int .u32 h1) ∧ w.cell? ⟨g7, 2, none⟩ = some (.bool f1) ∧ w.cell? ⟨g7, 3, none⟩ = some (.bool f2) ∧ w.cell? ⟨g7, 4, none⟩ = some (.bool f3) ∧ w.cell? ⟨g7, 5, none⟩ = some (.bool f4) := ⟨h, h.g3, h.c0, h.c1, h.c2, h.c3, h.c4, h.c5⟩

end Go.Proofs.Ytefgajojimkdiaa

/-
  The document's instructions: joined contracts.
-/
namespace Go.Proofs.Ytefgajojimkdiaa
set_option linter.unusedVariables false
set_option linter.unusedSimpArgs false
open Go.RowKit Bw

theorem q_memory (S : Nat → Prop) (x : Ins) (hx : x.good = true) (hf : x.form = 2) (p mp ap d : Nat) (ov : Value) (st : Int) (m : Mc) (w : World) (h : QMach w p mp ap d ov st m) (hF : Free S p ap ov) (hS : ∀ k, S k → k < w.heap.size) :
    Calls Try.prog 63 #[.pointer (some ⟨p, 0, none⟩), x.val] w fun e w' => e = .returned (.tuple #[]) ∧ QStored S p mp ap d st (m.moves x) w w' := by
  obtain ⟨form, u, v, a, b, c, op, im⟩ := x
  have hr := Ins.good_range _ hx
  simp only at hf hr
  subst hf
  have hi := Ins.good_im2 _ _ _ _ _ _ _ hx
  obtain ⟨A, rfl⟩ := Int.eq_ofNat_of_zero_le hr.2.2.1
  obtain ⟨B, rfl⟩ := Int.eq_ofNat_of_zero_le hr.2.2.2.2.1
  cases u
  · have h1 := q_memory_load S v A B c op im p mp ap d ov st m w h (by omega) (by omega) hi.1 hi.2 hF hS
    have e1 : m.moves ⟨2, false, v, (A : Int), (B : Int), c, op, im⟩ = m.loads A ((m.r.getD B 0 + im) % 4294967296) v := rfl
    rw [e1]; exact h1
  · have h1 := q_memory_store S v A B c op im p mp ap d ov st m w h (by omega) (by omega) hi.1 hi.2 hF hS
    have e1 : m.moves ⟨2, true, v, (A : Int), (B : Int), c, op, im⟩ = m.stores ((m.r.getD B 0 + im) % 4294967296) (m.r.getD A 0) v := rfl
    rw [e1]; exact h1

theorem q_jumpX (S : Nat → Prop) (x : Ins) (hx : x.good = true) (hf : x.form = 3) (p mp ap d : Nat) (ov : Value) (st : Int) (m : Mc) (w : World) (h : QMach w p mp ap d ov st m) (hF : Free S p ap ov) (hS : ∀ k, S k → k < w.heap.size) :
    Calls Try.prog 64 #[.pointer (some ⟨p, 0, none⟩), x.val] w fun e w' => e = .returned (.tuple #[]) ∧ QStored S p mp ap d st (m.jumps x) w w' := by
  obtain ⟨form, u, v, a, b, c, op, im⟩ := x
  have hr := Ins.good_range _ hx
  simp only at hf hr
  subst hf
  have hi := Ins.good_im3 _ _ _ _ _ _ _ hx
  obtain ⟨C, rfl⟩ := Int.eq_ofNat_of_zero_le hr.2.2.2.2.2.2.1
  exact q_jump S u v a C b op im p mp ap d ov st m w h ⟨hr.2.2.1, hr.2.2.2.1⟩ (by omega) hi.1 hi.2 hF hS

/-- What is asked of the document's register. -/
def QRegs : Prop := ∀ (S : Nat → Prop) (x : Ins) (hx : x.good = true) (hf : x.form = 0 ∨ x.form = 1) (p mp ap d : Nat) (ov : Value) (st : Int) (m : Mc) (w : World) (h : QMach w p mp ap d ov st m) (hF : Free S p ap ov) (hS : ∀ k, S k → k < w.heap.size),
    Calls Try.prog 62 #[.pointer (some ⟨p, 0, none⟩), x.val] w fun e w' => e = .returned (.tuple #[]) ∧ QStored S p mp ap d st (m.reckons x) w w'

end Go.Proofs.Ytefgajojimkdiaa
