/-
  What the run of an image with small modules comes to. No program in sight.
-/
import Derived.Test.YtefgajojimkdiaaZPlayed
import Derived.Test.YtefgajojimkdiaaZLaw
namespace Go.Proofs.Ytefgajojimkdiaa
set_option linter.unusedVariables false
set_option linter.unusedSimpArgs false
open Go.RowKit Bw

/-- m comes to m' in k steps. -/
def Comes (k : Nat) (m m' : Mc) : Prop := ∀ n, m.run (k + n) = m'.run n ∧ m.steps (k + n) = k + m'.steps n
theorem Comes.refl (m : Mc) : Comes 0 m m := fun n => by rw [Nat.zero_add]; exact ⟨rfl, (Nat.zero_add _).symm⟩
theorem Comes.one {m : Mc} (h : m.en = 0) : Comes 1 m m.step := fun n => by rw [Nat.add_comm 1 n]; exact ⟨run_one m n h, by rw [steps_one m n h]; omega⟩
theorem Comes.trans {a b : Nat} {m m' m'' : Mc} (h : Comes a m m') (k : Comes b m' m'') : Comes (a + b) m m'' := fun n => by
  rw [Nat.add_assoc]; exact ⟨(h _).1.trans (k n).1, by rw [(h _).2, (k n).2]; omega⟩
theorem step_mem {m : Mc} (k : Nat) (x : Ins) (hk : k < m.mem.length) (hw : m.mem.getD k 0 = x.E) (hp : m.pc = k) (hg : x.good = true) : m.step = ({ m with pc := (k : Int) + 1 } : Mc).does x := by
  have hw' : m.mem.getD m.pc.toNat 0 = x.enc := by rw [hp, Int.toNat_natCast, hw]; simp [Ins.E, hg]
  unfold Mc.step
  have hs : m.pc < m.size := by rw [Mc.size, hp]; omega
  rw [if_pos hs]
  simp only [hw']
  rw [(Ins.dec_enc x hg).1, if_pos (Ins.dec_enc x hg).2, hp]

section
variable {r : List Int} {h : Int} {f : Fl} {M : List Int} {inp : ByteArray} {rd : Nat} {out : List Int} {tr : Int}
theorem c_hi (k a : Nat) (v : Int) (hk : k < M.length) (hw : M.getD k 0 = (⟨1, true, false, a, 0, 0, 0, v⟩ : Ins).E) (hg : (⟨1, true, false, a, 0, 0, 0, v⟩ : Ins).good = true) :
    ∃ f', Comes 1 (Mc.mk r h f k M inp rd out 0 tr) (Mc.mk (r.set a (v * 65536 % 4294967296)) h f' ((k : Int) + 1) M inp rd out 0 tr) := by
  have e := Comes.one (m := Mc.mk r h f k M inp rd out 0 tr) rfl
  rw [step_mem (m := Mc.mk r h f k M inp rd out 0 tr) k _ hk hw rfl hg] at e
  simp [Mc.does, Mc.reckons, Mc.sets] at e
  exact ⟨_, e⟩
theorem c_ior (k a b : Nat) (v : Int) (hk : k < M.length) (hw : M.getD k 0 = (⟨1, false, false, a, b, 0, 6, v⟩ : Ins).E) (hg : (⟨1, false, false, a, b, 0, 6, v⟩ : Ins).good = true) :
    ∃ f', Comes 1 (Mc.mk r h f k M inp rd out 0 tr) (Mc.mk (r.set a (bits .or .u32 (r.getD b 0) (v % 65536))) h f' ((k : Int) + 1) M inp rd out 0 tr) := by
  have e := Comes.one (m := Mc.mk r h f k M inp rd out 0 tr) rfl
  rw [step_mem (m := Mc.mk r h f k M inp rd out 0 tr) k _ hk hw rfl hg] at e
  simp [Mc.does, Mc.reckons, Mc.opnd, Mc.reg, Alu.R, Alu.H] at e
  exact ⟨_, by simpa using e⟩
theorem c_add (k a b : Nat) (v : Int) (hk : k < M.length) (hw : M.getD k 0 = (⟨1, false, false, a, b, 0, 8, v⟩ : Ins).E) (hg : (⟨1, false, false, a, b, 0, 8, v⟩ : Ins).good = true) :
    ∃ f', Comes 1 (Mc.mk r h f k M inp rd out 0 tr) (Mc.mk (r.set a ((r.getD b 0 + v % 65536) % 4294967296)) h f' ((k : Int) + 1) M inp rd out 0 tr) := by
  have e := Comes.one (m := Mc.mk r h f k M inp rd out 0 tr) rfl
  rw [step_mem (m := Mc.mk r h f k M inp rd out 0 tr) k _ hk hw rfl hg] at e
  simp [Mc.does, Mc.reckons, Mc.opnd, Mc.reg, Alu.R, Alu.H, Alu.carry] at e
  exact ⟨_, by simpa using e⟩
theorem c_mov (k a : Nat) (v : Int) (hk : k < M.length) (hw : M.getD k 0 = (⟨1, false, false, a, 0, 0, 0, v⟩ : Ins).E) (hg : (⟨1, false, false, a, 0, 0, 0, v⟩ : Ins).good = true) :
    ∃ f', Comes 1 (Mc.mk r h f k M inp rd out 0 tr) (Mc.mk (r.set a (v % 65536)) h f' ((k : Int) + 1) M inp rd out 0 tr) := by
  have e := Comes.one (m := Mc.mk r h f k M inp rd out 0 tr) rfl
  rw [step_mem (m := Mc.mk r h f k M inp rd out 0 tr) k _ hk hw rfl hg] at e
  simp [Mc.does, Mc.reckons, Mc.opnd, Mc.reg, Alu.R, Alu.H] at e
  exact ⟨_, by simpa using e⟩
theorem c_out (k a b : Nat) (hk : k < M.length) (hw : M.getD k 0 = (⟨2, true, false, a, b, 0, 0, 0⟩ : Ins).E) (hg : (⟨2, true, false, a, b, 0, 0, 0⟩ : Ins).good = true) (hb : r.getD b 0 = 4294967240) (ho : out.length ≠ 4096) :
    Comes 1 (Mc.mk r h f k M inp rd out 0 tr) (Mc.mk r h f ((k : Int) + 1) M inp rd (out ++ [r.getD a 0 % 256]) 0 tr) := by
  have e := Comes.one (m := Mc.mk r h f k M inp rd out 0 tr) rfl
  rw [step_mem (m := Mc.mk r h f k M inp rd out 0 tr) k _ hk hw rfl hg] at e
  simp only [List.getD_eq_getElem?_getD] at hb
  simpa [Mc.does, Mc.moves, Mc.stores, Mc.reg, hb, ho] using e
theorem c_halt (k a b : Nat) (hk : k < M.length) (hw : M.getD k 0 = (⟨2, true, false, a, b, 0, 0, 0⟩ : Ins).E) (hg : (⟨2, true, false, a, b, 0, 0, 0⟩ : Ins).good = true) (hb : r.getD b 0 = 4294967232) :
    Comes 1 (Mc.mk r h f k M inp rd out 0 tr) (Mc.mk r h f ((k : Int) + 1) M inp rd out 1 tr) := by
  have e := Comes.one (m := Mc.mk r h f k M inp rd out 0 tr) rfl
  rw [step_mem (m := Mc.mk r h f k M inp rd out 0 tr) k _ hk hw rfl hg] at e
  simp only [List.getD_eq_getElem?_getD] at hb
  simpa [Mc.does, Mc.moves, Mc.stores, Mc.reg, hb] using e
theorem c_call (k : Nat) (d : Int) (hk : k < M.length) (hw : M.getD k 0 = (⟨3, true, true, 7, 0, 0, 0, d⟩ : Ins).E) (hg : (⟨3, true, true, 7, 0, 0, 0, d⟩ : Ins).good = true) :
    Comes 1 (Mc.mk r h f k M inp rd out 0 tr) (Mc.mk (r.set 15 (((k : Int) + 1) * 4 % 4294967296)) h f (((k : Int) + 1 + d) % 1073741824) M inp rd out 0 tr) := by
  have e := Comes.one (m := Mc.mk r h f k M inp rd out 0 tr) rfl
  rw [step_mem (m := Mc.mk r h f k M inp rd out 0 tr) k _ hk hw rfl hg] at e
  simpa [Mc.does, Mc.jumps, Alu.holds, Alu.base] using e
theorem c_back (k : Nat) (hk : k < M.length) (hw : M.getD k 0 = (⟨3, false, false, 7, 0, 15, 0, 0⟩ : Ins).E) (hg : (⟨3, false, false, 7, 0, 15, 0, 0⟩ : Ins).good = true) :
    Comes 1 (Mc.mk r h f k M inp rd out 0 tr) (Mc.mk r h f (r.getD 15 0 / 4) M inp rd out 0 tr) := by
  have e := Comes.one (m := Mc.mk r h f k M inp rd out 0 tr) rfl
  rw [step_mem (m := Mc.mk r h f k M inp rd out 0 tr) k _ hk hw rfl hg] at e
  simpa [Mc.does, Mc.jumps, Alu.holds, Alu.base, Mc.reg] using e
end

namespace ImgRun
/-- A module that puts out a mark. -/
def mod (c : Int) : List Ins := [⟨1, true, false, 2, 0, 0, 0, 65535⟩, ⟨1, false, false, 2, 2, 0, 8, 65480⟩, ⟨1, false, false, 3, 0, 0, 0, c⟩, ⟨2, true, false, 3, 2, 0, 0, 0⟩, ⟨3, false, false, 7, 0, 15, 0, 0⟩]
theorem mod_good (c : Int) (h0 : 0 ≤ c) (h1 : c < 256) : ∀ x ∈ mod c, x.good = true := by
  intro x hx
  simp only [mod, List.mem_cons, List.not_mem_nil, or_false] at hx
  rcases hx with rfl | rfl | rfl | rfl | rfl <;> simp [Ins.good, Ins.half, Ins.inb, Ins.uop, fits20, fits24] <;> omega
/-- Where the i-th module lies. -/
def ent (n i : Nat) : Int := 13 + n + 5 * i
def ents (n : Nat) : List Int := (List.range n).map fun i => ent n i
theorem ents_get (n i : Nat) (h : i < n) : (ents n).getD i 0 = ent n i := by simp [ents, h]
theorem ents_len (n : Nat) : (ents n).length = n := by simp [ents]
/-- What the run finds in its memory. -/
structure Lies (M : List Int) (size : Nat) (cs : List Int) : Prop where
  len : M.length = size
  lo : 256 ≤ size
  hi : size ≤ 3000
  n : cs.length ≤ 16
  cb : ∀ c ∈ cs, 0 ≤ c ∧ c < 256
  w8 : M.getD 8 0 = (Boot.hi (4 * size / 65536)).E
  w9 : M.getD 9 0 = (Boot.lo (4 * size % 65536)).E
  call : ∀ i, i < cs.length → M.getD (10 + i) 0 = (Boot.call (ent cs.length i - (10 + i) - 1)).E
  fin : ∀ j, j < 3 → M.getD (10 + cs.length + j) 0 = (Boot.fin.getD j ⟨0, false, false, 0, 0, 0, 0, 0⟩).E
  mods : ∀ i, i < cs.length → ∀ j, j < 5 → M.getD (13 + cs.length + 5 * i + j) 0 = ((mod (cs.getD i 0)).getD j ⟨0, false, false, 0, 0, 0, 0, 0⟩).E

variable {M : List Int} {size : Nat} {cs : List Int} {inp : ByteArray} {rd : Nat} {tr : Int}
theorem getD_set_ne (r : List Int) (a b : Nat) (v : Int) (h : a ≠ b) : (r.set a v).getD b 0 = r.getD b 0 := by
  simp [List.getD_eq_getElem?_getD, List.getElem?_set, h]
theorem getD_set_eq (r : List Int) (a : Nat) (v : Int) (h : a < r.length) : (r.set a v).getD a 0 = v := by
  simp [List.getD_eq_getElem?_getD, List.getElem?_set, h]

theorem call_good (d : Int) (h0 : -8388608 ≤ d) (h1 : d ≤ 8388607) : (Boot.call d).good = true := by simp [Boot.call, Ins.good, Ins.half, Ins.inb, Ins.uop, fits20, fits24]; omega
set_option maxHeartbeats 2000000 in
/-- One module's round. -/
theorem round (L : Lies M size cs) (i : Nat) (hi : i < cs.length) (r : List Int) (h : Int) (f : Fl) (out : List Int) (hr : r.length = 16) (ho : out.length ≤ 16) :
    ∃ r' f', Comes 6 (Mc.mk r h f ((10 + i : Nat) : Int) M inp rd out 0 tr) (Mc.mk r' h f' ((10 + (i + 1) : Nat) : Int) M inp rd (out ++ [cs.getD i 0]) 0 tr) ∧ r'.length = 16 ∧ r'.getD 14 0 = r.getD 14 0 := by
  have hn := L.n
  have hlo := L.lo
  have hcb := L.cb (cs.getD i 0) (by rw [List.getD_eq_getElem?_getD, List.getElem?_eq_getElem hi]; exact List.getElem_mem _)
  have g := mod_good (cs.getD i 0) hcb.1 hcb.2
  have m0 := L.mods i hi 0 (by omega)
  have m1 := L.mods i hi 1 (by omega)
  have m2 := L.mods i hi 2 (by omega)
  have m3 := L.mods i hi 3 (by omega)
  have m4 := L.mods i hi 4 (by omega)
  simp only [mod, List.getD_cons_zero, List.getD_cons_succ] at m0 m1 m2 m3 m4
  have hw := L.call i hi
  have hlen := L.len
  generalize hc : cs.getD i 0 = c at *
  have e : ent cs.length i = ((13 + cs.length + 5 * i : Nat) : Int) := by unfold ent; omega
  have s1 := c_call (r := r) (h := h) (f := f) (M := M) (inp := inp) (rd := rd) (out := out) (tr := tr) (10 + i) (ent cs.length i - (10 + i) - 1) (by omega) hw (call_good _ (by rw [e]; omega) (by rw [e]; omega))
  have e1 : (((10 + i : Nat) : Int) + 1 + (ent cs.length i - (10 + i) - 1)) % 1073741824 = ((13 + cs.length + 5 * i : Nat) : Int) := by rw [e]; omega
  rw [e1] at s1
  obtain ⟨f2, s2⟩ := c_hi (r := r.set 15 ((((10 + i : Nat) : Int) + 1) * 4 % 4294967296)) (h := h) (f := f) (M := M) (inp := inp) (rd := rd) (out := out) (tr := tr) (13 + cs.length + 5 * i) 2 65535 (by omega) m0 (g _ (by simp [mod]))
  generalize hr2 : (r.set 15 ((((10 + i : Nat) : Int) + 1) * 4 % 4294967296)).set 2 (65535 * 65536 % 4294967296) = r2 at s2
  have l2 : r2.length = 16 := by rw [← hr2]; simp [hr]
  have r2v : r2.getD 2 0 = 4294901760 := by rw [← hr2, getD_set_eq _ _ _ (by simp [hr])]; decide
  have r2f : r2.getD 15 0 = (((10 + i : Nat) : Int) + 1) * 4 % 4294967296 := by rw [← hr2, getD_set_ne _ _ _ _ (by omega), getD_set_eq _ _ _ (by omega)]
  have r2e : r2.getD 14 0 = r.getD 14 0 := by rw [← hr2, getD_set_ne _ _ _ _ (by omega), getD_set_ne _ _ _ _ (by omega)]
  obtain ⟨f3, s3⟩ := c_add (r := r2) (h := h) (f := f2) (M := M) (inp := inp) (rd := rd) (out := out) (tr := tr) (13 + cs.length + 5 * i + 1) 2 2 65480 (by omega) m1 (g _ (by simp [mod]))
  rw [r2v] at s3
  generalize hr3 : r2.set 2 ((4294901760 + 65480 % 65536) % 4294967296) = r3 at s3
  have l3 : r3.length = 16 := by rw [← hr3]; simp [l2]
  have r3v : r3.getD 2 0 = 4294967240 := by rw [← hr3, getD_set_eq _ _ _ (by omega)]; decide
  have r3f : r3.getD 15 0 = (((10 + i : Nat) : Int) + 1) * 4 % 4294967296 := by rw [← hr3, getD_set_ne _ _ _ _ (by omega), r2f]
  have r3e : r3.getD 14 0 = r.getD 14 0 := by rw [← hr3, getD_set_ne _ _ _ _ (by omega), r2e]
  obtain ⟨f4, s4⟩ := c_mov (r := r3) (h := h) (f := f3) (M := M) (inp := inp) (rd := rd) (out := out) (tr := tr) (13 + cs.length + 5 * i + 2) 3 c (by omega) m2 (g _ (by simp [mod]))
  generalize hr4 : r3.set 3 (c % 65536) = r4 at s4
  have l4 : r4.length = 16 := by rw [← hr4]; simp [l3]
  have r4v : r4.getD 2 0 = 4294967240 := by rw [← hr4, getD_set_ne _ _ _ _ (by omega), r3v]
  have r4c : r4.getD 3 0 % 256 = c := by rw [← hr4, getD_set_eq _ _ _ (by omega)]; omega
  have r4f : r4.getD 15 0 = (((10 + i : Nat) : Int) + 1) * 4 % 4294967296 := by rw [← hr4, getD_set_ne _ _ _ _ (by omega), r3f]
  have r4e : r4.getD 14 0 = r.getD 14 0 := by rw [← hr4, getD_set_ne _ _ _ _ (by omega), r3e]
  have s5 := c_out (r := r4) (h := h) (f := f4) (M := M) (inp := inp) (rd := rd) (out := out) (tr := tr) (13 + cs.length + 5 * i + 3) 3 2 (by omega) m3 (g _ (by simp [mod])) r4v (by omega)
  rw [r4c] at s5
  have s6 := c_back (r := r4) (h := h) (f := f4) (M := M) (inp := inp) (rd := rd) (out := out ++ [c]) (tr := tr) (13 + cs.length + 5 * i + 4) (by omega) m4 (g _ (by simp [mod]))
  rw [r4f, show (((10 + i : Nat) : Int) + 1) * 4 % 4294967296 / 4 = ((10 + (i + 1) : Nat) : Int) by omega] at s6
  refine ⟨r4, f4, ?_, l4, r4e⟩
  have k2 : (((13 + cs.length + 5 * i : Nat) : Int) + 1) = ((13 + cs.length + 5 * i + 1 : Nat) : Int) := by omega
  have k3 : (((13 + cs.length + 5 * i + 1 : Nat) : Int) + 1) = ((13 + cs.length + 5 * i + 2 : Nat) : Int) := by omega
  have k4 : (((13 + cs.length + 5 * i + 2 : Nat) : Int) + 1) = ((13 + cs.length + 5 * i + 3 : Nat) : Int) := by omega
  have k5 : (((13 + cs.length + 5 * i + 3 : Nat) : Int) + 1) = ((13 + cs.length + 5 * i + 4 : Nat) : Int) := by omega
  rw [k2] at s2
  rw [k3] at s3
  rw [k4] at s4
  rw [k5] at s5
  exact (((((s1.trans s2).trans s3).trans s4).trans s5).trans s6)
theorem rounds (L : Lies M size cs) (h : Int) : ∀ (d i : Nat) (r : List Int) (f : Fl), i + d = cs.length → r.length = 16 →
    ∃ r' f', Comes (6 * d) (Mc.mk r h f ((10 + i : Nat) : Int) M inp rd (cs.take i) 0 tr) (Mc.mk r' h f' ((10 + cs.length : Nat) : Int) M inp rd cs 0 tr) ∧ r'.length = 16 ∧ r'.getD 14 0 = r.getD 14 0 := by
  intro d
  induction d with
  | zero =>
    intro i r f hi hr
    obtain rfl : i = cs.length := by omega
    exact ⟨r, f, by rw [List.take_length]; exact Comes.refl _, hr, rfl⟩
  | succ d ih =>
    intro i r f hi hr
    have hn := L.n
    obtain ⟨r1, f1, c1, l1, e1⟩ := round (inp := inp) (rd := rd) (tr := tr) L i (by omega) r h f (cs.take i) hr (by simp; omega)
    have et : cs.take i ++ [cs.getD i 0] = cs.take (i + 1) := by rw [List.take_add_one, List.getElem?_eq_getElem (by omega : i < cs.length)]; simp [List.getD_eq_getElem?_getD, List.getElem?_eq_getElem (by omega : i < cs.length)]
    rw [et] at c1
    obtain ⟨r2, f2, c2, l2, e2⟩ := ih (i + 1) r1 f1 (by omega) l1
    exact ⟨r2, f2, by rw [show 6 * (d + 1) = 6 + 6 * d by omega]; exact c1.trans c2, l2, e2.trans e1⟩
theorem fin_good : ∀ x ∈ Boot.fin, x.good = true := by decide +kernel
set_option maxHeartbeats 2000000 in
/-- The whole run. -/
theorem law (L : Lies M size cs) :
    ((Mc.start M 8 ⟨#[]⟩).run 1000).en = 1 ∧ ((Mc.start M 8 ⟨#[]⟩).run 1000).out = cs ∧ ((Mc.start M 8 ⟨#[]⟩).run 1000).r.getD 14 0 = 4 * size ∧ (Mc.start M 8 ⟨#[]⟩).steps 1000 = 5 + 6 * cs.length := by
  have hn := L.n
  have hlo := L.lo
  have hhi := L.hi
  have hlen := L.len
  obtain ⟨f1, s1⟩ := c_hi (r := List.replicate 16 0) (h := 0) (f := ⟨false, false, false, false⟩) (M := M) (inp := ⟨#[]⟩) (rd := 0) (out := []) (tr := 0) 8 14 (4 * size / 65536) (by omega) L.w8 (by simp [Ins.good, Ins.half, Ins.inb, Ins.uop]; omega)
  obtain ⟨f2, s2⟩ := c_ior (r := (List.replicate 16 0).set 14 ((4 * size / 65536 : Int) * 65536 % 4294967296)) (h := 0) (f := f1) (M := M) (inp := ⟨#[]⟩) (rd := 0) (out := []) (tr := 0) 9 14 14 (4 * size % 65536) (by omega) L.w9 (by simp [Ins.good, Ins.half, Ins.inb, Ins.uop]; omega)
  generalize hr2 : ((List.replicate 16 (0 : Int)).set 14 ((4 * size / 65536 : Int) * 65536 % 4294967296)).set 14 (bits .or .u32 (((List.replicate 16 (0 : Int)).set 14 ((4 * size / 65536 : Int) * 65536 % 4294967296)).getD 14 0) ((4 * size % 65536 : Int) % 65536)) = r2 at s2
  have l2 : r2.length = 16 := by rw [← hr2]; simp
  have r2v : r2.getD 14 0 = 4 * size := by
    rw [← hr2, getD_set_eq _ _ _ (by simp), getD_set_eq _ _ _ (by simp)]
    have := or_parts (4 * size) ⟨by omega, by omega⟩
    rwa [show (4 * size % 65536 : Int) % 65536 = 4 * size % 65536 by omega]
  obtain ⟨r3, f3, c3, l3, e3⟩ := rounds (inp := ⟨#[]⟩) (rd := 0) (tr := 0) L 0 cs.length 0 r2 f2 (by omega) l2
  have w0 := L.fin 0 (by omega)
  have w1 := L.fin 1 (by omega)
  have w2 := L.fin 2 (by omega)
  simp only [Boot.fin, List.getD_cons_zero, List.getD_cons_succ] at w0 w1 w2
  obtain ⟨f4, s4⟩ := c_hi (r := r3) (h := 0) (f := f3) (M := M) (inp := ⟨#[]⟩) (rd := 0) (out := cs) (tr := 0) (10 + cs.length + 0) 1 65535 (by omega) w0 (fin_good _ (by simp [Boot.fin]))
  generalize hr4 : r3.set 1 (65535 * 65536 % 4294967296) = r4 at s4
  have l4 : r4.length = 16 := by rw [← hr4]; simp [l3]
  have r4v : r4.getD 1 0 = 4294901760 := by rw [← hr4, getD_set_eq _ _ _ (by omega)]; decide
  have r4e : r4.getD 14 0 = 4 * size := by rw [← hr4, getD_set_ne _ _ _ _ (by omega), e3, r2v]
  obtain ⟨f5, s5⟩ := c_add (r := r4) (h := 0) (f := f4) (M := M) (inp := ⟨#[]⟩) (rd := 0) (out := cs) (tr := 0) (10 + cs.length + 1) 1 1 65472 (by omega) w1 (fin_good _ (by simp [Boot.fin]))
  rw [r4v] at s5
  generalize hr5 : r4.set 1 ((4294901760 + 65472 % 65536) % 4294967296) = r5 at s5
  have r5v : r5.getD 1 0 = 4294967232 := by rw [← hr5, getD_set_eq _ _ _ (by omega)]; decide
  have r5e : r5.getD 14 0 = 4 * size := by rw [← hr5, getD_set_ne _ _ _ _ (by omega), r4e]
  have s6 := c_halt (r := r5) (h := 0) (f := f5) (M := M) (inp := ⟨#[]⟩) (rd := 0) (out := cs) (tr := 0) (10 + cs.length + 2) 0 1 (by omega) w2 (fin_good _ (by simp [Boot.fin])) r5v
  have k1 : (((10 + cs.length + 0 : Nat) : Int) + 1) = ((10 + cs.length + 1 : Nat) : Int) := by omega
  have k2 : (((10 + cs.length + 1 : Nat) : Int) + 1) = ((10 + cs.length + 2 : Nat) : Int) := by omega
  rw [k1] at s4
  rw [k2] at s5
  have all := ((((show Comes 1 (Mc.start M 8 ⟨#[]⟩) _ from s1).trans s2).trans c3).trans s4).trans (s5.trans s6)
  have hE := all (1000 - (1 + 1 + 6 * cs.length + 1 + (1 + 1)))
  rw [show 1 + 1 + 6 * cs.length + 1 + (1 + 1) + (1000 - (1 + 1 + 6 * cs.length + 1 + (1 + 1))) = 1000 by omega] at hE
  obtain ⟨q1, q2⟩ := Mc.run_ended (Mc.mk r5 0 f5 (((10 + cs.length + 2 : Nat) : Int) + 1) M ⟨#[]⟩ 0 cs 1 0) (1000 - (1 + 1 + 6 * cs.length + 1 + (1 + 1))) (by show (1 : Int) ≠ 0; decide)
  rw [hE.1, hE.2, q1, q2]
  exact ⟨rfl, rfl, r5e, by omega⟩
end ImgRun

end Go.Proofs.Ytefgajojimkdiaa

/-
  The memory of an image with small modules, as a list. No program in sight.
-/
namespace Go.Proofs.Ytefgajojimkdiaa
set_option linter.unusedVariables false
set_option linter.unusedSimpArgs false
open Go.RowKit Bw
namespace ImgRun

/-- The modules' words. -/
def codeW (cs : List Int) : List Int := cs.flatMap fun c => (mod c).map Ins.E
theorem codeW_len (cs : List Int) : (codeW cs).length = 5 * cs.length := by
  induction cs with
  | nil => rfl
  | cons c r ih => rw [codeW, List.flatMap_cons, List.length_append]; rw [codeW] at ih; rw [ih]; simp [mod]; omega
theorem codeW_get (cs : List Int) : ∀ (i j : Nat), i < cs.length → j < 5 → (codeW cs).getD (5 * i + j) 0 = ((mod (cs.getD i 0)).getD j ⟨0, false, false, 0, 0, 0, 0, 0⟩).E := by
  induction cs with
  | nil => intro i j hi; simp at hi
  | cons c r ih =>
    intro i j hi hj
    have hl : ((mod c).map Ins.E).length = 5 := rfl
    have e : codeW (c :: r) = (mod c).map Ins.E ++ codeW r := rfl
    rw [e, List.getD_eq_getElem?_getD]
    cases i with
    | zero =>
      rw [List.getElem?_append_left (by omega)]
      have h5 : j = 0 ∨ j = 1 ∨ j = 2 ∨ j = 3 ∨ j = 4 := by omega
      rcases h5 with rfl | rfl | rfl | rfl | rfl <;> rfl
    | succ i =>
      rw [List.getElem?_append_right (by omega), hl, show 5 * (i + 1) + j - 5 = 5 * i + j by omega, ← List.getD_eq_getElem?_getD, ih i j (by simpa using hi) hj]
      simp [List.getD]
/-- The memory while the modules are written: t words of them. -/
def stage (n N : Nat) (cs : List Int) (t : Nat) : List Int := List.replicate (13 + n) 0 ++ ((codeW cs).take t ++ List.replicate (N - (13 + n) - t) 0)
theorem stage_zero (n N : Nat) (cs : List Int) (h : 13 + n ≤ N) : stage n N cs 0 = List.replicate N 0 := by
  rw [stage, List.take_zero, List.nil_append, List.replicate_append_replicate]; congr 1; omega
theorem stage_len (n N : Nat) (cs : List Int) (t : Nat) (h : 13 + n + t ≤ N) (ht : t ≤ 5 * cs.length) : (stage n N cs t).length = N := by
  simp [stage, codeW_len]; omega
theorem stage_next (n N : Nat) (cs : List Int) (t : Nat) (h : 13 + n + t < N) (ht : t < 5 * cs.length) : (stage n N cs t).set (13 + n + t) ((codeW cs).getD t 0) = stage n N cs (t + 1) := by
  have hl : t < (codeW cs).length := by rw [codeW_len]; exact ht
  have hz : List.replicate (N - (13 + n) - t) (0 : Int) = 0 :: List.replicate (N - (13 + n) - (t + 1)) 0 := by
    rw [← List.replicate_succ]; congr 1; omega
  have e2 : (codeW cs).take (t + 1) = (codeW cs).take t ++ [(codeW cs).getD t 0] := by
    rw [List.take_add_one, List.getElem?_eq_getElem hl, List.getD_eq_getElem?_getD, List.getElem?_eq_getElem hl]; rfl
  rw [stage, stage, List.set_append_right _ _ (by simp), List.length_replicate, show 13 + n + t - (13 + n) = t by omega, List.set_append_right _ _ (by simp; omega), List.length_take, show t - min t (codeW cs).length = 0 by omega, hz, List.set_cons_zero, e2, List.append_assoc]
  rfl
/-- The memory when the beginning is copied in. -/
def whole (N : Nat) (cs : List Int) : List Int := Boot.words N (ents cs.length) ++ (codeW cs ++ List.replicate (N - (13 + cs.length) - 5 * cs.length) 0)
theorem whole_of (N : Nat) (cs : List Int) : Boot.words N (ents cs.length) ++ (stage cs.length N cs (5 * cs.length)).drop (13 + cs.length) = whole N cs := by
  rw [whole, stage, List.drop_append_of_le_length (by simp), List.drop_of_length_le (by simp), List.nil_append, List.take_of_length_le (by rw [codeW_len]; omega)]
theorem whole_lies (N : Nat) (cs : List Int) (h0 : 256 ≤ N) (h1 : N ≤ 3000) (hn : cs.length ≤ 16) (hc : ∀ c ∈ cs, 0 ≤ c ∧ c < 256) : Lies (whole N cs) N cs := by
  have hb : (Boot.words N (ents cs.length)).length = cs.length + 13 := by rw [Boot.words_len, ents_len]
  have hI : (Boot.ins N (ents cs.length) (ents cs.length).length).length = cs.length + 2 := by rw [Boot.ins_len, ents_len]
  have front : ∀ k, k < cs.length + 13 → (whole N cs).getD k 0 = (Boot.words N (ents cs.length)).getD k 0 := by
    intro k hk
    rw [whole, List.getD_eq_getElem?_getD, List.getElem?_append_left (by omega), ← List.getD_eq_getElem?_getD]
  have word : ∀ k x, (Boot.ins N (ents cs.length) (ents cs.length).length ++ Boot.fin)[k]? = some x → (Boot.words N (ents cs.length)).getD (8 + k) 0 = x.E := by
    intro k x hx
    rw [Boot.words, List.getD_eq_getElem?_getD, List.getElem?_append_right (by simp [Boot.zeros]), show 8 + k - Boot.zeros.length = k by simp [Boot.zeros], List.getElem?_map, hx]
    rfl
  refine ⟨?_, h0, h1, hn, hc, ?_, ?_, ?_, ?_, ?_⟩
  · rw [whole, List.length_append, hb, List.length_append, codeW_len, List.length_replicate]; omega
  · rw [front 8 (by omega)]; exact word 0 _ rfl
  · rw [front 9 (by omega)]; exact word 1 _ rfl
  · intro i hi
    rw [front _ (by omega), show 10 + i = 8 + (2 + i) by omega]
    have e := word (2 + i) (Boot.call (ent cs.length i - (10 + i) - 1)) (by
      rw [List.getElem?_append_left (by omega), Boot.ins, List.getElem?_append_right (by simp), show 2 + i - [Boot.hi (4 * (N : Int) / 65536), Boot.lo (4 * (N : Int) % 65536)].length = i by simp, Boot.calls, List.getElem?_map, List.getElem?_range (by rw [ents_len]; exact hi)]
      rw [Option.map_some, ents_get _ _ hi])
    exact e
  · intro j hj
    rw [front _ (by omega), show 10 + cs.length + j = 8 + (cs.length + 2 + j) by omega]
    refine word (cs.length + 2 + j) _ ?_
    rw [List.getElem?_append_right (by omega), hI, show cs.length + 2 + j - (cs.length + 2) = j by omega]
    have h3 : j = 0 ∨ j = 1 ∨ j = 2 := by omega
    rcases h3 with rfl | rfl | rfl <;> rfl
  · intro i hi j hj
    rw [whole, List.getD_eq_getElem?_getD, List.getElem?_append_right (by omega), hb, List.getElem?_append_left (by rw [codeW_len]; omega), ← List.getD_eq_getElem?_getD, show 13 + cs.length + 5 * i + j - (cs.length + 13) = 5 * i + j by omega]
    exact codeW_get cs i j hi hj
theorem ents_ok (N n : Nat) (h0 : 256 ≤ N) (h1 : N ≤ 3000) (hn : n ≤ 16) : Boot.ok N (ents n) = true := by
  simp only [Boot.ok, Boot.sized, Boot.inside, Bool.and_eq_true, decide_eq_true_eq, ents_len]
  refine ⟨⟨by omega, hn⟩, fun i hi => ?_⟩
  rw [ents_get _ _ hi, ent]
  omega
theorem whole_w32 (N : Nat) (cs : List Int) : ∀ x ∈ whole N cs, Mc.W32 x := by
  intro x hx
  rw [whole, List.mem_append, List.mem_append] at hx
  rcases hx with h | h | h
  · rw [Boot.words, List.mem_append] at h
    rcases h with h | h
    · simp [Boot.zeros] at h; subst h; simp [Mc.W32]
    · obtain ⟨y, _, rfl⟩ := List.mem_map.1 h; exact E_w32 y
  · obtain ⟨c, _, h⟩ := List.mem_flatMap.1 h
    obtain ⟨y, _, rfl⟩ := List.mem_map.1 h
    exact E_w32 y
  · rw [List.eq_of_mem_replicate h]; simp [Mc.W32]
end ImgRun

end Go.Proofs.Ytefgajojimkdiaa
