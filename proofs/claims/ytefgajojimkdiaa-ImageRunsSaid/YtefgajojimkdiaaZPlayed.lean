/-
  'append(s, make([]T, m)...)' onto a slice of one's own: one law for the walk, whether there is room or not.
-/
import Derived.Test.YtefgajojimkdiaaProg
import Derived.WalkKit
import Derived.OwnWalk
import Derived.Lib.AppendZerosOnto
import Derived.Maps.AppendAt
import Derived.Test.YtefgajojimkdiaaZCpuStep
import Derived.Test.YtefgajojimkdiaaZMem
import Derived.Test.YtefgajojimkdiaaZCpuKit
import Derived.Deep.RegionHeld3
namespace Go.Proofs.Ytefgajojimkdiaa
set_option linter.unusedVariables false
set_option linter.unusedSimpArgs false
open Go.RowKit

theorem zeros_one (z : Value) (m : Nat) (h1 : ∀ u ∈ z.cells.toList, u.oneCell' = true) (hzs : 0 < z.cells.size) : ∀ u ∈ (Builtin.zeroCells z.cells m).toList, u.oneCell' = true := by
  intro u hu
  simp only [Builtin.zeroCells, Array.toList_map, List.mem_map] at hu
  obtain ⟨k, _, rfl⟩ := hu
  have hk : k % z.cells.size < z.cells.size := Nat.mod_lt _ hzs
  rw [getElem!_pos z.cells (k % z.cells.size) hk]
  exact h1 _ (by simp)

theorem run_app_zeros {P : Program} (w : World) (base : Nat) (t tn ty e : TypeId) (i : TypeInfo) (z : Value) (kq kn : IntKind) (size bytes : Nat) (ht : P.underlying t = some (.slice e)) (htn : P.underlying tn = some (.int kn)) (hi : P.info? e = some i) (hz : i.zero = some z)
    (hsize : i.size = size) (hby : i.bytes = bytes) (hzs : z.cells.size = size) (hsz : 0 < size) (h1 : ∀ u ∈ z.cells.toList, u.oneCell' = true)
    (v : Value) (n : Nat) (xs : List Value) (hown : w.ownsRow base e size v n xs) (m : Nat) (h0 : 0 < m)
    (h63 : n + m ≤ maxLen) (hbytes : (n + m) * bytes ≤ 140737488355328) (hbase : base ≤ w.heap.size) :
    ∃ v' w', (Builtin.append_ #[t, tn] ty #[v, .int kq m]).run P w = .ok v' w' ∧ w'.ownsRow base e size v' (n + m) (xs ++ (Builtin.zeroCells z.cells m).toList) ∧ w.grownBy w' v.ownBlock := by
  subst hsize
  subst hby
  have hsmall : n + m ≤ 9223372036854775807 := by simp only [maxLen] at h63; omega
  have hm48 : m * i.bytes ≤ 281474976710656 := by
    have : m * i.bytes ≤ (n + m) * i.bytes := Nat.mul_le_mul_right _ (by omega)
    omega
  have hl : (Builtin.zeroCells z.cells m).toList.length = m * i.size := by rw [Array.length_toList, size_zeroCells, hzs]
  have hlen : (xs ++ (Builtin.zeroCells z.cells m).toList).length = (n + m) * i.size := by rw [List.length_append, hown.1, hl, Nat.add_mul]
  have grown : ∀ (old : Nat), old < n + m → ∀ (row : Option Nat),
      (w.drew.alloc (.cells (xs.toArray ++ Builtin.zeroCells z.cells m ++ Builtin.zeroCells z.cells (grownCap w (n + m) old e - (n + m))) e)).ownsRow base e i.size
        (.slice (some ⟨w.heap.size, 0, none⟩) (n + m) (grownCap w (n + m) old e)) (n + m) (xs ++ (Builtin.zeroCells z.cells m).toList) ∧
      w.grownBy (w.drew.alloc (.cells (xs.toArray ++ Builtin.zeroCells z.cells m ++ Builtin.zeroCells z.cells (grownCap w (n + m) old e - (n + m))) e)) row := by
    intro old ho row
    have hge := grownCap_ge w (n + m) old e
    have hcm : grownCap w (n + m) old e ≤ maxLen := grownCap_le_maxLen w (n + m) old e h63
    refine ⟨⟨hlen, .inr ⟨w.heap.size, _, _, rfl, hbase, heap_alloc_new w.drew _, hge, hcm, ?_, ?_⟩⟩, ⟨rfl, rfl, rfl, by simp, fun k hk _ => heap_alloc_old w.drew _ hk⟩⟩
    · simp only [Array.size_append, List.size_toArray, size_zeroCells, hzs, hown.1, ← Nat.add_mul]
      congr 1
      omega
    · simp only [Array.toList_append, List.append_assoc]
      rw [← List.append_assoc, ← hlen]
      exact List.take_left
  rcases hown.2 with ⟨rfl, rfl⟩ | ⟨g, cap, cur, rfl, hbg, hg, hnc, hcm, hcs, htake⟩
  · have hx : xs = [] := List.eq_nil_of_length_eq_zero (by simpa using hown.1)
    subst hx
    have hr := Lib.run_append_nil_zeros (P := P) w t tn ty e i z kq kn ht htn hi hz m h0 hsz (by omega) hm48
    have hgr := grown 0 (by omega) (Value.ownBlock (.slice none 0 0))
    simp only [Nat.zero_add, List.nil_append, Array.empty_append] at hgr ⊢
    exact ⟨_, _, hr, hgr.1, hgr.2⟩
  · by_cases hroom : n + m ≤ cap
    · have hfit : n * i.size + (Builtin.zeroCells z.cells m).toList.length ≤ cur.size := by rw [hl, hcs, ← Nat.add_mul]; exact Nat.mul_le_mul_right _ hroom
      have hst := run_storeCells_at P g (n * i.size) e (Builtin.zeroCells z.cells m).toList 0 cur w hg (by simpa using hfit) (zeros_one z m h1 (by omega))
      simp only [Nat.add_zero] at hst
      have hr : (Builtin.append_ #[t, tn] ty #[.slice (some ⟨g, 0, none⟩) n cap, .int kq m]).run P w =
          .ok (.slice (some ⟨g, 0, none⟩) (n + m) cap) (w.setRow g (cur.toList.take (n * i.size) ++ (Builtin.zeroCells z.cells m).toList ++ cur.toList.drop (n * i.size + (Builtin.zeroCells z.cells m).toList.length)).toArray) := by
        have hw : IntKind.i64.wrap (m : Int) = m := by rw [IntKind.wrap_i64]; omega
        have hneg : ¬ ((m : Int) < 0) := by omega
        have hns : ¬ (m * i.size = 0) := Nat.mul_ne_zero (by omega) (by omega)
        have h48i : ¬ (281474976710656 < (m : Int) * (i.bytes : Int)) := by
          rw [← Int.natCast_mul]
          omega
        simp [Builtin.append_, run_underlying ht, run_underlying htn, sizeOf, typeInfo, zeroValue, hi, hz, asInt, asIntOf, hw, hneg, hns, h48i, hroom, Addr.add_lit, hst]
      refine ⟨_, _, hr, ⟨hlen, .inr ⟨g, cap, _, rfl, hbg, setRow_heap w g cur _ e _ hg, hroom, hcm, ?_, ?_⟩⟩, ⟨rfl, rfl, rfl, by simp, fun k _ hk => setRow_other w g k _ (fun e => hk (by simp [Value.ownBlock, e]))⟩⟩
      · simp only [List.size_toArray, List.length_append, List.length_take, List.length_drop, Array.length_toList]
        simp only [Array.length_toList] at hfit
        omega
      · rw [htake, ← hlen]
        exact List.take_left
    · have holds : ∀ j u, xs[j]? = some u → w.cell? ((⟨g, 0, none⟩ : Addr).add j) = some u := hown.cells (g := g) rfl
      have hold := run_firstCells_some (P := P) w.drew i.size n ⟨g, 0, none⟩ n cap xs (by rw [hown.1]) holds
      have hr := Lib.run_append_grow_zeros (P := P) w t tn ty e i z kq kn ht htn hi hz (some ⟨g, 0, none⟩) n cap xs hold m h0 hsz (by omega) (by omega) hm48 (growslice_fits (by omega) hbytes)
      have hgr := grown cap (by omega) (Value.ownBlock (.slice (some ⟨g, 0, none⟩) n cap))
      exact ⟨_, _, hr, hgr.1, hgr.2⟩
theorem wpList_app_zeros {P : Program} {ops : Array Oper} {rest : List Oper} {o : Oper} {a : Act} {Q : Exit → Act → World → Prop} (w : World) (hgd : o.guard = none) (s x : Operand) (t tn : TypeId)
    (ho : o.op = .call { callee := .builtin .append, args := #[s, x], argTypes := #[t, tn] })
    (base : Nat) (e : TypeId) (i : TypeInfo) (z : Value) (kq kn : IntKind) (size bytes : Nat) (ht : P.underlying t = some (.slice e)) (htn : P.underlying tn = some (.int kn)) (hi : P.info? e = some i) (hz : i.zero = some z)
    (hsize : i.size = size) (hby : i.bytes = bytes) (hzs : z.cells.size = size) (hsz : 0 < size) (h1 : ∀ u ∈ z.cells.toList, u.oneCell' = true)
    (v : Value) (n : Nat) (xs : List Value) (hs : a.eval s = v) (hown : w.ownsRow base e size v n xs) (m : Nat) (hx : a.eval x = .int kq m) (h0 : 0 < m)
    (h63 : n + m ≤ maxLen) (hbytes : (n + m) * bytes ≤ 140737488355328) (hbase : base ≤ w.heap.size)
    (h : ∀ v' w', w'.ownsRow base e size v' (n + m) (xs ++ (Builtin.zeroCells z.cells m).toList) → w.grownBy w' v.ownBlock → wpList P ops Q rest (a.put o.dst v') w') :
    wpList P ops Q (o :: rest) a w := by
  obtain ⟨v', w', hr, h2, h3⟩ := run_app_zeros (P := P) w base t tn o.type e i z kq kn size bytes ht htn hi hz hsize hby hzs hsz h1 v n xs hown m h0 h63 hbytes hbase
  exact Lib.wpList_append_run w hgd s x t tn ho v _ hs hx v' w' hr (h v' w' h2 h3)

end Go.Proofs.Ytefgajojimkdiaa

/-
  What the small programs of the machine's statements come to. No program in sight.
-/
namespace Go.Proofs.Ytefgajojimkdiaa
set_option linter.unusedVariables false
set_option linter.unusedSimpArgs false
open Go.RowKit Bw

/-- The words of instructions, and eight more. -/
def playW (l : List Ins) : List Int := l.map Ins.E ++ List.replicate 8 0
theorem E_w32 (x : Ins) : Mc.W32 x.E := by
  unfold Ins.E
  split
  · rename_i h; exact Ins.enc_bd x h
  · simp [Mc.W32]
theorem playW_w32 (l : List Ins) : ∀ x ∈ playW l, Mc.W32 x := by
  intro x hx
  rcases List.mem_append.1 hx with h | h
  · obtain ⟨y, _, rfl⟩ := List.mem_map.1 h; exact E_w32 y
  · rw [List.eq_of_mem_replicate h]; simp [Mc.W32]
theorem playW_len (l : List Ins) : (playW l).length = l.length + 8 := by simp [playW]
/-- The instruction at a place is done. -/
theorem step_at {l : List Ins} {m : Mc} (k : Nat) (x : Ins) (hm : m.mem = playW l) (hp : m.pc = k) (hx : l[k]? = some x) (hg : x.good = true) : m.step = ({ m with pc := (k : Int) + 1 } : Mc).does x := by
  have hk : k < l.length := (List.getElem?_eq_some_iff.1 hx).1
  have hw : m.mem.getD m.pc.toNat 0 = x.enc := by
    rw [hm, hp, Int.toNat_natCast, playW, List.getD_eq_getElem?_getD, List.getElem?_append_left (by simpa using hk), List.getElem?_map, hx]
    simp [Ins.E, hg]
  unfold Mc.step
  have hs : m.pc < m.size := by rw [Mc.size, hm, playW_len, hp]; omega
  rw [if_pos hs]
  simp only [hw]
  rw [(Ins.dec_enc x hg).1, if_pos (Ins.dec_enc x hg).2, hp]

theorem run_one (m : Mc) (n : Nat) (h : m.en = 0) : m.run (n + 1) = m.step.run n := by rw [Mc.run, if_pos h]
theorem steps_one (m : Mc) (n : Nat) (h : m.en = 0) : m.steps (n + 1) = m.step.steps n + 1 := by rw [Mc.steps, if_pos h]
/-- The instructions of Calls. -/
def callsIns (k : Nat) (c : Int) : List Ins := [⟨3, true, true, c, 0, 0, 0, k + 1⟩, ⟨1, false, false, 2, 2, 0, 8, 1⟩] ++ (List.replicate k ⟨1, false, false, 3, 3, 0, 8, 1⟩ ++ [⟨3, false, false, 7, 0, 15, 0, 0⟩])
def callsM (k : Nat) (c : Int) : Mc := (Mc.start (playW (callsIns k c)) 0 ⟨#[]⟩).run 2
def callsOk (k : Nat) (b : Bool) : Bool :=
  decide ((callsM k (if b then 7 else 15)).en = 0) && decide ((callsM k (if b then 7 else 15)).pc = if b then 1 else 2) && decide ((callsM k (if b then 7 else 15)).r.getD 15 0 = if b then 4 else 0) && decide ((callsM k (if b then 7 else 15)).r.getD 2 0 = if b then 0 else 1) &&
    (callsIns k (if b then 7 else 15)).all Ins.good
theorem calls_all : (List.range 20).all (fun k => callsOk k true && callsOk k false) = true := by decide +kernel
theorem calls_law (k : Nat) (hk : k < 20) (b : Bool) : callsOk k b = true := by
  have h := List.all_eq_true.1 calls_all k (by simpa using hk)
  rw [Bool.and_eq_true] at h
  cases b
  · exact h.2
  · exact h.1

/-- The instructions of Loads. -/
def loadsIns (w a : Int) : List Ins := [⟨1, true, false, a, 0, 0, 0, w / 65536⟩, ⟨1, false, false, a, a, 0, 6, w % 65536⟩, ⟨0, true, true, (a + 1) % 16, 0, 0, 0, 0⟩]
def loadsM (w a : Int) : Mc := (Mc.start (playW (loadsIns w a)) 0 ⟨#[]⟩).run 3
def loadsF (w : Int) : Int := (if 2147483648 ≤ w then 2147483648 else 0) + (if w = 0 then 1073741824 else 0)
theorem good_of (x : Ins) (h : x.good = true) : x.good = true := h
theorem loads_good (w a : Int) (hw : Mc.W32 w) (ha : 0 ≤ a ∧ a < 16) : ∀ x ∈ loadsIns w a, x.good = true := by
  unfold Mc.W32 at hw
  intro x hx
  simp only [loadsIns, List.mem_cons, List.not_mem_nil, or_false] at hx
  rcases hx with rfl | rfl | rfl
  · simp [Ins.good, Ins.half, Ins.inb, Ins.uop]; omega
  · simp [Ins.good, Ins.half, Ins.inb, Ins.uop]; omega
  · simp [Ins.good, Ins.half, Ins.inb, Ins.uop]; omega
theorem or_parts (w : Int) (hw : Mc.W32 w) : bits .or .u32 (w / 65536 * 65536 % 4294967296) (w % 65536) = w := by
  unfold Mc.W32 at hw
  rw [or_add _ _ 16 (by omega) (by omega) (by omega) (by omega) (by omega) (by omega)]
  omega
theorem loads_law (w a : Int) (hw : Mc.W32 w) (ha : 0 ≤ a ∧ a < 16) :
    (loadsM w a).en = 0 ∧ (loadsM w a).pc = 3 ∧ (loadsM w a).r.getD a.toNat 0 = w ∧ (loadsM w a).r.getD ((a + 1) % 16).toNat 0 = loadsF w := by
  have g := loads_good w a hw ha
  have ho := or_parts w hw
  obtain ⟨k, rfl⟩ : ∃ k : Nat, a = k := ⟨a.toNat, by omega⟩
  obtain ⟨b, hb⟩ : ∃ b : Nat, ((k : Int) + 1) % 16 = b := ⟨(((k : Int) + 1) % 16).toNat, by omega⟩
  have hk : k < 16 := by omega
  have hb16 : b < 16 := by omega
  have hkb : k ≠ b := by omega
  have e1 : (Mc.start (playW (loadsIns w k)) 0 ⟨#[]⟩).step = ⟨(List.replicate 16 0).set k (w / 65536 * 65536 % 4294967296), 0, ⟨decide (2147483648 ≤ w / 65536 * 65536 % 4294967296), decide (w / 65536 * 65536 % 4294967296 = 0), false, false⟩, 1, playW (loadsIns w k), ⟨#[]⟩, 0, [], 0, 0⟩ := by
    rw [step_at (l := loadsIns w k) 0 _ rfl rfl rfl (g _ (by simp [loadsIns]))]
    simp [Mc.does, Mc.reckons, Mc.sets, Mc.start]
  have e2 : ∀ f : Bool × Bool, (Mc.mk ((List.replicate 16 0).set k (w / 65536 * 65536 % 4294967296)) 0 ⟨f.1, f.2, false, false⟩ 1 (playW (loadsIns w k)) ⟨#[]⟩ 0 [] 0 0).step = ⟨(List.replicate 16 0).set k w, 0, ⟨decide (2147483648 ≤ w), decide (w = 0), false, false⟩, 2, playW (loadsIns w k), ⟨#[]⟩, 0, [], 0, 0⟩ := by
    intro f
    rw [step_at (l := loadsIns w k) 1 _ rfl rfl rfl (g _ (by simp [loadsIns]))]
    have h1 : (w % 65536) % 65536 = w % 65536 := by omega
    simp [Mc.does, Mc.reckons, Mc.opnd, Mc.reg, Alu.R, Alu.H, Alu.F, Alu.C, Alu.V, h1, hk, ho]
  have e3 : (Mc.mk ((List.replicate 16 0).set k w) 0 ⟨decide (2147483648 ≤ w), decide (w = 0), false, false⟩ 2 (playW (loadsIns w k)) ⟨#[]⟩ 0 [] 0 0).step = ⟨((List.replicate 16 0).set k w).set b (loadsF w), 0, ⟨decide (2147483648 ≤ loadsF w), decide (loadsF w = 0), false, false⟩, 3, playW (loadsIns w k), ⟨#[]⟩, 0, [], 0, 0⟩ := by
    rw [step_at (l := loadsIns w k) 2 _ rfl rfl rfl (g _ (by simp [loadsIns]))]
    have h1 : Mc.packed ⟨decide (2147483648 ≤ w), decide (w = 0), false, false⟩ = loadsF w := by simp [Mc.packed, loadsF]
    simp [Mc.does, Mc.reckons, Mc.sets, h1, hb]
  have hM : loadsM w k = ⟨((List.replicate 16 0).set k w).set b (loadsF w), 0, ⟨decide (2147483648 ≤ loadsF w), decide (loadsF w = 0), false, false⟩, 3, playW (loadsIns w k), ⟨#[]⟩, 0, [], 0, 0⟩ := by
    have r1 : loadsM w k = (Mc.start (playW (loadsIns w k)) 0 ⟨#[]⟩).step.run 2 := run_one _ 2 rfl
    rw [r1, e1, run_one _ 1 (by rfl), e2 (_, _), run_one _ 0 (by rfl), e3]
    rfl
  rw [hM, hb]
  refine ⟨rfl, rfl, ?_, ?_⟩
  · simp [List.getD, List.getElem?_set, hk, hkb, Ne.symm hkb]
  · simp [List.getD, List.getElem?_set, hb16]

/-- The instructions of Ports. -/
def portsIns : List Ins := [⟨1, true, false, 1, 0, 0, 0, 65535⟩, ⟨1, false, false, 1, 1, 0, 8, 65472⟩, ⟨2, false, false, 2, 1, 0, 0, 12⟩, ⟨3, true, false, 1, 0, 0, 0, 3⟩,
  ⟨2, false, false, 3, 1, 0, 0, 8⟩, ⟨2, true, false, 3, 1, 0, 0, 8⟩, ⟨3, true, false, 7, 0, 0, 0, -5⟩, ⟨2, true, false, 0, 1, 0, 0, 0⟩]
theorem ports_good : ∀ x ∈ portsIns, x.good = true := by decide +kernel
/-- The machine at the loop's head, j bytes behind. -/
def portsAt (s : ByteArray) (y z : Int) (f : Fl) (j : Nat) (out : List Int) : Mc := ⟨[0, 4294967232, y, z, 0, 0, 0, 0, 0, 0, 0, 0, 0, 0, 0, 0], 0, f, 2, playW portsIns, s, j, out, 0, 0⟩
theorem ports_begin (s : ByteArray) : ∃ f, (Mc.start (playW portsIns) 0 s).step.step = portsAt s 0 0 f 0 [] := by
  rw [step_at (l := portsIns) (m := Mc.start (playW portsIns) 0 s) 0 _ rfl rfl rfl (ports_good _ (by simp [portsIns]))]
  rw [step_at (l := portsIns) 1 _ rfl rfl rfl (ports_good _ (by simp [portsIns]))]
  exact ⟨_, rfl⟩
theorem ports_round (s : ByteArray) (y z : Int) (f : Fl) (j : Nat) (out : List Int) (hj : j < s.size) (ho : out.length < 4096) :
    ∃ f', (portsAt s y z f j out).step.step.step.step.step = portsAt s 1 ((s.data.getD j 0).toNat : Int) f' (j + 1) (out ++ [((s.data.getD j 0).toNat : Int)]) ∧
      (portsAt s y z f j out).step.en = 0 ∧ (portsAt s y z f j out).step.step.en = 0 ∧ (portsAt s y z f j out).step.step.step.en = 0 ∧ (portsAt s y z f j out).step.step.step.step.en = 0 := by
  have hb := (s.data.getD j 0).toNat_lt
  obtain ⟨f1, hf1, e1⟩ : ∃ f1 : Fl, f1.z = false ∧ (portsAt s y z f j out).step = ⟨[0, 4294967232, 1, z, 0, 0, 0, 0, 0, 0, 0, 0, 0, 0, 0, 0], 0, f1, 3, playW portsIns, s, j, out, 0, 0⟩ := by
    unfold portsAt
    rw [step_at (l := portsIns) 2 _ rfl rfl rfl (ports_good _ (by simp [portsIns]))]
    refine ⟨⟨false, false, f.c, f.v⟩, rfl, ?_⟩
    simp [Mc.does, Mc.moves, Mc.loads, Mc.reg, Mc.sets, hj]
  have e2 : (portsAt s y z f j out).step.step = ⟨[0, 4294967232, 1, z, 0, 0, 0, 0, 0, 0, 0, 0, 0, 0, 0, 0], 0, f1, 4, playW portsIns, s, j, out, 0, 0⟩ := by
    rw [e1, step_at (l := portsIns) 3 _ rfl rfl rfl (ports_good _ (by simp [portsIns]))]
    simp [Mc.does, Mc.jumps, Alu.holds, Alu.base, hf1]
  obtain ⟨f3, e3⟩ : ∃ f3 : Fl, (portsAt s y z f j out).step.step.step = ⟨[0, 4294967232, 1, ((s.data.getD j 0).toNat : Int), 0, 0, 0, 0, 0, 0, 0, 0, 0, 0, 0, 0], 0, f3, 5, playW portsIns, s, j + 1, out, 0, 0⟩ := by
    rw [e2, step_at (l := portsIns) 4 _ rfl rfl rfl (ports_good _ (by simp [portsIns]))]
    refine ⟨⟨decide (2147483648 ≤ ((s.data.getD j 0).toNat : Int)), decide (((s.data.getD j 0).toNat : Int) = 0), f1.c, f1.v⟩, ?_⟩
    simp [Mc.does, Mc.moves, Mc.loads, Mc.reg, Mc.sets, Mc.inByte, hj]
  have e4 : (portsAt s y z f j out).step.step.step.step = ⟨[0, 4294967232, 1, ((s.data.getD j 0).toNat : Int), 0, 0, 0, 0, 0, 0, 0, 0, 0, 0, 0, 0], 0, f3, 6, playW portsIns, s, j + 1, out ++ [((s.data.getD j 0).toNat : Int)], 0, 0⟩ := by
    rw [e3, step_at (l := portsIns) 5 _ rfl rfl rfl (ports_good _ (by simp [portsIns]))]
    have h1 : out.length ≠ 4096 := by omega
    have h2 : ((s.data.getD j 0).toNat : Int) % 256 = ((s.data.getD j 0).toNat : Int) := by omega
    generalize ((s.data.getD j 0).toNat : Int) = x at *
    simp [Mc.does, Mc.moves, Mc.stores, Mc.reg, h1, h2]
  refine ⟨f3, ?_, ?_, ?_, ?_, ?_⟩
  · rw [e4, step_at (l := portsIns) 6 _ rfl rfl rfl (ports_good _ (by simp [portsIns]))]
    simp [Mc.does, Mc.jumps, Alu.holds, Alu.base, portsAt]
  · rw [e1]
  · rw [e2]
  · rw [e3]
  · rw [e4]
theorem ports_end (s : ByteArray) (y z : Int) (f : Fl) (out : List Int) :
    (portsAt s y z f s.size out).step.step.step.en = 1 ∧ (portsAt s y z f s.size out).step.step.step.out = out ∧ (portsAt s y z f s.size out).step.step.step.read = s.size ∧
      (portsAt s y z f s.size out).step.en = 0 ∧ (portsAt s y z f s.size out).step.step.en = 0 := by
  obtain ⟨f1, hf1, e1⟩ : ∃ f1 : Fl, f1.z = true ∧ (portsAt s y z f s.size out).step = ⟨[0, 4294967232, 0, z, 0, 0, 0, 0, 0, 0, 0, 0, 0, 0, 0, 0], 0, f1, 3, playW portsIns, s, s.size, out, 0, 0⟩ := by
    unfold portsAt
    rw [step_at (l := portsIns) 2 _ rfl rfl rfl (ports_good _ (by simp [portsIns]))]
    refine ⟨⟨false, true, f.c, f.v⟩, rfl, ?_⟩
    simp [Mc.does, Mc.moves, Mc.loads, Mc.reg, Mc.sets]
  have e2 : (portsAt s y z f s.size out).step.step = ⟨[0, 4294967232, 0, z, 0, 0, 0, 0, 0, 0, 0, 0, 0, 0, 0, 0], 0, f1, 7, playW portsIns, s, s.size, out, 0, 0⟩ := by
    rw [e1, step_at (l := portsIns) 3 _ rfl rfl rfl (ports_good _ (by simp [portsIns]))]
    simp [Mc.does, Mc.jumps, Alu.holds, Alu.base, hf1]
  have e3 : (portsAt s y z f s.size out).step.step.step = ⟨[0, 4294967232, 0, z, 0, 0, 0, 0, 0, 0, 0, 0, 0, 0, 0, 0], 0, f1, 8, playW portsIns, s, s.size, out, 1, 0⟩ := by
    rw [e2, step_at (l := portsIns) 7 _ rfl rfl rfl (ports_good _ (by simp [portsIns]))]
    simp [Mc.does, Mc.moves, Mc.stores, Mc.reg]
  rw [e3, e2, e1]
  exact ⟨rfl, rfl, rfl, rfl, rfl⟩
/-- A text's bytes as numbers. -/
def bytesI (s : ByteArray) : List Int := s.data.toList.map fun b => (b.toNat : Int)
theorem bytesI_next (s : ByteArray) (j : Nat) (h : j < s.size) : (bytesI s).take (j + 1) = (bytesI s).take j ++ [((s.data.getD j 0).toNat : Int)] := by
  have hl : j < s.data.size := h
  rw [List.take_add_one]
  have e : (bytesI s)[j]? = some ((s.data.getD j 0).toNat : Int) := by
    rw [bytesI, List.getElem?_map, Array.getElem?_toList, Array.getElem?_eq_getElem hl, Array.getD_eq_getD_getElem?, Array.getElem?_eq_getElem hl]
    rfl
  rw [e]
  rfl
theorem strOf_bytesI (s : ByteArray) : strOfNums (bytesI s) = s := by
  apply ByteArray.ext
  simp [strOfNums, bytesI, Function.comp_def]
theorem ports_loop (s : ByteArray) (hs : s.size ≤ 500) : ∀ (d j : Nat) (y z : Int) (f : Fl), j + d = s.size →
    ((portsAt s y z f j ((bytesI s).take j)).run (5 * d + 3)).en = 1 ∧ ((portsAt s y z f j ((bytesI s).take j)).run (5 * d + 3)).out = bytesI s ∧ ((portsAt s y z f j ((bytesI s).take j)).run (5 * d + 3)).read = s.size ∧
      (portsAt s y z f j ((bytesI s).take j)).steps (5 * d + 3) = 5 * d + 3 := by
  have hl : (bytesI s).length = s.size := by rw [bytesI, List.length_map, Array.length_toList]; rfl
  intro d
  induction d with
  | zero =>
    intro j y z f hj
    obtain rfl : j = s.size := by omega
    obtain ⟨h1, h2, h3, h4, h5⟩ := ports_end s y z f ((bytesI s).take s.size)
    have h0 : (portsAt s y z f s.size ((bytesI s).take s.size)).en = 0 := rfl
    have e : (portsAt s y z f s.size ((bytesI s).take s.size)).run (5 * 0 + 3) = (portsAt s y z f s.size ((bytesI s).take s.size)).step.step.step := by
      rw [run_one _ _ h0, run_one _ _ h4, run_one _ _ h5]; rfl
    have e' : (portsAt s y z f s.size ((bytesI s).take s.size)).steps (5 * 0 + 3) = 3 := by
      rw [steps_one _ _ h0, steps_one _ _ h4, steps_one _ _ h5]; rfl
    rw [e, e', h1, h2, h3, List.take_of_length_le (by omega)]
    exact ⟨rfl, rfl, rfl, rfl⟩
  | succ d ih =>
    intro j y z f hj
    obtain ⟨f', h1, h2, h3, h4, h5⟩ := ports_round s y z f j ((bytesI s).take j) (by omega) (by simp; omega)
    have h0 : (portsAt s y z f j ((bytesI s).take j)).en = 0 := rfl
    rw [show 5 * (d + 1) + 3 = (5 * d + 3) + 1 + 1 + 1 + 1 + 1 by omega]
    rw [run_one _ _ h0, run_one _ _ h2, run_one _ _ h3, run_one _ _ h4, run_one _ _ h5, h1]
    rw [steps_one _ _ h0, steps_one _ _ h2, steps_one _ _ h3, steps_one _ _ h4, steps_one _ _ h5, h1]
    rw [← bytesI_next s j (by omega)]
    obtain ⟨i1, i2, i3, i4⟩ := ih (j + 1) 1 ((s.data.getD j 0).toNat : Int) f' (by omega)
    exact ⟨i1, i2, i3, by rw [i4]⟩
theorem ports_law (s : ByteArray) (hs : s.size ≤ 500) :
    ((Mc.start (playW portsIns) 0 s).run 10000).en = 1 ∧ strOfNums ((Mc.start (playW portsIns) 0 s).run 10000).out = s ∧ ((Mc.start (playW portsIns) 0 s).run 10000).read = s.size ∧ (Mc.start (playW portsIns) 0 s).steps 10000 = 5 + 5 * s.size := by
  obtain ⟨f, h⟩ := ports_begin s
  obtain ⟨h1, h2, h3, h4⟩ := ports_loop s hs s.size 0 0 0 f (by omega)
  rw [show (bytesI s).take 0 = [] from rfl, ← h] at h1 h2 h3 h4
  have hs1 : (Mc.start (playW portsIns) 0 s).step.en = 0 := by
    rw [step_at (l := portsIns) (m := Mc.start (playW portsIns) 0 s) 0 _ rfl rfl rfl (ports_good _ (by simp [portsIns]))]; rfl
  have e : (Mc.start (playW portsIns) 0 s).run (5 * s.size + 3 + 1 + 1) = (Mc.start (playW portsIns) 0 s).step.step.run (5 * s.size + 3) := by
    rw [run_one _ _ rfl, run_one _ _ hs1]
  have e' : (Mc.start (playW portsIns) 0 s).steps (5 * s.size + 3 + 1 + 1) = (Mc.start (playW portsIns) 0 s).step.step.steps (5 * s.size + 3) + 1 + 1 := by
    rw [steps_one _ _ rfl, steps_one _ _ hs1]
  obtain ⟨r1, r2⟩ := run_stop (Mc.start (playW portsIns) 0 s) (5 * s.size + 3 + 1 + 1) 10000 (by omega) (by rw [e, h1]; decide)
  rw [r1, r2, e, e', h1, h2, h3, h4]
  exact ⟨rfl, strOf_bytesI s, rfl, by omega⟩

end Go.Proofs.Ytefgajojimkdiaa

/-
  Instructions laid, put into a machine, run: played, walked.
-/
namespace Go.Proofs.Ytefgajojimkdiaa
set_option linter.unusedVariables false
set_option linter.unusedSimpArgs false
open Go.RowKit Bw

theorem good_fits (x : Ins) (h : x.good = true) : x.fits := by
  have h1 := Ins.enc_bd x h
  have h2 := Ins.dec_fits x.enc h1.1 h1.2
  rwa [(Ins.dec_enc x h).1] at h2
theorem zeros8 : (Builtin.zeroCells (Value.int .u32 0).cells 8).toList = (List.replicate 8 (0 : Int)).map (Value.int .u32) := by kernel_rfl

/-- An Outcome's cells. -/
structure PIn (b : Nat) (E0 T0 : Int) (S0 : ByteArray) (ST R0 : Int) (w : World) : Prop where
  c0 : w.cell? ⟨b, 0, none⟩ = some (.int .i64 E0)
  c1 : w.cell? ⟨b, 1, none⟩ = some (.int .i64 T0)
  c2 : w.cell? ⟨b, 2, none⟩ = some (.string S0)
  c3 : w.cell? ⟨b, 3, none⟩ = some (.int .i64 ST)
  c4 : w.cell? ⟨b, 4, none⟩ = some (.int .i64 R0)
theorem PIn.drew {b : Nat} {E0 T0 ST R0 : Int} {S0 : ByteArray} {w : World} (h : PIn b E0 T0 S0 ST R0 w) : PIn b E0 T0 S0 ST R0 w.drew := ⟨h.c0, h.c1, h.c2, h.c3, h.c4⟩
theorem PIn.set_ {b g : Nat} {E0 T0 ST R0 : Int} {S0 : ByteArray} {w : World} (h : PIn b E0 T0 S0 ST R0 w) (hne : g ≠ b) (k : Nat) (v : Value) : PIn b E0 T0 S0 ST R0 (w.setCell ⟨g, k, none⟩ v) := by
  have K := (Kept.refl (fun x => x ≠ g) w).setCell (p := ⟨g, k, none⟩) (fun e => e rfl) v
  exact ⟨(K.cell (p := ⟨b, 0, none⟩) hne.symm).trans h.c0, (K.cell (p := ⟨b, 1, none⟩) hne.symm).trans h.c1, (K.cell (p := ⟨b, 2, none⟩) hne.symm).trans h.c2, (K.cell (p := ⟨b, 3, none⟩) hne.symm).trans h.c3, (K.cell (p := ⟨b, 4, none⟩) hne.symm).trans h.c4⟩
theorem PIn.all {b : Nat} {E0 T0 ST R0 : Int} {S0 : ByteArray} {w : World} (h : PIn b E0 T0 S0 ST R0 w) : PIn b E0 T0 S0 ST R0 w ∧ w.cell? ⟨b, 0, none⟩ = some (.int .i64 E0) ∧ w.cell? ⟨b, 1, none⟩ = some (.int .i64 T0) ∧ w.cell? ⟨b, 2, none⟩ = some (.string S0) ∧ w.cell? ⟨b, 3, none⟩ = some (.int .i64 ST) ∧ w.cell? ⟨b, 4, none⟩ = some (.int .i64 R0) := ⟨h, h.c0, h.c1, h.c2, h.c3, h.c4⟩

/-- What played comes to. -/
def Played (w : World) (xs : List Ins) (s : ByteArray) (steps : Nat) (e : Ending) (w' : World) : Prop :=
  ∃ p mp ap ov, e = .returned (.tuple #[.pointer (some ⟨p, 0, none⟩), ((Mc.start (playW xs) 0 s).run steps).oc ((Mc.start (playW xs) 0 s).steps steps), .bool true]) ∧ Mach w' p mp ap ov ((Mc.start (playW xs) 0 s).run steps) ∧ Below w.heap.size w w'

set_option maxRecDepth 100000 in
set_option maxHeartbeats 4000000 in
theorem law05_played (xs : List Ins) (g c : Nat) (s : ByteArray) (steps : Nat) (w : World) (I : InsAt w g xs) (hg : ∀ x ∈ xs, x.good = true) (hn : xs.length ≤ 100) (hs : s.size ≤ 4096) (hst : (steps : Int) ≤ 4194304) :
    Calls Try.prog 16 #[.slice (some ⟨g, 0, none⟩) xs.length c, .string s, .int .i64 steps] w fun e w' => Played w xs s steps e w' := by
  obtain ⟨i0, hi0, hz0, hz1, hz2⟩ := info_parts u32_info
  go_enter Try.func16, Try.ntmps16
  go_wp2_with fail
  have I0 : InsAt (w.alloc (.cells #[.int .i64 0, .int .i64 0, .string ⟨#[]⟩, .int .i64 0, .int .i64 0] 28)) g xs := I.below ((Below.refl w.heap.size w).alloc (Nat.le_refl _) _) I.1
  have O0 := Lib.hid (Blk.new w 28 #[.int .i64 0, .int .i64 0, .string ⟨#[]⟩, .int .i64 0, .int .i64 0])
  have BW := (Below.refl w.heap.size w).alloc (Nat.le_refl _) (.cells #[.int .i64 0, .int .i64 0, .string ⟨#[]⟩, .int .i64 0, .int .i64 0] 28)
  generalize w.alloc _ = W at *
  have hgl := Lib.hid I0.1
  have I0 := Lib.hid I0
  have BW := Lib.hid BW
  have hg := Lib.hid hg
  obtain ⟨N, hN⟩ : ∃ N, xs.length = N := ⟨_, rfl⟩
  rw [hN] at hn
  rw [hN]
  have hlen := Lib.hid hN
  clear hN I
  go_loopw [9, 10] (fun o i wr => ∃ k : Nat, i = .int .i64 k ∧ k ≤ N ∧ wr.ownsRow W.heap.size 43 1 o k ((xs.take k).map fun x => .int .u32 x.E) ∧ Below W.heap.size W wr) (fun _ i _ => N - (intOf i).toNat)
  case atStart => exact ⟨0, rfl, by omega, World.ownsRow_nil _ _ _ _, Below.refl _ _⟩
  case round =>
    obtain ⟨k, rfl, hk, hown, hb⟩ := hrel
    have hown := Lib.hid hown
    by_cases hlt : (k : Int) < N
    · have hkl : k < xs.length := by rw [hlen.out]; omega
      have hxk : xs[k]? = some (xs[k]'hkl) := List.getElem?_eq_getElem hkl
      have hgk := Lib.hid (hg.out _ (List.mem_of_getElem? hxk))
      have hk2 : xs.take (k + 1) = xs.take k ++ [xs[k]'hkl] := by rw [List.take_add_one, hxk]; rfl
      have hk2 := Lib.hid hk2
      have hr := Lib.hid ((I0.out.below hb I0.out.1).2 k _ hxk)
      generalize xs[k]'hkl = x at *
      have s1 := Lib.hid (ins_size x)
      have s2 := Lib.hid (ins_size' x)
      have s3 := Lib.hid (ins_one x)
      have EN := fun W => Lib.hid (ref02_encode x W (good_fits x hgk.out) hgk.out)
      have hE : RowKit.Hid (x.E = x.enc) := Lib.hid (by rw [Ins.E, hgk.out]; rfl)
      clear hxk
      go_wp2_with (first | (refine wpList_load_mid rfl 24 (.tmp 26) rfl g (k * 8) rfl x.cells.toList _ hr.out Try.underlying24 rfl s2.out ?_))
      refine (EN _).out.mono ?_
      rintro e w1 ⟨rfl, hb1⟩
      have hown1 : RowKit.Hid (w1.ownsRow W.heap.size 43 1 _ k ((xs.take k).map fun x => .int .u32 x.E)) := Lib.hid (own_below hown.out hb1)
      have hb2 : Below W.heap.size W w1 := hb.trans (hb1.mono hb.size)
      clear hown hb1 hb
      go_wp2_with (at_builtin; refine wpList_append_own _ rfl (.tmp 34) (.tmp 36) 32 rfl W.heap.size 43 i0 _ 1 4 Try.underlying32 hi0 hz0 hz1 hz2 rfl (by omega) _ k _ rfl (hown1.out.alloc _) ⟨w1.heap.size, 0, none⟩ 1 1 [.int .u32 x.enc] rfl rfl (news1 w1 _ _) (by simp [Value.oneCell']) (by simp only [maxLen]; omega) (by omega) (by simp; exact Nat.le_succ_of_le hb2.size) ?_; intro v2 w2 hown2 hg2 _)
      have hown2 := Lib.hid hown2
      have hb3 : Below W.heap.size W w2 := (hb2.alloc hb2.size _).grown hg2 (by simp; exact Nat.le_succ_of_le hb2.size) (fun q hq => (hown1.out.lt q hq).1)
      go_wp2_with fail
      refine ⟨⟨k + 1, by go_num, by omega, ?_, hb3⟩, by simp [intOf]; omega⟩
      rw [hk2.out, List.map_append]
      have := hown2.out
      rw [← hE.out] at this
      exact this
    · obtain rfl : k = N := by omega
      go_wp2_with (at_builtin; refine wpList_app_zeros _ rfl (.tmp 39) (.const (.int .i64 8)) 32 3 rfl W.heap.size 43 i0 (.int .u32 0) .i64 .i64 1 4 Try.underlying32 Try.underlying3 hi0 hz0 hz1 hz2 rfl (by omega) (by simp [Value.cells, Value.oneCell']) _ k _ rfl hown.out 8 rfl (by omega) (by simp only [maxLen]; omega) (by omega) hb.size ?_; intro v2 w2 hown2 hg2)
      have hrow : w2.ownsRow W.heap.size 43 1 v2 (k + 8) ((playW xs).map (Value.int .u32)) := by
        have := hown2
        rw [zeros8, List.take_of_length_le (by rw [hlen.out]; omega)] at this
        rw [playW, List.map_append, List.map_map]
        exact this
      have hR := Lib.hid (row_of_own hrow)
      have hb3 : Below W.heap.size W w2 := hb.grown hg2 hb.size (fun q hq => (hown.out.lt q hq).1)
      have hb3 := Lib.hid hb3
      have hN := hlen.out
      clear hown2 hrow hown hb hg2 hlt hgl hlen hg I0
      go_wp2_with fail
      have hl2 := playW_len xs
      refine (cpu_new (playW xs) 0 s v2 w2 hR.out (playW_w32 xs) (by omega) hs (by omega) (by omega)).mono ?_
      rintro e w3 ⟨p, mp, ap, rfl, hp, hmp, hap, hM, hb4⟩
      have hM := Lib.hid hM
      have s3 := hb3.out.size
      have hb4 := Lib.hid (hb3.out.trans (hb4.mono s3))
      have hp := Lib.hid (Nat.le_trans s3 hp)
      have hap := Lib.hid (Nat.le_trans s3 hap)
      clear hmp hR hb3
      go_wp2_with fail
      refine (cpu_run_n W.heap.size steps p mp ap _ _ w3 hM.out hst hb4.out.size hp.out hap.out (own_nil _)).mono ?_
      rintro e w4 ⟨rfl, ov4, hM4, K4, B4, F4⟩
      obtain ⟨E0, T0, S0, R0, hoc⟩ : ∃ E0 T0 S0 R0, ((Mc.start (playW xs) 0 s).run steps).oc ((Mc.start (playW xs) 0 s).steps steps) = .agg #[.int .i64 E0, .int .i64 T0, .string S0, .int .i64 ((Mc.start (playW xs) 0 s).steps steps : Nat), .int .i64 R0] := ⟨_, _, _, _, rfl⟩
      rw [hoc]
      have hoc := Lib.hid hoc
      generalize ((Mc.start (playW xs) 0 s).steps steps : Int) = ST at *
      have hM4 := Lib.hid hM4
      have B5 := Lib.hid (hb4.out.trans B4)
      clear K4 F4 hM hb4 B4
      go_wp2_with fail
      have P4 := O0.out.below B5.out O0.out.lt
      have hne : w.heap.size ≠ w4.heap.size := by have := P4.lt; omega
      have Q5 := Blk.new w4 28 #[.int .i64 E0, .int .i64 T0, .string S0, .int .i64 ST, .int .i64 R0]
      have P5 := P4.alloc (.cells #[.int .i64 E0, .int .i64 T0, .string S0, .int .i64 ST, .int .i64 R0] 28)
      have M5 := hM4.out.alloc (.cells #[.int .i64 E0, .int .i64 T0, .string S0, .int .i64 ST, .int .i64 R0] 28)
      have B6 := BW.out.trans (B5.out.mono BW.out.size)
      have B6 := B6.alloc B6.size (.cells #[.int .i64 E0, .int .i64 T0, .string S0, .int .i64 ST, .int .i64 R0] 28)
      generalize w4.alloc _ = W5 at *
      generalize w4.heap.size = b5 at *
      obtain ⟨b7, hb7⟩ : ∃ b7, w.heap.size = b7 := ⟨_, rfl⟩
      rw [hb7] at P5 hne B6
      rw [hb7]
      have q0 := Q5.cell 0
      have q1 := Q5.cell 1
      have q2 := Q5.cell 2
      have q3 := Q5.cell 3
      have q4 := Q5.cell 4
      have z0 := P5.cell 0
      have z1 := P5.cell 1
      have z2 := P5.cell 2
      have z3 := P5.cell 3
      have z4 := P5.cell 4
      have f0 := P5.frozen 0
      have f1 := P5.frozen 1
      have f2 := P5.frozen 2
      have f3 := P5.frozen 3
      have f4 := P5.frozen 4
      simp only [List.getElem?_toArray, List.getElem?_cons_zero, List.getElem?_cons_succ] at q0 q1 q2 q3 q4 z0 z1 z2 z3 z4
      have T0' : PIn b5 E0 T0 S0 ST R0 W5 := ⟨q0, q1, q2, q3, q4⟩
      have T5 := (((((T0'.set_ hne 0 (.int .i64 E0)).set_ hne 1 (.int .i64 T0)).set_ hne 2 (.string S0)).set_ hne 3 (.int .i64 ST)).set_ hne 4 (.int .i64 R0)).drew
      have T0' := T0'.drew
      have hpn : p ≠ b7 := M5.blk.ne_ P5 (by decide)
      have hmn : mp ≠ b7 := M5.mem.1.ne_ P5 (by decide)
      have han : ap ≠ b7 := M5.mem.2.ne_ P5 (by decide)
      have hon : ∀ b, ov4.ownBlock = some b → b ≠ b7 := fun b hb e => own_blk_ne M5.out P5 (by decide) b hb e.symm
      have K6 := (((((Kept.refl (fun k => k ≠ b7) W5).then_ (p := b7) (fun e => e rfl) 0 (.int .i64 E0)).then_ (p := b7) (fun e => e rfl) 1 (.int .i64 T0)).then_ (p := b7) (fun e => e rfl) 2 (.string S0)).then_ (p := b7) (fun e => e rfl) 3 (.int .i64 ST)).then_ (p := b7) (fun e => e rfl) 4 (.int .i64 R0)
      have M6 := Lib.hid (M5.kept K6 hpn hmn han hon)
      have B7 := (((((B6.setCell (p := ⟨b7, 0, none⟩) (Nat.le_refl _) (.int .i64 E0)).setCell (p := ⟨b7, 1, none⟩) (Nat.le_refl _) (.int .i64 T0)).setCell (p := ⟨b7, 2, none⟩) (Nat.le_refl _) (.string S0)).setCell (p := ⟨b7, 3, none⟩) (Nat.le_refl _) (.int .i64 ST)).setCell (p := ⟨b7, 4, none⟩) (Nat.le_refl _) (.int .i64 R0))
      have B7 := Lib.hid B7
      have hb7 := Lib.hid hb7
      clear Q5 P5 M5 B6 K6 hpn hmn han hon q0 q1 q2 q3 q4 P4 B5 hM4 O0 BW hap hp
      go_region_held3 (fun w' => PIn b5 E0 T0 S0 ST R0 w' ∧ w'.cell? ⟨b5, 0, none⟩ = some (.int .i64 E0) ∧ w'.cell? ⟨b5, 1, none⟩ = some (.int .i64 T0) ∧ w'.cell? ⟨b5, 2, none⟩ = some (.string S0) ∧ w'.cell? ⟨b5, 3, none⟩ = some (.int .i64 ST) ∧ w'.cell? ⟨b5, 4, none⟩ = some (.int .i64 R0))
        (first | with_reducible exact PIn.all T0' | with_reducible exact PIn.all T5) (fail)
      go_wp2_with fail
      refine bodyPost_ret (by simp only [results, Try.results16]; go_simp; rfl) rfl ?_
      exact ⟨p, mp, ap, ov4, by rw [hoc.out], M6.out.drew, by rw [hb7.out]; exact B7.out.drew⟩

end Go.Proofs.Ytefgajojimkdiaa
