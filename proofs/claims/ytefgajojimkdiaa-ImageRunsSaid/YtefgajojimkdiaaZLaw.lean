/-
  Blocks that stay as they are. No program in sight.
-/
import Derived.Below
import Derived.Laws.OwnMore
import Derived.Deep.Draws
import Derived.Laws.Rows
import Derived.Laws.Tables
import Derived.StillTailTactics
import Derived.ChangeSlices
import Derived.OpenShut
import Derived.OwnWalk
import Derived.RowKit
import Derived.Laws.BitsAllLaws
import GoSem.Core.Value
namespace Go.Proofs.Ytefgajojimkdiaa
set_option linter.unusedVariables false
set_option linter.unusedSimpArgs false
open Go.RowKit

/-- Each block of S is in w' what it was in w. -/
structure Kept (S : Nat → Prop) (w w' : World) : Prop where
  os : w'.os = w.os
  tape : w'.tape = w.tape
  output : w'.output = w.output
  size : w.heap.size ≤ w'.heap.size
  block : ∀ k, S k → w'.heap[k]? = w.heap[k]?

section
variable {S S' : Nat → Prop} {a b c w w' : World}
theorem Kept.refl (S : Nat → Prop) (w : World) : Kept S w w := ⟨rfl, rfl, rfl, Nat.le_refl _, fun _ _ => rfl⟩
theorem Kept.trans (h : Kept S a b) (k : Kept S b c) : Kept S a c :=
  ⟨k.os.trans h.os, k.tape.trans h.tape, k.output.trans h.output, Nat.le_trans h.size k.size, fun i hi => (k.block i hi).trans (h.block i hi)⟩
theorem Kept.mono (h : Kept S a b) (hs : ∀ k, S' k → S k) : Kept S' a b := ⟨h.os, h.tape, h.output, h.size, fun k hk => h.block k (hs k hk)⟩
theorem Kept.drew (h : Kept S a w) : Kept S a w.drew := ⟨h.os, h.tape, h.output, h.size, h.block⟩
theorem Kept.drewN (h : Kept S a w) (n : Nat) : Kept S a (w.drewN n) := ⟨h.os, h.tape, h.output, h.size, h.block⟩
theorem Kept.alloc (h : Kept S a w) (hS : ∀ k, S k → k < w.heap.size) (o : Obj) : Kept S a (w.alloc o) :=
  h.trans ⟨rfl, rfl, rfl, by simp, fun k hk => Below.heap_alloc _ _ _ (hS k hk)⟩
theorem Kept.setCell (h : Kept S a w) {p : Addr} (hp : ¬ S p.block) (u : Value) : Kept S a (w.setCell p u) :=
  h.trans ⟨rfl, rfl, rfl, by simp [World.setCell], fun k hk => Below.heap_setCell _ _ _ _ (fun e => hp (e ▸ hk))⟩
theorem Kept.setRow (h : Kept S a w) {g : Nat} (hp : ¬ S g) (cs : Array Value) : Kept S a (w.setRow g cs) :=
  h.trans ⟨rfl, rfl, rfl, by simp [World.setRow], fun k hk => setRow_other w g k cs (fun e => hp (e ▸ hk))⟩
theorem Kept.grown (h : Kept S a w) {row : Option Nat} (hg : w.grownBy w' row) (hS : ∀ k, S k → k < w.heap.size) (hr : ∀ k, row = some k → ¬ S k) : Kept S a w' :=
  h.trans ⟨hg.os, hg.tape, hg.output, hg.size, fun k hk => hg.block k (hS k hk) (fun e => hr k e.symm hk)⟩
theorem Kept.below (h : Kept S a w) {B : Nat} (hb : Below B w w') (hS : ∀ k, S k → k < B) : Kept S a w' :=
  h.trans ⟨hb.os, hb.tape, hb.output, hb.size, fun k hk => hb.block k (hS k hk)⟩
theorem Kept.to_below (h : Kept S a w) {B : Nat} (hS : ∀ k, k < B → S k) : Below B a w := ⟨h.os, h.tape, h.output, h.size, fun k hk => h.block k (hS k hk)⟩
theorem Kept.cell (h : Kept S a w) {p : Addr} (hp : S p.block) : w.cell? p = a.cell? p := World.cell?_of_block (w := a) (h.block p.block hp)
theorem Kept.frozen (h : Kept S a w) {p : Addr} (hp : S p.block) : w.frozen? p = a.frozen? p := World.frozen?_of_block (w := a) (h.block p.block hp)
end

/-- Block g is just these cells, none frozen. -/
def Blk (w : World) (g : Nat) (t : TypeId) (cs : Array Value) : Prop := w.heap[g]? = some (.cells cs t (0, 0))

section
variable {S : Nat → Prop} {w w' : World} {g : Nat} {t : TypeId} {cs : Array Value}
theorem Blk.lt (h : Blk w g t cs) : g < w.heap.size := by
  rcases Nat.lt_or_ge g w.heap.size with hlt | hge
  · exact hlt
  · unfold Blk at h; rw [Array.getElem?_eq_none hge] at h; cases h
theorem Blk.cell (h : Blk w g t cs) (i : Nat) : w.cell? ⟨g, i, none⟩ = cs[i]? := cell_of_row w g i cs t (0, 0) h
theorem Blk.frozen (h : Blk w g t cs) (i : Nat) : w.frozen? ⟨g, i, none⟩ = false := by
  unfold Blk at h
  simp [World.frozen?, h]
theorem Blk.new (w : World) (t : TypeId) (cs : Array Value) : Blk (w.alloc (.cells cs t)) w.heap.size t cs := heap_alloc_new w _
theorem Blk.drew (h : Blk w g t cs) : Blk w.drew g t cs := h
theorem Blk.drewN (h : Blk w g t cs) (n : Nat) : Blk (w.drewN n) g t cs := h
theorem Blk.alloc (h : Blk w g t cs) (o : Obj) : Blk (w.alloc o) g t cs := (Below.heap_alloc w o g h.lt).trans h
theorem Blk.set_ (h : Blk w g t cs) (i : Nat) (u : Value) : Blk (w.setCell ⟨g, i, none⟩ u) g t (cs.setIfInBounds i u) := by
  unfold Blk at h ⊢
  simp [World.setCell, Array.getElem?_modify, h]
theorem Blk.far (h : Blk w g t cs) {p : Addr} (hp : g ≠ p.block) (u : Value) : Blk (w.setCell p u) g t cs := (Below.heap_setCell w p u g hp).trans h
theorem Blk.below {B : Nat} (h : Blk w g t cs) (hb : Below B w w') (hg : g < B) : Blk w' g t cs := (hb.block g hg).trans h
theorem Blk.grown {row : Option Nat} (h : Blk w g t cs) (hb : w.grownBy w' row) (hg : some g ≠ row) : Blk w' g t cs := (hb.block g h.lt hg).trans h
theorem Blk.kept (h : Blk w g t cs) (hb : Kept S w w') (hg : S g) : Blk w' g t cs := (hb.block g hg).trans h
theorem Blk.same (h : Blk w g t cs) {t' : TypeId} {cs' : Array Value} (h' : Blk w g t' cs') : t = t' ∧ cs = cs' := by
  unfold Blk at h h'
  rw [h] at h'
  injection h' with h'
  injection h' with h1 h2
  exact ⟨h2, h1⟩
theorem Blk.ne_ {g' : Nat} {t' : TypeId} {cs' : Array Value} (h : Blk w g t cs) (h' : Blk w g' t' cs') (hne : t ≠ t') : g ≠ g' := by
  rintro rfl
  exact hne (h.same h').1
end

theorem kcell {W w1 : World} (hb : Below W.heap.size W w1) : (∀ b o, b < W.heap.size → w1.cell? ⟨b, o, none⟩ = W.cell? ⟨b, o, none⟩) ∧ (∀ b o, b < W.heap.size → w1.frozen? ⟨b, o, none⟩ = W.frozen? ⟨b, o, none⟩) :=
  ⟨fun b o h => hb.cell (p := ⟨b, o, none⟩) h, fun b o h => hb.frozen (p := ⟨b, o, none⟩) h⟩

end Go.Proofs.Ytefgajojimkdiaa

/-
  Slices that read as lists of integers. No program in sight.
-/
namespace Go.Proofs.Ytefgajojimkdiaa
set_option linter.unusedVariables false
set_option linter.unusedSimpArgs false
open Go.RowKit

/-- The slice value v reads as l. -/
def Row (q : IntKind) (w : World) (v : Value) (l : List Int) : Prop :=
  l.length ≤ 9223372036854775807 ∧ ∃ A c, v = .slice A l.length c ∧ ∀ k, k < l.length → ∃ ad, A = some ad ∧ ad.block < w.heap.size ∧ w.cell? (ad.add k) = some (.int q (l.getD k 0))

theorem block_add (a : Addr) (n : Nat) : (a.add n).block = a.block := by unfold Addr.add; split <;> rfl
section
variable {q : IntKind} {w w' : World} {v : Value} {l : List Int}
theorem Row.nil_ : Row q w (.slice none 0 0) [] := ⟨by simp, none, 0, rfl, fun k hk => absurd hk (by simp)⟩
/-- The slice's block is kept. -/
def Row.in_ (S : Nat → Prop) (v : Value) : Prop := ∀ ad n c, v = .slice (some ad) n c → 0 < n → S ad.block
theorem Row.kept {S : Nat → Prop} (h : Row q w v l) (hk : Kept S w w') (hS : Row.in_ S v) : Row q w' v l := by
  obtain ⟨hm, A, c, rfl, hc⟩ := h
  refine ⟨hm, A, c, rfl, fun k hlt => ?_⟩
  obtain ⟨ad, rfl, hb, hx⟩ := hc k hlt
  exact ⟨ad, rfl, Nat.lt_of_lt_of_le hb hk.size, (hk.cell (p := ad.add k) (by rw [block_add]; exact hS ad _ _ rfl (by omega))).trans hx⟩
theorem Row.lt (h : Row q w v l) : Row.in_ (fun k => k < w.heap.size) v := by
  obtain ⟨hm, A, c, rfl, hc⟩ := h
  intro ad n c' e hn
  injection e with e1 e2 e3
  subst e2
  obtain ⟨ad', e, hb, _⟩ := hc 0 hn
  rw [e1] at e
  injection e with e
  subst e
  exact hb
theorem Row.below (h : Row q w v l) (hb : Below w.heap.size w w') : Row q w' v l := h.kept ((Kept.refl (fun k => k < w.heap.size) w).below hb fun k h => h) h.lt
theorem Row.all (h : Row q w v l) (hk : Kept (fun _ => True) w w') : Row q w' v l := h.kept hk (fun _ _ _ _ _ => trivial)
end

theorem region_drew {P : Program} {id : Nat} {Q : Exit → Act → World → Prop} {a : Act} {w : World} {l : List Oper} (n : Nat) (hm : P.follows .mixedOrders = true) (hB : Region.lexTailB .any l.toArray n = true)
    (h : wpStill P l.toArray w.drew (fun a' => wpList P l.toArray Q (l.drop n) a' w.drew) (l.take n) a) : (Code.region id l.toArray true).wp P Q a w := wp_region_still_tail n hm hB h

theorem Kept.all_below {B : Nat} {w w' : World} (h : Kept (fun _ => True) w w') : Below B w w' := h.to_below fun _ _ => trivial

end Go.Proofs.Ytefgajojimkdiaa

/-
  A slice of integers that came in reads as a list; one that the call made does, too.
-/
namespace Go.Proofs.Ytefgajojimkdiaa
set_option linter.unusedVariables false
set_option linter.unusedSimpArgs false
open Go.RowKit Go.ChangeShapes Go.WideShapes

section
variable {H : Type} {enc : TypeId × Value → H} {P : Program} {w : World} {base : Nat} {spare : Nat → Bool} {held : Bool}
theorem row_of_cells {t e : TypeId} {k : IntKind} {v : Value} {fuel : Nat} {x : DataW H × List MemPlace} (ht : P.underlying t = some (.slice e)) (he : P.underlying e = some (.int k)) (hc : P.cellsOf e = 1)
    (h : DataW.trod enc P w base spare held fuel t [v] = some x) : ∃ zs, Row k w v zs ∧ ∀ n ∈ zs, (Lit.int k n).wf = true := by
  rcases open_ints ht he hc h with ⟨hcs, _⟩ | ⟨a, len, cap, zs, hcs, _, hl, hm, hz, _, hcell, hwz⟩
  · simp at hcs
    subst hcs
    exact ⟨[], Row.nil_, by simp⟩
  · simp at hcs
    subst hcs
    have hz' : len ≤ zs.length := by rw [hz]; split <;> omega
    have e1 : (zs.take len).length = len := by simp; omega
    refine ⟨zs.take len, ⟨by rw [e1]; unfold maxLen at hm; omega, some a, cap, by rw [e1], fun k' hk => ?_⟩, fun n hn => hwz n (List.mem_of_mem_take hn)⟩
    rw [e1] at hk
    have h1 := hcell k' (by omega)
    refine ⟨a, rfl, ?_, ?_⟩
    · have := block_lt_of_cell h1
      rwa [block_add] at this
    · rw [h1]
      congr 2
      simp only [List.getD_eq_getElem?_getD, List.getElem?_take, if_pos hk]
theorem row_of_trod {r : Reach} {b0 : Nat} {t e : TypeId} {k : IntKind} {v : Value} {d : DataW H} {p : List MemPlace} (ht : P.underlying t = some (.slice e)) (he : P.underlying e = some (.int k)) (hc : P.cellsOf e = 1)
    (hv : Value.okWide P w r b0 t v) (h : DataW.Trod enc P w base spare held t v d p) : ∃ zs, Row k w v zs ∧ ∀ n ∈ zs, (Lit.int k n).wf = true := by
  obtain ⟨a, len, cap, rfl⟩ := okWide_slice ht hv
  obtain ⟨fuel, hf⟩ := h
  exact row_of_cells ht he hc hf
end

theorem row_of_own {q : IntKind} {w : World} {base n : Nat} {e : TypeId} {v : Value} {l : List Int} (h : w.ownsRow base e 1 v n (l.map (Value.int q))) : Row q w v l := by
  have hl : l.length = n := by have := h.1; simpa using this
  rcases h.2 with ⟨rfl, h0⟩ | ⟨g, cap, cur, rfl, hb, hh, hn, hc, hs, ht⟩
  · have : l = [] := List.eq_nil_of_length_eq_zero (by omega)
    subst this
    exact Row.nil_
  · refine ⟨by rw [hl]; unfold maxLen at hc; omega, some ⟨g, 0, none⟩, cap, by rw [hl], fun k hk => ⟨⟨g, 0, none⟩, rfl, (h.lt g rfl).2, ?_⟩⟩
    refine h.cells (g := g) rfl k _ ?_
    rw [List.getElem?_map, List.getElem?_eq_getElem hk]
    simp [List.getD, hk]

end Go.Proofs.Ytefgajojimkdiaa

/-
  Plain facts about words of 32 bits as integers: what moving, turning, cutting come to. No program in sight.
-/
namespace Go.Proofs.Ytefgajojimkdiaa
set_option linter.unusedVariables false
set_option linter.unusedSimpArgs false
open Go.RowKit

namespace Bw

def Lsl (x n : Int) : Int := x * 2 ^ (n % 32).toNat % 4294967296
def Asr (x n : Int) : Int := wrap32 x / 2 ^ (n % 32).toNat % 4294967296
def Ror (x n : Int) : Int := x / 2 ^ (n % 32).toNat + x % 2 ^ (n % 32).toNat * 2 ^ (32 - (n % 32).toNat)
def may (lo n : Int) : Bool := decide (0 ≤ lo ∧ 1 ≤ n ∧ lo + n ≤ 32)
def Get (x lo n : Int) : Int := if may lo n = true then x / 2 ^ lo.toNat % 2 ^ n.toNat else 0
def Put (x lo n v : Int) : Int := if may lo n = true then x - x / 2 ^ lo.toNat % 2 ^ n.toNat * 2 ^ lo.toNat + v % 2 ^ n.toNat * 2 ^ lo.toNat else x
def few (n : Int) : Bool := decide (1 ≤ n ∧ n ≤ 32)
def Extend (v n : Int) : Int := if few n = true then (v + 2 ^ (n.toNat - 1)) % 2 ^ n.toNat - 2 ^ (n.toNat - 1) else 0
def Fits (v n : Int) : Bool := few n && decide (-(2 ^ (n.toNat - 1)) ≤ v ∧ v < 2 ^ (n.toNat - 1))

theorem pow_pos (n : Nat) : (0 : Int) < 2 ^ n := Int.pow_pos (by decide)
theorem pow_mono {a b : Nat} (h : a ≤ b) : (2 : Int) ^ a ≤ 2 ^ b := by
  have := Nat.pow_le_pow_right (n := 2) (by decide) h
  exact_mod_cast this
theorem pow_cast (n : Nat) : ((2 ^ n : Nat) : Int) = (2 : Int) ^ n := by simp

/-- A word that is joined of an upper and a lower part, bit by bit, is their sum. -/
theorem or_add (a b : Int) (k : Nat) (ha0 : 0 ≤ a) (hb0 : 0 ≤ b) (h : a % 2 ^ k = 0) (hb : b < 2 ^ k) (ha' : a < 4294967296) (hb' : b < 4294967296) :
    bits .or .u32 a b = a + b := by
  rw [u32_or a b ha0 ha' hb0 hb']
  obtain ⟨A, rfl⟩ := Int.eq_ofNat_of_zero_le ha0
  obtain ⟨B, rfl⟩ := Int.eq_ofNat_of_zero_le hb0
  rw [Int.toNat_natCast, Int.toNat_natCast]
  rw [← pow_cast] at h hb
  have h' : A % 2 ^ k = 0 := by exact_mod_cast h
  have hb'' : B < 2 ^ k := by exact_mod_cast hb
  rw [nat_join k A B h' hb'']
  simp

/-- The lower k bits: what the mask 2^k - 1 leaves. -/
theorem and_mask (a : Int) (k : Nat) (ha0 : 0 ≤ a) (ha' : a < 4294967296) (hk : k ≤ 32) :
    bits .and .u32 a (2 ^ k - 1) = a % 2 ^ k := by
  have hp := pow_pos k
  have hm : (2 : Int) ^ k ≤ 2 ^ 32 := pow_mono hk
  rw [u32_and a _ ha0 ha' (by omega) (by omega)]
  obtain ⟨A, rfl⟩ := Int.eq_ofNat_of_zero_le ha0
  have e : ((2 : Int) ^ k - 1).toNat = 2 ^ k - 1 := by
    rw [← pow_cast]; omega
  rw [Int.toNat_natCast, e, Nat.and_two_pow_sub_one_eq_mod, ← pow_cast]
  simp

theorem pow_split (a b : Nat) (h : a ≤ b) : (2 : Int) ^ b = 2 ^ a * 2 ^ (b - a) := by
  rw [← Int.pow_add]; congr 1; omega

theorem mul_mod_pow (x : Int) (a b : Nat) (h : a ≤ b) : x * 2 ^ a % 2 ^ b = x % 2 ^ (b - a) * 2 ^ a := by
  rw [pow_split a b h, Int.mul_comm x, Int.mul_emod_mul_of_pos _ _ (pow_pos a), Int.mul_comm]

theorem div_lt_pow (x : Int) (m : Nat) (hx0 : 0 ≤ x) (hx : x < 4294967296) (hm : m ≤ 32) : x / 2 ^ m < 2 ^ (32 - m) := by
  have hp := pow_pos m
  refine Int.ediv_lt_of_lt_mul hp ?_
  rw [← Int.pow_add, show 32 - m + m = 32 by omega]; exact hx

theorem upper_mod (y : Int) (a k : Nat) (h : a ≤ k) : y % 2 ^ (k - a) * 2 ^ a = y * 2 ^ a % 2 ^ k := (mul_mod_pow y a k h).symm

/-- A word turned left by s, as the library makes it, is the word turned right by the rest. -/
theorem rotl (x n : Int) (hx : 0 ≤ x) (hx' : x < 4294967296) (hn : -31 ≤ n) (hn' : n ≤ 0) :
    bits .or .u32 (x * 2 ^ (n % 32).toNat % 4294967296) (x / 2 ^ (32 - n % 32).toNat) = Ror x (-n) := by
  by_cases h0 : n = 0
  · subst h0
    simp only [Ror, show (0 : Int) % 32 = 0 from rfl, show (-(0 : Int)) % 32 = 0 from rfl, show (32 - 0 : Int).toNat = 32 from rfl, Int.toNat_zero, Int.pow_zero, Int.mul_one, Int.ediv_one, Int.emod_one, Int.zero_mul, Int.add_zero]
    rw [Int.emod_eq_of_lt hx hx', show x / (2 : Int) ^ 32 = 0 from Int.ediv_eq_zero_of_lt hx hx', or_add x 0 0 hx (by decide) (by simp [Int.emod_one]) (by decide) hx' (by decide), Int.add_zero]
  · obtain ⟨m, rfl⟩ : ∃ m : Nat, n = -(m : Int) := ⟨(-n).toNat, by omega⟩
    have e1 : (-(m : Int) % 32).toNat = 32 - m := by omega
    have e2 : (32 - -(m : Int) % 32).toNat = m := by omega
    have e3 : (- -(m : Int) % 32).toNat = m := by omega
    simp only [Ror, e1, e2, e3]
    have hm : m ≤ 32 := by omega
    have hu : x * 2 ^ (32 - m) % 4294967296 = x % 2 ^ m * 2 ^ (32 - m) := by
      have := mul_mod_pow x (32 - m) 32 (by omega)
      rw [show 32 - (32 - m) = m by omega] at this
      exact this
    have hd := div_lt_pow x m hx hx' hm
    have hd0 : 0 ≤ x / 2 ^ m := Int.ediv_nonneg hx (Int.le_of_lt (pow_pos m))
    have hl : x / 2 ^ m ≤ x := Int.ediv_le_self _ hx
    have hb : 0 ≤ x * 2 ^ (32 - m) % 4294967296 ∧ x * 2 ^ (32 - m) % 4294967296 < 4294967296 := by omega
    rw [or_add _ _ (32 - m) hb.1 hd0 (by rw [hu]; exact Int.mul_emod_left _ _) hd hb.2 (by omega), hu, Int.add_comm]

theorem u64_and31 (n : Int) : bits .and .u64 (IntKind.u64.wrap n) 31 = n % 32 := by
  have hw : IntKind.u64.wrap n = n % 18446744073709551616 := by simp [IntKind.wrap, IntKind.bits, IntKind.signed]
  rw [hw, u64_and _ _ (by omega) (by omega) (by decide) (by decide)]
  obtain ⟨A, hA⟩ := Int.eq_ofNat_of_zero_le (show 0 ≤ n % 18446744073709551616 by omega)
  rw [hA, Int.toNat_natCast, show (31 : Int).toNat = 31 from rfl, nat_mask5]
  omega

theorem may_iff (lo n : Int) : may lo n = true ↔ 0 ≤ lo ∧ 1 ≤ n ∧ lo + n ≤ 32 := by simp [may]
theorem may_no (lo n : Int) : may lo n = false ↔ ¬ (0 ≤ lo ∧ 1 ≤ n ∧ lo + n ≤ 32) := by simp only [may, decide_eq_false_iff_not]
theorem few_iff (n : Int) : few n = true ↔ 1 ≤ n ∧ n ≤ 32 := by simp [few]
theorem few_no (n : Int) : few n = false ↔ ¬ (1 ≤ n ∧ n ≤ 32) := by simp only [few, decide_eq_false_iff_not]

theorem mask_val (n : Int) (h0 : 1 ≤ n) (h1 : n ≤ 32) : ((2 : Int) ^ n.toNat % 4294967296 - 1) % 4294967296 = 2 ^ n.toNat - 1 := by
  have hp := pow_pos n.toNat
  have hm : (2 : Int) ^ n.toNat ≤ 2 ^ 32 := pow_mono (by omega)
  by_cases h : n.toNat = 32
  · rw [h]; decide
  · have hm' : (2 : Int) ^ n.toNat ≤ 2 ^ 31 := pow_mono (by omega)
    rw [Int.emod_eq_of_lt (a := 2 ^ n.toNat) (by omega) (by omega), Int.emod_eq_of_lt (by omega) (by omega)]

theorem get_val (x lo n : Int) (hx : 0 ≤ x) (hx' : x < 4294967296) (hm : may lo n = true) :
    bits .and .u32 (x / 2 ^ lo.toNat) (2 ^ n.toNat - 1) = Get x lo n := by
  have hi := (may_iff lo n).1 hm
  have h0 : 0 ≤ x / 2 ^ lo.toNat := Int.ediv_nonneg hx (Int.le_of_lt (pow_pos _))
  have h1 : x / 2 ^ lo.toNat ≤ x := Int.ediv_le_self _ hx
  rw [and_mask _ _ h0 (by omega) (by omega), Get, if_pos hm]

theorem extend_val (v n : Int) (h0 : 1 ≤ n) (h1 : n ≤ 32) :
    wrap64 (wrap32 (v * 2 ^ (32 - n).toNat % 4294967296) / 2 ^ (32 - n).toNat) = Extend v n := by
  obtain ⟨m, hm, rfl⟩ : ∃ m : Nat, m ≤ 31 ∧ n = ((32 - m : Nat) : Int) := ⟨(32 - n).toNat, by omega, by omega⟩
  have e1 : (32 - ((32 - m : Nat) : Int)).toNat = m := by omega
  rw [e1, Extend, if_pos ((few_iff _).2 ⟨by omega, by omega⟩), Int.toNat_natCast]
  have hp := pow_pos m
  have hq := pow_pos (32 - m)
  have hr : (2 : Int) ^ (32 - m) = 2 ^ (32 - m - 1) * 2 := by rw [← Int.pow_succ]; congr 1; omega
  have hh : (2147483648 : Int) = 2 ^ (32 - m - 1) * 2 ^ m := by rw [← Int.pow_add, show 32 - m - 1 + m = 31 by omega]; rfl
  have hw : wrap32 (v * 2 ^ m % 4294967296) = ((v + 2 ^ (32 - m - 1)) % 2 ^ (32 - m) - 2 ^ (32 - m - 1)) * 2 ^ m := by
    have ha : wrap32 (v * 2 ^ m % 4294967296) = (v * 2 ^ m + 2147483648) % 4294967296 - 2147483648 := by unfold wrap32; omega
    rw [ha, hh, ← Int.add_mul, Int.sub_mul]
    have := mul_mod_pow (v + 2 ^ (32 - m - 1)) m 32 (by omega)
    rw [show (4294967296 : Int) = 2 ^ 32 from rfl, this]
  rw [hw, Int.mul_ediv_cancel _ (by omega)]
  have hb := Int.emod_lt_of_pos (v + 2 ^ (32 - m - 1)) hq
  have hc := Int.emod_nonneg (v + 2 ^ (32 - m - 1)) (show (2 : Int) ^ (32 - m) ≠ 0 by omega)
  have hd : (2 : Int) ^ (32 - m) ≤ 2 ^ 32 := pow_mono (by omega)
  have he := pow_pos (32 - m - 1)
  generalize (v + 2 ^ (32 - m - 1)) % 2 ^ (32 - m) = a at *
  generalize (2 : Int) ^ (32 - m - 1) = b at *
  unfold wrap64; omega

/-- Put, in natural numbers, bit by bit. -/
theorem put_nat (x v l k : Nat) (h : l + k ≤ 32) (hx : x < 2 ^ 32) :
    x &&& (2 ^ 32 - 1 - (2 ^ k - 1) * 2 ^ l) ||| v * 2 ^ l % 2 ^ 32 &&& (2 ^ k - 1) * 2 ^ l = 2 ^ (l + k) * (x / 2 ^ (l + k)) + (2 ^ l * (v % 2 ^ k) + x % 2 ^ l) := by
  have hm : (2 ^ k - 1) * 2 ^ l < 2 ^ 32 := by
    have h1 : 2 ^ k * 2 ^ l ≤ 2 ^ 32 := by rw [← Nat.pow_add]; exact Nat.pow_le_pow_right (by decide) (by omega)
    have h2 := Nat.two_pow_pos k
    have h3 := Nat.two_pow_pos l
    rw [Nat.sub_mul]; omega
  have hlow : x % 2 ^ l < 2 ^ l := Nat.mod_lt _ (Nat.two_pow_pos l)
  have hmid : 2 ^ l * (v % 2 ^ k) + x % 2 ^ l < 2 ^ (l + k) := by
    have h1 : v % 2 ^ k + 1 ≤ 2 ^ k := Nat.mod_lt _ (Nat.two_pow_pos k)
    have h2 := Nat.mul_le_mul_left (2 ^ l) h1
    rw [Nat.pow_add]; rw [Nat.mul_add] at h2; omega
  apply Nat.eq_of_testBit_eq
  intro i
  rw [Nat.testBit_or, Nat.testBit_and, Nat.testBit_and, show 2 ^ 32 - 1 - (2 ^ k - 1) * 2 ^ l = 2 ^ 32 - ((2 ^ k - 1) * 2 ^ l + 1) by omega, Nat.testBit_two_pow_sub_succ hm, Nat.testBit_mod_two_pow,
    Nat.testBit_mul_two_pow, Nat.testBit_mul_two_pow, Nat.testBit_two_pow_sub_one, Nat.testBit_two_pow_mul_add _ hmid, Nat.testBit_two_pow_mul_add _ hlow, Nat.testBit_mod_two_pow, Nat.testBit_mod_two_pow, Nat.testBit_div_two_pow]
  by_cases h32 : i < 32
  · by_cases h1 : i < l
    · have : i < l + k := by omega
      have h4 : ¬ l ≤ i := by omega
      simp [h1, this, h4, h32]
    · by_cases h2 : i < l + k
      · have h3 : l ≤ i := by omega
        have h4 : i - l < k := by omega
        simp [h1, h2, h3, h4, h32]
      · have h3 : l ≤ i := by omega
        have h4 : ¬ (i - l < k) := by omega
        simp [h2, h3, h4, h32, show i - (l + k) + (l + k) = i by omega]
  · have h2 : ¬ (i < l + k) := by omega
    have h5 : x.testBit i = false := Nat.testBit_lt_two_pow (Nat.lt_of_lt_of_le hx (Nat.pow_le_pow_right (by decide) (by omega)))
    simp [h2, h32, h5, show i - (l + k) + (l + k) = i by omega]

theorem split3 (x l k : Nat) : x = 2 ^ (l + k) * (x / 2 ^ (l + k)) + (2 ^ l * (x / 2 ^ l % 2 ^ k) + x % 2 ^ l) := by
  have h1 := Nat.div_add_mod x (2 ^ l)
  have h2 := Nat.div_add_mod (x / 2 ^ l) (2 ^ k)
  rw [Nat.div_div_eq_div_mul, ← Nat.pow_add] at h2
  rw [← h2, Nat.mul_add, ← Nat.mul_assoc, ← Nat.pow_add] at h1
  omega

theorem put_val (x lo n v : Int) (hx : 0 ≤ x) (hx' : x < 4294967296) (hv : 0 ≤ v) (hv' : v < 4294967296) (hm : may lo n = true) :
    bits .or .u32 (bits .andNot .u32 x ((2 ^ n.toNat - 1) * 2 ^ lo.toNat % 4294967296)) (bits .and .u32 (v * 2 ^ lo.toNat % 4294967296) ((2 ^ n.toNat - 1) * 2 ^ lo.toNat % 4294967296)) = Put x lo n v := by
  have hi := (may_iff lo n).1 hm
  rw [Put, if_pos hm]
  obtain ⟨X, rfl⟩ := Int.eq_ofNat_of_zero_le hx
  obtain ⟨V, rfl⟩ := Int.eq_ofNat_of_zero_le hv
  generalize hl : lo.toNat = l at *
  generalize hk : n.toNat = k at *
  have hlk : l + k ≤ 32 := by omega
  have h1 : 2 ^ k * 2 ^ l ≤ 2 ^ 32 := by rw [← Nat.pow_add]; exact Nat.pow_le_pow_right (by decide) (by omega)
  have h2 := Nat.two_pow_pos k
  have h3 := Nat.two_pow_pos l
  have hM : (2 ^ k - 1) * 2 ^ l < 4294967296 := by rw [Nat.sub_mul]; omega
  have eM : ((2 : Int) ^ k - 1) * 2 ^ l % 4294967296 = (((2 ^ k - 1) * 2 ^ l : Nat) : Int) := by
    have : ((2 : Int) ^ k - 1) * 2 ^ l = (((2 ^ k - 1) * 2 ^ l : Nat) : Int) := by
      rw [Int.natCast_mul, Int.natCast_sub (by omega)]; simp
    rw [this]; omega
  have eV : (V : Int) * 2 ^ l % 4294967296 = ((V * 2 ^ l % 4294967296 : Nat) : Int) := by
    rw [← pow_cast l]; simp
  have hX : X < 4294967296 := by omega
  have hVl : V * 2 ^ l % 4294967296 < 4294967296 := Nat.mod_lt _ (by decide)
  rw [eM, eV, u32_andNot_nat _ _ hX hM, u32_and_nat _ _ hVl hM]
  rw [u32_or_nat _ _ (Nat.lt_of_le_of_lt Nat.and_le_left hX) (Nat.lt_of_le_of_lt Nat.and_le_right hM)]
  have hp := put_nat X V l k hlk (by omega)
  rw [show (2 : Nat) ^ 32 - 1 = 4294967295 from rfl, show (2 : Nat) ^ 32 = 4294967296 from rfl] at hp
  rw [hp]
  have hs := split3 X l k
  have a1 : (X : Int) / 2 ^ l % 2 ^ k * 2 ^ l = ((2 ^ l * (X / 2 ^ l % 2 ^ k) : Nat) : Int) := by
    rw [← pow_cast l, ← pow_cast k, Nat.mul_comm]; simp
  have a2 : (V : Int) % 2 ^ k * 2 ^ l = ((2 ^ l * (V % 2 ^ k) : Nat) : Int) := by
    rw [← pow_cast l, ← pow_cast k, Nat.mul_comm]; simp
  rw [a1, a2]
  omega

theorem wrap64_pow (m : Nat) (h : m ≤ 62) : wrap64 (2 ^ m) = 2 ^ m := by
  have h1 := pow_pos m
  have h2 : (2 : Int) ^ m ≤ 2 ^ 62 := pow_mono h
  unfold wrap64; omega
theorem wrap64_neg_pow (m : Nat) (h : m ≤ 62) : wrap64 (-2 ^ m) = -2 ^ m := by
  have h1 := pow_pos m
  have h2 : (2 : Int) ^ m ≤ 2 ^ 62 := pow_mono h
  unfold wrap64; omega

theorem wrapU64_of {n : Int} (h0 : 0 ≤ n) (h1 : n < 18446744073709551616) : IntKind.u64.wrap n = n := by
  have hw : IntKind.u64.wrap n = n % 18446744073709551616 := by simp [IntKind.wrap, IntKind.bits, IntKind.signed]
  rw [hw]; omega
theorem wrapU64_emod (n : Int) : IntKind.u64.wrap n = n % 18446744073709551616 := by simp [IntKind.wrap, IntKind.bits, IntKind.signed]
theorem mul_pow_bd (x : Int) (a b : Nat) (h0 : 0 ≤ x) (h : x < 2 ^ a) : 0 ≤ x * 2 ^ b ∧ x * 2 ^ b < 2 ^ (a + b) := by
  refine ⟨Int.mul_nonneg h0 (Int.le_of_lt (pow_pos b)), ?_⟩
  rw [Int.pow_add]; exact Int.mul_lt_mul_of_pos_right h (pow_pos b)

theorem powStep (k : Nat) (h : k < 63) : IntKind.u64.wrap (2 ^ k * 2) = 2 ^ (k + 1) := by
  have h1 := pow_pos k
  have h2 : (2 : Int) ^ k ≤ 2 ^ 62 := pow_mono (by omega)
  rw [wrapU64_of (by omega) (by omega), Int.pow_succ]

theorem refLsl_val (x n : Int) (hx : 0 ≤ x) (hx' : x < 4294967296) :
    (IntKind.u64.wrap (x * 2 ^ (n % 32).toNat)).tmod 4294967296 % 4294967296 = Lsl x n := by
  have hb := mul_pow_bd x 32 (n % 32).toNat hx hx'
  have h2 : (2 : Int) ^ (32 + (n % 32).toNat) ≤ 2 ^ 63 := pow_mono (by omega)
  rw [wrapU64_of hb.1 (by omega), Int.tmod_eq_emod_of_nonneg hb.1, Lsl]; omega

theorem asr_start (x : Int) (hx : 0 ≤ x) (hx' : x < 4294967296) : x = wrap32 x / 2 ^ 0 % 4294967296 := by
  unfold wrap32; rw [Int.pow_zero]; omega
theorem div_succ (y : Int) (k : Nat) : y / 2 ^ (k + 1) = y / 2 ^ k / 2 := by
  rw [Int.pow_succ, Int.ediv_ediv_of_nonneg (Int.le_of_lt (pow_pos k))]
theorem wrap32_div_bd (x : Int) (k : Nat) : -2147483648 ≤ wrap32 x / 2 ^ k ∧ wrap32 x / 2 ^ k < 2147483648 := by
  have hp := pow_pos k
  have h1 : -2147483648 ≤ wrap32 x ∧ wrap32 x < 2147483648 := by unfold wrap32; omega
  constructor
  · rw [Int.le_ediv_iff_mul_le hp]
    have := Int.mul_le_mul_of_nonneg_left (show (1 : Int) ≤ 2 ^ k by omega) (show (0 : Int) ≤ 2147483648 by decide)
    omega
  · refine Int.ediv_lt_of_lt_mul hp ?_
    have := Int.mul_le_mul_of_nonneg_left (show (1 : Int) ≤ 2 ^ k by omega) (show (0 : Int) ≤ 2147483648 by decide)
    omega

theorem ror_bd (x : Int) (k : Nat) (hx : 0 ≤ x) (hx' : x < 4294967296) (hk : k ≤ 32) : 0 ≤ x / 2 ^ k + x % 2 ^ k * 2 ^ (32 - k) ∧ x / 2 ^ k + x % 2 ^ k * 2 ^ (32 - k) < 4294967296 := by
  have hp := pow_pos k
  have hd0 : 0 ≤ x / 2 ^ k := Int.ediv_nonneg hx (by omega)
  have hd := div_lt_pow x k hx hx' hk
  have h1 := Int.emod_nonneg x (show (2 : Int) ^ k ≠ 0 by omega)
  have h2 := Int.emod_lt_of_pos x hp
  have hb := mul_pow_bd (x % 2 ^ k) k (32 - k) h1 h2
  have h3 : x % 2 ^ k + 1 ≤ 2 ^ k := by omega
  have h4 := Int.mul_le_mul_of_nonneg_right h3 (Int.le_of_lt (pow_pos (32 - k)))
  rw [← Int.pow_add, show k + (32 - k) = 32 by omega, Int.add_mul, Int.one_mul] at h4
  constructor
  · omega
  · have : (2 : Int) ^ 32 = 4294967296 := rfl
    omega

theorem mod_succ (x : Int) (k : Nat) : x % 2 ^ (k + 1) = x % 2 ^ k + x / 2 ^ k % 2 * 2 ^ k := by
  have h1 := Int.mul_ediv_add_emod x (2 ^ k)
  have h2 := Int.mul_ediv_add_emod x (2 ^ (k + 1))
  have h3 := Int.mul_ediv_add_emod (x / 2 ^ k) 2
  rw [div_succ] at h2
  rw [Int.pow_succ] at *
  generalize x / 2 ^ k = a at *
  generalize (2 : Int) ^ k = p at *
  rw [← h3, Int.mul_add, ← Int.mul_assoc] at h1
  rw [Int.mul_comm (a % 2) p]
  omega

theorem ror_step (x : Int) (k : Nat) (hk : k < 32) :
    (x / 2 ^ k + x % 2 ^ k * 2 ^ (32 - k)) / 2 + (x / 2 ^ k + x % 2 ^ k * 2 ^ (32 - k)) % 2 * 2147483648 = x / 2 ^ (k + 1) + x % 2 ^ (k + 1) * 2 ^ (32 - (k + 1)) := by
  have hq : (2 : Int) ^ (32 - k) = 2 ^ (32 - (k + 1)) * 2 := by rw [← Int.pow_succ]; congr 1; omega
  have hr : (2147483648 : Int) = 2 ^ k * 2 ^ (32 - (k + 1)) := by rw [← Int.pow_add, show k + (32 - (k + 1)) = 31 by omega]; rfl
  rw [mod_succ, div_succ, hq]
  have e1 : (x / 2 ^ k + x % 2 ^ k * (2 ^ (32 - (k + 1)) * 2)) / 2 = x / 2 ^ k / 2 + x % 2 ^ k * 2 ^ (32 - (k + 1)) := by
    rw [← Int.mul_assoc]; omega
  have e2 : (x / 2 ^ k + x % 2 ^ k * (2 ^ (32 - (k + 1)) * 2)) % 2 = x / 2 ^ k % 2 := by
    rw [← Int.mul_assoc]; omega
  rw [e1, e2, Int.add_mul, Int.mul_assoc, ← hr]; omega

theorem emod_le {a b : Int} (h0 : 0 ≤ a) (hb : 0 < b) : a % b ≤ a := by
  have h1 := Int.mul_ediv_add_emod a b
  have h2 : 0 ≤ b * (a / b) := Int.mul_nonneg (Int.le_of_lt hb) (Int.ediv_nonneg h0 (Int.le_of_lt hb))
  omega

theorem refGet_val (x lo n : Int) (hx : 0 ≤ x) (hx' : x < 4294967296) (hm : may lo n = true) :
    x / 2 ^ lo.toNat % 2 ^ n.toNat % 4294967296 = Get x lo n := by
  rw [Get, if_pos hm]
  have h0 : 0 ≤ x / 2 ^ lo.toNat := Int.ediv_nonneg hx (Int.le_of_lt (pow_pos _))
  have h1 : x / 2 ^ lo.toNat ≤ x := Int.ediv_le_self _ hx
  have h2 := Int.emod_nonneg (x / 2 ^ lo.toNat) (show (2 : Int) ^ n.toNat ≠ 0 by have := pow_pos n.toNat; omega)
  have h3 : x / 2 ^ lo.toNat % 2 ^ n.toNat ≤ x / 2 ^ lo.toNat := emod_le h0 (pow_pos _)
  omega

theorem refGet_val' (x lo n : Int) (hx : 0 ≤ x) (hx' : x < 4294967296) (hm : may lo n = true) :
    (x / 2 ^ lo.toNat).tmod (2 ^ n.toNat) % 4294967296 = Get x lo n := by
  rw [Int.tmod_eq_emod_of_nonneg (Int.ediv_nonneg hx (Int.le_of_lt (pow_pos _)))]; exact refGet_val x lo n hx hx' hm
theorem tmod_32 (n : Int) : n.tmod 4294967296 % 4294967296 = n % 4294967296 ∧ -4294967296 < n.tmod 4294967296 ∧ n.tmod 4294967296 < 4294967296 := by
  have h := Int.tmod_eq_emod (a := n) (b := 4294967296)
  rw [h]
  split <;> omega
theorem word_val (n : Int) : wrap64 (n.tmod 4294967296 + 4294967296) % 4294967296 = n % 4294967296 := by
  obtain ⟨h1, h2, h3⟩ := tmod_32 n
  unfold wrap64; omega

theorem get_bd (x lo n : Int) (hx : 0 ≤ x) (hx' : x < 4294967296) : 0 ≤ Get x lo n ∧ Get x lo n < 4294967296 := by
  cases hm : may lo n
  · simp [Get, hm]
  · have := refGet_val x lo n hx hx' hm
    omega
theorem get_lt (x lo n : Int) (hm : may lo n = true) : 0 ≤ Get x lo n ∧ Get x lo n < 2 ^ n.toNat := by
  rw [Get, if_pos hm]
  exact ⟨Int.emod_nonneg _ (by have := pow_pos n.toNat; omega), Int.emod_lt_of_pos _ (pow_pos _)⟩
/-- A part of a word stays below its upper end. -/
theorem part_bd (y : Int) (l k : Nat) (h : l + k ≤ 32) (h0 : 0 ≤ y) (h1 : y < 2 ^ k) : 0 ≤ y * 2 ^ l ∧ y * 2 ^ l < 4294967296 := by
  have hb := mul_pow_bd y k l h0 h1
  have : (2 : Int) ^ (k + l) ≤ 2 ^ 32 := pow_mono (by omega)
  exact ⟨hb.1, by omega⟩
theorem get_part (x lo n : Int) (hx : 0 ≤ x) (hm : may lo n = true) : Get x lo n * 2 ^ lo.toNat ≤ x := by
  rw [Get, if_pos hm]
  have hd0 : 0 ≤ x / 2 ^ lo.toNat := Int.ediv_nonneg hx (Int.le_of_lt (pow_pos _))
  have h1 := emod_le hd0 (pow_pos n.toNat)
  have h2 := Int.mul_le_mul_of_nonneg_right h1 (Int.le_of_lt (pow_pos lo.toNat))
  have h3 := Int.ediv_mul_le x (show (2 : Int) ^ lo.toNat ≠ 0 by have := pow_pos lo.toNat; omega)
  omega
theorem put_bd (x lo n v : Int) (hx : 0 ≤ x) (hx' : x < 4294967296) : 0 ≤ Put x lo n v ∧ Put x lo n v < 4294967296 := by
  cases hm : may lo n
  · simp [Put, hm]; omega
  · have hi := (may_iff lo n).1 hm
    obtain ⟨X, rfl⟩ := Int.eq_ofNat_of_zero_le hx
    rw [Put, if_pos hm]
    generalize hl : lo.toNat = l at *
    generalize hk : n.toNat = k at *
    have hs := split3 X l k
    have h2 := Int.emod_lt_of_pos v (pow_pos k)
    have h3 := Int.emod_nonneg v (show (2 : Int) ^ k ≠ 0 by have := pow_pos k; omega)
    have a1 : (X : Int) / 2 ^ l % 2 ^ k * 2 ^ l = ((2 ^ l * (X / 2 ^ l % 2 ^ k) : Nat) : Int) := by
      rw [← pow_cast l, ← pow_cast k, Nat.mul_comm]; simp
    have hu : 2 ^ (l + k) * (X / 2 ^ (l + k)) + 2 ^ (l + k) ≤ 4294967296 := by
      have e : (4294967296 : Nat) = 2 ^ (l + k) * 2 ^ (32 - (l + k)) := by rw [← Nat.pow_add, show l + k + (32 - (l + k)) = 32 by omega]
      have hq : X / 2 ^ (l + k) < 2 ^ (32 - (l + k)) := by
        rw [Nat.div_lt_iff_lt_mul (Nat.two_pow_pos _), ← Nat.pow_add, show 32 - (l + k) + (l + k) = 32 by omega]; omega
      have := Nat.mul_le_mul_left (2 ^ (l + k)) (show X / 2 ^ (l + k) + 1 ≤ 2 ^ (32 - (l + k)) from hq)
      rw [Nat.mul_add] at this
      omega
    have hlow : X % 2 ^ l < 2 ^ l := Nat.mod_lt _ (Nat.two_pow_pos l)
    have hv1 : (v % 2 ^ k + 1) * 2 ^ l ≤ 2 ^ (l + k) := by
      rw [Nat.add_comm l k, Int.pow_add]; exact Int.mul_le_mul_of_nonneg_right (by omega) (Int.le_of_lt (pow_pos l))
    rw [Int.add_mul, Int.one_mul, ← pow_cast (l + k), ← pow_cast l] at hv1
    have hv0 := (mul_pow_bd (v % 2 ^ k) k l h3 h2).1
    rw [← pow_cast l] at hv0
    rw [a1, ← pow_cast l]
    generalize v % 2 ^ k * ((2 ^ l : Nat) : Int) = V at *
    generalize 2 ^ (l + k) * (X / 2 ^ (l + k)) = U at *
    generalize 2 ^ l * (X / 2 ^ l % 2 ^ k) = M at *
    generalize 2 ^ (l + k) = P at *
    generalize 2 ^ l = Q at *
    generalize X % Q = R at *
    omega

theorem extend_eq (v n p : Int) (hm : few n = true) (hp : p = 2 ^ n.toNat) : (p / 2 ≤ v % p → v % p - p = Extend v n) ∧ (v % p < p / 2 → v % p = Extend v n) := by
  have hi := (few_iff n).1 hm
  subst hp
  rw [Extend, if_pos hm]
  have hr : (2 : Int) ^ n.toNat = 2 ^ (n.toNat - 1) * 2 := by rw [← Int.pow_succ]; congr 1; omega
  have h1 := Int.emod_nonneg v (show (2 : Int) ^ n.toNat ≠ 0 by have := pow_pos n.toNat; omega)
  have h2 := Int.emod_lt_of_pos v (pow_pos n.toNat)
  rw [← Int.emod_add_emod]
  generalize v % 2 ^ n.toNat = k at *
  rw [hr] at *
  generalize (2 : Int) ^ (n.toNat - 1) = q at *
  constructor
  · intro h
    have : (k + q) % (q * 2) = k + q - q * 2 := by
      rw [← Int.sub_emod_right]; exact Int.emod_eq_of_lt (by omega) (by omega)
    omega
  · intro h
    have : (k + q) % (q * 2) = k + q := Int.emod_eq_of_lt (by omega) (by omega)
    omega
theorem fits_eq (v n : Int) (hm : few n = true) : Fits v n = decide (-(2 ^ n.toNat / 2) ≤ v ∧ v < 2 ^ n.toNat / 2) := by
  have hi := (few_iff n).1 hm
  have hr : (2 : Int) ^ n.toNat = 2 ^ (n.toNat - 1) * 2 := by rw [← Int.pow_succ]; congr 1; omega
  rw [Fits, hm, hr, Int.mul_ediv_cancel _ (by decide), Bool.true_and]

theorem refPut_val (x lo n v : Int) (hx : 0 ≤ x) (hx' : x < 4294967296) (hv : 0 ≤ v) (hm : may lo n = true) :
    IntKind.u64.wrap (IntKind.u64.wrap (x - IntKind.u64.wrap (Get x lo n * 2 ^ lo.toNat)) + IntKind.u64.wrap (v % 2 ^ n.toNat * 2 ^ lo.toNat)) % 4294967296 = Put x lo n v := by
  have hi := (may_iff lo n).1 hm
  have hg := get_lt x lo n hm
  have h1 := part_bd (Get x lo n) lo.toNat n.toNat (by omega) hg.1 hg.2
  have h2 := get_part x lo n hx hm
  have h3 := part_bd (v % 2 ^ n.toNat) lo.toNat n.toNat (by omega) (Int.emod_nonneg _ (by have := pow_pos n.toNat; omega)) (Int.emod_lt_of_pos _ (pow_pos _))
  have hb := put_bd x lo n v hx hx'
  rw [wrapU64_of h1.1 (by omega), wrapU64_of h3.1 (by omega), wrapU64_of (n := x - _) (by omega) (by omega), wrapU64_of (by omega) (by omega)]
  rw [Put, if_pos hm] at *
  rw [Get, if_pos hm] at *
  omega
theorem refPut_val' (x lo n v : Int) (hx : 0 ≤ x) (hx' : x < 4294967296) (hv : 0 ≤ v) (hm : may lo n = true) :
    IntKind.u64.wrap (IntKind.u64.wrap (x - IntKind.u64.wrap (Get x lo n * 2 ^ lo.toNat)) + IntKind.u64.wrap (v.tmod (2 ^ n.toNat) * 2 ^ lo.toNat)) % 4294967296 = Put x lo n v := by
  rw [Int.tmod_eq_emod_of_nonneg hv]; exact refPut_val x lo n v hx hx' hv hm

/-- What Put makes, in its three parts. -/
theorem put_parts (X V l k : Nat) (lo n : Int) (hl : lo = l) (hk : n = k) (hm : may lo n = true) :
    Put (X : Int) lo n (V : Int) = ((2 ^ (l + k) * (X / 2 ^ (l + k)) + (2 ^ l * (V % 2 ^ k) + X % 2 ^ l) : Nat) : Int) := by
  rw [Put, if_pos hm]
  subst hl hk
  rw [Int.toNat_natCast, Int.toNat_natCast]
  have hs := split3 X l k
  have a1 : (X : Int) / 2 ^ l % 2 ^ k * 2 ^ l = ((2 ^ l * (X / 2 ^ l % 2 ^ k) : Nat) : Int) := by
    rw [← pow_cast l, ← pow_cast k, Nat.mul_comm]; simp
  have a2 : (V : Int) % 2 ^ k * 2 ^ l = ((2 ^ l * (V % 2 ^ k) : Nat) : Int) := by
    rw [← pow_cast l, ← pow_cast k, Nat.mul_comm]; simp
  rw [a1, a2]
  omega

theorem get_put (x lo n v : Int) (hx : 0 ≤ x) (hv : 0 ≤ v) (hm : may lo n = true) : Get (Put x lo n v) lo n = v % 2 ^ n.toNat := by
  have hi := (may_iff lo n).1 hm
  obtain ⟨X, rfl⟩ := Int.eq_ofNat_of_zero_le hx
  obtain ⟨V, rfl⟩ := Int.eq_ofNat_of_zero_le hv
  obtain ⟨l, rfl⟩ := Int.eq_ofNat_of_zero_le hi.1
  obtain ⟨k, rfl⟩ := Int.eq_ofNat_of_zero_le (show 0 ≤ n by omega)
  rw [put_parts X V l k _ _ rfl rfl hm, Get, if_pos hm, Int.toNat_natCast, Int.toNat_natCast, ← pow_cast, ← pow_cast]
  have hlow : X % 2 ^ l < 2 ^ l := Nat.mod_lt _ (Nat.two_pow_pos l)
  have e : (2 ^ (l + k) * (X / 2 ^ (l + k)) + (2 ^ l * (V % 2 ^ k) + X % 2 ^ l)) / 2 ^ l % 2 ^ k = V % 2 ^ k := by
    rw [Nat.pow_add, Nat.mul_assoc, ← Nat.add_assoc, ← Nat.mul_add, Nat.mul_add_div (Nat.two_pow_pos l), Nat.div_eq_of_lt hlow, Nat.add_zero, Nat.mul_add_mod, Nat.mod_mod]
  exact_mod_cast e

theorem put_put (x lo n v u : Int) (hx : 0 ≤ x) (hv : 0 ≤ v) (hm : may lo n = true) : Put (Put x lo n v) lo n u = Put x lo n u := by
  have h := get_put x lo n v hx hv hm
  rw [Get, if_pos hm] at h
  rw [Put, if_pos hm, h, Put, if_pos hm, Put, if_pos hm]; omega
theorem put_get (x lo n : Int) (hm : may lo n = true) : Put x lo n (Get x lo n) = x := by
  rw [Put, if_pos hm, Get, if_pos hm, Int.emod_emod]; omega

theorem shl_shr (v n : Int) (h0 : 1 ≤ n) (h1 : n ≤ 32) : v * 2 ^ (32 - n).toNat % 4294967296 / 2 ^ (32 - n).toNat = v % 2 ^ n.toNat := by
  have := mul_mod_pow v (32 - n).toNat 32 (by omega)
  rw [show (4294967296 : Int) = 2 ^ 32 from rfl, this, show 32 - (32 - n).toNat = n.toNat by omega, Int.mul_ediv_cancel _ (by have := pow_pos (32 - n).toNat; omega)]

theorem mask_shift (lo n : Int) (hm : may lo n = true) :
    (4294967295 : Int) / 2 ^ (32 - n).toNat * 2 ^ lo.toNat % 4294967296 = (2 ^ n.toNat - 1) * 2 ^ lo.toNat % 4294967296 := by
  have hi := (may_iff lo n).1 hm
  have e : (4294967295 : Int) / 2 ^ (32 - n).toNat = 2 ^ n.toNat - 1 := by
    have hp := pow_pos (32 - n).toNat
    have h2 : (4294967295 : Int) = (2 ^ (32 - n).toNat - 1) + 2 ^ (32 - n).toNat * (2 ^ n.toNat - 1) := by
      rw [Int.mul_sub, ← Int.pow_add, show (32 - n).toNat + n.toNat = 32 by omega]; omega
    rw [h2, Int.add_mul_ediv_left _ _ (by omega), Int.ediv_eq_zero_of_lt (by omega) (by omega)]; omega
  rw [e]

theorem andNot_put (x lo n : Int) (hx : 0 ≤ x) (hx' : x < 4294967296) (hm : may lo n = true) :
    bits .andNot .u32 x ((2 ^ n.toNat - 1) * 2 ^ lo.toNat % 4294967296) = Put x lo n 0 := by
  have h := put_val x lo n 0 hx hx' (by decide) (by decide) hm
  have hM : 0 ≤ ((2 : Int) ^ n.toNat - 1) * 2 ^ lo.toNat % 4294967296 ∧ ((2 : Int) ^ n.toNat - 1) * 2 ^ lo.toNat % 4294967296 < 4294967296 := by omega
  generalize ((2 : Int) ^ n.toNat - 1) * 2 ^ lo.toNat % 4294967296 = M at *
  rw [← h]
  have hz : bits .and .u32 (0 * 2 ^ lo.toNat % 4294967296) M = 0 := by
    rw [Int.zero_mul]
    rw [show (0 : Int) % 4294967296 = 0 from rfl, u32_and 0 M (by decide) (by decide) hM.1 hM.2]; simp
  rw [hz]
  have hb : 0 ≤ bits .andNot .u32 x M ∧ bits .andNot .u32 x M < 4294967296 := by
    have : bits .andNot .u32 x M = (bits .andNot .u32 x M) % 4294967296 := by
      simp [bits, IntKind.wrap, IntKind.bits, IntKind.signed]
    omega
  rw [or_add _ 0 0 hb.1 (by decide) (by simp [Int.emod_one]) (by decide) hb.2 (by decide), Int.add_zero]

theorem ror_zero (x n : Int) (h : n % 32 = 0) : Ror x n = x := by
  rw [Ror, h]; simp [Int.emod_one]
theorem lsl_zero (x n : Int) (hx : 0 ≤ x) (hx' : x < 4294967296) (h : n % 32 = 0) : Lsl x n = x := by
  rw [Lsl, h]; simp; omega
theorem asr_zero (x n : Int) (hx : 0 ≤ x) (hx' : x < 4294967296) (h : n % 32 = 0) : Asr x n = x := by
  rw [Asr, h]; simp [wrap32]; omega
theorem ror_ror (x k : Int) (hx : 0 ≤ x) (hx' : x < 4294967296) (hk : 0 < k) (hk' : k < 32) : Ror (Ror x k) (32 - k) = x := by
  obtain ⟨m, rfl⟩ := Int.eq_ofNat_of_zero_le (Int.le_of_lt hk)
  have e1 : ((m : Int) % 32).toNat = m := by omega
  have e2 : ((32 - (m : Int)) % 32).toNat = 32 - m := by omega
  simp only [Ror, e1, e2]
  rw [show 32 - (32 - m) = m by omega]
  have hp := pow_pos (32 - m)
  have hd := div_lt_pow x m hx hx' (by omega)
  have hd0 : 0 ≤ x / 2 ^ m := Int.ediv_nonneg hx (Int.le_of_lt (pow_pos m))
  have a1 : (x / 2 ^ m + x % 2 ^ m * 2 ^ (32 - m)) / 2 ^ (32 - m) = x % 2 ^ m := by
    rw [Int.add_mul_ediv_right _ _ (by omega), Int.ediv_eq_zero_of_lt hd0 hd, Int.zero_add]
  have a2 : (x / 2 ^ m + x % 2 ^ m * 2 ^ (32 - m)) % 2 ^ (32 - m) = x / 2 ^ m := by
    rw [Int.add_mul_emod_self_right, Int.emod_eq_of_lt hd0 hd]
  rw [a1, a2]
  have := Int.mul_ediv_add_emod x (2 ^ m)
  rw [Int.mul_comm] at this; omega
theorem ror_join (x n k : Int) (hx : 0 ≤ x) (hx' : x < 4294967296) (hn : n % 32 = k) (hk : 0 < k) (hk' : k < 32) : bits .or .u32 (Get x k (32 - k)) (Lsl x (32 - k)) = Ror x n := by
  obtain ⟨m, rfl⟩ := Int.eq_ofNat_of_zero_le (Int.le_of_lt hk)
  have e2 : ((32 - (m : Int)) % 32).toNat = 32 - m := by omega
  have hd := div_lt_pow x m hx hx' (by omega)
  have hd0 : 0 ≤ x / 2 ^ m := Int.ediv_nonneg hx (Int.le_of_lt (pow_pos m))
  have hl : x / 2 ^ m ≤ x := Int.ediv_le_self _ hx
  have hmay : may (m : Int) (32 - m) = true := (may_iff _ _).2 ⟨by omega, by omega, by omega⟩
  rw [Ror, hn, Lsl, e2, Get, if_pos hmay, Int.toNat_natCast, show (32 - (m : Int)).toNat = 32 - m by omega, Int.emod_eq_of_lt hd0 hd]
  have hu : x * 2 ^ (32 - m) % 4294967296 = x % 2 ^ m * 2 ^ (32 - m) := by
    have := mul_mod_pow x (32 - m) 32 (by omega)
    rw [show 32 - (32 - m) = m by omega] at this
    exact this
  have hb : 0 ≤ x * 2 ^ (32 - m) % 4294967296 ∧ x * 2 ^ (32 - m) % 4294967296 < 4294967296 := by omega
  have hc : bits .or .u32 (x / 2 ^ m) (x * 2 ^ (32 - m) % 4294967296) = bits .or .u32 (x * 2 ^ (32 - m) % 4294967296) (x / 2 ^ m) := by
    simp [bits, BitVec.or_comm]
  rw [hc, or_add _ _ (32 - m) hb.1 hd0 (by rw [hu]; exact Int.mul_emod_left _ _) hd hb.2 (by omega), hu, Int.add_comm]

theorem extend_word (v n : Int) (hm : few n = true) : Extend (v % 4294967296) n = (v + 2 ^ (n.toNat - 1)) % 2 ^ n.toNat - 2 ^ (n.toNat - 1) := by
  have hi := (few_iff n).1 hm
  rw [Extend, if_pos hm]
  have hd : (4294967296 : Int) = 2 ^ n.toNat * 2 ^ (32 - n.toNat) := by rw [← Int.pow_add, show n.toNat + (32 - n.toNat) = 32 by omega]; rfl
  rw [← Int.emod_add_emod, hd, Int.emod_emod_of_dvd _ (Int.dvd_mul_right _ _), Int.emod_add_emod]
theorem fits_extend (v n : Int) (hm : few n = true) : (Extend (v % 4294967296) n == v) = Fits v n := by
  have hi := (few_iff n).1 hm
  rw [extend_word v n hm, Fits, hm, Bool.true_and, Bool.eq_iff_iff, beq_iff_eq, decide_eq_true_eq]
  have hr : (2 : Int) ^ n.toNat = 2 ^ (n.toNat - 1) * 2 := by rw [← Int.pow_succ]; congr 1; omega
  have hq := pow_pos (n.toNat - 1)
  have h1 := Int.emod_nonneg (v + 2 ^ (n.toNat - 1)) (show (2 : Int) ^ n.toNat ≠ 0 by have := pow_pos n.toNat; omega)
  have h2 := Int.emod_lt_of_pos (v + 2 ^ (n.toNat - 1)) (pow_pos n.toNat)
  constructor
  · intro h
    omega
  · intro h
    rw [Int.emod_eq_of_lt (by omega) (by omega)]; omega
theorem fits_none (v n : Int) (h : few n = false) : Fits v n = false := by simp [Fits, h]
theorem extend_none (v n : Int) (h : few n = false) : Extend v n = 0 := by simp [Extend, h]
theorem fits_32 (v : Int) : (wrap32 (v % 4294967296) == v) = Fits v 32 := by
  rw [Fits, show few 32 = true from rfl, Bool.true_and, Bool.eq_iff_iff, beq_iff_eq, decide_eq_true_eq, show ((2 : Int) ^ ((32 : Int).toNat - 1)) = 2147483648 from rfl]
  unfold wrap32; omega

end Bw
end Go.Proofs.Ytefgajojimkdiaa

/-
  Plain facts about instructions and their words. No program in sight.
-/
namespace Go.Proofs.Ytefgajojimkdiaa
set_option linter.unusedVariables false
set_option linter.unusedSimpArgs false
open Go.RowKit Bw

/-- An instruction. -/
structure Ins where
  form : Int
  u : Bool
  v : Bool
  a : Int
  b : Int
  c : Int
  op : Int
  im : Int
  deriving DecidableEq

namespace Ins
def cells (x : Ins) : Array Value := #[.int .i64 x.form, .bool x.u, .bool x.v, .int .i64 x.a, .int .i64 x.b, .int .i64 x.c, .int .i64 x.op, .int .i64 x.im]
def val (x : Ins) : Value := .agg x.cells
def zero : Ins := ⟨0, false, false, 0, 0, 0, 0, 0⟩
def half (v n : Int) : Bool := decide (0 ≤ v ∧ v < 2 ^ n.toNat)
def uop (op : Int) : Bool := decide (op = 0 ∨ 8 ≤ op ∧ op ≤ 10)
def inb (n a b : Int) : Bool := decide (a ≤ n ∧ n ≤ b)
def good (x : Ins) : Bool :=
  half x.a 4 && half x.b 4 && half x.c 4 && inb x.op 0 11 &&
  (if x.form = 0 then (!x.v || (x.u && decide (x.op = 0))) && decide (x.im = 0) && (!x.u || uop x.op)
   else if x.form = 1 then half x.im 16 && decide (x.c = 0) && (!x.u || uop x.op)
   else if x.form = 2 then Fits x.im 20 && decide (x.c = 0) && decide (x.op = 0)
   else if x.form = 3 then decide (x.b = 0) && decide (x.op = 0) && (if x.u = true then decide (x.c = 0) && Fits x.im 24 else decide (x.im = 0))
   else false)
/-- Its numbers are numbers of 64 bits. -/
def fits (x : Ins) : Prop := -9223372036854775808 ≤ x.form ∧ x.form ≤ 9223372036854775807 ∧ -9223372036854775808 ≤ x.a ∧ x.a ≤ 9223372036854775807 ∧ -9223372036854775808 ≤ x.b ∧ x.b ≤ 9223372036854775807 ∧
  -9223372036854775808 ≤ x.c ∧ x.c ≤ 9223372036854775807 ∧ -9223372036854775808 ≤ x.op ∧ x.op ≤ 9223372036854775807 ∧ -9223372036854775808 ≤ x.im ∧ x.im ≤ 9223372036854775807
end Ins

theorem fits20 (x : Int) : Fits x 20 = decide (-524288 ≤ x ∧ x < 524288) := by
  rw [Fits, show few 20 = true from rfl, Bool.true_and]; rfl
theorem fits24 (x : Int) : Fits x 24 = decide (-8388608 ≤ x ∧ x < 8388608) := by
  rw [Fits, show few 24 = true from rfl, Bool.true_and]; rfl
theorem half4 (x : Int) : Ins.half x 4 = decide (0 ≤ x ∧ x < 16) := rfl
theorem half16 (x : Int) : Ins.half x 16 = decide (0 ≤ x ∧ x < 65536) := rfl

namespace Ins
def one (b : Bool) (k : Nat) : Int := if b = true then 2 ^ k else 0
/-- The word of an instruction. -/
def enc (x : Ins) : Int :=
  x.form * 1073741824 + one x.u 29 + one x.v 28 + x.a * 16777216 +
  (if x.form = 3 then x.c + x.im % 16777216 else x.b * 1048576 + (if x.form = 2 then x.im % 1048576 else x.op * 65536 + x.c + x.im))
theorem good_range (x : Ins) (h : x.good = true) : 0 ≤ x.form ∧ x.form ≤ 3 ∧ 0 ≤ x.a ∧ x.a < 16 ∧ 0 ≤ x.b ∧ x.b < 16 ∧ 0 ≤ x.c ∧ x.c < 16 ∧ 0 ≤ x.op ∧ x.op ≤ 11 := by
  simp only [good, half4, inb, Bool.and_eq_true, decide_eq_true_eq] at h
  obtain ⟨⟨⟨⟨h1, h2⟩, h3⟩, h4⟩, h5⟩ := h
  have h6 : 0 ≤ x.form ∧ x.form ≤ 3 := by
    by_cases e0 : x.form = 0
    · omega
    by_cases e1 : x.form = 1
    · omega
    by_cases e2 : x.form = 2
    · omega
    by_cases e3 : x.form = 3
    · omega
    rw [if_neg e0, if_neg e1, if_neg e2, if_neg e3] at h5
    cases h5
  omega
end Ins

theorem one29 (b : Bool) : Ins.one b 29 = 0 ∨ Ins.one b 29 = 536870912 := by cases b <;> simp [Ins.one]
theorem one28 (b : Bool) : Ins.one b 28 = 0 ∨ Ins.one b 28 = 268435456 := by cases b <;> simp [Ins.one]

/-- A word's four upper fields, joined. -/
theorem join4 (f a : Int) (u v : Bool) (hf : 0 ≤ f) (hf' : f ≤ 3) (ha : 0 ≤ a) (ha' : a < 16) :
    bits .or .u32 (bits .or .u32 (bits .or .u32 (f * 1073741824) (Ins.one u 29)) (Ins.one v 28)) (a * 16777216) = f * 1073741824 + Ins.one u 29 + Ins.one v 28 + a * 16777216 := by
  have h1 := one29 u
  have h2 := one28 v
  generalize Ins.one u 29 = U at *
  generalize Ins.one v 28 = V at *
  rw [or_add (f * 1073741824) (U) 30 (by omega) (by omega) (by omega) (by omega) (by omega) (by omega)]
  rw [or_add (f * 1073741824 + U) (V) 29 (by omega) (by omega) (by omega) (by omega) (by omega) (by omega)]
  rw [or_add (f * 1073741824 + U + V) (a * 16777216) 28 (by omega) (by omega) (by omega) (by omega) (by omega) (by omega)]
theorem join4_bd (f a : Int) (u v : Bool) (hf : 0 ≤ f) (hf' : f ≤ 3) (ha : 0 ≤ a) (ha' : a < 16) :
    ∃ q : Int, f * 1073741824 + Ins.one u 29 + Ins.one v 28 + a * 16777216 = q * 16777216 ∧ 0 ≤ q ∧ q < 256 := by
  have h1 := one29 u
  have h2 := one28 v
  generalize Ins.one u 29 = U at *
  generalize Ins.one v 28 = V at *
  exact ⟨(f * 1073741824 + U + V + a * 16777216) / 16777216, by omega, by omega, by omega⟩
theorem and24 (x : Int) (h : 0 ≤ x) (h' : x < 4294967296) : bits .and .u32 x 16777215 = x % 16777216 := by
  have := and_mask x 24 h h' (by omega)
  simpa using this
theorem and20 (x : Int) (h : 0 ≤ x) (h' : x < 4294967296) : bits .and .u32 x 1048575 = x % 1048576 := by
  have := and_mask x 20 h h' (by omega)
  simpa using this

/-- The words as the program joins them. -/
theorem enc_reg (f a b op c im : Int) (u v : Bool) (hf : 0 ≤ f) (hf' : f ≤ 3) (ha : 0 ≤ a) (ha' : a < 16) (hb : 0 ≤ b) (hb' : b < 16) (ho : 0 ≤ op) (ho' : op < 16) (hc : 0 ≤ c) (hc' : c < 16) (hi : 0 ≤ im) (hi' : im < 65536) (h0 : c = 0 ∨ im = 0) :
    bits .or .u32 (bits .or .u32 (bits .or .u32 (bits .or .u32 (bits .or .u32 (bits .or .u32 (bits .or .u32 (f * 1073741824) (Ins.one u 29)) (Ins.one v 28)) (a * 16777216)) (b * 1048576)) (op * 65536)) c) im =
      f * 1073741824 + Ins.one u 29 + Ins.one v 28 + a * 16777216 + (b * 1048576 + (op * 65536 + c + im)) := by
  rw [join4 f a u v hf hf' ha ha']
  obtain ⟨q, hq, q0, q1⟩ := join4_bd f a u v hf hf' ha ha'
  rw [hq]
  rw [or_add (q * 16777216) (b * 1048576) 24 (by omega) (by omega) (by omega) (by omega) (by omega) (by omega)]
  rw [or_add (q * 16777216 + b * 1048576) (op * 65536) 20 (by omega) (by omega) (by omega) (by omega) (by omega) (by omega)]
  rw [or_add (q * 16777216 + b * 1048576 + op * 65536) (c) 16 (by omega) (by omega) (by omega) (by omega) (by omega) (by omega)]
  rcases h0 with h0 | h0
  · rw [or_add (q * 16777216 + b * 1048576 + op * 65536 + c) (im) 16 (by omega) (by omega) (by omega) (by omega) (by omega) (by omega)]; omega
  · rw [or_add (q * 16777216 + b * 1048576 + op * 65536 + c) (im) 0 (by omega) (by omega) (by omega) (by omega) (by omega) (by omega)]; omega
theorem enc_mem (f a b im : Int) (u v : Bool) (hf : 0 ≤ f) (hf' : f ≤ 3) (ha : 0 ≤ a) (ha' : a < 16) (hb : 0 ≤ b) (hb' : b < 16) :
    bits .or .u32 (bits .or .u32 (bits .or .u32 (bits .or .u32 (bits .or .u32 (f * 1073741824) (Ins.one u 29)) (Ins.one v 28)) (a * 16777216)) (b * 1048576)) (bits .and .u32 (im % 4294967296) 1048575) =
      f * 1073741824 + Ins.one u 29 + Ins.one v 28 + a * 16777216 + (b * 1048576 + im % 1048576) := by
  rw [join4 f a u v hf hf' ha ha', and20 _ (by omega) (by omega)]
  obtain ⟨q, hq, q0, q1⟩ := join4_bd f a u v hf hf' ha ha'
  rw [hq]
  rw [or_add (q * 16777216) (b * 1048576) 24 (by omega) (by omega) (by omega) (by omega) (by omega) (by omega)]
  rw [or_add (q * 16777216 + b * 1048576) (im % 4294967296 % 1048576) 20 (by omega) (by omega) (by omega) (by omega) (by omega) (by omega)]
  omega
theorem enc_jump (f a c im : Int) (u v : Bool) (hf : 0 ≤ f) (hf' : f ≤ 3) (ha : 0 ≤ a) (ha' : a < 16) (hc : 0 ≤ c) (hc' : c < 16) (h0 : c = 0 ∨ im = 0) :
    bits .or .u32 (bits .or .u32 (bits .or .u32 (bits .or .u32 (bits .or .u32 (f * 1073741824) (Ins.one u 29)) (Ins.one v 28)) (a * 16777216)) c) (bits .and .u32 (im % 4294967296) 16777215) =
      f * 1073741824 + Ins.one u 29 + Ins.one v 28 + a * 16777216 + (c + im % 16777216) := by
  rw [join4 f a u v hf hf' ha ha', and24 _ (by omega) (by omega)]
  obtain ⟨q, hq, q0, q1⟩ := join4_bd f a u v hf hf' ha ha'
  rw [hq]
  rw [or_add (q * 16777216) (c) 24 (by omega) (by omega) (by omega) (by omega) (by omega) (by omega)]
  rcases h0 with h0 | h0
  · rw [or_add (q * 16777216 + c) (im % 4294967296 % 16777216) 24 (by omega) (by omega) (by omega) (by omega) (by omega) (by omega)]; omega
  · rw [or_add (q * 16777216 + c) (im % 4294967296 % 16777216) 0 (by omega) (by omega) (by omega) (by omega) (by omega) (by omega)]; omega

theorem Ins.good_im0 (u v : Bool) (a b c op im : Int) (h : Ins.good ⟨0, u, v, a, b, c, op, im⟩ = true) : 0 ≤ im ∧ im ≤ 0 := by
  simp [Ins.good, half4, Ins.inb] at h; omega
theorem Ins.good_im1 (u v : Bool) (a b c op im : Int) (h : Ins.good ⟨1, u, v, a, b, c, op, im⟩ = true) : 0 ≤ im ∧ im < 65536 := by
  simp [Ins.good, half4, half16, Ins.inb] at h; omega
theorem Ins.good_im2 (u v : Bool) (a b c op im : Int) (h : Ins.good ⟨2, u, v, a, b, c, op, im⟩ = true) : -524288 ≤ im ∧ im < 524288 := by
  simp [Ins.good, half4, fits20, Ins.inb] at h; omega
theorem Ins.good_im3 (u v : Bool) (a b c op im : Int) (h : Ins.good ⟨3, u, v, a, b, c, op, im⟩ = true) : -8388608 ≤ im ∧ im < 8388608 := by
  cases u <;> simp [Ins.good, half4, fits24, Ins.inb] at h <;> omega
theorem enc_val_0 (u v : Bool) (a b c op im : Int) (h : Ins.good ⟨0, u, v, a, b, c, op, im⟩ = true) :
    bits .or .u32 (bits .or .u32 (bits .or .u32 (bits .or .u32 (bits .or .u32 (bits .or .u32 (bits .or .u32 0 (Ins.one u 29)) (Ins.one v 28)) (a * 16777216)) (b * 1048576)) (op * 65536)) c) im = Ins.enc ⟨0, u, v, a, b, c, op, im⟩ := by
  have hr := Ins.good_range _ h
  have hi := Ins.good_im0 u v a b c op im h
  simp only at hr
  have := enc_reg 0 a b op c im u v (by omega) (by omega) (by omega) (by omega) (by omega) (by omega) (by omega) (by omega) (by omega) (by omega) (by omega) (by omega) (by omega)
  simpa [Ins.enc] using this
theorem enc_val_1 (u v : Bool) (a b c op im : Int) (h : Ins.good ⟨1, u, v, a, b, c, op, im⟩ = true) :
    bits .or .u32 (bits .or .u32 (bits .or .u32 (bits .or .u32 (bits .or .u32 (bits .or .u32 (bits .or .u32 1073741824 (Ins.one u 29)) (Ins.one v 28)) (a * 16777216)) (b * 1048576)) (op * 65536)) c) im = Ins.enc ⟨1, u, v, a, b, c, op, im⟩ := by
  have hr := Ins.good_range _ h
  have hi := Ins.good_im1 u v a b c op im h
  have hc : c = 0 := by simp [Ins.good] at h; omega
  simp only at hr
  have := enc_reg 1 a b op c im u v (by omega) (by omega) (by omega) (by omega) (by omega) (by omega) (by omega) (by omega) (by omega) (by omega) (by omega) (by omega) (by omega)
  simpa [Ins.enc] using this
theorem enc_val_2 (u v : Bool) (a b c op im : Int) (h : Ins.good ⟨2, u, v, a, b, c, op, im⟩ = true) :
    bits .or .u32 (bits .or .u32 (bits .or .u32 (bits .or .u32 (bits .or .u32 2147483648 (Ins.one u 29)) (Ins.one v 28)) (a * 16777216)) (b * 1048576)) (bits .and .u32 (im % 4294967296) 1048575) = Ins.enc ⟨2, u, v, a, b, c, op, im⟩ := by
  have hr := Ins.good_range _ h
  simp only at hr
  have := enc_mem 2 a b im u v (by omega) (by omega) (by omega) (by omega) (by omega) (by omega)
  simpa [Ins.enc] using this
theorem enc_val_3 (u v : Bool) (a b c op im : Int) (h : Ins.good ⟨3, u, v, a, b, c, op, im⟩ = true) :
    bits .or .u32 (bits .or .u32 (bits .or .u32 (bits .or .u32 (bits .or .u32 3221225472 (Ins.one u 29)) (Ins.one v 28)) (a * 16777216)) c) (bits .and .u32 (im % 4294967296) 16777215) = Ins.enc ⟨3, u, v, a, b, c, op, im⟩ := by
  have hr := Ins.good_range _ h
  have hc : c = 0 ∨ im = 0 := by cases u <;> simp [Ins.good] at h <;> omega
  simp only at hr
  have := enc_jump 3 a c im u v (by omega) (by omega) (by omega) (by omega) (by omega) (by omega) hc
  simpa [Ins.enc] using this

def Ins.bit (b : Bool) : Int := if b = true then 1 else 0
theorem Ins.bit_bd (b : Bool) : 0 ≤ Ins.bit b ∧ Ins.bit b < 2 := by cases b <;> simp [Ins.bit]
theorem Ins.one_bit (b : Bool) (k : Nat) : Ins.one b k = Ins.bit b * 2 ^ k := by cases b <;> simp [Ins.one, Ins.bit]
theorem put_30_2 (x v : Int) (h : x / 1073741824 % 4 = 0) : Put x 30 2 v = x + v % 4 * 1073741824 := by
  rw [Put, if_pos (show may 30 2 = true from rfl), show (2 : Int) ^ (30 : Int).toNat = 1073741824 from rfl, show (2 : Int) ^ (2 : Int).toNat = 4 from rfl]; omega
theorem put_29_1 (x v : Int) (h : x / 536870912 % 2 = 0) : Put x 29 1 v = x + v % 2 * 536870912 := by
  rw [Put, if_pos (show may 29 1 = true from rfl), show (2 : Int) ^ (29 : Int).toNat = 536870912 from rfl, show (2 : Int) ^ (1 : Int).toNat = 2 from rfl]; omega
theorem put_28_1 (x v : Int) (h : x / 268435456 % 2 = 0) : Put x 28 1 v = x + v % 2 * 268435456 := by
  rw [Put, if_pos (show may 28 1 = true from rfl), show (2 : Int) ^ (28 : Int).toNat = 268435456 from rfl, show (2 : Int) ^ (1 : Int).toNat = 2 from rfl]; omega
theorem put_24_4 (x v : Int) (h : x / 16777216 % 16 = 0) : Put x 24 4 v = x + v % 16 * 16777216 := by
  rw [Put, if_pos (show may 24 4 = true from rfl), show (2 : Int) ^ (24 : Int).toNat = 16777216 from rfl, show (2 : Int) ^ (4 : Int).toNat = 16 from rfl]; omega
theorem put_20_4 (x v : Int) (h : x / 1048576 % 16 = 0) : Put x 20 4 v = x + v % 16 * 1048576 := by
  rw [Put, if_pos (show may 20 4 = true from rfl), show (2 : Int) ^ (20 : Int).toNat = 1048576 from rfl, show (2 : Int) ^ (4 : Int).toNat = 16 from rfl]; omega
theorem put_16_4 (x v : Int) (h : x / 65536 % 16 = 0) : Put x 16 4 v = x + v % 16 * 65536 := by
  rw [Put, if_pos (show may 16 4 = true from rfl), show (2 : Int) ^ (16 : Int).toNat = 65536 from rfl, show (2 : Int) ^ (4 : Int).toNat = 16 from rfl]; omega
theorem put_0_4 (x v : Int) (h : x / 1 % 16 = 0) : Put x 0 4 v = x + v % 16 * 1 := by
  rw [Put, if_pos (show may 0 4 = true from rfl), show (2 : Int) ^ (0 : Int).toNat = 1 from rfl, show (2 : Int) ^ (4 : Int).toNat = 16 from rfl]; omega
theorem put_0_16 (x v : Int) (h : x / 1 % 65536 = 0) : Put x 0 16 v = x + v % 65536 * 1 := by
  rw [Put, if_pos (show may 0 16 = true from rfl), show (2 : Int) ^ (0 : Int).toNat = 1 from rfl, show (2 : Int) ^ (16 : Int).toNat = 65536 from rfl]; omega
theorem put_0_20 (x v : Int) (h : x / 1 % 1048576 = 0) : Put x 0 20 v = x + v % 1048576 * 1 := by
  rw [Put, if_pos (show may 0 20 = true from rfl), show (2 : Int) ^ (0 : Int).toNat = 1 from rfl, show (2 : Int) ^ (20 : Int).toNat = 1048576 from rfl]; omega
theorem put_0_24 (x v : Int) (h : x / 1 % 16777216 = 0) : Put x 0 24 v = x + v % 16777216 * 1 := by
  rw [Put, if_pos (show may 0 24 = true from rfl), show (2 : Int) ^ (0 : Int).toNat = 1 from rfl, show (2 : Int) ^ (24 : Int).toNat = 16777216 from rfl]; omega
theorem enc_ref (u v : Bool) (f a b c op im : Int) : Ins.enc ⟨f, u, v, a, b, c, op, im⟩ = f * 1073741824 + Ins.bit u * 536870912 + Ins.bit v * 268435456 + a * 16777216 +
    (if f = 3 then c + im % 16777216 else b * 1048576 + (if f = 2 then im % 1048576 else op * 65536 + c + im)) := by
  rw [Ins.enc, Ins.one_bit, Ins.one_bit]; simp only; rfl

/-- Of C and Im one is 0. -/
theorem Ins.good_ci (f : Int) (u v : Bool) (a b c op im : Int) (h : Ins.good ⟨f, u, v, a, b, c, op, im⟩ = true) : (f = 0 → im = 0) ∧ (f = 1 → c = 0) ∧ (f = 2 → c = 0 ∧ op = 0) ∧ (f = 3 → b = 0 ∧ op = 0 ∧ ((u = true → c = 0) ∧ (u = false → im = 0))) := by
  refine ⟨?_, ?_, ?_, ?_⟩
  · rintro rfl; simp [Ins.good] at h; omega
  · rintro rfl; simp [Ins.good] at h; omega
  · rintro rfl; simp [Ins.good] at h; omega
  · rintro rfl; cases u <;> simp [Ins.good] at h <;> simp <;> omega

namespace Ins
/-- A word's fields, by its form. -/
def decF (w : Int) : Ins :=
  if w / 1073741824 = 0 then ⟨0, decide (w / 536870912 % 2 = 1), decide (w / 268435456 % 2 = 1), Get w 24 4, Get w 20 4, w % 16, Get w 16 4, 0⟩
  else if w / 1073741824 = 1 then ⟨1, decide (w / 536870912 % 2 = 1), decide (w / 268435456 % 2 = 1), Get w 24 4, Get w 20 4, 0, Get w 16 4, w % 65536⟩
  else if w / 1073741824 = 2 then ⟨2, decide (w / 536870912 % 2 = 1), decide (w / 268435456 % 2 = 1), Get w 24 4, Get w 20 4, 0, 0, Extend w 20⟩
  else if w / 536870912 % 2 = 1 then ⟨3, true, decide (w / 268435456 % 2 = 1), Get w 24 4, 0, 0, 0, Extend w 24⟩
  else ⟨3, false, decide (w / 268435456 % 2 = 1), Get w 24 4, 0, w % 16, 0, 0⟩
/-- Is a word an instruction's? -/
def isIns (w : Int) : Bool := (decF w).good && ((decF w).enc == w)
def dec (w : Int) : Ins := if isIns w = true then decF w else zero
def derr (w : Int) : Int := if isIns w = true then 0 else 20
def E (x : Ins) : Int := if x.good = true then x.enc else 0
def eerr (x : Ins) : Int := if x.good = true then 0 else 20
end Ins
theorem and_1 (x : Int) (h : 0 ≤ x) (h' : x < 4294967296) : bits .and .u32 x 1 = x % 2 := by
  have := and_mask x 1 h h' (by omega)
  simpa using this
theorem and_15 (x : Int) (h : 0 ≤ x) (h' : x < 4294967296) : bits .and .u32 x 15 = x % 16 := by
  have := and_mask x 4 h h' (by omega)
  simpa using this
theorem get4_bd (w lo : Int) (h : may lo 4 = true) : 0 ≤ Get w lo 4 ∧ Get w lo 4 < 16 := get_lt w lo 4 h
theorem extend_bd (v n : Int) : -2147483648 ≤ Extend v n ∧ Extend v n < 2147483648 := by
  cases hm : few n
  · simp [Extend, hm]
  · have hi := (few_iff n).1 hm
    rw [Extend, if_pos hm]
    have h1 := Int.emod_nonneg (v + 2 ^ (n.toNat - 1)) (show (2 : Int) ^ n.toNat ≠ 0 by have := pow_pos n.toNat; omega)
    have h2 := Int.emod_lt_of_pos (v + 2 ^ (n.toNat - 1)) (pow_pos n.toNat)
    have hr : (2 : Int) ^ n.toNat = 2 ^ (n.toNat - 1) * 2 := by rw [← Int.pow_succ]; congr 1; omega
    have h3 : (2 : Int) ^ (n.toNat - 1) ≤ 2 ^ 31 := pow_mono (by omega)
    generalize (v + 2 ^ (n.toNat - 1)) % 2 ^ n.toNat = k at *
    generalize (2 : Int) ^ (n.toNat - 1) = q at *
    omega
theorem Ins.decF_fits (w : Int) (h : 0 ≤ w) (h' : w < 4294967296) : (Ins.decF w).fits := by
  have a1 := get_bd w 24 4 h h'
  have a2 := get_bd w 20 4 h h'
  have a3 := get_bd w 16 4 h h'
  have e1 := extend_bd w 20
  have e2 := extend_bd w 24
  unfold Ins.decF
  split
  · refine ⟨?_, ?_, ?_, ?_, ?_, ?_, ?_, ?_, ?_, ?_, ?_, ?_⟩ <;> simp only <;> omega
  split
  · refine ⟨?_, ?_, ?_, ?_, ?_, ?_, ?_, ?_, ?_, ?_, ?_, ?_⟩ <;> simp only <;> omega
  split
  · refine ⟨?_, ?_, ?_, ?_, ?_, ?_, ?_, ?_, ?_, ?_, ?_, ?_⟩ <;> simp only <;> omega
  split
  · refine ⟨?_, ?_, ?_, ?_, ?_, ?_, ?_, ?_, ?_, ?_, ?_, ?_⟩ <;> simp only <;> omega
  · refine ⟨?_, ?_, ?_, ?_, ?_, ?_, ?_, ?_, ?_, ?_, ?_, ?_⟩ <;> simp only <;> omega

theorem get_30 (x : Int) (h : 0 ≤ x) (h' : x < 4294967296) : Get x 30 2 = x / 1073741824 := by
  rw [Get, if_pos (show may 30 2 = true from rfl), show (2 : Int) ^ (30 : Int).toNat = 1073741824 from rfl, show (2 : Int) ^ (2 : Int).toNat = 4 from rfl]; omega
theorem get_29 (x : Int) : Get x 29 1 = x / 536870912 % 2 := by
  rw [Get, if_pos (show may 29 1 = true from rfl)]; rfl
theorem get_28 (x : Int) : Get x 28 1 = x / 268435456 % 2 := by
  rw [Get, if_pos (show may 28 1 = true from rfl)]; rfl
theorem get_0_4 (x : Int) : Get x 0 4 = x % 16 := by
  rw [Get, if_pos (show may 0 4 = true from rfl), show (2 : Int) ^ (0 : Int).toNat = 1 from rfl, Int.ediv_one]; rfl
theorem get_0_16 (x : Int) : Get x 0 16 = x % 65536 := by
  rw [Get, if_pos (show may 0 16 = true from rfl), show (2 : Int) ^ (0 : Int).toNat = 1 from rfl, Int.ediv_one]; rfl
theorem get_0_20 (x : Int) : Get x 0 20 = x % 1048576 := by
  rw [Get, if_pos (show may 0 20 = true from rfl), show (2 : Int) ^ (0 : Int).toNat = 1 from rfl, Int.ediv_one]; rfl
theorem get_0_24 (x : Int) : Get x 0 24 = x % 16777216 := by
  rw [Get, if_pos (show may 0 24 = true from rfl), show (2 : Int) ^ (0 : Int).toNat = 1 from rfl, Int.ediv_one]; rfl
theorem extend_mod20 (x : Int) : Extend (x % 1048576) 20 = Extend x 20 := by
  rw [Extend, Extend, if_pos (show few 20 = true from rfl), if_pos (show few 20 = true from rfl), show (2 : Int) ^ (20 : Int).toNat = 1048576 from rfl, show (2 : Int) ^ ((20 : Int).toNat - 1) = 524288 from rfl]; omega
theorem extend_mod24 (x : Int) : Extend (x % 16777216) 24 = Extend x 24 := by
  rw [Extend, Extend, if_pos (show few 24 = true from rfl), if_pos (show few 24 = true from rfl), show (2 : Int) ^ (24 : Int).toNat = 16777216 from rfl, show (2 : Int) ^ ((24 : Int).toNat - 1) = 8388608 from rfl]; omega

theorem get_24_4 (x : Int) : Get x 24 4 = x / 16777216 % 16 := by
  rw [Get, if_pos (show may 24 4 = true from rfl)]; rfl
theorem get_20_4 (x : Int) : Get x 20 4 = x / 1048576 % 16 := by
  rw [Get, if_pos (show may 20 4 = true from rfl)]; rfl
theorem get_16_4 (x : Int) : Get x 16 4 = x / 65536 % 16 := by
  rw [Get, if_pos (show may 16 4 = true from rfl)]; rfl
theorem ext_20 (x : Int) : Extend x 20 = (x + 524288) % 1048576 - 524288 := by
  rw [Extend, if_pos (show few 20 = true from rfl)]; rfl
theorem ext_24 (x : Int) : Extend x 24 = (x + 8388608) % 16777216 - 8388608 := by
  rw [Extend, if_pos (show few 24 = true from rfl)]; rfl
theorem Ins.bit_eq (b : Bool) (n : Int) (h : n = Ins.bit b) : decide (n = 1) = b := by subst h; cases b <;> simp [Ins.bit]

/-- What was written is read as it was. -/
theorem Ins.decF_enc (x : Ins) (h : x.good = true) : Ins.decF x.enc = x := by
  have hr := Ins.good_range _ h
  obtain ⟨form, u, v, a, b, c, op, im⟩ := x
  have hj := Ins.good_ci form u v a b c op im h
  have bu := Ins.bit_bd u
  have bv := Ins.bit_bd v
  simp only at hr
  have h4 : form = 0 ∨ form = 1 ∨ form = 2 ∨ form = 3 := by omega
  rcases h4 with rfl | rfl | rfl | rfl
  · have hi := Ins.good_im0 u v a b c op im h
    have hE : Ins.enc ⟨0, u, v, a, b, c, op, im⟩ = Ins.bit u * 536870912 + Ins.bit v * 268435456 + a * 16777216 + b * 1048576 + op * 65536 + c + im := by rw [enc_ref]; simp; omega
    rw [hE, Ins.decF, if_pos (by omega), get_24_4, get_20_4, get_16_4]
    rw [Ins.bit_eq u _ (by omega), Ins.bit_eq v _ (by omega)]
    congr 1 <;> omega
  · have hi := Ins.good_im1 u v a b c op im h
    have hE : Ins.enc ⟨1, u, v, a, b, c, op, im⟩ = 1073741824 + Ins.bit u * 536870912 + Ins.bit v * 268435456 + a * 16777216 + b * 1048576 + op * 65536 + c + im := by rw [enc_ref]; simp; omega
    simp at hj
    rw [hE, Ins.decF, if_neg (by omega), if_pos (by omega), get_24_4, get_20_4, get_16_4]
    rw [Ins.bit_eq u _ (by omega), Ins.bit_eq v _ (by omega)]
    congr 1 <;> omega
  · have hi := Ins.good_im2 u v a b c op im h
    have hE : Ins.enc ⟨2, u, v, a, b, c, op, im⟩ = 2147483648 + Ins.bit u * 536870912 + Ins.bit v * 268435456 + a * 16777216 + b * 1048576 + im % 1048576 := by rw [enc_ref]; simp; omega
    simp at hj
    rw [hE, Ins.decF, if_neg (by omega), if_neg (by omega), if_pos (by omega), get_24_4, get_20_4, ext_20]
    rw [Ins.bit_eq u _ (by omega), Ins.bit_eq v _ (by omega)]
    congr 1 <;> omega
  · have hi := Ins.good_im3 u v a b c op im h
    have hE : Ins.enc ⟨3, u, v, a, b, c, op, im⟩ = 3221225472 + Ins.bit u * 536870912 + Ins.bit v * 268435456 + a * 16777216 + c + im % 16777216 := by rw [enc_ref]; simp; omega
    cases u
    · simp at hj
      have b0 : Ins.bit false = 0 := rfl
      rw [hE, Ins.decF, if_neg (by omega), if_neg (by omega), if_neg (by omega), if_neg (by omega), get_24_4]
      rw [Ins.bit_eq v _ (by omega)]
      congr 1 <;> omega
    · simp at hj
      have b0 : Ins.bit true = 1 := rfl
      rw [hE, Ins.decF, if_neg (by omega), if_neg (by omega), if_neg (by omega), if_pos (by omega), get_24_4, ext_24]
      rw [Ins.bit_eq v _ (by omega)]
      congr 1 <;> omega
theorem Ins.isIns_enc (x : Ins) (h : x.good = true) : Ins.isIns x.enc = true := by
  rw [Ins.isIns, Ins.decF_enc x h, h]; simp
theorem Ins.dec_enc (x : Ins) (h : x.good = true) : Ins.dec x.enc = x ∧ Ins.derr x.enc = 0 := by
  rw [Ins.dec, Ins.derr, Ins.isIns_enc x h, Ins.decF_enc x h]; exact ⟨rfl, rfl⟩
theorem Ins.enc_bd (x : Ins) (h : x.good = true) : 0 ≤ x.enc ∧ x.enc < 4294967296 := by
  have hr := Ins.good_range _ h
  obtain ⟨form, u, v, a, b, c, op, im⟩ := x
  have bu := Ins.bit_bd u
  have bv := Ins.bit_bd v
  simp only at hr
  rw [enc_ref]
  have h4 : form = 0 ∨ form = 1 ∨ form = 2 ∨ form = 3 := by omega
  rcases h4 with rfl | rfl | rfl | rfl
  · have hi := Ins.good_im0 u v a b c op im h
    simp; omega
  · have hi := Ins.good_im1 u v a b c op im h
    have hj := Ins.good_ci 1 u v a b c op im h
    simp at hj
    simp; omega
  · simp; omega
  · have hj := Ins.good_ci 3 u v a b c op im h
    cases u <;> simp at hj <;> simp <;> omega
theorem Ins.E_bd (x : Ins) : 0 ≤ x.E ∧ x.E < 4294967296 := by
  cases h : x.good
  · simp [Ins.E, h]
  · rw [Ins.E, if_pos h]; exact Ins.enc_bd x h
theorem Ins.dec_fits (w : Int) (h : 0 ≤ w) (h' : w < 4294967296) : (Ins.dec w).fits := by
  rw [Ins.dec]
  split
  · exact Ins.decF_fits w h h'
  · simp [Ins.zero, Ins.fits]
/-- What was read is an instruction, and is written as it was. -/
theorem Ins.dec_good (w : Int) (h : Ins.derr w = 0) : (Ins.dec w).good = true ∧ (Ins.dec w).enc = w := by
  have hi : Ins.isIns w = true := by
    cases hi : Ins.isIns w
    · rw [Ins.derr, hi] at h; simp at h
    · rfl
  rw [Ins.dec, if_pos hi]
  simp only [Ins.isIns, Bool.and_eq_true, beq_iff_eq] at hi
  exact hi
theorem Ins.dec_none (w : Int) (h : Ins.derr w ≠ 0) : Ins.dec w = Ins.zero ∧ Ins.derr w = 20 := by
  cases hi : Ins.isIns w
  · rw [Ins.dec, Ins.derr, hi]; exact ⟨rfl, rfl⟩
  · rw [Ins.derr, hi] at h; simp at h

theorem Ins.dec_forms (x : Int) (h : Ins.derr x = 0) : x / 1073741824 = (Ins.dec x).form ∧ decide (x / 536870912 % 2 = 1) = (Ins.dec x).u ∧ decide (x / 268435456 % 2 = 1) = (Ins.dec x).v ∧ x / 16777216 % 16 = (Ins.dec x).a := by
  have hg := Ins.dec_good x h
  have hi : Ins.isIns x = true := by
    cases hi : Ins.isIns x
    · rw [Ins.derr, hi] at h; simp at h
    · rfl
  have hr := Ins.good_range _ hg.1
  have hb := Ins.enc_bd _ hg.1
  rw [hg.2] at hb
  rw [Ins.dec, if_pos hi]
  by_cases h0 : x / 1073741824 = 0
  · rw [Ins.decF, if_pos h0, get_24_4]; exact ⟨h0, rfl, rfl, rfl⟩
  by_cases h1 : x / 1073741824 = 1
  · rw [Ins.decF, if_neg h0, if_pos h1, get_24_4]; exact ⟨h1, rfl, rfl, rfl⟩
  by_cases h2 : x / 1073741824 = 2
  · rw [Ins.decF, if_neg h0, if_neg h1, if_pos h2, get_24_4]; exact ⟨h2, rfl, rfl, rfl⟩
  have h3 : x / 1073741824 = 3 := by omega
  by_cases hu : x / 536870912 % 2 = 1
  · rw [Ins.decF, if_neg h0, if_neg h1, if_neg h2, if_pos hu, get_24_4]; exact ⟨h3, by simp [hu], rfl, rfl⟩
  · rw [Ins.decF, if_neg h0, if_neg h1, if_neg h2, if_neg hu, get_24_4]; exact ⟨h3, by simp [hu], rfl, rfl⟩

/-- Two words that differ in some bits alone: both unlike, these bits struck, is 0. -/
theorem unlike_none (p q M : Int) (hp : 0 ≤ p) (hp' : p < 4294967296) (hq : 0 ≤ q) (hq' : q < 4294967296) (hM : 0 ≤ M) (hM' : M < 4294967296) (h : bits .andNot .u32 p M = bits .andNot .u32 q M) :
    bits .andNot .u32 (bits .xor .u32 p q) M = 0 := by
  obtain ⟨P, rfl⟩ := Int.eq_ofNat_of_zero_le hp
  obtain ⟨Q, rfl⟩ := Int.eq_ofNat_of_zero_le hq
  obtain ⟨m, rfl⟩ := Int.eq_ofNat_of_zero_le hM
  have hP : P < 4294967296 := by omega
  have hQ : Q < 4294967296 := by omega
  have hm : m < 4294967296 := by omega
  have hX : P ^^^ Q < 4294967296 := Nat.xor_lt_two_pow (n := 32) hP hQ
  rw [u32_andNot_nat P m hP hm, u32_andNot_nat Q m hQ hm] at h
  have h' : P &&& (4294967295 - m) = Q &&& (4294967295 - m) := by exact_mod_cast h
  rw [u32_xor_nat P Q hP hQ, u32_andNot_nat _ m hX hm, Nat.and_xor_distrib_right, h', Nat.xor_self]
  rfl
theorem xor_a (H a k L : Int) (h0 : 0 ≤ H) (h1 : H < 16) (a0 : 0 ≤ a) (a1 : a < 16) (k0 : 0 ≤ k) (k1 : k < 16) (l0 : 0 ≤ L) (l1 : L < 16777216) :
    bits .andNot .u32 (bits .xor .u32 (H * 268435456 + a * 16777216 + L) (H * 268435456 + k * 16777216 + L)) 251658240 = 0 := by
  refine unlike_none _ _ _ (by omega) (by omega) (by omega) (by omega) (by omega) (by omega) ?_
  have e1 := andNot_put (H * 268435456 + a * 16777216 + L) 24 4 (by omega) (by omega) rfl
  have e2 := andNot_put (H * 268435456 + k * 16777216 + L) 24 4 (by omega) (by omega) rfl
  rw [show ((2 : Int) ^ (4 : Int).toNat - 1) * 2 ^ (24 : Int).toNat % 4294967296 = 251658240 from rfl] at e1 e2
  rw [e1, e2, Put, Put, if_pos (show may 24 4 = true from rfl), if_pos (show may 24 4 = true from rfl), show (2 : Int) ^ (24 : Int).toNat = 16777216 from rfl, show (2 : Int) ^ (4 : Int).toNat = 16 from rfl]
  omega
theorem xor_b (H a k L : Int) (h0 : 0 ≤ H) (h1 : H < 256) (a0 : 0 ≤ a) (a1 : a < 16) (k0 : 0 ≤ k) (k1 : k < 16) (l0 : 0 ≤ L) (l1 : L < 1048576) :
    bits .andNot .u32 (bits .xor .u32 (H * 16777216 + a * 1048576 + L) (H * 16777216 + k * 1048576 + L)) 15728640 = 0 := by
  refine unlike_none _ _ _ (by omega) (by omega) (by omega) (by omega) (by omega) (by omega) ?_
  have e1 := andNot_put (H * 16777216 + a * 1048576 + L) 20 4 (by omega) (by omega) rfl
  have e2 := andNot_put (H * 16777216 + k * 1048576 + L) 20 4 (by omega) (by omega) rfl
  rw [show ((2 : Int) ^ (4 : Int).toNat - 1) * 2 ^ (20 : Int).toNat % 4294967296 = 15728640 from rfl] at e1 e2
  rw [e1, e2, Put, Put, if_pos (show may 20 4 = true from rfl), if_pos (show may 20 4 = true from rfl), show (2 : Int) ^ (20 : Int).toNat = 1048576 from rfl, show (2 : Int) ^ (4 : Int).toNat = 16 from rfl]
  omega

/-- Another register in the field A. -/
theorem Ins.other_a (f : Int) (u v : Bool) (a b c op im k : Int) (h : Ins.good ⟨f, u, v, a, b, c, op, im⟩ = true) (k0 : 0 ≤ k) (k1 : k < 16) :
    Ins.good ⟨f, u, v, k, b, c, op, im⟩ = true ∧ bits .andNot .u32 (bits .xor .u32 (Ins.enc ⟨f, u, v, a, b, c, op, im⟩) (Ins.enc ⟨f, u, v, k, b, c, op, im⟩)) 251658240 = 0 ∧ Ins.enc ⟨f, u, v, k, b, c, op, im⟩ / 16777216 % 16 = k := by
  have hg : Ins.good ⟨f, u, v, k, b, c, op, im⟩ = true := by
    simp only [Ins.good, half4, Bool.and_eq_true, decide_eq_true_eq] at h ⊢
    exact ⟨⟨⟨⟨⟨k0, k1⟩, h.1.1.1.2⟩, h.1.1.2⟩, h.1.2⟩, h.2⟩
  have hr := Ins.good_range _ h
  have bu := Ins.bit_bd u
  have bv := Ins.bit_bd v
  have b1 := Ins.enc_bd _ h
  simp only at hr
  obtain ⟨L, hL, l0, l1⟩ : ∃ L : Int, (if f = 3 then c + im % 16777216 else b * 1048576 + (if f = 2 then im % 1048576 else op * 65536 + c + im)) = L ∧ 0 ≤ L ∧ L < 16777216 := by
    refine ⟨_, rfl, ?_⟩
    have h4 : f = 0 ∨ f = 1 ∨ f = 2 ∨ f = 3 := by omega
    rcases h4 with rfl | rfl | rfl | rfl
    · have hi := Ins.good_im0 u v a b c op im h
      simp; omega
    · have hi := Ins.good_im1 u v a b c op im h
      have hj := Ins.good_ci 1 u v a b c op im h
      simp at hj
      simp; omega
    · simp; omega
    · have hj := Ins.good_ci 3 u v a b c op im h
      cases u <;> simp at hj <;> simp <;> omega
  refine ⟨hg, ?_⟩
  rw [enc_ref, enc_ref, hL]
  have e : ∀ z : Int, f * 1073741824 + Ins.bit u * 536870912 + Ins.bit v * 268435456 + z * 16777216 + L = (f * 4 + Ins.bit u * 2 + Ins.bit v) * 268435456 + z * 16777216 + L := fun z => by omega
  rw [e a, e k]
  generalize hH : f * 4 + Ins.bit u * 2 + Ins.bit v = H at *
  exact ⟨xor_a H a k L (by omega) (by omega) (by omega) (by omega) k0 k1 l0 l1, by omega⟩

/-- Another register in the field B. -/
theorem Ins.other_b (f : Int) (u v : Bool) (a b c op im k : Int) (h : Ins.good ⟨f, u, v, a, b, c, op, im⟩ = true) (hf : f ≠ 3) (k0 : 0 ≤ k) (k1 : k < 16) :
    Ins.good ⟨f, u, v, a, k, c, op, im⟩ = true ∧ bits .andNot .u32 (bits .xor .u32 (Ins.enc ⟨f, u, v, a, b, c, op, im⟩) (Ins.enc ⟨f, u, v, a, k, c, op, im⟩)) 15728640 = 0 ∧ Ins.enc ⟨f, u, v, a, k, c, op, im⟩ / 1048576 % 16 = k := by
  have hg : Ins.good ⟨f, u, v, a, k, c, op, im⟩ = true := by
    simp only [Ins.good, half4, Bool.and_eq_true, decide_eq_true_eq, hf, if_false] at h ⊢
    exact ⟨⟨⟨⟨h.1.1.1.1, ⟨k0, k1⟩⟩, h.1.1.2⟩, h.1.2⟩, h.2⟩
  have hr := Ins.good_range _ h
  have bu := Ins.bit_bd u
  have bv := Ins.bit_bd v
  simp only at hr
  obtain ⟨L, hL, l0, l1⟩ : ∃ L : Int, (if f = 2 then im % 1048576 else op * 65536 + c + im) = L ∧ 0 ≤ L ∧ L < 1048576 := by
    refine ⟨_, rfl, ?_⟩
    have h4 : f = 0 ∨ f = 1 ∨ f = 2 := by omega
    rcases h4 with rfl | rfl | rfl
    · have hi := Ins.good_im0 u v a b c op im h
      simp; omega
    · have hi := Ins.good_im1 u v a b c op im h
      have hj := Ins.good_ci 1 u v a b c op im h
      simp at hj
      simp; omega
    · simp; omega
  refine ⟨hg, ?_⟩
  rw [enc_ref, enc_ref, if_neg hf, if_neg hf, hL]
  have e : ∀ z : Int, f * 1073741824 + Ins.bit u * 536870912 + Ins.bit v * 268435456 + a * 16777216 + (z * 1048576 + L) = (f * 64 + Ins.bit u * 32 + Ins.bit v * 16 + a) * 16777216 + z * 1048576 + L := fun z => by omega
  rw [e b, e k]
  generalize hH : f * 64 + Ins.bit u * 32 + Ins.bit v * 16 + a = H at *
  exact ⟨xor_b H b k L (by omega) (by omega) (by omega) (by omega) k0 k1 l0 l1, by omega⟩
theorem Ins.jump_good (link : Bool) (k im : Int) (k0 : 0 ≤ k) (k1 : k < 16) : Ins.good ⟨3, true, link, k, 0, 0, 0, im⟩ = decide (-8388608 ≤ im ∧ im < 8388608) := by
  simp [Ins.good, half4, Ins.inb, fits24]; omega

end Go.Proofs.Ytefgajojimkdiaa

/-
  Plain facts about what the register instructions reckon. No program in sight.
-/
namespace Go.Proofs.Ytefgajojimkdiaa
set_option linter.unusedVariables false
set_option linter.unusedSimpArgs false
open Go.RowKit Bw

/-- The flags. -/
structure Fl where
  n : Bool
  z : Bool
  c : Bool
  v : Bool
  deriving DecidableEq

namespace Fl
def cells (f : Fl) : Array Value := #[.bool f.n, .bool f.z, .bool f.c, .bool f.v]
def val (f : Fl) : Value := .agg f.cells
def zero : Fl := ⟨false, false, false, false⟩
end Fl

namespace Alu
def okOp (op : Int) (u : Bool) : Bool := decide (0 ≤ op ∧ op ≤ 11) && (!u || decide (op = 0 ∨ 8 ≤ op ∧ op ≤ 10))
def carry (u : Bool) (f : Fl) : Int := if (u && f.c) = true then 1 else 0
def prod (u : Bool) (b n : Int) : Int := if u = true then b * n else wrap32 b * wrap32 n
def out (x : Int) : Bool := decide (x < -2147483648 ∨ 2147483648 ≤ x)
def R (op : Int) (u : Bool) (b n h : Int) (f : Fl) : Int :=
  if op = 0 then (if u = true then h else n)
  else if op = 1 then Lsl b n
  else if op = 2 then Asr b n
  else if op = 3 then Ror b n
  else if op = 4 then bits .and .u32 b n
  else if op = 5 then bits .andNot .u32 b n
  else if op = 6 then bits .or .u32 b n
  else if op = 7 then bits .xor .u32 b n
  else if op = 8 then (b + n + carry u f) % 4294967296
  else if op = 9 then (b - n - carry u f) % 4294967296
  else if op = 10 then prod u b n % 4294967296
  else (if 0 < wrap32 n then wrap32 b / wrap32 n % 4294967296 else 0)
def H (op : Int) (u : Bool) (b n h : Int) : Int :=
  if op = 10 then prod u b n / 4294967296 % 4294967296
  else if op = 11 then (if 0 < wrap32 n then wrap32 b % wrap32 n else b)
  else h
def C (op : Int) (u : Bool) (b n : Int) (f : Fl) : Bool :=
  if op = 8 then decide (4294967296 ≤ b + n + carry u f) else if op = 9 then decide (b - n - carry u f < 0) else f.c
def V (op : Int) (u : Bool) (b n : Int) (f : Fl) : Bool :=
  if op = 8 then out (wrap32 b + wrap32 n + carry u f) else if op = 9 then out (wrap32 b - wrap32 n - carry u f) else f.v
def F (op : Int) (u : Bool) (b n h : Int) (f : Fl) : Fl :=
  ⟨decide (2147483648 ≤ R op u b n h f), decide (R op u b n h f = 0), C op u b n f, V op u b n f⟩
end Alu

theorem wrap32_bd (b : Int) : -2147483648 ≤ wrap32 b ∧ wrap32 b < 2147483648 := by unfold wrap32; omega
theorem out_eq (x : Int) (hx : -9223372036854775808 ≤ x) (hx' : x ≤ 9223372036854775807) : (x != wrap64 (wrap32 x)) = Alu.out x := by
  rw [Bool.eq_iff_iff, bne_iff_ne, Alu.out, decide_eq_true_eq]
  unfold wrap64 wrap32; omega
theorem mul_bd (x y : Int) (hx : -2147483648 ≤ x ∧ x < 2147483648) (hy : -2147483648 ≤ y ∧ y < 2147483648) : -4611686018427387904 ≤ x * y ∧ x * y ≤ 4611686018427387904 := by
  have h1 : x * y ≤ (x * y).natAbs := Int.le_natAbs
  have h2 : -(x * y) ≤ (x * y).natAbs := by omega
  have h3 : (x * y).natAbs ≤ 2147483648 * 2147483648 := by rw [Int.natAbs_mul]; exact Nat.mul_le_mul (by omega) (by omega)
  omega
theorem mulU_bd (x y : Int) (hx : 0 ≤ x ∧ x < 4294967296) (hy : 0 ≤ y ∧ y < 4294967296) : 0 ≤ x * y ∧ x * y ≤ 18446744065119617025 := by
  refine ⟨Int.mul_nonneg hx.1 hy.1, ?_⟩
  have h1 := Int.mul_le_mul (show x ≤ 4294967295 by omega) (show y ≤ 4294967295 by omega) hy.1 (by omega)
  omega
theorem low_word (p : Int) : IntKind.u64.wrap p % 4294967296 = p % 4294967296 := by rw [wrapU64_emod]; omega
theorem high_word (p : Int) : IntKind.u64.wrap p / 4294967296 % 4294967296 = p / 4294967296 % 4294967296 := by rw [wrapU64_emod]; omega
theorem quo_pos (x y : Int) (hy : 0 < y) (h : 0 ≤ x.tmod y) : x.tdiv y = x / y ∧ x.tmod y = x % y := by
  have h1 := Int.mul_tdiv_add_tmod x y
  have h2 := Int.tmod_lt_of_pos x hy
  have h3 := (Int.ediv_emod_unique (a := x) (b := y) (r := x.tmod y) (q := x.tdiv y) hy).2 ⟨by omega, h, h2⟩
  exact ⟨h3.1.symm, h3.2.symm⟩
theorem quo_neg (x y : Int) (hy : 0 < y) (h : x.tmod y < 0) : x.tdiv y - 1 = x / y ∧ x.tmod y + y = x % y := by
  have h1 := Int.mul_tdiv_add_tmod x y
  have h2 : -y < x.tmod y := Int.lt_tmod_of_pos x hy
  have h3 := (Int.ediv_emod_unique (a := x) (b := y) (r := x.tmod y + y) (q := x.tdiv y - 1) hy).2 ⟨by rw [Int.mul_sub]; omega, by omega, by omega⟩
  exact ⟨h3.1.symm, h3.2.symm⟩
theorem ediv_bd (x y : Int) (hx : -2147483648 ≤ x ∧ x < 2147483648) (hy : 0 < y) : -2147483648 ≤ x / y ∧ x / y < 2147483648 := by
  constructor
  · rw [Int.le_ediv_iff_mul_le hy]
    have := Int.mul_le_mul_of_nonneg_left (show (1 : Int) ≤ y by omega) (show (0 : Int) ≤ 2147483648 by decide)
    omega
  · refine Int.ediv_lt_of_lt_mul hy ?_
    have := Int.mul_le_mul_of_nonneg_left (show (1 : Int) ≤ y by omega) (show (0 : Int) ≤ 2147483648 by decide)
    omega
theorem tdiv_bd (x y : Int) (hx : -2147483648 ≤ x ∧ x < 2147483648) (hy : 0 < y) : -2147483648 ≤ x.tdiv y ∧ x.tdiv y ≤ 2147483648 := by
  by_cases h : 0 ≤ x.tmod y
  · have := (quo_pos x y hy h).1
    have := ediv_bd x y hx hy
    omega
  · have := (quo_neg x y hy (by omega)).1
    have := ediv_bd x y hx hy
    omega
theorem tmod_bd (x y : Int) (hy : 0 < y) : -y < x.tmod y ∧ x.tmod y < y := by
  exact ⟨Int.lt_tmod_of_pos x hy, Int.tmod_lt_of_pos x hy⟩

theorem bits_bd (op : BinOp) (x y : Int) : 0 ≤ bits op .u32 x y ∧ bits op .u32 x y < 4294967296 := by
  have h : bits op .u32 x y = bits op .u32 x y % 4294967296 := by
    unfold bits; simp [IntKind.wrap, IntKind.bits, IntKind.signed]
  omega
theorem lsl_bd (x n : Int) : 0 ≤ Lsl x n ∧ Lsl x n < 4294967296 := by unfold Lsl; omega
theorem asr_bd (x n : Int) : 0 ≤ Asr x n ∧ Asr x n < 4294967296 := by unfold Asr; omega
theorem ite_bd {c : Prop} [Decidable c] {a b : Int} (ha : 0 ≤ a ∧ a < 4294967296) (hb : 0 ≤ b ∧ b < 4294967296) : 0 ≤ (if c then a else b) ∧ (if c then a else b) < 4294967296 := by
  by_cases h : c
  · rw [if_pos h]; exact ha
  · rw [if_neg h]; exact hb
theorem Alu.R_bd (op : Int) (u : Bool) (b n h : Int) (f : Fl) (hb : 0 ≤ b) (hb' : b < 4294967296) (hn : 0 ≤ n) (hn' : n < 4294967296) (hh : 0 ≤ h) (hh' : h < 4294967296) :
    0 ≤ Alu.R op u b n h f ∧ Alu.R op u b n h f < 4294967296 := by
  unfold Alu.R
  refine ite_bd (ite_bd ⟨hh, hh'⟩ ⟨hn, hn'⟩) (ite_bd (lsl_bd b n) (ite_bd (asr_bd b n) (ite_bd (ror_bd b (n % 32).toNat hb hb' (by omega)) (ite_bd (bits_bd _ _ _) (ite_bd (bits_bd _ _ _) (ite_bd (bits_bd _ _ _) (ite_bd (bits_bd _ _ _) (ite_bd (by omega) (ite_bd (by omega) (ite_bd (by omega) (ite_bd (by omega) (by omega))))))))))))
theorem Alu.H_bd (op : Int) (u : Bool) (b n h : Int) (hb : 0 ≤ b) (hb' : b < 4294967296) (hh : 0 ≤ h) (hh' : h < 4294967296) : 0 ≤ Alu.H op u b n h ∧ Alu.H op u b n h < 4294967296 := by
  unfold Alu.H
  split
  · omega
  split
  · split
    · rename_i hn
      have h1 := Int.emod_nonneg (wrap32 b) (show wrap32 n ≠ 0 by omega)
      have h2 := Int.emod_lt_of_pos (wrap32 b) hn
      have h3 := wrap32_bd n
      omega
    · omega
  · omega

theorem natAbs_tdiv_le (a b : Int) : (a.tdiv b).natAbs ≤ a.natAbs := by
  rw [Int.natAbs_tdiv]; exact Nat.div_le_self _ _
theorem floor_bd (a b : Int) (hb : 0 < b) (hb' : b ≤ 4294967296) (ha : -4611686018427387904 ≤ a) (ha' : a ≤ 4611686018427387904) :
    (-4611686018427387904 ≤ a.tdiv b ∧ a.tdiv b ≤ 4611686018427387904) ∧ (-9223372036854775808 ≤ a.tdiv b * b ∧ a.tdiv b * b ≤ 9223372036854775807) := by
  have h1 := natAbs_tdiv_le a b
  have h2 := Int.mul_tdiv_add_tmod a b
  have h3 := tmod_bd a b hb
  rw [Int.mul_comm] at h2
  omega

/-- What the reference's Do tells, as one value. -/
def Alu.told (r h : Int) (f : Fl) (ok : Bool) : Value := .agg #[.int .u32 r, .int .u32 h, .bool f.n, .bool f.z, .bool f.c, .bool f.v, .bool ok]

theorem told_ret {r h R H : Int} {c v : Bool} {F : Fl} (h1 : r = R) (h2 : h = H) (hn : F.n = decide (2147483648 ≤ R)) (hz : F.z = decide (R = 0)) (hc : c = F.c) (hv : v = F.v) :
    Value.agg #[.int .u32 r, .int .u32 h, .bool (decide (2147483648 ≤ r)), .bool (r == 0), .bool c, .bool v, .bool true] = Alu.told R H F true := by
  subst h1 h2 hc hv
  rw [Alu.told, hn, hz]; rfl
theorem fits_out (x : Int) : (!Fits x 32) = Alu.out x := by
  rw [Fits, show few 32 = true from rfl, Bool.true_and, Alu.out, show ((2 : Int) ^ ((32 : Int).toNat - 1)) = 2147483648 from rfl, Bool.eq_iff_iff]
  first | (simp; done) | (simp; omega)
theorem Alu.R11_pos (u : Bool) (b n h : Int) (f : Fl) (h0 : 0 < wrap32 n) : wrap32 b / wrap32 n % 4294967296 = Alu.R 11 u b n h f := by simp [Alu.R, h0]
theorem Alu.H11_pos (u : Bool) (b n h : Int) (h0 : 0 < wrap32 n) : (wrap32 b - wrap32 b / wrap32 n * wrap32 n) % 4294967296 = Alu.H 11 u b n h := by
  simp only [Alu.H, h0, if_true]
  have h1 := Int.mul_ediv_add_emod (wrap32 b) (wrap32 n)
  have h2 := Int.emod_nonneg (wrap32 b) (show wrap32 n ≠ 0 by omega)
  have h3 := Int.emod_lt_of_pos (wrap32 b) h0
  have h4 := wrap32_bd n
  rw [Int.mul_comm] at h1
  simp only [show ¬ ((11 : Int) = 10) by decide, if_false]
  omega
theorem Alu.R11_neg (u : Bool) (b n h : Int) (f : Fl) (h0 : ¬ 0 < wrap32 n) : 0 = Alu.R 11 u b n h f := by simp [Alu.R]; intro; omega
theorem Alu.H11_neg (u : Bool) (b n h : Int) (h0 : ¬ 0 < wrap32 n) : b = Alu.H 11 u b n h := by simp [Alu.H]; intro; omega
theorem div_bds (x y : Int) (hx : -2147483648 ≤ x ∧ x < 2147483648) (hy : 0 < y) (hy' : y < 2147483648) : -4611686018427387904 ≤ x / y * y ∧ x / y * y ≤ 4611686018427387904 := by
  have h1 := Int.mul_ediv_add_emod x y
  have h2 := Int.emod_nonneg x (show y ≠ 0 by omega)
  have h3 := Int.emod_lt_of_pos x hy
  rw [Int.mul_comm] at h1
  omega

/-- The conditions. -/
def Alu.base (k : Int) (f : Fl) : Bool :=
  if k = 0 then f.n else if k = 1 then f.z else if k = 2 then f.c else if k = 3 then f.v else if k = 4 then f.c || f.z else if k = 5 then f.n != f.v else if k = 6 then (f.n != f.v) || f.z else true
def Alu.holds (c : Int) (f : Fl) : Bool := decide (0 ≤ c ∧ c ≤ 15) && (Alu.base (c % 8) f == decide (c < 8))
theorem Alu.holds_out (c : Int) (f : Fl) (h : c < 0 ∨ 15 < c) : Alu.holds c f = false := by
  rw [Alu.holds, show decide (0 ≤ c ∧ c ≤ 15) = false by simp; omega, Bool.false_and]

theorem Alu.holds_opposite (c : Int) (f : Fl) (h : 0 ≤ c) (h' : c ≤ 7) : Alu.holds (c + 8) f = !Alu.holds c f := by
  rw [Alu.holds, Alu.holds, show (c + 8) % 8 = c % 8 by omega, show decide (0 ≤ c + 8 ∧ c + 8 ≤ 15) = true by simp; omega, show decide (0 ≤ c ∧ c ≤ 15) = true by simp; omega,
    show decide (c + 8 < 8) = false by simp; omega, show decide (c < 8) = true by simp; omega]
  cases Alu.base (c % 8) f <;> rfl

/-- An operation with all that it takes, as one value. -/
def Alu.ask (op : Int) (u : Bool) (b n h : Int) (f : Fl) : Value := .agg #[.int .i64 op, .bool u, .int .u32 b, .int .u32 n, .int .u32 h, .bool f.n, .bool f.z, .bool f.c, .bool f.v]

theorem Alu.sub_flags (b n h : Int) (f : Fl) (hb : 0 ≤ b) (hb' : b < 4294967296) (hn : 0 ≤ n) (hn' : n < 4294967296) :
    Alu.F 9 false b n h f = ⟨decide (2147483648 ≤ (b - n) % 4294967296), decide (b = n), decide (b < n), decide (wrap32 b - wrap32 n < -2147483648 ∨ 2147483648 ≤ wrap32 b - wrap32 n)⟩ := by
  simp only [Alu.F, Alu.R, Alu.C, Alu.V, Alu.carry, Alu.out]
  simp
  constructor <;> omega
theorem Alu.conds (g : Fl) : Alu.holds 5 g = (g.n != g.v) ∧ Alu.holds 2 g = g.c ∧ Alu.holds 1 g = g.z ∧ Alu.holds 6 g = ((g.n != g.v) || g.z) ∧ Alu.holds 4 g = (g.c || g.z) ∧ Alu.holds 14 g = !((g.n != g.v) || g.z) := by
  obtain ⟨n, z, c, v⟩ := g
  cases n <;> cases z <;> cases c <;> cases v <;> decide
theorem Alu.cmp (b n h : Int) (f : Fl) (hb : 0 ≤ b) (hb' : b < 4294967296) (hn : 0 ≤ n) (hn' : n < 4294967296) :
    Alu.holds 5 (Alu.F 9 false b n h f) = decide (wrap32 b < wrap32 n) ∧ Alu.holds 2 (Alu.F 9 false b n h f) = decide (b < n) ∧ Alu.holds 1 (Alu.F 9 false b n h f) = (b == n) ∧
    Alu.holds 6 (Alu.F 9 false b n h f) = decide (wrap32 b ≤ wrap32 n) ∧ Alu.holds 4 (Alu.F 9 false b n h f) = decide (b ≤ n) ∧ Alu.holds 14 (Alu.F 9 false b n h f) = decide (wrap32 n < wrap32 b) := by
  rw [Alu.sub_flags b n h f hb hb' hn hn']
  have h5 : (decide (2147483648 ≤ (b - n) % 4294967296) != decide (wrap32 b - wrap32 n < -2147483648 ∨ 2147483648 ≤ wrap32 b - wrap32 n)) = decide (wrap32 b < wrap32 n) := by
    unfold wrap32
    rw [Bool.eq_iff_iff, bne_iff_ne, ne_eq, decide_eq_decide, decide_eq_true_eq]; omega
  obtain ⟨c1, c2, c3, c4, c5, c6⟩ := Alu.conds ⟨decide (2147483648 ≤ (b - n) % 4294967296), decide (b = n), decide (b < n), decide (wrap32 b - wrap32 n < -2147483648 ∨ 2147483648 ≤ wrap32 b - wrap32 n)⟩
  rw [c1, c2, c3, c4, c5, c6]
  simp only [h5]
  refine ⟨trivial, trivial, rfl, ?_, ?_, ?_⟩
  · rw [Bool.eq_iff_iff]; simp only [Bool.or_eq_true, decide_eq_true_eq]; unfold wrap32; omega
  · rw [Bool.eq_iff_iff]; simp only [Bool.or_eq_true, decide_eq_true_eq]; omega
  · rw [Bool.eq_iff_iff]; simp only [Bool.not_eq_true', Bool.or_eq_false_iff, decide_eq_true_eq, decide_eq_false_iff_not]; unfold wrap32; omega

theorem Alu.div_facts (b n : Int) (f : Fl) (hb : 0 ≤ b) (hb' : b < 4294967296) (hn : 0 ≤ n) (hn' : n < 4294967296) (h0 : 0 < wrap32 n) :
    (Alu.R 10 false (Alu.R 11 false b n 7 f) n 0 f + Alu.H 11 false b n 7) % 4294967296 = b ∧ 0 ≤ wrap32 (Alu.H 11 false b n 7) ∧ Alu.H 11 false b n 7 < n := by
  have hr : Alu.R 11 false b n 7 f = wrap32 b / wrap32 n % 4294967296 := (Alu.R11_pos _ _ _ _ _ h0).symm
  have hh : Alu.H 11 false b n 7 = wrap32 b % wrap32 n := by simp [Alu.H, h0]
  have hn1 : wrap32 n = n := by unfold wrap32 at *; omega
  have hd := ediv_bd _ _ (wrap32_bd b) h0
  have hq : wrap32 (wrap32 b / wrap32 n % 4294967296) = wrap32 b / wrap32 n := by
    generalize wrap32 b / wrap32 n = q at *
    unfold wrap32; omega
  have hp : Alu.R 10 false (Alu.R 11 false b n 7 f) n 0 f = wrap32 b / wrap32 n * wrap32 n % 4294967296 := by
    rw [hr]; simp [Alu.R, Alu.prod, hq]
  rw [hp, hh]
  have h1 := Int.mul_ediv_add_emod (wrap32 b) (wrap32 n)
  have h2 := Int.emod_nonneg (wrap32 b) (show wrap32 n ≠ 0 by omega)
  have h3 := Int.emod_lt_of_pos (wrap32 b) h0
  have h4 := wrap32_bd n
  rw [Int.mul_comm] at h1
  generalize wrap32 b / wrap32 n * wrap32 n = p at *
  generalize wrap32 b % wrap32 n = r at *
  have hX : wrap32 b % 4294967296 = b := by unfold wrap32; omega
  refine ⟨?_, ?_, ?_⟩
  · rw [← h1] at hX; omega
  · unfold wrap32; omega
  · omega

end Go.Proofs.Ytefgajojimkdiaa

/-
  The machine as a plain function of what it holds. No program in sight.
-/
namespace Go.Proofs.Ytefgajojimkdiaa
set_option linter.unusedVariables false
set_option linter.unusedSimpArgs false
open Go.RowKit Bw

/-- A machine. -/
structure Mc where
  r : List Int
  h : Int
  f : Fl
  pc : Int
  mem : List Int
  inp : ByteArray
  read : Nat
  out : List Int
  en : Int
  trap : Int

namespace Mc
def reg (m : Mc) (a : Int) : Int := m.r.getD a.toNat 0
def sets (m : Mc) (a v : Int) : Mc := { m with r := m.r.set a.toNat v, f := ⟨decide (2147483648 ≤ v), decide (v = 0), m.f.c, m.f.v⟩ }
def packed (f : Fl) : Int := (if f.n then 2147483648 else 0) + (if f.z then 1073741824 else 0) + (if f.c then 536870912 else 0) + (if f.v then 268435456 else 0)
def opnd (m : Mc) (x : Ins) : Int := if x.form = 1 then x.im % 65536 + (if x.v then 4294901760 else 0) else m.reg x.c
def reckons (m : Mc) (x : Ins) : Mc :=
  if x.op = 0 ∧ x.u = true ∧ x.form = 1 then m.sets x.a (x.im * 65536 % 4294967296)
  else if x.op = 0 ∧ x.u = true ∧ x.v = true then m.sets x.a (packed m.f)
  else { m with r := m.r.set x.a.toNat (Alu.R x.op x.u (m.reg x.b) (m.opnd x) m.h m.f), h := Alu.H x.op x.u (m.reg x.b) (m.opnd x) m.h, f := Alu.F x.op x.u (m.reg x.b) (m.opnd x) m.h m.f }
def size (m : Mc) : Int := m.mem.length
def there (m : Mc) (at_ : Int) : Bool := decide (at_ / 4 < m.size)
def word (m : Mc) (at_ : Int) : Int := m.mem.getD (at_ / 4).toNat 0
/-- A byte of a word. -/
def part (w at_ : Int) : Int := w / 2 ^ (8 * (at_ % 4)).toNat % 256
/-- A word with another byte. -/
def turned (w at_ v : Int) : Int := w - part w at_ * 2 ^ (8 * (at_ % 4)).toNat + v % 256 * 2 ^ (8 * (at_ % 4)).toNat
def loadOk (m : Mc) (at_ : Int) (small : Bool) : Bool := (small || at_ % 4 == 0) && m.there at_
def loadV (m : Mc) (at_ : Int) (small : Bool) : Int := if small then part (m.word at_) at_ else m.word at_
def inByte (m : Mc) : Int := if m.read < m.inp.size then ((m.inp.data.getD m.read 0).toNat : Int) else 0
def loads (m : Mc) (a at_ : Int) (small : Bool) : Mc :=
  if at_ = 4294967240 then (if m.read < m.inp.size then ({ m with read := m.read + 1 } : Mc).sets a m.inByte else m.sets a 0)
  else if at_ = 4294967244 then m.sets a (if m.read < m.inp.size then 1 else 0)
  else if m.loadOk at_ small = true then m.sets a (m.loadV at_ small)
  else { m with en := 5 }
def stores (m : Mc) (at_ v : Int) (small : Bool) : Mc :=
  if at_ = 4294967240 then (if m.out.length = 4096 then { m with en := 6 } else { m with out := m.out ++ [v % 256] })
  else if at_ = 4294967236 then { m with en := 2, trap := wrap32 v }
  else if at_ = 4294967232 then { m with en := 1 }
  else if m.loadOk at_ small = true then { m with mem := m.mem.set (at_ / 4).toNat (if small then turned (m.word at_) at_ v else v) }
  else { m with en := 5 }
def moves (m : Mc) (x : Ins) : Mc :=
  if x.u = true then m.stores ((m.reg x.b + x.im) % 4294967296) (m.reg x.a) x.v else m.loads x.a ((m.reg x.b + x.im) % 4294967296) x.v
def jumps (m : Mc) (x : Ins) : Mc :=
  if Alu.holds x.a m.f = true then
    { m with pc := if x.u = true then (m.pc + x.im) % 1073741824 else m.reg x.c / 4, r := if x.v = true then m.r.set 15 (m.pc * 4 % 4294967296) else m.r }
  else m
def does (m : Mc) (x : Ins) : Mc := if x.form = 2 then m.moves x else if x.form = 3 then m.jumps x else m.reckons x
/-- One step. -/
def step (m : Mc) : Mc :=
  if m.pc < m.size then
    let w := m.mem.getD m.pc.toNat 0
    if Ins.derr w = 0 then ({ m with pc := m.pc + 1 } : Mc).does (Ins.dec w) else { m with en := 4 }
  else { m with en := 5 }
/-- So many steps, or fewer, if it comes to its end. -/
def run (m : Mc) : Nat → Mc
  | 0 => m
  | n + 1 => if m.en = 0 then m.step.run n else m
/-- How many they are. -/
def steps (m : Mc) : Nat → Nat
  | 0 => 0
  | n + 1 => if m.en = 0 then m.step.steps n + 1 else 0

def W32 (x : Int) : Prop := 0 ≤ x ∧ x < 4294967296
/-- What every machine is. -/
structure Ok (m : Mc) : Prop where
  r : m.r.length = 16
  rb : ∀ x ∈ m.r, W32 x
  h : W32 m.h
  pc : 0 ≤ m.pc ∧ m.pc ≤ 1073741824
  ml : m.mem.length ≤ 65536
  mb : ∀ x ∈ m.mem, W32 x
  il : m.inp.size ≤ 4096
  rd : m.read ≤ m.inp.size
  ol : m.out.length ≤ 4096
  ob : ∀ x ∈ m.out, 0 ≤ x ∧ x < 256

theorem Ok.reg {m : Mc} (h : m.Ok) (a : Int) : W32 (m.reg a) := by
  unfold Mc.reg
  by_cases hl : a.toNat < m.r.length
  · rw [List.getD_eq_getElem?_getD, List.getElem?_eq_getElem hl]; exact h.rb _ (List.getElem_mem hl)
  · rw [List.getD_eq_getElem?_getD, List.getElem?_eq_none (by omega)]; simp [W32]
theorem Ok.word {m : Mc} (h : m.Ok) (k : Nat) : W32 (m.mem.getD k 0) := by
  by_cases hl : k < m.mem.length
  · rw [List.getD_eq_getElem?_getD, List.getElem?_eq_getElem hl]; exact h.mb _ (List.getElem_mem hl)
  · rw [List.getD_eq_getElem?_getD, List.getElem?_eq_none (by omega)]; simp [W32]
theorem set_all {P : Int → Prop} {l : List Int} {k : Nat} {v : Int} (h : ∀ x ∈ l, P x) (hv : P v) : ∀ x ∈ l.set k v, P x := by
  intro x hx
  rcases List.mem_or_eq_of_mem_set hx with h1 | rfl
  · exact h x h1
  · exact hv
theorem Ok.sets {m : Mc} (h : m.Ok) (a v : Int) (hv : W32 v) : (m.sets a v).Ok :=
  ⟨by simp [Mc.sets, h.r], set_all h.rb hv, h.h, h.pc, h.ml, h.mb, h.il, h.rd, h.ol, h.ob⟩
theorem packed_bd (f : Fl) : W32 (packed f) := by
  obtain ⟨n, z, c, v⟩ := f
  cases n <;> cases z <;> cases c <;> cases v <;> simp [packed, W32]
theorem opnd_bd {m : Mc} (h : m.Ok) (x : Ins) : W32 (m.opnd x) := by
  unfold opnd
  split
  · unfold W32; split <;> omega
  · exact h.reg _
theorem Ok.reckons {m : Mc} (h : m.Ok) (x : Ins) : (m.reckons x).Ok := by
  unfold Mc.reckons
  split
  · exact h.sets _ _ (by unfold W32; omega)
  split
  · exact h.sets _ _ (packed_bd _)
  have hb := h.reg x.b
  have hn := opnd_bd h x
  have hh := h.h
  exact ⟨by simp [h.r], set_all h.rb (Alu.R_bd _ _ _ _ _ _ hb.1 hb.2 hn.1 hn.2 hh.1 hh.2), Alu.H_bd _ _ _ _ _ hb.1 hb.2 hh.1 hh.2, h.pc, h.ml, h.mb, h.il, h.rd, h.ol, h.ob⟩
theorem part_bd (w at_ : Int) : 0 ≤ part w at_ ∧ part w at_ < 256 := by unfold part; omega
theorem turned_bd (w at_ v : Int) (hw : W32 w) : W32 (turned w at_ v) := by
  unfold turned part W32 at *
  have h4 : at_ % 4 = 0 ∨ at_ % 4 = 1 ∨ at_ % 4 = 2 ∨ at_ % 4 = 3 := by omega
  rcases h4 with h | h | h | h <;> rw [h] <;> simp <;> omega
theorem Ok.loads {m : Mc} (h : m.Ok) (a at_ : Int) (small : Bool) : (m.loads a at_ small).Ok := by
  have hi : W32 m.inByte := by
    unfold inByte W32
    split
    · have := (m.inp.data.getD m.read 0).toNat_lt; omega
    · omega
  unfold Mc.loads
  split
  · split
    · rename_i h1
      exact Ok.sets (m := { m with read := m.read + 1 }) ⟨h.r, h.rb, h.h, h.pc, h.ml, h.mb, h.il, h1, h.ol, h.ob⟩ _ _ hi
    · exact h.sets _ _ (by simp [W32])
  split
  · exact h.sets _ _ (by split <;> simp [W32])
  split
  · refine h.sets _ _ ?_
    unfold loadV
    split
    · have := part_bd (m.word at_) at_; unfold W32; omega
    · exact h.word _
  · exact ⟨h.r, h.rb, h.h, h.pc, h.ml, h.mb, h.il, h.rd, h.ol, h.ob⟩
theorem Ok.stores {m : Mc} (h : m.Ok) (at_ v : Int) (small : Bool) (hv : W32 v) : (m.stores at_ v small).Ok := by
  unfold Mc.stores
  split
  · split
    · exact ⟨h.r, h.rb, h.h, h.pc, h.ml, h.mb, h.il, h.rd, h.ol, h.ob⟩
    · refine ⟨h.r, h.rb, h.h, h.pc, h.ml, h.mb, h.il, h.rd, ?_, ?_⟩
      · have := h.ol; simp; omega
      · intro x hx
        rcases List.mem_append.1 hx with h1 | h1
        · exact h.ob x h1
        · simp at h1; omega
  split
  · exact ⟨h.r, h.rb, h.h, h.pc, h.ml, h.mb, h.il, h.rd, h.ol, h.ob⟩
  split
  · exact ⟨h.r, h.rb, h.h, h.pc, h.ml, h.mb, h.il, h.rd, h.ol, h.ob⟩
  split
  · refine ⟨h.r, h.rb, h.h, h.pc, by simp [h.ml], set_all h.mb ?_, h.il, h.rd, h.ol, h.ob⟩
    split
    · exact turned_bd _ _ _ (h.word _)
    · exact hv
  · exact ⟨h.r, h.rb, h.h, h.pc, h.ml, h.mb, h.il, h.rd, h.ol, h.ob⟩
theorem Ok.moves {m : Mc} (h : m.Ok) (x : Ins) : (m.moves x).Ok := by
  unfold Mc.moves
  split
  · exact h.stores _ _ _ (h.reg _)
  · exact h.loads _ _ _
theorem Ok.jumps {m : Mc} (h : m.Ok) (x : Ins) : (m.jumps x).Ok := by
  unfold Mc.jumps
  split
  · refine ⟨?_, ?_, h.h, ?_, h.ml, h.mb, h.il, h.rd, h.ol, h.ob⟩
    · simp only; split
      · simp [h.r]
      · exact h.r
    · simp only; split
      · exact set_all h.rb (by unfold W32; omega)
      · exact h.rb
    · simp only; split
      · omega
      · have := h.reg x.c; unfold W32 at this; omega
  · exact h
theorem Ok.does {m : Mc} (h : m.Ok) (x : Ins) : (m.does x).Ok := by
  unfold Mc.does
  split
  · exact h.moves x
  split
  · exact h.jumps x
  · exact h.reckons x
theorem Ok.step {m : Mc} (h : m.Ok) : m.step.Ok := by
  unfold Mc.step
  split
  · rename_i hlt
    have hl := h.ml
    simp only [Mc.size] at hlt
    simp only
    split
    · exact Ok.does (m := { m with pc := m.pc + 1 }) ⟨h.r, h.rb, h.h, by have := h.pc; constructor <;> (try simp only) <;> omega, h.ml, h.mb, h.il, h.rd, h.ol, h.ob⟩ _
    · exact ⟨h.r, h.rb, h.h, h.pc, h.ml, h.mb, h.il, h.rd, h.ol, h.ob⟩
  · exact ⟨h.r, h.rb, h.h, h.pc, h.ml, h.mb, h.il, h.rd, h.ol, h.ob⟩
theorem Ok.run {m : Mc} (h : m.Ok) (n : Nat) : (m.run n).Ok := by
  induction n generalizing m with
  | zero => exact h
  | succ n ih =>
    unfold Mc.run
    split
    · exact ih h.step
    · exact h
/-- One step more at the end of so many. -/
theorem run_succ (m : Mc) (n : Nat) : m.run (n + 1) = if (m.run n).en = 0 then (m.run n).step else m.run n := by
  induction n generalizing m with
  | zero => rfl
  | succ n ih =>
    rw [Mc.run]
    by_cases h : m.en = 0
    · rw [if_pos h, ih]
      rw [show m.run (n + 1) = m.step.run n by rw [Mc.run, if_pos h]]
    · rw [if_neg h]
      rw [show m.run (n + 1) = m by rw [Mc.run, if_neg h], if_neg h]
theorem steps_succ (m : Mc) (n : Nat) : m.steps (n + 1) = if (m.run n).en = 0 then m.steps n + 1 else m.steps n := by
  induction n generalizing m with
  | zero => rfl
  | succ n ih =>
    rw [Mc.steps]
    by_cases h : m.en = 0
    · rw [if_pos h, ih]
      rw [show m.run (n + 1) = m.step.run n by rw [Mc.run, if_pos h], show m.steps (n + 1) = m.step.steps n + 1 by rw [Mc.steps, if_pos h]]
      split <;> rfl
    · rw [if_neg h]
      rw [show m.run (n + 1) = m by rw [Mc.run, if_neg h], if_neg h, show m.steps (n + 1) = 0 by rw [Mc.steps, if_neg h]]
theorem run_ended (m : Mc) (n : Nat) (h : m.en ≠ 0) : m.run n = m ∧ m.steps n = 0 := by
  cases n with
  | zero => exact ⟨rfl, rfl⟩
  | succ n => exact ⟨by rw [Mc.run, if_neg h], by rw [Mc.steps, if_neg h]⟩
theorem steps_le (m : Mc) (n : Nat) : m.steps n ≤ n := by
  induction n generalizing m with
  | zero => exact Nat.le_refl _
  | succ n ih =>
    rw [Mc.steps]
    split
    · exact Nat.succ_le_succ (ih _)
    · omega
theorem steps_on (m : Mc) (n : Nat) (h : (m.run n).en = 0) : m.steps n = n := by
  induction n generalizing m with
  | zero => rfl
  | succ n ih =>
    by_cases h0 : m.en = 0
    · rw [Mc.run, if_pos h0] at h
      rw [Mc.steps, if_pos h0, ih _ h]
    · rw [Mc.run, if_neg h0] at h
      exact absurd h h0
theorem run_add (m : Mc) (a b : Nat) : m.run (a + b) = (m.run a).run b ∧ m.steps (a + b) = m.steps a + (m.run a).steps b := by
  induction a generalizing m with
  | zero => simp [Mc.run, Mc.steps]
  | succ a ih =>
    rw [show a + 1 + b = (a + b) + 1 by omega, Mc.run, Mc.steps]
    by_cases h : m.en = 0
    · rw [if_pos h, if_pos h, (ih m.step).1, (ih m.step).2, Mc.run, Mc.steps, if_pos h, if_pos h]
      exact ⟨rfl, by omega⟩
    · rw [if_neg h, if_neg h, Mc.run, Mc.steps, if_neg h, if_neg h, (run_ended m b h).1, (run_ended m b h).2]
      exact ⟨rfl, rfl⟩
end Mc

end Go.Proofs.Ytefgajojimkdiaa

/-
  The instructions of Halt. No program in sight.
-/
namespace Go.Proofs.Ytefgajojimkdiaa
set_option linter.unusedVariables false
set_option linter.unusedSimpArgs false
open Go.RowKit Bw

/-- The instructions of Halt. -/
def haltIns (b : Int) : List Ins := [⟨1, true, false, 1, 0, 0, 0, 65535⟩, ⟨1, false, false, 1, 1, 0, 8, 65472⟩, ⟨1, false, false, 0, 0, 0, 0, b⟩, ⟨2, true, false, 0, 1, 0, 0, 8⟩, ⟨2, true, false, 0, 1, 0, 0, 0⟩]

end Go.Proofs.Ytefgajojimkdiaa

/-
  How a run begins: the words, as a plain list. No program in sight.
-/
namespace Go.Proofs.Ytefgajojimkdiaa
set_option linter.unusedVariables false
set_option linter.unusedSimpArgs false
open Go.RowKit Bw

namespace Boot
def hi (e : Int) : Ins := ⟨1, true, false, 14, 0, 0, 0, e⟩
def lo (e : Int) : Ins := ⟨1, false, false, 14, 14, 0, 6, e⟩
def call (d : Int) : Ins := ⟨3, true, true, 7, 0, 0, 0, d⟩
def fin : List Ins := [⟨1, true, false, 1, 0, 0, 0, 65535⟩, ⟨1, false, false, 1, 1, 0, 8, 65472⟩, ⟨2, true, false, 0, 1, 0, 0, 0⟩]
/-- The first k entries' calls. -/
def calls (es : List Int) (k : Nat) : List Ins := (List.range k).map fun i => call (es.getD i 0 - (10 + i) - 1)
/-- All instructions up to the k-th call. -/
def ins (size : Int) (es : List Int) (k : Nat) : List Ins := [hi (4 * size / 65536), lo (4 * size % 65536)] ++ calls es k
def zeros : List Int := [0, 0, 0, 0, 0, 0, 0, 0]
def words (size : Int) (es : List Int) : List Int := zeros ++ (ins size es es.length ++ fin).map Ins.E
def sized (size : Int) (es : List Int) : Bool := decide (256 ≤ size ∧ size ≤ 65536) && decide (es.length ≤ 16)
def inside (size : Int) (es : List Int) : Bool := decide (∀ i, i < es.length → 0 ≤ es.getD i 0 ∧ es.getD i 0 < size)
def ok (size : Int) (es : List Int) : Bool := sized size es && inside size es
def first (mods : Int) : Int := if 0 ≤ mods ∧ mods ≤ 16 then 13 + mods else 0

theorem calls_succ (es : List Int) (k : Nat) : calls es (k + 1) = calls es k ++ [call (es.getD k 0 - (10 + k) - 1)] := by
  simp [calls, List.range_succ]
theorem calls_len (es : List Int) (k : Nat) : (calls es k).length = k := by simp [calls]
theorem ins_succ (size : Int) (es : List Int) (k : Nat) : ins size es (k + 1) = ins size es k ++ [call (es.getD k 0 - (10 + k) - 1)] := by
  rw [ins, ins, calls_succ, List.append_assoc]
theorem ins_len (size : Int) (es : List Int) (k : Nat) : (ins size es k).length = k + 2 := by simp [ins, calls_len]
theorem words_len (size : Int) (es : List Int) : (words size es).length = es.length + 13 := by simp [words, zeros, ins_len, fin]
end Boot

end Go.Proofs.Ytefgajojimkdiaa
