/-
  The document's store: rows of texts that it owns, walked.
-/
import Derived.Test.YtceflhffilldeaaRefStore2
import Derived.Test.YtceflhffilldeaaPlaysM
import Derived.Test.YtceflhffilldeaaRowPart
import Derived.Deep.Onto
import Derived.Test.YtceflhffilldeaaHeldF
import Derived.Deep.RegionLaw
import Derived.Deep.DeepCutAuto
namespace Go.Proofs.Ytceflhffilldeaa
set_option linter.unusedVariables false
set_option linter.unusedSimpArgs false
open Go.RowKit Go.Maps Go.WideMaps

theorem own_kept {S : Nat → Prop} {w w' : World} {base n size : Nat} {e : TypeId} {v : Value} {xs : List Value} (h : w.ownsRow base e size v n xs) (hk : Kept S w w') (hS : ∀ k, v.ownBlock = some k → S k) : w'.ownsRow base e size v n xs := by
  obtain ⟨h1, h2⟩ := h
  refine ⟨h1, ?_⟩
  rcases h2 with h2 | ⟨g, cap, cur, rfl, hg, hh, r⟩
  · exact Or.inl h2
  · exact Or.inr ⟨g, cap, cur, rfl, hg, (hk.block g (hS g rfl)).trans hh, r⟩
theorem own_form {w : World} {base n : Nat} {e : TypeId} {v : Value} {xs : List Value} (h : w.ownsRow base e 1 v n xs) (hn : 0 < n) : ∃ g c, v = .slice (some ⟨g, 0, none⟩) n c ∧ n ≤ c := by
  rcases h.2 with ⟨h1, h2⟩ | ⟨g, cap, cur, rfl, hg, hh, h3, r⟩
  · omega
  · exact ⟨g, cap, rfl, h3⟩
/-- What is left of a row from a place on, as the slice that is made of it. -/
def restOf0 (g j n c : Nat) : Value := if c = j then .slice (some ⟨g, 0, none⟩) 0 0 else .slice (some ⟨g, j, none⟩) (n - j) (c - j)
theorem own_cases {w : World} {base n : Nat} {e : TypeId} {v : Value} {xs : List Value} (h : w.ownsRow base e 1 v n xs) : (v = .slice none 0 0 ∧ n = 0) ∨ ∃ g c, v = .slice (some ⟨g, 0, none⟩) n c ∧ n ≤ c := by
  rcases h.2 with h1 | ⟨g, cap, cur, rfl, hg, hh, h3, r⟩
  · exact Or.inl h1
  · exact Or.inr ⟨g, cap, rfl, h3⟩
theorem srow_none {w : World} {l : List ByteArray} {n c : Nat} (h : l = []) (hn : n = 0) : SRow w (.slice none n c) l := by
  subst h hn
  exact ⟨by simp, none, c, rfl, fun k hk => absurd hk (by simp)⟩
theorem srow_one {w : World} {g : Nat} {e : TypeId} {s : ByteArray} (h : Blk w g e #[.string s]) : SRow w (.slice (some ⟨g, 0, none⟩) 1 1) [s] :=
  ⟨by simp, some ⟨g, 0, none⟩, 1, rfl, fun k hk => ⟨⟨g, 0, none⟩, rfl, h.lt, by
    have hk0 : k = 0 := by simpa using hk
    subst hk0
    rw [rp_add]
    exact h.cell 0⟩⟩
theorem srow_nothing {w : World} {g c : Nat} : SRow w (.slice (some ⟨g, 0, none⟩) 0 c) [] := ⟨by simp, some ⟨g, 0, none⟩, c, rfl, fun k hk => absurd hk (by simp)⟩
theorem step_app_str {P : Program} {ops : Array Oper} {o : Oper} {a : Act} {K : Act → World → Prop} {Q : Exit → Act → World → Prop} {E : Prop} (W : World) (hgd : o.guard = none) (s x : Operand) (t e : TypeId)
    (hop : o.op = .call { callee := .builtin .append, args := #[s, x], argTypes := #[t, t] }) (bytes : Nat) (ht : P.underlying t = some (.slice e))
    (info : (P.info? e).map (fun i => (i.zero, i.size, i.bytes)) = some (some (.string ⟨#[]⟩), 1, bytes)) (hb : bytes ≤ 16) (base : Nat) (hb0 : base ≤ W.heap.size) (g0 c0 n : Nat) (xs : List ByteArray)
    (own0 : W.ownsRow base e 1 (.slice (some ⟨g0, 0, none⟩) n c0) n (xs.map Value.string)) (l : List ByteArray) (v : Value) (hs : a.eval s = .slice (some ⟨g0, 0, none⟩) n c0) (hx : a.eval x = v) (hr : SRow W v l) (m : Nat) (hm : n + l.length = m) (hl : m ≤ 1000000)
    (hK : ∀ g c w2, w2.ownsRow base e 1 (.slice (some ⟨g, 0, none⟩) m c) m ((xs ++ l).map Value.string) → W.grownBy w2 (some g0) → K (a.put o.dst (.slice (some ⟨g, 0, none⟩) m c)) w2) :
    if Region.wanted o (yielded ops a.tmps) = true then Oper.wp P o a W K Q else E := by
  subst hm
  rw [if_pos (by simp [Region.wanted, hgd])]
  exact wp_app_str W s x t e hop bytes ht info hb base hb0 g0 c0 n xs own0 l v hs hx hr hl hK

/-- Where the document's store lies: its block, its names' row and its texts' row. -/
structure RefIs (W : World) (p : Nat) (v u : Value) (N T : List ByteArray) : Prop where
  blk : Blk W p 28 #[v, u]
  names : W.ownsRow 0 9 1 v N.length (N.map Value.string)
  texts : W.ownsRow 0 9 1 u T.length (T.map Value.string)
  len : N.length = T.length
  small : N.length ≤ 1000000
  np : ∀ k, v.ownBlock = some k → k ≠ p
  tp : ∀ k, u.ownBlock = some k → k ≠ p
  nt : ∀ k, v.ownBlock = some k → u.ownBlock ≠ some k
theorem RefIs.kept {S : Nat → Prop} {W W' : World} {p : Nat} {v u : Value} {N T : List ByteArray} (h : RefIs W p v u N T) (hk : Kept S W W') (hp : S p) (hv : ∀ k, v.ownBlock = some k → S k) (hu : ∀ k, u.ownBlock = some k → S k) : RefIs W' p v u N T :=
  ⟨h.blk.kept hk hp, own_kept h.names hk hv, own_kept h.texts hk hu, h.len, h.small, h.np, h.tp, h.nt⟩
theorem own_len {w : World} {base n : Nat} {e : TypeId} {v : Value} {l : List ByteArray} (h : w.ownsRow base e 1 v n (l.map Value.string)) : l.length = n := by have := h.1; simpa using this
theorem ref_made {w wc w' : World} {p g4 c4 n1 g5 c5 n2 : Nat} {N T : List ByteArray} (h1 : Blk w' p 28 #[.slice (some ⟨g4, 0, none⟩) n1 c4, .slice (some ⟨g5, 0, none⟩) n2 c5]) (h2 : wc.ownsRow w.heap.size 9 1 (.slice (some ⟨g4, 0, none⟩) n1 c4) n1 (N.map Value.string))
    (h3 : w'.ownsRow wc.heap.size 9 1 (.slice (some ⟨g5, 0, none⟩) n2 c5) n2 (T.map Value.string)) (k : Kept (fun k => k < w.heap.size ∧ k ≠ p) w wc) (k' : Kept (fun k => k < wc.heap.size ∧ k ≠ p) wc w') (hp : p < w.heap.size) (hl : N.length = T.length) (hs : N.length ≤ 1000000) :
    ∃ v u, RefIs w' p v u N T ∧ (∀ k, v.ownBlock = some k → w.heap.size ≤ k) ∧ (∀ k, u.ownBlock = some k → w.heap.size ≤ k) ∧ Kept (fun k => k < w.heap.size ∧ k ≠ p) w w' := by
  have a1 := h2.lt g4 rfl
  have a2 := h3.lt g5 rfl
  have e1 := own_len h2
  have e2 := own_len h3
  subst e1 e2
  refine ⟨_, _, ⟨h1, (own_kept h2 k' (fun k hk => by have hk := Option.some.inj hk; dsimp only at hk; subst hk; exact ⟨a1.2, by omega⟩)).mono (Nat.zero_le _), h3.mono (Nat.zero_le _), hl, hs, ?_, ?_, ?_⟩, ?_, ?_, ?_⟩
  · intro k hk; have hk := Option.some.inj hk; dsimp only at hk; subst hk; omega
  · intro k hk; have hk := Option.some.inj hk; dsimp only at hk; subst hk; have := k.size; omega
  · intro k hk e; have hk := Option.some.inj hk; dsimp only at hk; have e := Option.some.inj e; dsimp only at e; subst hk; omega
  · intro k hk; have hk := Option.some.inj hk; dsimp only at hk; subst hk; omega
  · intro k hk; have hk := Option.some.inj hk; dsimp only at hk; subst hk; have := k.size; omega
  · exact k.trans (k'.mono (fun j hj => ⟨Nat.lt_of_lt_of_le hj.1 k.size, hj.2⟩))


end Go.Proofs.Ytceflhffilldeaa
