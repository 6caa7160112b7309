/-
  Chains and their filling in, as plain functions. No program in sight.
-/
import Derived.Test.YtlihcdhcljljoaaFixLaw
import Derived.Test.YtlihcdhcljljoaaRiscLaw
namespace Go.Proofs.Ytlihcdhcljljoaa
set_option linter.unusedVariables false
set_option linter.unusedSimpArgs false
open Go.RowKit Bw

namespace Fx
/-- The places of a chain, from a place on, behind those that are there. -/
def go (code : List Int) : Nat → List Int → Int → Option (List Int)
  | 0, _, _ => none
  | n + 1, acc, p =>
    if p < 0 ∨ (code.length : Int) - 1 ≤ p ∨ (0 < acc.length ∧ acc.getD (acc.length - 1) 0 - 2 < p) then none
    else if isLink (code.getD p.toNat 0) = true then
      if back (code.getD p.toNat 0) = 0 then some (acc ++ [p]) else go code n (acc ++ [p]) (p - back (code.getD p.toNat 0))
    else none
def chain (code : List Int) (head : Int) : Option (List Int) := if head = -1 then some [] else go code (head.toNat + 1) [] head
theorem go_none (code : List Int) (n : Nat) (acc : List Int) (p : Int) (h : p < 0 ∨ (code.length : Int) - 1 ≤ p ∨ (0 < acc.length ∧ acc.getD (acc.length - 1) 0 - 2 < p)) : go code n acc p = none := by
  cases n with
  | zero => rfl
  | succ n => rw [go, if_pos h]
theorem go_no (code : List Int) (n : Nat) (acc : List Int) (p : Int) (h : isLink (code.getD p.toNat 0) = false) : go code n acc p = none := by
  cases n with
  | zero => rfl
  | succ n => rw [go, if_neg (c := isLink _ = true) (by rw [h]; decide)]; split <;> rfl
theorem go_end (code : List Int) (n : Nat) (acc : List Int) (p : Int) (hn : p < n) (h : ¬ (p < 0 ∨ (code.length : Int) - 1 ≤ p ∨ (0 < acc.length ∧ acc.getD (acc.length - 1) 0 - 2 < p)))
    (h1 : isLink (code.getD p.toNat 0) = true) (h2 : back (code.getD p.toNat 0) = 0) : go code n acc p = some (acc ++ [p]) := by
  cases n with
  | zero => exact absurd (Or.inl (by omega)) h
  | succ n => rw [go, if_neg h, if_pos h1, if_pos h2]
theorem go_on (code : List Int) (n : Nat) (acc : List Int) (p : Int) (hn : p < n) (h : ¬ (p < 0 ∨ (code.length : Int) - 1 ≤ p ∨ (0 < acc.length ∧ acc.getD (acc.length - 1) 0 - 2 < p)))
    (h1 : isLink (code.getD p.toNat 0) = true) (h2 : back (code.getD p.toNat 0) ≠ 0) : ∃ m, n = m + 1 ∧ go code n acc p = go code m (acc ++ [p]) (p - back (code.getD p.toNat 0)) := by
  cases n with
  | zero => exact absurd (Or.inl (by omega)) h
  | succ n => exact ⟨n, rfl, by rw [go, if_neg h, if_pos h1, if_neg h2]⟩
theorem back_bd (w : Int) : 0 ≤ back w ∧ back w < 16384 := by unfold back; split <;> omega
/-- What the places of a chain are: links, each below the one ahead by two words and more. -/
def Good (code : List Int) (l : List Int) : Prop := ∀ i, i < l.length → 0 ≤ l.getD i 0 ∧ l.getD i 0 + 2 * i + 2 ≤ code.length ∧ isLink (code.getD (l.getD i 0).toNat 0) = true ∧ ∀ j, j < i → l.getD i 0 + 2 ≤ l.getD j 0
theorem good_nil (code : List Int) : Good code [] := fun i hi => absurd hi (by simp)
theorem getD_app (l : List Int) (p : Int) (i : Nat) : (l ++ [p]).getD i 0 = if i < l.length then l.getD i 0 else if i = l.length then p else 0 := by
  simp only [List.getD_eq_getElem?_getD, List.getElem?_append]
  split
  · rfl
  · rename_i h
    by_cases e : i = l.length
    · subst e; simp
    · rw [if_neg e, List.getElem?_eq_none (by simp; omega)]; rfl
theorem good_snoc {code l : List Int} {p : Int} (hl : Good code l) (h : ¬ (p < 0 ∨ (code.length : Int) - 1 ≤ p ∨ (0 < l.length ∧ l.getD (l.length - 1) 0 - 2 < p)))
    (h1 : isLink (code.getD p.toNat 0) = true) : Good code (l ++ [p]) := by
  have hp : 0 ≤ p ∧ p < (code.length : Int) - 1 ∧ (0 < l.length → p ≤ l.getD (l.length - 1) 0 - 2) := by
    refine ⟨by omega, by omega, fun hl => by omega⟩
  obtain ⟨h3, h4, h5⟩ := hp
  intro i hi
  have hi' : i < l.length + 1 := by simpa using hi
  rw [getD_app]
  by_cases e : i < l.length
  · rw [if_pos e]
    obtain ⟨a1, a2, a3, a4⟩ := hl i e
    refine ⟨a1, a2, a3, fun j hj => ?_⟩
    rw [getD_app, if_pos (by omega)]
    exact a4 j hj
  · have e2 : i = l.length := by omega
    subst e2
    rw [if_neg e, if_pos rfl]
    rcases Nat.eq_zero_or_pos l.length with hz | hz
    · refine ⟨h3, by omega, h1, fun j hj => by omega⟩
    · obtain ⟨a1, a2, a3, a4⟩ := hl (l.length - 1) (by omega)
      have h6 := h5 hz
      refine ⟨h3, by omega, h1, fun j hj => ?_⟩
      rw [getD_app, if_pos hj]
      rcases Nat.lt_or_ge j (l.length - 1) with hlt | hge
      · have := a4 j hlt; omega
      · have : j = l.length - 1 := by omega
        subst this; omega
theorem Good.len {code l : List Int} (h : Good code l) : 2 * l.length ≤ code.length := by
  rcases Nat.eq_zero_or_pos l.length with hz | hz
  · omega
  · obtain ⟨a1, a2, -, -⟩ := h (l.length - 1) (by omega)
    omega
theorem go_good (code : List Int) : ∀ (n : Nat) (acc : List Int) (p : Int) (l : List Int), Good code acc → go code n acc p = some l → Good code l
  | 0, acc, p, l, _, h => by cases h
  | n + 1, acc, p, l, ha, h => by
    rw [go] at h
    split at h
    · cases h
    · rename_i hc
      split at h
      · rename_i h1
        split at h
        · injection h with h; subst h; exact good_snoc ha hc h1
        · exact go_good code n _ _ l (good_snoc ha hc h1) h
      · cases h
theorem chain_good {code : List Int} {head : Int} {l : List Int} (h : chain code head = some l) : Good code l := by
  unfold chain at h
  split at h
  · injection h with h; subst h; exact good_nil code
  · exact go_good code _ _ _ l (good_nil code) h

/-- The two words that a link is filled in with. -/
def ins1 (w p to : Int) : Ins := if sort w = 0 then ⟨3, true, true, 7, 0, 0, 0, to - p - 1⟩ else ⟨1, true, false, reg w, 0, 0, 0, 4 * to / 65536⟩
def ins2 (w to : Int) : Ins := if sort w = 0 then Ins.zero else ⟨1, false, false, reg w, reg w, 0, 6, 4 * to % 65536⟩
def okTo (to : Int) : Bool := decide (0 ≤ to ∧ to < 65536)
/-- All links of a list, filled in. -/
def fills (code : List Int) (at_ : Int) (V : Int → Int → Int → Int) (H : Int → Int → Int → Bool) : List Int → List Int → Option (List Int)
  | [], out => some out
  | p :: l, out =>
    let w := code.getD p.toNat 0
    let v := code.getD (p.toNat + 1) 0
    if H (sort w) (mod w) v = true ∧ okTo (V (sort w) (mod w) v) = true then
      fills code at_ V H l ((out.set p.toNat (ins1 w (at_ + p) (V (sort w) (mod w) v)).E).set (p.toNat + 1) (ins2 w (V (sort w) (mod w) v)).E)
    else none
def mayAt (n : Nat) (at_ : Int) : Bool := decide (0 ≤ at_ ∧ at_ ≤ 65536 ∧ (n : Int) ≤ 65536 - at_)
def fill (code : List Int) (head at_ : Int) (V : Int → Int → Int → Int) (H : Int → Int → Int → Bool) : Option (List Int) :=
  match chain code head with
  | none => none
  | some l => if mayAt code.length at_ = true then fills code at_ V H l code else none
theorem reg_bd (w : Int) (h : 0 ≤ w ∧ w < 4294967296) : 0 ≤ reg w ∧ reg w < 16 := by unfold reg; split <;> omega
theorem sort_bd (w : Int) : 0 ≤ sort w ∧ sort w < 4 := by unfold sort; split <;> omega
theorem mod_bd (w : Int) : 0 ≤ mod w ∧ mod w < 64 := by unfold mod; split <;> omega
theorem ins1_good (w p to : Int) (h : 0 ≤ w ∧ w < 4294967296) (h1 : okTo to = true) (h2 : 0 ≤ p ∧ p ≤ 131072) : (ins1 w p to).good = true := by
  have := reg_bd w h
  have h1 : 0 ≤ to ∧ to < 65536 := by simpa [okTo] using h1
  unfold ins1
  split
  · rw [Ins.jump_good true 7 _ (by omega) (by omega), decide_eq_true_eq]; omega
  · simp [Ins.good, half4, half16, Ins.inb, Ins.uop]; omega
theorem ins2_good (w to : Int) (h : 0 ≤ w ∧ w < 4294967296) (h1 : okTo to = true) : (ins2 w to).good = true := by
  have := reg_bd w h
  have h1 : 0 ≤ to ∧ to < 65536 := by simpa [okTo] using h1
  unfold ins2
  split
  · decide
  · simp [Ins.good, half4, half16, Ins.inb, Ins.uop]; omega
end Fx

end Go.Proofs.Ytlihcdhcljljoaa
