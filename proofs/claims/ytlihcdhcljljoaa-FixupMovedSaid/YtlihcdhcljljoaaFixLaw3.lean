/-
  What is filled in, plainly: what no link has stays, what a link has is its two instructions.
-/
import Derived.Test.YtlihcdhcljljoaaFixLaw2
namespace Go.Proofs.Ytlihcdhcljljoaa
set_option linter.unusedVariables false
set_option linter.unusedSimpArgs false
open Go.RowKit Bw

namespace Fx
theorem getD_set_same (l : List Int) (i : Nat) (x : Int) (h : i < l.length) : (l.set i x).getD i 0 = x := by
  simp [List.getD, h]
theorem getD_set_other (l : List Int) (i j : Nat) (x : Int) (h : i ≠ j) : (l.set i x).getD j 0 = l.getD j 0 := by
  simp only [List.getD_eq_getElem?_getD, List.getElem?_set_ne h]
theorem fills_at (code : List Int) (at_ : Int) (V : Int → Int → Int → Int) (H : Int → Int → Int → Bool) : ∀ (l out0 out : List Int), fills code at_ V H l out0 = some out → l.Pairwise (fun p q => q + 2 ≤ p) → (∀ p ∈ l, 0 ≤ p ∧ p.toNat + 1 < out0.length) →
    out.length = out0.length ∧ (∀ i : Nat, (∀ p ∈ l, p.toNat ≠ i ∧ p.toNat + 1 ≠ i) → out.getD i 0 = out0.getD i 0) ∧
    ∀ p ∈ l, H (sort (code.getD p.toNat 0)) (mod (code.getD p.toNat 0)) (code.getD (p.toNat + 1) 0) = true ∧ okTo (V (sort (code.getD p.toNat 0)) (mod (code.getD p.toNat 0)) (code.getD (p.toNat + 1) 0)) = true ∧
      out.getD p.toNat 0 = (ins1 (code.getD p.toNat 0) (at_ + p) (V (sort (code.getD p.toNat 0)) (mod (code.getD p.toNat 0)) (code.getD (p.toNat + 1) 0))).E ∧
      out.getD (p.toNat + 1) 0 = (ins2 (code.getD p.toNat 0) (V (sort (code.getD p.toNat 0)) (mod (code.getD p.toNat 0)) (code.getD (p.toNat + 1) 0))).E
  | [], out0, out, h, _, _ => by
    rw [fills] at h; injection h with h; subst h
    exact ⟨rfl, fun _ _ => rfl, fun p hp => absurd hp (by simp)⟩
  | p :: l, out0, out, h, hpw, hin => by
    rw [fills] at h
    split at h
    · rename_i hc
      obtain ⟨h1, h2⟩ := List.pairwise_cons.1 hpw
      obtain ⟨p0, p1⟩ := hin p (by simp)
      generalize hA : (ins1 (code.getD p.toNat 0) (at_ + p) (V (sort (code.getD p.toNat 0)) (mod (code.getD p.toNat 0)) (code.getD (p.toNat + 1) 0))).E = A at *
      generalize hB : (ins2 (code.getD p.toNat 0) (V (sort (code.getD p.toNat 0)) (mod (code.getD p.toNat 0)) (code.getD (p.toNat + 1) 0))).E = B at *
      obtain ⟨r1, r2, r3⟩ := fills_at code at_ V H l _ out h h2 (fun q hq => by
        have := hin q (by simp [hq])
        simpa using this)
      have hA1 : out.getD p.toNat 0 = A := by
        rw [r2 _ (fun q hq => by have := h1 q hq; have := (hin q (by simp [hq])).1; omega), getD_set_other _ _ _ _ (by omega), getD_set_same _ _ _ (by omega)]
      have hB1 : out.getD (p.toNat + 1) 0 = B := by
        rw [r2 _ (fun q hq => by have := h1 q hq; have := (hin q (by simp [hq])).1; omega), getD_set_same _ _ _ (by simpa using p1)]
      refine ⟨by simpa using r1, fun i hi => ?_, fun q hq => ?_⟩
      · obtain ⟨g1, g2⟩ := hi p (by simp)
        rw [r2 i (fun q hq => hi q (by simp [hq])), getD_set_other _ _ _ _ g2, getD_set_other _ _ _ _ g1]
      · rcases List.mem_cons.1 hq with rfl | hq
        · exact ⟨hc.1, hc.2, hA1.trans hA.symm, hB1.trans hB.symm⟩
        · exact r3 q hq
    · cases h
theorem Good.pairwise {code l : List Int} (h : Good code l) : l.Pairwise (fun p q => q + 2 ≤ p) := by
  rw [List.pairwise_iff_getElem]
  intro i j hi hj hij
  have := (h j hj).2.2.2 i hij
  simpa [List.getD, hi, hj] using this
theorem Good.inside {code l : List Int} (h : Good code l) : ∀ p ∈ l, 0 ≤ p ∧ p.toNat + 1 < code.length := by
  intro p hp
  obtain ⟨i, hi, rfl⟩ := List.mem_iff_getElem.1 hp
  obtain ⟨a1, a2, -, -⟩ := h i hi
  simp only [List.getD_eq_getElem?_getD, List.getElem?_eq_getElem hi, Option.getD_some] at a1 a2
  omega
/-- A fill that comes to an end. -/
theorem fill_some {code out : List Int} {head at_ : Int} {V : Int → Int → Int → Int} {H : Int → Int → Int → Bool} (h : fill code head at_ V H = some out) :
    ∃ l, chain code head = some l ∧ mayAt code.length at_ = true ∧ fills code at_ V H l code = some out := by
  unfold fill at h
  cases hc : chain code head with
  | none => rw [hc] at h; cases h
  | some l =>
    rw [hc] at h
    simp only at h
    split at h
    · rename_i hm; exact ⟨l, rfl, hm, h⟩
    · cases h
theorem E_dec {x : Ins} (h : x.good = true) : Ins.derr x.E = 0 := by
  rw [Ins.E, if_pos h]; exact (Ins.dec_enc x h).2
/-- What is in no link stays; what is filled in are instructions. -/
theorem fill_keeps {code out l : List Int} {head at_ : Int} {V : Int → Int → Int → Int} {H : Int → Int → Int → Bool} (hu : ∀ i, i < code.length → 0 ≤ code.getD i 0 ∧ code.getD i 0 < 4294967296) (h : fill code head at_ V H = some out) (hl : chain code head = some l) :
    out.length = code.length ∧ ∀ i : Nat, i < code.length → ((∀ p ∈ l, p.toNat ≠ i ∧ p.toNat + 1 ≠ i) → out.getD i 0 = code.getD i 0) ∧ ((∃ p ∈ l, p.toNat = i ∨ p.toNat + 1 = i) → Ins.derr (out.getD i 0) = 0 ∧ 0 ≤ out.getD i 0 ∧ out.getD i 0 < 4294967296) := by
  obtain ⟨l', h1, h2, h3⟩ := fill_some h
  rw [hl] at h1; injection h1 with h1; subst h1
  have hg := chain_good hl
  obtain ⟨r1, r2, r3⟩ := fills_at code at_ V H l code out h3 hg.pairwise hg.inside
  have hm : 0 ≤ at_ ∧ at_ ≤ 65536 ∧ (code.length : Int) ≤ 65536 - at_ := by simpa [mayAt] using h2
  refine ⟨r1, fun i hi => ⟨r2 i, ?_⟩⟩
  rintro ⟨p, hp, hpi⟩
  obtain ⟨s1, s2, s3, s4⟩ := r3 p hp
  obtain ⟨p0, p1⟩ := hg.inside p hp
  have hx := hu p.toNat (by omega)
  rcases hpi with rfl | rfl
  · rw [s3]; exact ⟨E_dec (ins1_good _ _ _ hx s2 (by omega)), Ins.E_bd _⟩
  · rw [s4]; exact ⟨E_dec (ins2_good _ _ hx s2), Ins.E_bd _⟩
end Fx

end Go.Proofs.Ytlihcdhcljljoaa
