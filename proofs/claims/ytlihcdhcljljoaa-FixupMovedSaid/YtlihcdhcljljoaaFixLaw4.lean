/-
  Code that stands elsewhere is filled in with the same calls; other places are as much greater: plainly.
-/
import Derived.Test.YtlihcdhcljljoaaFixLaw3
namespace Go.Proofs.Ytlihcdhcljljoaa
set_option linter.unusedVariables false
set_option linter.unusedSimpArgs false
open Go.RowKit Bw

namespace Fx
theorem ins1_low {w p to : Int} (hs : sort w ≠ 0) (hw : 0 ≤ w ∧ w < 4294967296) (ht : okTo to = true) (hp : 0 ≤ p ∧ p ≤ 131072) : (ins1 w p to).E % 65536 = 4 * to / 65536 := by
  have hg := ins1_good w p to hw ht hp
  have hr := reg_bd w hw
  have ht : 0 ≤ to ∧ to < 65536 := by simpa [okTo] using ht
  rw [Ins.E, if_pos hg]
  rw [ins1, if_neg hs]
  simp [Ins.enc, Ins.one]
  omega
theorem ins2_low {w to : Int} (hs : sort w ≠ 0) (hw : 0 ≤ w ∧ w < 4294967296) (ht : okTo to = true) : (ins2 w to).E % 65536 = 4 * to % 65536 := by
  have hg := ins2_good w to hw ht
  have hr := reg_bd w hw
  have ht : 0 ≤ to ∧ to < 65536 := by simpa [okTo] using ht
  rw [Ins.E, if_pos hg]
  rw [ins2, if_neg hs]
  simp [Ins.enc, Ins.one]
  omega
/-- What the law asks of two words of a link. -/
def Moved (w a1 a2 b1 b2 K : Int) : Prop :=
  (sort w = 0 → a1 = b1 ∧ a2 = b2) ∧ (sort w ≠ 0 → ∃ to, 0 ≤ to ∧ to + K < 65536 ∧ a1 % 65536 = 4 * to / 65536 ∧ a2 % 65536 = 4 * to % 65536 ∧ b1 % 65536 = 4 * (to + K) / 65536 ∧ b2 % 65536 = 4 * (to + K) % 65536)
theorem moved {code a b l : List Int} {h0 at_ K : Int} {V V' : Int → Int → Int → Int} {H H' : Int → Int → Int → Bool} (hu : ∀ i, i < code.length → 0 ≤ code.getD i 0 ∧ code.getD i 0 < 4294967296)
    (ha : fill code h0 at_ V H = some a) (hb : fill code h0 (at_ + K) V' H' = some b) (hl : chain code h0 = some l) (hK : 0 ≤ K)
    (hV : ∀ s m v, 0 ≤ s → s < 4 → 0 ≤ m → m < 64 → 0 ≤ v → v < 4294967296 → H' s m v = true → V' s m v = V s m v + K) :
    a.length = code.length ∧ b.length = code.length ∧ ∀ p ∈ l, (0 ≤ p ∧ p.toNat + 1 < code.length) ∧ Moved (code.getD p.toNat 0) (a.getD p.toNat 0) (a.getD (p.toNat + 1) 0) (b.getD p.toNat 0) (b.getD (p.toNat + 1) 0) K ∧
      (0 ≤ a.getD p.toNat 0 ∧ a.getD p.toNat 0 < 4294967296) ∧ (0 ≤ a.getD (p.toNat + 1) 0 ∧ a.getD (p.toNat + 1) 0 < 4294967296) ∧ (0 ≤ b.getD p.toNat 0 ∧ b.getD p.toNat 0 < 4294967296) ∧ (0 ≤ b.getD (p.toNat + 1) 0 ∧ b.getD (p.toNat + 1) 0 < 4294967296) := by
  obtain ⟨l1, c1, m1, f1⟩ := fill_some ha
  obtain ⟨l2, c2, m2, f2⟩ := fill_some hb
  rw [hl] at c1 c2
  injection c1 with c1; subst c1
  injection c2 with c2; subst c2
  have hg := chain_good hl
  obtain ⟨r1, -, r3⟩ := fills_at code at_ V H l code a f1 hg.pairwise hg.inside
  obtain ⟨s1, -, s3⟩ := fills_at code (at_ + K) V' H' l code b f2 hg.pairwise hg.inside
  have hm1 : 0 ≤ at_ ∧ at_ ≤ 65536 ∧ (code.length : Int) ≤ 65536 - at_ := by simpa [mayAt] using m1
  have hm2 : 0 ≤ at_ + K ∧ at_ + K ≤ 65536 ∧ (code.length : Int) ≤ 65536 - (at_ + K) := by simpa [mayAt] using m2
  refine ⟨r1, s1, fun p hp => ?_⟩
  obtain ⟨u1, u2, u3, u4⟩ := r3 p hp
  obtain ⟨v1, v2, v3, v4⟩ := s3 p hp
  obtain ⟨p0, p1⟩ := hg.inside p hp
  have hw := hu p.toNat (by omega)
  have hv := hu (p.toNat + 1) (by omega)
  have hsb := sort_bd (code.getD p.toNat 0)
  have hmb := mod_bd (code.getD p.toNat 0)
  have hto := hV _ _ _ hsb.1 hsb.2 hmb.1 hmb.2 hv.1 hv.2 v1
  rw [hto] at v2 v3 v4
  refine ⟨⟨p0, p1⟩, ?_, by rw [u3]; exact Ins.E_bd _, by rw [u4]; exact Ins.E_bd _, by rw [v3]; exact Ins.E_bd _, by rw [v4]; exact Ins.E_bd _⟩
  rw [u3, u4, v3, v4]
  clear u3 u4 v3 v4 r3 s3 hto
  generalize V (sort (code.getD p.toNat 0)) (mod (code.getD p.toNat 0)) (code.getD (p.toNat + 1) 0) = to at *
  generalize code.getD p.toNat 0 = w at *
  refine ⟨fun hs => ?_, fun hs => ⟨to, ?_, ?_, ins1_low hs hw u2 (by omega), ins2_low hs hw u2, ins1_low hs hw v2 (by omega), ins2_low hs hw v2⟩⟩
  · rw [ins1, if_pos hs, ins1, if_pos hs, ins2, if_pos hs, ins2, if_pos hs, show to + K - (at_ + K + p) - 1 = to - (at_ + p) - 1 by omega]
    exact ⟨rfl, rfl⟩
  · have : 0 ≤ to ∧ to < 65536 := by simpa [okTo] using u2
    exact this.1
  · have : 0 ≤ to + K ∧ to + K < 65536 := by simpa [okTo] using v2
    exact this.2
/-- The words' lower halves, put together. -/
theorem halves {q r : Int} (hq : 0 ≤ q) (hq' : q < 65536) (hr : 0 ≤ r) (hr' : r < 65536) : bits .or .u32 (q * 65536) r = q * 65536 + r :=
  or_add (q * 65536) r 16 (by omega) (by omega) (by omega) (by omega) (by omega) (by omega)
theorem and65535 (x : Int) (h : 0 ≤ x) (h' : x < 4294967296) : bits .and .u32 x 65535 = x % 65536 := by
  have := and_mask x 16 h h' (by omega)
  simpa using this
end Fx

end Go.Proofs.Ytlihcdhcljljoaa
