/-
  The statements StoreNames and StoreLast: their walks, out of the contracts.
-/
import Derived.Test.YtceflhffilldeaaStoreOps
namespace Go.Proofs.Ytceflhffilldeaa
set_option linter.unusedVariables false
set_option linter.unusedSimpArgs false
open Go.RowKit Go.Maps Go.WideMaps

theorem fkey_key (s : ByteArray) : WideAt.IsKeyLit (fkey s) := sKeyed.key (keyOf_name s)
theorem text_inj {a b : ByteArray} (h : text a = text b) : a = b := by
  unfold text at h
  injection h with h
  injection h with h
  apply ByteArray.ext
  simpa using congrArg List.toArray h
theorem got_same {D : DataW Unit} (hD : IsMap D) (s t v : ByteArray) (hv : (D.put (fkey s) (text t)).atKey (fkey s) (text ⟨#[]⟩) = text v) : v = t := by
  rw [atKey_put_same hD (fkey_key s)] at hv
  exact (text_inj hv).symm

set_option maxRecDepth 100000 in
theorem law07_wakes (w : World) : Calls Try.prog 22 #[] w fun e w' => e = .returned (.bool true) ∧ Below w.heap.size w w' := by
  have hA : nameOk ⟨#[65, 46, 77, 111, 100]⟩ = true := by decide
  have h1 : nameOk ⟨#[49]⟩ = false := by decide
  have hA := Lib.hid hA
  have h1 := Lib.hid h1
  go_enter Try.func22, Try.ntmps22
  go_wp2_with fail
  refine (store_new _).mono ?_
  rintro e w1 ⟨rfl, hw1⟩
  have hB := Lib.hid (hw1 ▸ Blk.new w 66 #[.map none])
  have hk1 : Below w.heap.size w w1 := hw1 ▸ (Below.refl _ _).alloc (Nat.le_refl _) _
  clear hw1
  go_wp2_with fail
  refine (store_put_nil _ _ _ _ (by decide) hB.out hA.out (by decide)).mono ?_
  rintro e w2 ⟨rfl, b, hB2, ho2, hb2, hk2⟩
  have hB2 := Lib.hid hB2
  have ho2 := Lib.hid ho2
  go_wp2_with fail
  refine (store_get _ _ 1 (.map (some b)) _ _ (by decide) hB2.out (Or.inr ⟨b, rfl, ho2.out⟩) hA.out).mono ?_
  rintro e w3 ⟨⟨v, rfl, hv⟩, hk3⟩
  obtain rfl := got_same isMap_empty _ _ _ hv
  rw [has_put_same isMap_empty (fkey_key _)]
  clear hv
  go_wp2_with fail
  refine (store_put_bad _ _ _ _ (by decide) h1.out).mono ?_
  rintro e w4 ⟨rfl, hk4⟩
  go_wp2_with fail
  go_ret
  have l1 := hB.out.lt
  exact ⟨rfl, ((hk1.trans (hk2.to_below (fun k h => ⟨by omega, by omega⟩))).trans (hk3.mono (Nat.le_trans hk1.size hk2.size))).trans (hk4.mono (Nat.le_trans (Nat.le_trans hk1.size hk2.size) hk3.size))⟩

theorem blk3 {w : World} {g : Nat} {t : TypeId} {x y z : Value} (h : Blk w g t #[x, y, z]) : w.cell? ⟨g, 0, none⟩ = some x ∧ w.cell? ⟨g, 1, none⟩ = some y ∧ w.cell? ⟨g, 2, none⟩ = some z := ⟨h.cell 0, h.cell 1, h.cell 2⟩
theorem own_ne {w : World} {g b n : Nat} {t : TypeId} {cs : Array Value} {D : DataW Unit} (h : Blk w g t cs) (ho : w.ownsMap Try.prog 68 (plainElem Try.prog 9) b n D) : g ≠ b := by
  obtain ⟨es, clock, hb, _⟩ := ho
  rintro rfl
  unfold Blk at h
  rw [h] at hb
  cases hb
theorem fkey_ne {a b : ByteArray} (ha : nameOk a = true) (hb : nameOk b = true) (h : a ≠ b) : fkey a ≠ fkey b := fun e => h (fkey_inj a b ha hb e)

end Go.Proofs.Ytceflhffilldeaa
