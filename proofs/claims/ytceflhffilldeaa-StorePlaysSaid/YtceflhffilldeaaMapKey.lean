/-
  Keys of maps that are arrays of integers. No program in sight but the types' rows.
-/
import Derived.Maps.Own
import Derived.Maps.Views
import Derived.WideKeyArr2
import Derived.DeepKeys4
namespace Go.Proofs.Ytceflhffilldeaa
set_option linter.unusedVariables false
set_option linter.unusedSimpArgs false
open Go.RowKit Go.Maps Go.WideMaps

/-- The key that an array of integers is. -/
def akey (q : IntKind) (xs : List Int) : Lit := .string (keyBytes (xs.map (Lit.int q)))

theorem mapM_keyLits {P : Program} {e : TypeId} {q : IntKind} (he : P.underlying e = some (.int q)) (h1 : P.cellsOf e = 1) (D : Nat) (xs : List Int) (hw : ∀ x ∈ xs, (Lit.int q x).wf = true) :
    ∀ (L : List Nat), (∀ i ∈ L, i < xs.length) → L.mapM (fun i => P.keyLits (D + 1) e (((xs.map (Value.int q)).drop (i * P.cellsOf e)).take (P.cellsOf e))) = some (L.map fun i => [Lit.int q (xs.getD i 0)])
  | [], _ => rfl
  | i :: L, h => by
    rw [List.mapM_cons, mapM_keyLits he h1 D xs hw L (fun j hj => h j (by simp [hj]))]
    have hi := h i (by simp)
    have e1 : ((xs.map (Value.int q)).drop (i * P.cellsOf e)).take (P.cellsOf e) = [Value.int q xs[i]] := by
      rw [h1, Nat.mul_one, List.drop_eq_getElem_cons (by simpa using hi)]
      simp
    rw [e1]
    have hx : (Lit.int q xs[i]).wf = true := hw _ (List.getElem_mem hi)
    simp [Program.keyLits, he, hx, List.getD, hi]

theorem keyOf_arr {P : Program} {k e : TypeId} {n : Nat} {q : IntKind} (A : ArrKey P k e n) (he : P.underlying e = some (.int q)) (hsz : ∃ m, P.types.size = m + 1) (xs : List Int) (hn : xs.length = n) (hw : ∀ x ∈ xs, (Lit.int q x).wf = true) :
    keyOf P k (.agg (xs.map (Value.int q)).toArray) = some (akey q xs) := by
  have hkt := A.keyType hsz
  obtain ⟨m0, hm0⟩ := hsz
  unfold keyOf
  simp only [A.hu]
  rw [if_pos (by simp [hkt, Value.formed, A.hu, A.size, hn]), hm0]
  unfold Program.keyLits
  simp only [A.hu, Value.cells]
  rw [if_pos (by rw [A.size]; simpa using hn)]
  have h := mapM_keyLits he A.one m0 xs hw (List.range n) (by intro i hi; rw [hn]; simpa using hi)
  try simp only [List.toList_toArray] at *
  rw [h]
  have hfl : ∀ l : List Nat, (l.map fun i => [Lit.int q (xs.getD i 0)]).flatten = l.map fun i => Lit.int q (xs.getD i 0) := fun l => by induction l with | nil => rfl | cons a r ih => rw [List.map_cons, List.flatten_cons, ih]; rfl
  simp only [Option.map_some, hfl, akey]
  congr 3
  apply List.ext_getElem
  · simp [hn]
  · intro i h1 h2
    have : i < xs.length := by simpa using h2
    simp [List.getD, this]

theorem akey_inj {P : Program} {k e : TypeId} {n : Nat} {q : IntKind} (A : ArrKey P k e n) (he : P.underlying e = some (.int q)) (hsz : ∃ m, P.types.size = m + 1) {xs ys : List Int} (hn : xs.length = n) (hw : ∀ x ∈ xs, (Lit.int q x).wf = true)
    (hn' : ys.length = n) (hw' : ∀ x ∈ ys, (Lit.int q x).wf = true) (h : akey q xs = akey q ys) : xs = ys := by
  have h1 := keyOf_arr A he hsz xs hn hw
  have h2 := keyOf_arr A he hsz ys hn' hw'
  rw [h] at h1
  have h3 := A.law.inj h1 h2
  injection h3 with h3
  have h4 : xs.map (Value.int q) = ys.map (Value.int q) := by simpa using congrArg Array.toList h3
  exact (List.map_inj_right (fun a b hab => by injection hab)).1 h4

end Go.Proofs.Ytceflhffilldeaa
