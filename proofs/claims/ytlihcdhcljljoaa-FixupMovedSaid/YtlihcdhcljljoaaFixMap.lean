/-
  Maps from a sort, a module and a value to a place.
-/
import Derived.Test.YtlihcdhcljljoaaMapKey
import Derived.Test.YtlihcdhcljljoaaRow
import Derived.Test.YtlihcdhcljljoaaFixLaw2
import Derived.Test.YtlihcdhcljljoaaProg
import Derived.Laws.CopyRow
import Derived.Maps.OwnSet
import Derived.Maps.Ext
namespace Go.Proofs.Ytlihcdhcljljoaa
set_option linter.unusedVariables false
set_option linter.unusedSimpArgs false
open Go.RowKit Go.Maps Go.WideMaps

theorem pArr : ArrKey Try.prog 61 3 3 := ⟨Try.underlying61, by kernel_rfl, by kernel_rfl, by kernel_rfl⟩
theorem pSize : ∃ m, Try.prog.types.size = m + 1 := ⟨Try.prog.types.size - 1, by kernel_rfl⟩
theorem pKeyed : Keyed Try.prog 61 := Keyed.of_law pArr.law
def pkey (a b c : Int) : Lit := akey .i64 [a, b, c]
def In64 (a : Int) : Prop := -9223372036854775808 ≤ a ∧ a ≤ 9223372036854775807
theorem in64_zero : In64 0 := ⟨by decide, by decide⟩
theorem wf64 {a : Int} (h : In64 a) : (Lit.int .i64 a).wf = true := by
  simp only [In64] at h
  simp [Lit.wf, IntKind.min, IntKind.max, IntKind.bits, IntKind.signed]
  omega
theorem wf64_iff {a : Int} (h : (Lit.int .i64 a).wf = true) : In64 a := by
  simp [Lit.wf, IntKind.min, IntKind.max, IntKind.bits, IntKind.signed] at h
  exact ⟨by omega, by omega⟩
theorem wf3 {a b c : Int} (ha : In64 a) (hb : In64 b) (hc : In64 c) : ∀ x ∈ [a, b, c], (Lit.int .i64 x).wf = true := by
  intro x hx
  simp only [List.mem_cons, List.mem_nil_iff, or_false] at hx
  rcases hx with rfl | rfl | rfl
  · exact wf64 ha
  · exact wf64 hb
  · exact wf64 hc
theorem keyOf_pkey {a b c : Int} (ha : In64 a) (hb : In64 b) (hc : In64 c) : keyOf Try.prog 61 (.agg #[.int .i64 a, .int .i64 b, .int .i64 c]) = some (pkey a b c) :=
  keyOf_arr pArr Try.underlying3 pSize [a, b, c] rfl (wf3 ha hb hc)
theorem pkey_inj {a b c a' b' c' : Int} (ha : In64 a) (hb : In64 b) (hc : In64 c) (ha' : In64 a') (hb' : In64 b') (hc' : In64 c') (h : pkey a b c = pkey a' b' c') : a = a' ∧ b = b' ∧ c = c' := by
  have := akey_inj pArr Try.underlying3 pSize rfl (wf3 ha hb hc) rfl (wf3 ha' hb' hc') h
  simpa using this

/-- A map value m of at most n entries reads as D. -/
def PMap (w : World) (m : Value) (n : Nat) (D : DataW Unit) : Prop :=
  (m = .map none ∧ D = .map []) ∨ ∃ b, m = .map (some b) ∧ w.ownsMap Try.prog 61 (plainElem Try.prog 3) b n D
def pnum (a : Int) : DataW Unit := .lit (.int .i64 a)
/-- What stands under a key. -/
def pval (D : DataW Unit) (a b c : Int) : Int := match D.atKey (pkey a b c) (pnum 0) with | .lit (.int _ x) => x | _ => 0
def phas (D : DataW Unit) (a b c : Int) : Bool := has D (pkey a b c)
theorem iZero (w : World) : (zeroValue 3).run Try.prog w = .ok (.int .i64 0) w := by kernel_rfl
section
variable {w w' : World} {m : Value} {n : Nat} {D : DataW Unit} {a b c : Int}
theorem PMap.look (h : PMap w m n D) (ha : In64 a) (hb : In64 b) (hc : In64 c) :
    (Instr.lookup 57 m (.agg #[.int .i64 a, .int .i64 b, .int .i64 c]) true).run Try.prog w = .ok (.tuple #[.int .i64 (pval D a b c), .bool (phas D a b c)]) w ∧ In64 (pval D a b c) := by
  have hk := keyOf_pkey ha hb hc
  rcases h with ⟨rfl, rfl⟩ | ⟨bl, rfl, hown⟩
  · exact ⟨Maps.look_nil (P := Try.prog) true pKeyed Try.underlying57 (iZero w) hk, in64_zero⟩
  · obtain ⟨v, ps, hrun, hv⟩ := hown.look_ok pKeyed Try.underlying57 (iZero w) (plainElem_int Try.underlying3 (q := .i64) (a := 0) (by decide)) hk
    obtain ⟨t, rfl, hz, hw⟩ := plainElem_int_inv Try.underlying3 hv
    have h1 : D.atKey (pkey a b c) (pnum 0) = .lit (.int .i64 t) := (Prod.mk.inj hz).1
    have h2 : pval D a b c = t := by rw [pval, h1]
    rw [h2]
    exact ⟨hrun, wf64_iff hw⟩
theorem PMap.look1 (h : PMap w m n D) (ha : In64 a) (hb : In64 b) (hc : In64 c) :
    (Instr.lookup 57 m (.agg #[.int .i64 a, .int .i64 b, .int .i64 c]) false).run Try.prog w = .ok (.int .i64 (pval D a b c)) w ∧ In64 (pval D a b c) := by
  have hk := keyOf_pkey ha hb hc
  rcases h with ⟨rfl, rfl⟩ | ⟨bl, rfl, hown⟩
  · exact ⟨Maps.look_nil (P := Try.prog) false pKeyed Try.underlying57 (iZero w) hk, in64_zero⟩
  · obtain ⟨v, ps, hrun, hv⟩ := hown.lookup pKeyed Try.underlying57 (iZero w) (plainElem_int Try.underlying3 (q := .i64) (a := 0) (by decide)) hk
    obtain ⟨t, rfl, hz, hw⟩ := plainElem_int_inv Try.underlying3 hv
    have h1 : D.atKey (pkey a b c) (pnum 0) = .lit (.int .i64 t) := (Prod.mk.inj hz).1
    have h2 : pval D a b c = t := by rw [pval, h1]
    rw [h2]
    exact ⟨hrun, wf64_iff hw⟩
def pblock : Value → Option Nat | .map (some b) => some b | _ => none
theorem PMap.drew (h : PMap w m n D) : PMap w.drew m n D := h
theorem PMap.kept {S : Nat → Prop} (h : PMap w m n D) (hk : Kept S w w') (hS : ∀ b, pblock m = some b → S b) : PMap w' m n D := by
  rcases h with ⟨rfl, rfl⟩ | ⟨b, rfl, es, clock, hb, F, hs, hD⟩
  · exact Or.inl ⟨rfl, rfl⟩
  · exact Or.inr ⟨b, rfl, es, clock, (hk.block b (hS b rfl)).trans hb, F, hs, hD⟩
theorem PMap.lt (h : PMap w m n D) {b : Nat} (hb : pblock m = some b) : b < w.heap.size := by
  rcases h with ⟨rfl, rfl⟩ | ⟨b', rfl, hown⟩
  · cases hb
  · injection hb with e; subst e; exact hown.lt
theorem PMap.below (h : PMap w m n D) (hb : Below w.heap.size w w') : PMap w' m n D := h.kept ((Kept.refl (fun k => k < w.heap.size) w).below hb fun k h => h) fun b e => h.lt e
theorem PMap.tidy (h : PMap w m n D) : Tidy D := by
  rcases h with ⟨rfl, rfl⟩ | ⟨b', rfl, hown⟩
  · exact tidy_empty
  · obtain ⟨es, e, h1, h2⟩ := hown.canon pKeyed
    exact ⟨es, e, apart_of_rising h1⟩
end
/-- What a map is behind a put. -/
theorem pkey_isKey {a b c : Int} : WideAt.IsKeyLit (pkey a b c) := by
  first | exact trivial | exact ⟨_, rfl⟩ | exact Or.inl ⟨_, rfl⟩ | exact Or.inr ⟨_, rfl⟩ | exact Or.inr (Or.inl ⟨_, rfl⟩) | simp [pkey, akey, WideAt.IsKeyLit]
theorem phas_put {D : DataW Unit} (hD : IsMap D) {a b c a' b' c' x : Int} (ha : In64 a) (hb : In64 b) (hc : In64 c) (ha' : In64 a') (hb' : In64 b') (hc' : In64 c') :
    phas (D.put (pkey a b c) (pnum x)) a' b' c' = (decide (a' = a ∧ b' = b ∧ c' = c) || phas D a' b' c') := by
  unfold phas
  by_cases e : a' = a ∧ b' = b ∧ c' = c
  · obtain ⟨rfl, rfl, rfl⟩ := e
    rw [has_put_same hD pkey_isKey]; simp
  · rw [has_put_other (fun h => e (pkey_inj ha' hb' hc' ha hb hc h)), decide_eq_false e, Bool.false_or]
theorem pval_put {D : DataW Unit} (hD : IsMap D) {a b c a' b' c' x : Int} (ha : In64 a) (hb : In64 b) (hc : In64 c) (ha' : In64 a') (hb' : In64 b') (hc' : In64 c') :
    pval (D.put (pkey a b c) (pnum x)) a' b' c' = if a' = a ∧ b' = b ∧ c' = c then x else pval D a' b' c' := by
  unfold pval
  by_cases e : a' = a ∧ b' = b ∧ c' = c
  · rw [if_pos e]
    obtain ⟨rfl, rfl, rfl⟩ := e
    rw [atKey_put_same hD pkey_isKey]; rfl
  · rw [if_neg e, atKey_put_other (fun h => e (pkey_inj ha' hb' hc' ha hb hc h))]

end Go.Proofs.Ytlihcdhcljljoaa
