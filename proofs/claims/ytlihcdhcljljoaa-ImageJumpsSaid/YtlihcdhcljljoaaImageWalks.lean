/-
  The statement ImageBoots: its walk, out of the contracts.
-/
import Derived.Test.YtlihcdhcljljoaaImageRef
import Derived.Test.YtlihcdhcljljoaaRowOpen
import Derived.Test.YtlihcdhcljljoaaKeep
namespace Go.Proofs.Ytlihcdhcljljoaa
set_option linter.unusedVariables false
set_option linter.unusedSimpArgs false
open Go.RowKit Bw

/-- What Boot tells: the words and the error. -/
def Boot.list (size : Int) (es : List Int) : List Int := if Boot.ok size es = true then Boot.words size es else []
def Boot.err (size : Int) (es : List Int) : Int := if Boot.ok size es = true then 0 else 1
def Booted (size : Int) (es : List Int) (w : World) (e : Ending) (w' : World) : Prop := ∃ u, e = .returned (.tuple #[u, .int .i64 (Boot.err size es)]) ∧ Row .u32 w' u (Boot.list size es) ∧ Row.in_ (fun k => w.heap.size ≤ k) u
theorem own_in {w : World} {base n : Nat} {e : TypeId} {s : Nat} {v : Value} {xs : List Value} (h : w.ownsRow base e s v n xs) : Row.in_ (fun k => base ≤ k) v := by
  rintro ad m c rfl hm
  exact (h.lt ad.block rfl).1

theorem image_boot_any (size : Int) (es : List Int) (v : Value) (w : World) (hv : Row .i64 w v es) (s0 : -9223372036854775808 ≤ size) (s1 : size ≤ 9223372036854775807) :
    Calls Try.prog 13 #[.int .i64 size, v] w fun e w' => Booted size es w e w' ∧ Below w.heap.size w w' := by
  unfold Booted Boot.list Boot.err
  cases hok : Boot.ok size es
  · have hno : (if false = true then (0 : Int) else 1) = 1 := rfl
    have hno' : (if false = true then Boot.words size es else []) = [] := rfl
    rw [hno, hno']
    cases hsz : Boot.sized size es
    · exact (image_boot_none size es v w hv s0 s1 hsz).mono fun e w' h => ⟨⟨_, h.1, Row.nil_, by rintro ad m c h; cases h⟩, h.2⟩
    · have : Boot.inside size es = false := by rw [Boot.ok, hsz, Bool.true_and] at hok; exact hok
      exact (image_boot_out size es v w hv hsz this).mono fun e w' h => ⟨⟨_, h.1, Row.nil_, by rintro ad m c h; cases h⟩, h.2⟩
  · exact (image_boot_ok size es v w hv hok).mono fun e w' ⟨u, h1, h2, h3⟩ => ⟨⟨u, h1, row_of_own h2, own_in h2⟩, h3⟩

theorem row_new1 (w : World) (t : TypeId) (q : IntKind) (x : Int) : Row q (w.alloc (.cells #[.int q x] t)) (.slice (some ⟨w.heap.size, 0, none⟩) 1 1) [x] := by
  refine ⟨by simp, _, 1, rfl, fun k hk => ⟨_, rfl, by simp, ?_⟩⟩
  have : k = 0 := by simp at hk; omega
  subst this
  rw [block_add0, cell_of_row _ _ _ _ _ _ (heap_alloc_new w _)]
  rfl

set_option maxRecDepth 100000 in
theorem law25_wakes (w : World) : Calls Try.prog 12 #[] w fun e w' => e = .returned (.bool true) ∧ Below w.heap.size w w' := by
  have hlen : (Boot.list 256 [100]).length = 14 := by decide
  have h7 : (Boot.list 256 [100]).getD 7 0 = 0 := by decide
  have h8 : ((Boot.list 256 [100]).getD 8 0 != 0) = true := by decide
  have herr : Boot.err 256 [100] = 0 := by decide
  go_enter Try.func12, Try.ntmps12
  go_wp2_with fail
  refine (image_boot_any 256 [100] _ _ (row_new1 w 3 .i64 100) (by decide) (by decide)).mono ?_
  rintro e w1 ⟨⟨u, rfl, ⟨hm, A, c, rfl, hc⟩, -⟩, hb⟩
  obtain ⟨ad, rfl, had, x7⟩ := hc 7 (by omega)
  obtain ⟨ad', e, -, x8⟩ := hc 8 (by omega)
  injection e with e
  subst e
  rw [hlen, herr]
  rw [h7] at x7
  generalize (Boot.list 256 [100]).getD 8 0 = v8 at *
  clear hc h7 hlen herr hm
  rw [show ad.add 7 = ⟨ad.block, ad.off + 7, none⟩ from rfl] at x7
  rw [show ad.add 8 = ⟨ad.block, ad.off + 8, none⟩ from rfl] at x8
  go_wp2_with fail
  refine (image_first 1 _ (by decide) (by decide)).mono ?_
  rintro e w2 ⟨rfl, rfl⟩
  rw [show Boot.first 1 = 14 by decide]
  go_wp2_with fail
  go_ret
  exact ⟨rfl, ((Below.refl _ _).alloc (Nat.le_refl _) _).trans (hb.mono (by simp))⟩

theorem append_nothing (w : World) (t ty e : TypeId) (c g : Nat) (ht : Try.prog.underlying t = some (.slice e)) (i : TypeInfo) (hi : Try.prog.info? e = some i) (hh : ∃ cur t' fr, w.heap[g]? = some (.cells cur t' fr)) :
    (Builtin.append_ #[t, t] ty #[.slice (some ⟨g, 0, none⟩) 0 0, .slice none 0 c]).run Try.prog w = .ok (.slice (some ⟨g, 0, none⟩) 0 0) w := by
  simp [Builtin.append_, run_underlying ht, sizeOf, typeInfo, hi, Builtin.lenOf, Builtin.firstCells, storeCells]

theorem int_info : (Try.prog.info? 3).map (fun i => (i.zero, i.size, i.bytes)) = some (some (.int .i64 0), 1, 8) := by kernel_rfl
theorem ints_one (q : IntKind) (xs : List Int) : ∀ u ∈ (xs.map (Value.int q)), u.oneCell' = true := by
  intro u hu
  simp only [List.mem_map] at hu
  obtain ⟨x, _, rfl⟩ := hu
  rfl
theorem row_src {q : IntKind} {w : World} {ad : Addr} {l : List Int} (h : ∀ k, k < l.length → w.cell? (ad.add k) = some (.int q (l.getD k 0))) : ∀ j u, (l.map (Value.int q))[j]? = some u → w.cell? (ad.add j) = some u := by
  intro j u hu
  rw [List.getElem?_map] at hu
  by_cases hj : j < l.length
  · rw [List.getElem?_eq_getElem hj] at hu
    have := h j hj
    rw [this]
    simpa [List.getD, hj] using hu
  · rw [List.getElem?_eq_none (by omega)] at hu; cases hu

end Go.Proofs.Ytlihcdhcljljoaa
