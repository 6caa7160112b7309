/-
  The document's store: Put where nothing is made, Fork, walked.
-/
import Derived.Test.YtceflhffilldeaaRefOwn
namespace Go.Proofs.Ytceflhffilldeaa
set_option linter.unusedVariables false
set_option linter.unusedSimpArgs false
open Go.RowKit Go.Maps Go.WideMaps

theorem ref07_put_bad (a : Addr) (s t : ByteArray) (w : World) (hsz : s.size ≤ 9223372036854775807) (hok : nameOk s = false) :
    Calls Try.prog 12 #[.pointer (some a), .string s, .string t] w fun e w' => e = .returned (.int .i64 70) ∧ w = w' := by
  have NM := fun W => Lib.hid (ref07_name s W hsz)
  rw [hok] at NM
  clear hok
  go_enter Try.func12, Try.ntmps12
  go_wp2_with fail
  refine (NM _).out.mono ?_
  rintro e w1 ⟨rfl, rfl⟩
  go_wp2_with fail
  go_ret
  exact ⟨rfl, rfl⟩
theorem ref07_put_long (a : Addr) (s t : ByteArray) (w : World) (hsz : s.size ≤ 9223372036854775807) (hok : nameOk s = true) (ht : 131072 < (t.size : Int)) :
    Calls Try.prog 12 #[.pointer (some a), .string s, .string t] w fun e w' => e = .returned (.int .i64 2) ∧ w = w' := by
  have NM := fun W => Lib.hid (ref07_name s W hsz)
  rw [hok] at NM
  clear hok
  go_enter Try.func12, Try.ntmps12
  go_wp2_with fail
  refine (NM _).out.mono ?_
  rintro e w1 ⟨rfl, rfl⟩
  go_wp2_with fail
  go_ret
  exact ⟨rfl, rfl⟩
set_option maxRecDepth 100000 in
theorem ref07_put_full (p : Nat) (v u : Value) (N T : List ByteArray) (s t : ByteArray) (w : World) (h : RefIs w p v u N T) (hsz : s.size ≤ 9223372036854775807) (hok : nameOk s = true) (ht : (t.size : Int) ≤ 131072) (hN : N.length = 64) (hpl : (plc s N).2 = false) :
    Calls Try.prog 12 #[.pointer (some ⟨p, 0, none⟩), .string s, .string t] w fun e w' => e = .returned (.int .i64 3) ∧ w = w' := by
  have PL := ref_place p u v N s w h.blk (srow_of_own h.small h.names)
  rw [hpl] at PL
  have PL' := Lib.hid PL
  have NM := fun W => Lib.hid (ref07_name s W hsz)
  rw [hok] at NM
  obtain ⟨blk, names, texts, len, small, np, tp, nt⟩ := h
  rcases own_cases names with ⟨rfl, hL0⟩ | ⟨g, c, rfl, hck⟩
  · omega
  have C9 := blk.cell 0
  simp only [List.getElem?_toArray, List.getElem?_cons_zero, List.getElem?_cons_succ] at C9
  have h64 : ((N.length : Int) == 64) = true := by rw [beq_iff_eq]; omega
  clear hok hpl hN PL len
  go_enter Try.func12, Try.ntmps12
  go_wp2_with fail
  refine (NM _).out.mono ?_
  rintro e w1 ⟨rfl, rfl⟩
  go_wp2_with fail
  refine PL'.out.mono ?_
  rintro e w1 ⟨rfl, rfl⟩
  go_wp2_with fail
  go_ret
  exact ⟨rfl, rfl⟩

theorem RefIs.texts_set {w : World} {p g c : Nat} {v : Value} {N T : List ByteArray} (h : RefIs w p v (.slice (some ⟨g, 0, none⟩) T.length c) N T) (i : Nat) (hi : i < T.length) (t : ByteArray) :
    RefIs (w.setCell ⟨g, i, none⟩ (.string t)) p v (.slice (some ⟨g, 0, none⟩) T.length c) N (T.set i t) := by
  obtain ⟨blk, names, texts, len, small, np, tp, nt⟩ := h
  have hgp := tp g rfl
  refine ⟨blk.far (fun e => hgp e.symm) _, ownsRow_setCell_other names (fun e => nt g e rfl) _, ?_, by simp [len], small, np, tp, nt⟩
  have := (texts.stored i (.string t)).1
  simp only [List.length_set, List.map_set]
  exact this
set_option maxRecDepth 100000 in
theorem ref07_put_old (p i : Nat) (v u : Value) (N T : List ByteArray) (s t : ByteArray) (w : World) (h : RefIs w p v u N T) (hi : i < N.length) (hsz : s.size ≤ 9223372036854775807) (hok : nameOk s = true) (ht : (t.size : Int) ≤ 131072) (hpl : plc s N = (i, true)) :
    Calls Try.prog 12 #[.pointer (some ⟨p, 0, none⟩), .string s, .string t] w fun e w' => e = .returned (.int .i64 0) ∧ RefIs w' p v u N (T.set i t) ∧ Kept (fun k => k < w.heap.size ∧ u.ownBlock ≠ some k) w w' := by
  have PL := ref_place p u v N s w h.blk (srow_of_own h.small h.names)
  rw [hpl] at PL
  have PL' := Lib.hid PL
  have NM := fun W => Lib.hid (ref07_name s W hsz)
  rw [hok] at NM
  have HR := Lib.hid h
  have len := h.len
  rcases own_cases h.texts with ⟨rfl, hL0⟩ | ⟨g, c, rfl, hck⟩
  · omega
  have HS := Lib.hid (h.texts_set i (by omega) t)
  have C9 := h.blk.cell 1
  simp only [List.getElem?_toArray, List.getElem?_cons_zero, List.getElem?_cons_succ] at C9
  have C8 : w.cell? ⟨g, i, none⟩ = some (.string (T.getD i ⟨#[]⟩)) := by rw [h.texts.cellAt i (by omega)]; simp [show i < T.length by omega]
  have F8 := h.texts.frozenAt i
  have b1 : (i : Int) < T.length := by omega
  clear hok hpl PL len h
  generalize T.getD i ⟨#[]⟩ = z at *
  go_enter Try.func12, Try.ntmps12
  go_wp2_with fail
  refine (NM _).out.mono ?_
  rintro e w1 ⟨rfl, rfl⟩
  go_wp2_with fail
  refine PL'.out.mono ?_
  rintro e w1 ⟨rfl, rfl⟩
  go_wp2_with fail
  go_ret
  exact ⟨rfl, HS.out, (Kept.refl _ w).setCell (fun h => h.2 rfl) _⟩


end Go.Proofs.Ytceflhffilldeaa
