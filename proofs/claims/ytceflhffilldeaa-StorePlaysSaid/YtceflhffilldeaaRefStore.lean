/-
  The document's store: lists of names and texts; place, Names, Get, walked.
-/
import Derived.Test.YtceflhffilldeaaStoreNames2
import Derived.Test.YtceflhffilldeaaStrApp
namespace Go.Proofs.Ytceflhffilldeaa
set_option linter.unusedVariables false
set_option linter.unusedSimpArgs false
open Go.RowKit Go.Maps Go.WideMaps

/-- x stands behind s. -/
def gtB (x s : ByteArray) : Bool := !(Op.bytesLess x.toList s.toList || x.toList == s.toList)
/-- Where a name stands, or would. -/
def plc (s : ByteArray) : List ByteArray → Nat × Bool
  | [] => (0, false)
  | x :: r => if (x.toList == s.toList) = true then (0, true) else if gtB x s = true then (0, false) else ((plc s r).1 + 1, (plc s r).2)
theorem plc_le (s : ByteArray) : ∀ l, (plc s l).1 ≤ l.length
  | [] => Nat.le_refl _
  | x :: r => by
    rw [plc]
    split
    · exact Nat.zero_le _
    · split
      · exact Nat.zero_le _
      · have := plc_le s r
        simp only [List.length_cons]; omega
theorem plc_drop (s : ByteArray) (l : List ByteArray) (k : Nat) (hk : k < l.length) : plc s (l.drop k) = if ((l.getD k ⟨#[]⟩).toList == s.toList) = true then (0, true) else if gtB (l.getD k ⟨#[]⟩) s = true then (0, false) else ((plc s (l.drop (k + 1))).1 + 1, (plc s (l.drop (k + 1))).2) := by
  rw [List.drop_eq_getElem_cons hk, plc]
  simp only [List.getD_eq_getElem?_getD, List.getElem?_eq_getElem hk, Option.getD_some]

theorem gtr_run (x s : ByteArray) (b : Bool) (h : gtB x s = b) (W : World) : (binOp .gtr 9 (.string x) (.string s)).run Try.prog W = .ok (.bool b) W := by
  have e : binOp .gtr 9 (.string x) (.string s) = pure (.bool (gtB x s)) := by simp [binOp, Op.stringOp, gtB]
  rw [e, h, Sem.run_pure]

set_option maxRecDepth 100000 in
set_option maxHeartbeats 1000000 in
theorem ref_place (p : Nat) (vt : Value) (v : Value) (N : List ByteArray) (s : ByteArray) (w : World) (hp : Blk w p 28 #[v, vt]) (hN : SRow w v N) :
    Calls Try.prog 36 #[.pointer (some ⟨p, 0, none⟩), .string s] w fun e w' => e = .returned (.tuple #[.int .i64 ((plc s N).1 : Int), .bool (plc s N).2]) ∧ w = w' := by
  obtain ⟨hm, A, c, rfl, hc⟩ := hN
  have hc := Lib.hid hc
  have C1 := hp.cell 0
  have C2 := hp.frozen 0
  simp only [List.getElem?_toArray, List.getElem?_cons_zero] at C1
  clear hp
  go_enter Try.func36, Try.ntmps36
  go_wp2_with fail
  go_loop [6] (fun i => ∃ k : Nat, i = .int .i64 k ∧ k ≤ N.length ∧ RowKit.Hid (plc s N = (k + (plc s (N.drop k)).1, (plc s (N.drop k)).2))) (fun i => N.length - (intOf i).toNat)
  case atStart => exact ⟨0, rfl, by omega, Lib.hid (by simp)⟩
  case round =>
    obtain ⟨k, rfl, hk, hpl⟩ := hrel
    by_cases hlt : (k : Int) < (N.length : Int)
    · obtain ⟨ad, rfl, -, hx⟩ := hc.out k (by omega)
      have hd := Lib.hid (plc_drop s N k (by omega))
      generalize N.getD k ⟨#[]⟩ = x at *
      cases h1 : (x.toList == s.toList)
      · cases h2 : gtB x s
        · have hnext : plc s N = (k + 1 + (plc s (N.drop (k + 1))).1, (plc s (N.drop (k + 1))).2) := by
            rw [hpl.out, hd.out, h1, h2]
            simp; omega
          have hG := gtr_run x s false h2
          have hnext' := Lib.hid hnext
          clear hpl hd hnext h2
          go_wp2_with fail
          go_round
          case rel => exact ⟨k + 1, by go_num, by omega, hnext'⟩
          case measure => simp [intOf]; omega
        · have hres : plc s N = (k, false) := by
            rw [hpl.out, hd.out, h1, h2]
            simp
          have hG := gtr_run x s true h2
          have hres := Lib.hid hres
          clear hpl hd
          go_wp2_with fail
          go_ret2
          exact ⟨rfl, rfl⟩
      · have hres : plc s N = (k, true) := by
          rw [hpl.out, hd.out, h1]
          simp
        have hres := Lib.hid hres
        clear hpl hd
        go_wp2_with fail
        go_ret2
        exact ⟨rfl, rfl⟩
    · obtain rfl : k = N.length := by omega
      have hres : plc s N = (N.length, false) := by
        rw [hpl.out, List.drop_length, plc]
        simp
      have hres := Lib.hid hres
      clear hpl
      go_wp2_with fail
      go_ret2
      exact ⟨rfl, rfl⟩

end Go.Proofs.Ytceflhffilldeaa
