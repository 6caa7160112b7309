/-
  Sorting nothing; the names of a store without files.
-/
import Derived.Test.YtceflhffilldeaaStoreFork
namespace Go.Proofs.Ytceflhffilldeaa
set_option linter.unusedVariables false
set_option linter.unusedSimpArgs false
open Go.RowKit Go.Maps Go.WideMaps

set_option maxRecDepth 100000 in
theorem len64_zero (w : World) : Calls Try.prog 131 #[.int .u64 0] w fun e w' => e = .returned (.int .i64 0) ∧ w' = w := by
  go_enter Try.func131, Try.ntmps131
  go_wp2_with fail
  go_ret
  refine ⟨congrArg Ending.returned (congrArg (Value.int IntKind.i64) ?_), rfl⟩
  kernel_rfl

theorem len_zero (w : World) : Calls Try.prog 86 #[.int .u64 0] w fun e w' => e = .returned (.int .i64 0) ∧ w' = w := by
  go_enter Try.func86, Try.ntmps86
  go_wp2_with (go_at_call 131; refine (len64_zero _).mono ?_; rintro e w' ⟨rfl, rfl⟩)
  go_ret
  exact ⟨rfl, rfl⟩

set_option maxRecDepth 100000 in
theorem insertion_none (p : Option Addr) (cap : Nat) (w : World) :
    Calls Try.prog 121 #[.slice p 0 cap, .int .i64 0, .int .i64 0] w fun e w' => e = .returned (.tuple #[]) ∧ w' = w := by
  go_enter Try.func121, Try.ntmps121
  go_wp2
  refine wp_loop_rounds 1 ?_
  rw [rounds_succ]
  go_wp2
  go_end0
  exact ⟨rfl, rfl⟩

set_option maxRecDepth 100000 in
theorem pdq_none (p : Option Addr) (cap : Nat) (w : World) :
    Calls Try.prog 85 #[.slice p 0 cap, .int .i64 0, .int .i64 0, .int .i64 0] w fun e w' => e = .returned (.tuple #[]) ∧ w' = w := by
  go_enter Try.func85, Try.ntmps85
  go_wp2
  refine wp_loop_rounds 1 ?_
  rw [rounds_succ]
  go_wp2_with (first | (go_at_call 121; refine (insertion_none p cap _).mono ?_; rintro e w' ⟨rfl, rfl⟩))
  refine bodyPost_ret (results_none rfl _ _ _) rfl ?_
  exact ⟨rfl, rfl⟩

set_option maxRecDepth 100000 in
theorem sort_none (p : Option Addr) (cap : Nat) (w : World) :
    Calls Try.prog 37 #[.slice p 0 cap] w fun e w' => e = .returned (.tuple #[]) ∧ w' = w := by
  go_enter Try.func37, Try.ntmps37
  go_wp2_with (first
    | (go_at_call 86; refine (len_zero _).mono ?_; rintro e w' ⟨rfl, rfl⟩)
    | (go_at_call 85; refine (pdq_none p cap _).mono ?_; rintro e w' ⟨rfl, rfl⟩))
  go_end0
  exact ⟨rfl, rfl⟩

set_option maxRecDepth 100000 in
set_option maxHeartbeats 1000000 in
theorem names_none (p b n : Nat) (D : DataW Unit) (w : World) (hp : Blk w p 66 #[.map (some b)]) (hown : w.ownsMap Try.prog 68 (plainElem Try.prog 9) b n D) (h0 : Maps.size D = 0) :
    Calls Try.prog 21 #[.pointer (some ⟨p, 0, none⟩)] w fun e w' => e = .returned (.slice none 0 0) ∧ Below w.heap.size w w' := by
  have C1 := hp.cell 0
  have C2 := hp.frozen 0
  simp only [List.getElem?_toArray, List.getElem?_cons_zero] at C1
  have hown' := Lib.hid hown
  clear hp hown
  go_enter Try.func21, Try.ntmps21
  go_wp2_with (at_range; refine wpList_range_own _ rfl (.tmp 11) 64 rfl 68 9 sKeyed Try.underlying64 _ b n _ rfl hown'.out ?_; intro w0 hrg0 hg0 hs0)
  go_frame
  have B0 : Below w.heap.size w w0 := (Below.refl _ _).grown hg0 (Nat.le_refl _) (fun j hj => by cases hj)
  have hrg0 := Lib.hid hrg0
  clear hg0 hs0
  refine wp_loop_rounds 1 ?_
  rw [rounds_succ]
  go_wp2_with (first
    | (at_next; refine wpList_next_ranges _ rfl (.tmp 12) rfl 68 sKeyed (plainElem Try.prog 9) (id : Value → Value) Value.string (fun key kl h => ⟨key, rfl⟩) (fun v y hv => nil_inv hv) b w.heap.size n D _ _ rfl hrg0.out ?_ (fun x c kl y w1 cnt1 hkey hlk hv hat hrg1 hlt hg1 hs1 hen => absurd hlt (by rw [h0]; omega)); intro hc0 hl0)
    | (go_at_call 37; refine (sort_none none 0 _).mono ?_; rintro e w' ⟨rfl, rfl⟩))
  go_ret
  exact ⟨rfl, B0⟩

end Go.Proofs.Ytceflhffilldeaa
