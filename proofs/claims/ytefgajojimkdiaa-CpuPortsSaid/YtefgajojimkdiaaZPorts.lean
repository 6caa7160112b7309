/-
  The statement CpuPorts: its walk, out of the contracts.
-/
import Derived.Test.YtefgajojimkdiaaZPlayed
namespace Go.Proofs.Ytefgajojimkdiaa
set_option linter.unusedVariables false
set_option linter.unusedSimpArgs false
open Go.RowKit Bw

theorem ports_oc (s : ByteArray) (hs : s.size ≤ 500) : ((Mc.start (playW portsIns) 0 s).run 10000).oc ((Mc.start (playW portsIns) 0 s).steps 10000) = .agg #[.int .i64 1, .int .i64 ((Mc.start (playW portsIns) 0 s).run 10000).trap, .string s, .int .i64 (5 + 5 * (s.size : Int)), .int .i64 s.size] := by
  obtain ⟨h1, h2, h3, h4⟩ := ports_law s hs
  rw [Mc.oc, h1, h2, h3, h4]
  simp

set_option maxRecDepth 100000 in
set_option maxHeartbeats 4000000 in
theorem law05_ports (s : ByteArray) (w : World) (hsz : s.size ≤ 9223372036854775807) :
    Calls Try.prog 3 #[.string s] w fun e w' => e = .returned (.bool true) ∧ Below w.heap.size w w' := by
  by_cases hl : (500 : Int) < s.size
  · go_enter Try.func3, Try.ntmps3
    go_wp2_with fail
    refine (law05_wakes _).mono ?_
    rintro e w1 ⟨rfl, hb⟩
    have hb := Lib.hid hb
    go_wp2_with fail
    go_ret
    exact ⟨rfl, hb.out⟩
  · have hl' : (s.size : Int) ≤ 500 := by omega
    have hn : s.size ≤ 500 := by omega
    have OC := Lib.hid (ports_oc s hn)
    go_enter Try.func3, Try.ntmps3
    go_wp2_with fail
    generalize hW : w.alloc _ = W
    have I0 : InsAt W w.heap.size portsIns := by rw [← hW]; exact insAt_blk w _ _ _ rfl
    have B0 : Below w.heap.size w W := by rw [← hW]; exact (Below.refl _ _).alloc (Nat.le_refl _) _
    have hW := Lib.hid hW
    clear hW
    have B0 := Lib.hid B0
    have PL := Lib.hid (law05_played portsIns w.heap.size 8 s 10000 W I0 ports_good (by decide) (by omega) (by decide))
    refine PL.out.mono ?_
    rintro e w1 ⟨p, mp, ap, ov, rfl, hM, hb⟩
    rw [OC.out]
    have hb := Lib.hid hb
    clear hM PL I0 OC
    generalize ((Mc.start (playW portsIns) 0 s).run 10000).trap = T
    go_wp2_with fail
    refine (law05_wakes _).mono ?_
    rintro e w2 ⟨rfl, hb2⟩
    have hb2 := Lib.hid hb2
    go_wp2_with fail
    go_ret
    refine ⟨rfl, ?_⟩
    have b1 := B0.out.trans (hb.out.mono B0.out.size)
    have b2 := b1.alloc b1.size (.cells #[.int .i64 1, .int .i64 T, .string s, .int .i64 (5 + 5 * (s.size : Int)), .int .i64 s.size] 28)
    exact b2.trans (hb2.out.mono b2.size)

end Go.Proofs.Ytefgajojimkdiaa
