/-
  No cell of these rows narrows 'for every input' (looked for: loops, veiled, ifaces, maps, wideKeys, modest, calm, conditions, laid).
  DERIVED. THE GIVEN ROWS OF THIS SEAT. 12 by the template 'for every input the law returns true; each argument reads behind the call as it read before'; 0 by the template 'total and deterministic' (their statements: YtefgajojimkdiaaTotals.lean).
  GIVEN WITH THE SEED: the statements are not yours to turn. If you find one false, say at which input.
  Laid BY PROGRAM, IN A SANDBOX (cutbox-rows.mjs): the forced cells as the released guide's own fill.sh prints them over the translation 2ed35f91b887ff63… (all of the seat's roots in one cut). By AI agents, Wed Nov 11 2026. No macro, syntax, notation, axiom, sorry.
-/
import Derived.Test.YtefgajojimkdiaaChecked
import GoSem.Claim
import GoSem.ClaimJoined
import GoSem.ClaimMapViews
import Derived.JoinedTies
import Derived.KernelRfl
namespace Go.Proofs.Ytefgajojimkdiaa
/- THE CELL 'sum', in the pinned program and in every row, IS THE sha256 OF THE DUMP (.gsa) THAT YtefgajojimkdiaaProg.lean LOADS. Nothing in Lean hashes anything: it is a label: what it is worth is what the hold of that sum in a sandbox is worth. -/
noncomputable def Try.pinned : Pinned := { name := "ytefgajojimkdiaa", sum := "2ed35f91b887ff63f8cf846c3bdf5746413e10d41e81afa982e84275bef0c638", checked := Try.checked }
namespace Rows
def none {H : Type} : Left H := { results := [], args := [] }

/-- 'spinetlaw05.CpuPorts': WHATEVER THE INPUT: true; the input reads as it did. -/
def cpuPortsSpec : ChangeSpec := { name := "cpuPorts", fn := fun _ => fun
  | [d] => { results := [.lit (.bool true)], args := [d] }
  | _ => none }
def cpuPortsRow : OpenClaim := { program := "ytefgajojimkdiaa", sum := "2ed35f91b887ff63f8cf846c3bdf5746413e10d41e81afa982e84275bef0c638", func := "spinet/spinetlaw05.CpuPorts", spec := "cpuPorts", apart := false }
def CpuPortsSaid : Prop := cpuPortsRow.holds Try.pinned (OpenSpec.ofChange cpuPortsSpec)

/-- ITS FALSE NEIGHBOUR: 'it returns false'. Refute it at one input. -/
def cpuPortsWrong : ChangeSpec := { name := "cpuPorts", fn := fun _ => fun
  | [d] => { results := [.lit (.bool false)], args := [d] }
  | _ => none }
def CpuPortsWrongFalsely : Prop := cpuPortsRow.holds Try.pinned (OpenSpec.ofChange cpuPortsWrong)

/-- 'spinetlaw05.CpuPieces': WHATEVER THE INPUT: true; the input reads as it did. -/
def cpuPiecesSpec : ChangeSpec := { name := "cpuPieces", fn := fun _ => fun
  | [d1, d2, d3] => { results := [.lit (.bool true)], args := [d1, d2, d3] }
  | _ => none }
def cpuPiecesRow : OpenClaim := { program := "ytefgajojimkdiaa", sum := "2ed35f91b887ff63f8cf846c3bdf5746413e10d41e81afa982e84275bef0c638", func := "spinet/spinetlaw05.CpuPieces", spec := "cpuPieces", apart := false }
def CpuPiecesSaid : Prop := cpuPiecesRow.holds Try.pinned (OpenSpec.ofChange cpuPiecesSpec)

/-- ITS FALSE NEIGHBOUR: 'it returns false'. Refute it at one input. -/
def cpuPiecesWrong : ChangeSpec := { name := "cpuPieces", fn := fun _ => fun
  | [d1, d2, d3] => { results := [.lit (.bool false)], args := [d1, d2, d3] }
  | _ => none }
def CpuPiecesWrongFalsely : Prop := cpuPiecesRow.holds Try.pinned (OpenSpec.ofChange cpuPiecesWrong)

/-- 'spinetlaw05.CpuLoads': WHATEVER THE INPUT: true; the input reads as it did. -/
def cpuLoadsSpec : ChangeSpec := { name := "cpuLoads", fn := fun _ => fun
  | [d1, d2] => { results := [.lit (.bool true)], args := [d1, d2] }
  | _ => none }
def cpuLoadsRow : OpenClaim := { program := "ytefgajojimkdiaa", sum := "2ed35f91b887ff63f8cf846c3bdf5746413e10d41e81afa982e84275bef0c638", func := "spinet/spinetlaw05.CpuLoads", spec := "cpuLoads", apart := false }
def CpuLoadsSaid : Prop := cpuLoadsRow.holds Try.pinned (OpenSpec.ofChange cpuLoadsSpec)

/-- ITS FALSE NEIGHBOUR: 'it returns false'. Refute it at one input. -/
def cpuLoadsWrong : ChangeSpec := { name := "cpuLoads", fn := fun _ => fun
  | [d1, d2] => { results := [.lit (.bool false)], args := [d1, d2] }
  | _ => none }
def CpuLoadsWrongFalsely : Prop := cpuLoadsRow.holds Try.pinned (OpenSpec.ofChange cpuLoadsWrong)

/-- 'spinetlaw05.CpuCalls': WHATEVER THE INPUT: true; the input reads as it did. -/
def cpuCallsSpec : ChangeSpec := { name := "cpuCalls", fn := fun _ => fun
  | [d1, d2] => { results := [.lit (.bool true)], args := [d1, d2] }
  | _ => none }
def cpuCallsRow : OpenClaim := { program := "ytefgajojimkdiaa", sum := "2ed35f91b887ff63f8cf846c3bdf5746413e10d41e81afa982e84275bef0c638", func := "spinet/spinetlaw05.CpuCalls", spec := "cpuCalls", apart := false }
def CpuCallsSaid : Prop := cpuCallsRow.holds Try.pinned (OpenSpec.ofChange cpuCallsSpec)

/-- ITS FALSE NEIGHBOUR: 'it returns false'. Refute it at one input. -/
def cpuCallsWrong : ChangeSpec := { name := "cpuCalls", fn := fun _ => fun
  | [d1, d2] => { results := [.lit (.bool false)], args := [d1, d2] }
  | _ => none }
def CpuCallsWrongFalsely : Prop := cpuCallsRow.holds Try.pinned (OpenSpec.ofChange cpuCallsWrong)

/-- 'spinetlaw05.CpuNone': WHATEVER THE INPUT: true; the input reads as it did. -/
def cpuNoneSpec : ChangeSpec := { name := "cpuNone", fn := fun _ => fun
  | [d1, d2] => { results := [.lit (.bool true)], args := [d1, d2] }
  | _ => none }
def cpuNoneRow : OpenClaim := { program := "ytefgajojimkdiaa", sum := "2ed35f91b887ff63f8cf846c3bdf5746413e10d41e81afa982e84275bef0c638", func := "spinet/spinetlaw05.CpuNone", spec := "cpuNone", apart := false }
def CpuNoneSaid : Prop := cpuNoneRow.holds Try.pinned (OpenSpec.ofChange cpuNoneSpec)

/-- ITS FALSE NEIGHBOUR: 'it returns false'. Refute it at one input. -/
def cpuNoneWrong : ChangeSpec := { name := "cpuNone", fn := fun _ => fun
  | [d1, d2] => { results := [.lit (.bool false)], args := [d1, d2] }
  | _ => none }
def CpuNoneWrongFalsely : Prop := cpuNoneRow.holds Try.pinned (OpenSpec.ofChange cpuNoneWrong)

/-- 'spinetlaw05.CpuRuns': WHATEVER THE INPUT: true; the input reads as it did. -/
def cpuRunsSpec : ChangeSpec := { name := "cpuRuns", fn := fun _ => fun
  | [d1, d2] => { results := [.lit (.bool true)], args := [d1, d2] }
  | _ => none }
def cpuRunsRow : OpenClaim := { program := "ytefgajojimkdiaa", sum := "2ed35f91b887ff63f8cf846c3bdf5746413e10d41e81afa982e84275bef0c638", func := "spinet/spinetlaw05.CpuRuns", spec := "cpuRuns", apart := false }
def CpuRunsSaid : Prop := cpuRunsRow.holds Try.pinned (OpenSpec.ofChange cpuRunsSpec)

/-- ITS FALSE NEIGHBOUR: 'it returns false'. Refute it at one input. -/
def cpuRunsWrong : ChangeSpec := { name := "cpuRuns", fn := fun _ => fun
  | [d1, d2] => { results := [.lit (.bool false)], args := [d1, d2] }
  | _ => none }
def CpuRunsWrongFalsely : Prop := cpuRunsRow.holds Try.pinned (OpenSpec.ofChange cpuRunsWrong)

/-- 'spinetlaw05.CpuSteps': WHATEVER THE INPUT: true; the input reads as it did. -/
def cpuStepsSpec : ChangeSpec := { name := "cpuSteps", fn := fun _ => fun
  | [d1, d2, d3] => { results := [.lit (.bool true)], args := [d1, d2, d3] }
  | _ => none }
def cpuStepsRow : OpenClaim := { program := "ytefgajojimkdiaa", sum := "2ed35f91b887ff63f8cf846c3bdf5746413e10d41e81afa982e84275bef0c638", func := "spinet/spinetlaw05.CpuSteps", spec := "cpuSteps", apart := false }
def CpuStepsSaid : Prop := cpuStepsRow.holds Try.pinned (OpenSpec.ofChange cpuStepsSpec)

/-- ITS FALSE NEIGHBOUR: 'it returns false'. Refute it at one input. -/
def cpuStepsWrong : ChangeSpec := { name := "cpuSteps", fn := fun _ => fun
  | [d1, d2, d3] => { results := [.lit (.bool false)], args := [d1, d2, d3] }
  | _ => none }
def CpuStepsWrongFalsely : Prop := cpuStepsRow.holds Try.pinned (OpenSpec.ofChange cpuStepsWrong)

/-- 'spinetlaw27.RunRuns': WHATEVER THE INPUT: true; the input reads as it did. -/
def runRunsSpec : ChangeSpec := { name := "runRuns", fn := fun _ => fun
  | [d1, d2, d3] => { results := [.lit (.bool true)], args := [d1, d2, d3] }
  | _ => none }
def runRunsRow : OpenClaim := { program := "ytefgajojimkdiaa", sum := "2ed35f91b887ff63f8cf846c3bdf5746413e10d41e81afa982e84275bef0c638", func := "spinet/spinetlaw27.RunRuns", spec := "runRuns", apart := false }
def RunRunsSaid : Prop := runRunsRow.holds Try.pinned (OpenSpec.ofChange runRunsSpec)

/-- ITS FALSE NEIGHBOUR: 'it returns false'. Refute it at one input. -/
def runRunsWrong : ChangeSpec := { name := "runRuns", fn := fun _ => fun
  | [d1, d2, d3] => { results := [.lit (.bool false)], args := [d1, d2, d3] }
  | _ => none }
def RunRunsWrongFalsely : Prop := runRunsRow.holds Try.pinned (OpenSpec.ofChange runRunsWrong)

/-- 'spinetlaw27.RunAgain': WHATEVER THE INPUT: true; the input reads as it did. -/
def runAgainSpec : ChangeSpec := { name := "runAgain", fn := fun _ => fun
  | [d1, d2, d3] => { results := [.lit (.bool true)], args := [d1, d2, d3] }
  | _ => none }
def runAgainRow : OpenClaim := { program := "ytefgajojimkdiaa", sum := "2ed35f91b887ff63f8cf846c3bdf5746413e10d41e81afa982e84275bef0c638", func := "spinet/spinetlaw27.RunAgain", spec := "runAgain", apart := false }
def RunAgainSaid : Prop := runAgainRow.holds Try.pinned (OpenSpec.ofChange runAgainSpec)

/-- ITS FALSE NEIGHBOUR: 'it returns false'. Refute it at one input. -/
def runAgainWrong : ChangeSpec := { name := "runAgain", fn := fun _ => fun
  | [d1, d2, d3] => { results := [.lit (.bool false)], args := [d1, d2, d3] }
  | _ => none }
def RunAgainWrongFalsely : Prop := runAgainRow.holds Try.pinned (OpenSpec.ofChange runAgainWrong)

/-- 'spinetlaw27.RunFuel': WHATEVER THE INPUT: true; the input reads as it did. -/
def runFuelSpec : ChangeSpec := { name := "runFuel", fn := fun _ => fun
  | [d1, d2, d3] => { results := [.lit (.bool true)], args := [d1, d2, d3] }
  | _ => none }
def runFuelRow : OpenClaim := { program := "ytefgajojimkdiaa", sum := "2ed35f91b887ff63f8cf846c3bdf5746413e10d41e81afa982e84275bef0c638", func := "spinet/spinetlaw27.RunFuel", spec := "runFuel", apart := false }
def RunFuelSaid : Prop := runFuelRow.holds Try.pinned (OpenSpec.ofChange runFuelSpec)

/-- ITS FALSE NEIGHBOUR: 'it returns false'. Refute it at one input. -/
def runFuelWrong : ChangeSpec := { name := "runFuel", fn := fun _ => fun
  | [d1, d2, d3] => { results := [.lit (.bool false)], args := [d1, d2, d3] }
  | _ => none }
def RunFuelWrongFalsely : Prop := runFuelRow.holds Try.pinned (OpenSpec.ofChange runFuelWrong)

/-- 'spinetlaw27.RunInside': WHATEVER THE INPUT: true; the input reads as it did. -/
def runInsideSpec : ChangeSpec := { name := "runInside", fn := fun _ => fun
  | [d1, d2] => { results := [.lit (.bool true)], args := [d1, d2] }
  | _ => none }
def runInsideRow : OpenClaim := { program := "ytefgajojimkdiaa", sum := "2ed35f91b887ff63f8cf846c3bdf5746413e10d41e81afa982e84275bef0c638", func := "spinet/spinetlaw27.RunInside", spec := "runInside", apart := false }
def RunInsideSaid : Prop := runInsideRow.holds Try.pinned (OpenSpec.ofChange runInsideSpec)

/-- ITS FALSE NEIGHBOUR: 'it returns false'. Refute it at one input. -/
def runInsideWrong : ChangeSpec := { name := "runInside", fn := fun _ => fun
  | [d1, d2] => { results := [.lit (.bool false)], args := [d1, d2] }
  | _ => none }
def RunInsideWrongFalsely : Prop := runInsideRow.holds Try.pinned (OpenSpec.ofChange runInsideWrong)

/-- 'spinetlaw25.ImageRuns': WHATEVER THE INPUT: true; the input reads as it did. -/
def imageRunsSpec : ChangeSpec := { name := "imageRuns", fn := fun _ => fun
  | [d1, d2] => { results := [.lit (.bool true)], args := [d1, d2] }
  | _ => none }
def imageRunsRow : OpenClaim := { program := "ytefgajojimkdiaa", sum := "2ed35f91b887ff63f8cf846c3bdf5746413e10d41e81afa982e84275bef0c638", func := "spinet/spinetlaw25.ImageRuns", spec := "imageRuns", apart := false }
def ImageRunsSaid : Prop := imageRunsRow.holds Try.pinned (OpenSpec.ofChange imageRunsSpec)

/-- ITS FALSE NEIGHBOUR: 'it returns false'. Refute it at one input. -/
def imageRunsWrong : ChangeSpec := { name := "imageRuns", fn := fun _ => fun
  | [d1, d2] => { results := [.lit (.bool false)], args := [d1, d2] }
  | _ => none }
def ImageRunsWrongFalsely : Prop := imageRunsRow.holds Try.pinned (OpenSpec.ofChange imageRunsWrong)

/- THE SECOND FORM. 'bulk': how many values and letters a reading holds, each counted each time it is reached (what is shared counts as often as it is met; a slice's spare places count too). A statement '..UptoSaid' is the law's where the arguments, and the package variables that the reading takes, are together of bulk at most 1048576: NARROWER than '..Said'. Prove '..Said' where nothing that the law and all that it calls make is longer than what came in: it says more and counts as full. Else prove '..UptoSaid'. A law counts once. -/
mutual
def uptoBulk {H : Type} : DataW H → Nat
  | .lit (.string bytes) => bytes.length + 1
  | .lit _ => 1
  | .nil => 1
  | .ptr d => uptoBulk d + 1
  | .slice elems spare => uptoBulkAll elems + uptoBulkAll spare + 1
  | .agg parts => uptoBulkAll parts + 1
  | .iface _ d => uptoBulk d + 1
  | .map entries => uptoBulkEntries entries + 1
  | .held _ => 1
def uptoBulkAll {H : Type} : List (DataW H) → Nat
  | [] => 0
  | d :: r => uptoBulk d + uptoBulkAll r
def uptoBulkEntries {H : Type} : List (Lit × DataW H) → Nat
  | [] => 0
  | x :: r => uptoBulkEntry x + uptoBulkEntries r
def uptoBulkEntry {H : Type} : Lit × DataW H → Nat
  | (.string bytes, d) => bytes.length + uptoBulk d + 1
  | (_, d) => uptoBulk d + 1
 end
def uptoSmall : (H : Type) → List (DataW H) → Bool := fun _ ds => decide (uptoBulkAll ds ≤ 1048576)
def OpenSpec.upto (s : _root_.Go.ChangeSpec) : _root_.Go.OpenSpec := { _root_.Go.OpenSpec.ofChange s with cond := some uptoSmall }

/-- 'spinetlaw05.CpuPorts', WHERE WHAT IT READS IS OF BULK AT MOST 1048576: true; the input reads as it did. -/
def cpuPortsUptoRow : OpenClaim := { program := "ytefgajojimkdiaa", sum := "2ed35f91b887ff63f8cf846c3bdf5746413e10d41e81afa982e84275bef0c638", func := "spinet/spinetlaw05.CpuPorts", spec := "cpuPorts", apart := false, narrowed := true }
def CpuPortsUptoSaid : Prop := cpuPortsUptoRow.holds Try.pinned (OpenSpec.upto cpuPortsSpec)

/-- 'spinetlaw05.CpuPieces', WHERE WHAT IT READS IS OF BULK AT MOST 1048576: true; the input reads as it did. -/
def cpuPiecesUptoRow : OpenClaim := { program := "ytefgajojimkdiaa", sum := "2ed35f91b887ff63f8cf846c3bdf5746413e10d41e81afa982e84275bef0c638", func := "spinet/spinetlaw05.CpuPieces", spec := "cpuPieces", apart := false, narrowed := true }
def CpuPiecesUptoSaid : Prop := cpuPiecesUptoRow.holds Try.pinned (OpenSpec.upto cpuPiecesSpec)

/-- 'spinetlaw05.CpuLoads', WHERE WHAT IT READS IS OF BULK AT MOST 1048576: true; the input reads as it did. -/
def cpuLoadsUptoRow : OpenClaim := { program := "ytefgajojimkdiaa", sum := "2ed35f91b887ff63f8cf846c3bdf5746413e10d41e81afa982e84275bef0c638", func := "spinet/spinetlaw05.CpuLoads", spec := "cpuLoads", apart := false, narrowed := true }
def CpuLoadsUptoSaid : Prop := cpuLoadsUptoRow.holds Try.pinned (OpenSpec.upto cpuLoadsSpec)

/-- 'spinetlaw05.CpuCalls', WHERE WHAT IT READS IS OF BULK AT MOST 1048576: true; the input reads as it did. -/
def cpuCallsUptoRow : OpenClaim := { program := "ytefgajojimkdiaa", sum := "2ed35f91b887ff63f8cf846c3bdf5746413e10d41e81afa982e84275bef0c638", func := "spinet/spinetlaw05.CpuCalls", spec := "cpuCalls", apart := false, narrowed := true }
def CpuCallsUptoSaid : Prop := cpuCallsUptoRow.holds Try.pinned (OpenSpec.upto cpuCallsSpec)

/-- 'spinetlaw05.CpuNone', WHERE WHAT IT READS IS OF BULK AT MOST 1048576: true; the input reads as it did. -/
def cpuNoneUptoRow : OpenClaim := { program := "ytefgajojimkdiaa", sum := "2ed35f91b887ff63f8cf846c3bdf5746413e10d41e81afa982e84275bef0c638", func := "spinet/spinetlaw05.CpuNone", spec := "cpuNone", apart := false, narrowed := true }
def CpuNoneUptoSaid : Prop := cpuNoneUptoRow.holds Try.pinned (OpenSpec.upto cpuNoneSpec)

/-- 'spinetlaw05.CpuRuns', WHERE WHAT IT READS IS OF BULK AT MOST 1048576: true; the input reads as it did. -/
def cpuRunsUptoRow : OpenClaim := { program := "ytefgajojimkdiaa", sum := "2ed35f91b887ff63f8cf846c3bdf5746413e10d41e81afa982e84275bef0c638", func := "spinet/spinetlaw05.CpuRuns", spec := "cpuRuns", apart := false, narrowed := true }
def CpuRunsUptoSaid : Prop := cpuRunsUptoRow.holds Try.pinned (OpenSpec.upto cpuRunsSpec)

/-- 'spinetlaw05.CpuSteps', WHERE WHAT IT READS IS OF BULK AT MOST 1048576: true; the input reads as it did. -/
def cpuStepsUptoRow : OpenClaim := { program := "ytefgajojimkdiaa", sum := "2ed35f91b887ff63f8cf846c3bdf5746413e10d41e81afa982e84275bef0c638", func := "spinet/spinetlaw05.CpuSteps", spec := "cpuSteps", apart := false, narrowed := true }
def CpuStepsUptoSaid : Prop := cpuStepsUptoRow.holds Try.pinned (OpenSpec.upto cpuStepsSpec)

/-- 'spinetlaw27.RunRuns', WHERE WHAT IT READS IS OF BULK AT MOST 1048576: true; the input reads as it did. -/
def runRunsUptoRow : OpenClaim := { program := "ytefgajojimkdiaa", sum := "2ed35f91b887ff63f8cf846c3bdf5746413e10d41e81afa982e84275bef0c638", func := "spinet/spinetlaw27.RunRuns", spec := "runRuns", apart := false, narrowed := true }
def RunRunsUptoSaid : Prop := runRunsUptoRow.holds Try.pinned (OpenSpec.upto runRunsSpec)

/-- 'spinetlaw27.RunAgain', WHERE WHAT IT READS IS OF BULK AT MOST 1048576: true; the input reads as it did. -/
def runAgainUptoRow : OpenClaim := { program := "ytefgajojimkdiaa", sum := "2ed35f91b887ff63f8cf846c3bdf5746413e10d41e81afa982e84275bef0c638", func := "spinet/spinetlaw27.RunAgain", spec := "runAgain", apart := false, narrowed := true }
def RunAgainUptoSaid : Prop := runAgainUptoRow.holds Try.pinned (OpenSpec.upto runAgainSpec)

/-- 'spinetlaw27.RunFuel', WHERE WHAT IT READS IS OF BULK AT MOST 1048576: true; the input reads as it did. -/
def runFuelUptoRow : OpenClaim := { program := "ytefgajojimkdiaa", sum := "2ed35f91b887ff63f8cf846c3bdf5746413e10d41e81afa982e84275bef0c638", func := "spinet/spinetlaw27.RunFuel", spec := "runFuel", apart := false, narrowed := true }
def RunFuelUptoSaid : Prop := runFuelUptoRow.holds Try.pinned (OpenSpec.upto runFuelSpec)

/-- 'spinetlaw27.RunInside', WHERE WHAT IT READS IS OF BULK AT MOST 1048576: true; the input reads as it did. -/
def runInsideUptoRow : OpenClaim := { program := "ytefgajojimkdiaa", sum := "2ed35f91b887ff63f8cf846c3bdf5746413e10d41e81afa982e84275bef0c638", func := "spinet/spinetlaw27.RunInside", spec := "runInside", apart := false, narrowed := true }
def RunInsideUptoSaid : Prop := runInsideUptoRow.holds Try.pinned (OpenSpec.upto runInsideSpec)

/-- 'spinetlaw25.ImageRuns', WHERE WHAT IT READS IS OF BULK AT MOST 1048576: true; the input reads as it did. -/
def imageRunsUptoRow : OpenClaim := { program := "ytefgajojimkdiaa", sum := "2ed35f91b887ff63f8cf846c3bdf5746413e10d41e81afa982e84275bef0c638", func := "spinet/spinetlaw25.ImageRuns", spec := "imageRuns", apart := false, narrowed := true }
def ImageRunsUptoSaid : Prop := imageRunsUptoRow.holds Try.pinned (OpenSpec.upto imageRunsSpec)

end Rows
end Go.Proofs.Ytefgajojimkdiaa
