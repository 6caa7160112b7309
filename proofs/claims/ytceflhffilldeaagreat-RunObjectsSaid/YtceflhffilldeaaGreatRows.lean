/-
  No cell of these rows narrows 'for every input' (looked for: loops, veiled, ifaces, maps, wideKeys, modest, calm, conditions, laid).
  DERIVED. THE GIVEN ROWS OF THIS SEAT. 5 by the template 'for every input the law returns true; each argument reads behind the call as it read before'; 0 by the template 'total and deterministic' (their statements: YtceflhffilldeaaGreatTotals.lean).
  GIVEN WITH THE SEED: the statements are not yours to turn. If you find one false, say at which input.
  Laid BY PROGRAM, IN A SANDBOX (cutbox-rows.mjs): the forced cells as the released guide's own fill.sh prints them over the translation 0c30514a2d82c081… (all of the seat's roots in one cut). By AI agents, Wed Nov 11 2026. No macro, syntax, notation, axiom, sorry.
-/
import Derived.Test.YtceflhffilldeaaGreatChecked
import GoSem.Claim
import GoSem.ClaimJoined
import GoSem.ClaimMapViews
import Derived.JoinedTies
import Derived.KernelRfl
namespace Go.Proofs.YtceflhffilldeaaGreat
/- THE CELL 'sum', in the pinned program and in every row, IS THE sha256 OF THE DUMP (.gsa) THAT YtceflhffilldeaaGreatProg.lean LOADS. Nothing in Lean hashes anything: it is a label: what it is worth is what the hold of that sum in a sandbox is worth. -/
noncomputable def Tryz.pinned : Pinned := { name := "ytceflhffilldeaagreat", sum := "0c30514a2d82c0813eb4b51928695adc821a7e2232ad008d2dae0d9ccf3c4831", checked := Tryz.checked }
namespace Rows
def none {H : Type} : Left H := { results := [], args := [] }

/-- 'spinetlaw26.LoaderLies': WHATEVER THE INPUT: true; the input reads as it did. -/
def loaderLiesSpec : ChangeSpec := { name := "loaderLies", fn := fun _ => fun
  | [d1, d2, d3] => { results := [.lit (.bool true)], args := [d1, d2, d3] }
  | _ => none }
def loaderLiesRow : OpenClaim := { program := "ytceflhffilldeaagreat", sum := "0c30514a2d82c0813eb4b51928695adc821a7e2232ad008d2dae0d9ccf3c4831", func := "spinet/spinetlaw26.LoaderLies", spec := "loaderLies", inPlace := ["internal/bytealg.IndexByteString"], unfollowed := true, recurses := true, plainKeys := false, apart := false }
def LoaderLiesSaid : Prop := loaderLiesRow.holds Tryz.pinned (OpenSpec.ofChange loaderLiesSpec)

/-- ITS FALSE NEIGHBOUR: 'it returns false'. Refute it at one input. -/
def loaderLiesWrong : ChangeSpec := { name := "loaderLies", fn := fun _ => fun
  | [d1, d2, d3] => { results := [.lit (.bool false)], args := [d1, d2, d3] }
  | _ => none }
def LoaderLiesWrongFalsely : Prop := loaderLiesRow.holds Tryz.pinned (OpenSpec.ofChange loaderLiesWrong)

/-- 'spinetlaw26.LoaderRooms': WHATEVER THE INPUT: true; the input reads as it did. -/
def loaderRoomsSpec : ChangeSpec := { name := "loaderRooms", fn := fun _ => fun
  | [d1, d2, d3] => { results := [.lit (.bool true)], args := [d1, d2, d3] }
  | _ => none }
def loaderRoomsRow : OpenClaim := { program := "ytceflhffilldeaagreat", sum := "0c30514a2d82c0813eb4b51928695adc821a7e2232ad008d2dae0d9ccf3c4831", func := "spinet/spinetlaw26.LoaderRooms", spec := "loaderRooms", inPlace := ["internal/bytealg.IndexByteString"], unfollowed := true, recurses := true, plainKeys := false, apart := false }
def LoaderRoomsSaid : Prop := loaderRoomsRow.holds Tryz.pinned (OpenSpec.ofChange loaderRoomsSpec)

/-- ITS FALSE NEIGHBOUR: 'it returns false'. Refute it at one input. -/
def loaderRoomsWrong : ChangeSpec := { name := "loaderRooms", fn := fun _ => fun
  | [d1, d2, d3] => { results := [.lit (.bool false)], args := [d1, d2, d3] }
  | _ => none }
def LoaderRoomsWrongFalsely : Prop := loaderRoomsRow.holds Tryz.pinned (OpenSpec.ofChange loaderRoomsWrong)

/-- 'spinetlaw26.LoaderKeys': WHATEVER THE INPUT: true; the input reads as it did. -/
def loaderKeysSpec : ChangeSpec := { name := "loaderKeys", fn := fun _ => fun
  | [d1, d2] => { results := [.lit (.bool true)], args := [d1, d2] }
  | _ => none }
def loaderKeysRow : OpenClaim := { program := "ytceflhffilldeaagreat", sum := "0c30514a2d82c0813eb4b51928695adc821a7e2232ad008d2dae0d9ccf3c4831", func := "spinet/spinetlaw26.LoaderKeys", spec := "loaderKeys", inPlace := ["internal/bytealg.IndexByteString"], unfollowed := true, recurses := true, plainKeys := false, apart := false }
def LoaderKeysSaid : Prop := loaderKeysRow.holds Tryz.pinned (OpenSpec.ofChange loaderKeysSpec)

/-- ITS FALSE NEIGHBOUR: 'it returns false'. Refute it at one input. -/
def loaderKeysWrong : ChangeSpec := { name := "loaderKeys", fn := fun _ => fun
  | [d1, d2] => { results := [.lit (.bool false)], args := [d1, d2] }
  | _ => none }
def LoaderKeysWrongFalsely : Prop := loaderKeysRow.holds Tryz.pinned (OpenSpec.ofChange loaderKeysWrong)

/-- 'spinetlaw26.LoaderStays': WHATEVER THE INPUT: true; the input reads as it did. -/
def loaderStaysSpec : ChangeSpec := { name := "loaderStays", fn := fun _ => fun
  | [d1, d2, d3] => { results := [.lit (.bool true)], args := [d1, d2, d3] }
  | _ => none }
def loaderStaysRow : OpenClaim := { program := "ytceflhffilldeaagreat", sum := "0c30514a2d82c0813eb4b51928695adc821a7e2232ad008d2dae0d9ccf3c4831", func := "spinet/spinetlaw26.LoaderStays", spec := "loaderStays", inPlace := ["internal/bytealg.IndexByteString"], unfollowed := true, recurses := true, plainKeys := false, apart := false }
def LoaderStaysSaid : Prop := loaderStaysRow.holds Tryz.pinned (OpenSpec.ofChange loaderStaysSpec)

/-- ITS FALSE NEIGHBOUR: 'it returns false'. Refute it at one input. -/
def loaderStaysWrong : ChangeSpec := { name := "loaderStays", fn := fun _ => fun
  | [d1, d2, d3] => { results := [.lit (.bool false)], args := [d1, d2, d3] }
  | _ => none }
def LoaderStaysWrongFalsely : Prop := loaderStaysRow.holds Tryz.pinned (OpenSpec.ofChange loaderStaysWrong)

/-- 'spinetlaw27.RunObjects': WHATEVER THE INPUT: true; the input reads as it did. -/
def runObjectsSpec : ChangeSpec := { name := "runObjects", fn := fun _ => fun
  | [d1, d2] => { results := [.lit (.bool true)], args := [d1, d2] }
  | _ => none }
def runObjectsRow : OpenClaim := { program := "ytceflhffilldeaagreat", sum := "0c30514a2d82c0813eb4b51928695adc821a7e2232ad008d2dae0d9ccf3c4831", func := "spinet/spinetlaw27.RunObjects", spec := "runObjects", inPlace := ["internal/bytealg.IndexByteString"], unfollowed := true, recurses := true, plainKeys := false, apart := false }
def RunObjectsSaid : Prop := runObjectsRow.holds Tryz.pinned (OpenSpec.ofChange runObjectsSpec)

/-- ITS FALSE NEIGHBOUR: 'it returns false'. Refute it at one input. -/
def runObjectsWrong : ChangeSpec := { name := "runObjects", fn := fun _ => fun
  | [d1, d2] => { results := [.lit (.bool false)], args := [d1, d2] }
  | _ => none }
def RunObjectsWrongFalsely : Prop := runObjectsRow.holds Tryz.pinned (OpenSpec.ofChange runObjectsWrong)

/- THE SECOND FORM. 'bulk': how many values and letters a reading holds, each counted each time it is reached (what is shared counts as often as it is met; a slice's spare places count too). A statement '..UptoSaid' is the law's where the arguments, and the package variables that the reading takes, are together of bulk at most 1048576: NARROWER than '..Said'. Prove '..Said' where nothing that the law and all that it calls make is longer than what came in: it says more and counts as full. Else prove '..UptoSaid'. A law counts once. -/
mutual
def uptoBulk {H : Type} : DataW H → Nat
  | .lit (.string bytes) => bytes.length + 1
  | .lit _ => 1
  | .nil => 1
  | .ptr d => uptoBulk d + 1
  | .slice elems spare => uptoBulkAll elems + uptoBulkAll spare + 1
  | .agg parts => uptoBulkAll parts + 1
  | .iface _ d => uptoBulk d + 1
  | .map entries => uptoBulkEntries entries + 1
  | .held _ => 1
def uptoBulkAll {H : Type} : List (DataW H) → Nat
  | [] => 0
  | d :: r => uptoBulk d + uptoBulkAll r
def uptoBulkEntries {H : Type} : List (Lit × DataW H) → Nat
  | [] => 0
  | x :: r => uptoBulkEntry x + uptoBulkEntries r
def uptoBulkEntry {H : Type} : Lit × DataW H → Nat
  | (.string bytes, d) => bytes.length + uptoBulk d + 1
  | (_, d) => uptoBulk d + 1
 end
def uptoSmall : (H : Type) → List (DataW H) → Bool := fun _ ds => decide (uptoBulkAll ds ≤ 1048576)
def OpenSpec.upto (s : _root_.Go.ChangeSpec) : _root_.Go.OpenSpec := { _root_.Go.OpenSpec.ofChange s with cond := some uptoSmall }

/-- 'spinetlaw26.LoaderLies', WHERE WHAT IT READS IS OF BULK AT MOST 1048576: true; the input reads as it did. -/
def loaderLiesUptoRow : OpenClaim := { program := "ytceflhffilldeaagreat", sum := "0c30514a2d82c0813eb4b51928695adc821a7e2232ad008d2dae0d9ccf3c4831", func := "spinet/spinetlaw26.LoaderLies", spec := "loaderLies", inPlace := ["internal/bytealg.IndexByteString"], unfollowed := true, recurses := true, plainKeys := false, apart := false, narrowed := true }
def LoaderLiesUptoSaid : Prop := loaderLiesUptoRow.holds Tryz.pinned (OpenSpec.upto loaderLiesSpec)

/-- 'spinetlaw26.LoaderRooms', WHERE WHAT IT READS IS OF BULK AT MOST 1048576: true; the input reads as it did. -/
def loaderRoomsUptoRow : OpenClaim := { program := "ytceflhffilldeaagreat", sum := "0c30514a2d82c0813eb4b51928695adc821a7e2232ad008d2dae0d9ccf3c4831", func := "spinet/spinetlaw26.LoaderRooms", spec := "loaderRooms", inPlace := ["internal/bytealg.IndexByteString"], unfollowed := true, recurses := true, plainKeys := false, apart := false, narrowed := true }
def LoaderRoomsUptoSaid : Prop := loaderRoomsUptoRow.holds Tryz.pinned (OpenSpec.upto loaderRoomsSpec)

/-- 'spinetlaw26.LoaderKeys', WHERE WHAT IT READS IS OF BULK AT MOST 1048576: true; the input reads as it did. -/
def loaderKeysUptoRow : OpenClaim := { program := "ytceflhffilldeaagreat", sum := "0c30514a2d82c0813eb4b51928695adc821a7e2232ad008d2dae0d9ccf3c4831", func := "spinet/spinetlaw26.LoaderKeys", spec := "loaderKeys", inPlace := ["internal/bytealg.IndexByteString"], unfollowed := true, recurses := true, plainKeys := false, apart := false, narrowed := true }
def LoaderKeysUptoSaid : Prop := loaderKeysUptoRow.holds Tryz.pinned (OpenSpec.upto loaderKeysSpec)

/-- 'spinetlaw26.LoaderStays', WHERE WHAT IT READS IS OF BULK AT MOST 1048576: true; the input reads as it did. -/
def loaderStaysUptoRow : OpenClaim := { program := "ytceflhffilldeaagreat", sum := "0c30514a2d82c0813eb4b51928695adc821a7e2232ad008d2dae0d9ccf3c4831", func := "spinet/spinetlaw26.LoaderStays", spec := "loaderStays", inPlace := ["internal/bytealg.IndexByteString"], unfollowed := true, recurses := true, plainKeys := false, apart := false, narrowed := true }
def LoaderStaysUptoSaid : Prop := loaderStaysUptoRow.holds Tryz.pinned (OpenSpec.upto loaderStaysSpec)

/-- 'spinetlaw27.RunObjects', WHERE WHAT IT READS IS OF BULK AT MOST 1048576: true; the input reads as it did. -/
def runObjectsUptoRow : OpenClaim := { program := "ytceflhffilldeaagreat", sum := "0c30514a2d82c0813eb4b51928695adc821a7e2232ad008d2dae0d9ccf3c4831", func := "spinet/spinetlaw27.RunObjects", spec := "runObjects", inPlace := ["internal/bytealg.IndexByteString"], unfollowed := true, recurses := true, plainKeys := false, apart := false, narrowed := true }
def RunObjectsUptoSaid : Prop := runObjectsUptoRow.holds Tryz.pinned (OpenSpec.upto runObjectsSpec)

end Rows
end Go.Proofs.YtceflhffilldeaaGreat
