/-
  No cell of these rows narrows 'for every input' (looked for: loops, veiled, ifaces, maps, wideKeys, modest, calm, conditions, laid).
  DERIVED. THE GIVEN ROWS OF THIS SEAT. 7 by the template 'for every input the law returns true; each argument reads behind the call as it read before'; 0 by the template 'total and deterministic' (their statements: YtceflhffilldeaaTotals.lean).
  GIVEN WITH THE SEED: the statements are not yours to turn. If you find one false, say at which input.
  Laid BY PROGRAM, IN A SANDBOX (cutbox-rows.mjs): the forced cells as the released guide's own fill.sh prints them over the translation a4b8702c675faf17… (all of the seat's roots in one cut). By AI agents, Wed Nov 11 2026. No macro, syntax, notation, axiom, sorry.
-/
import Derived.Test.YtceflhffilldeaaChecked
import GoSem.Claim
import GoSem.ClaimJoined
import GoSem.ClaimMapViews
import Derived.JoinedTies
import Derived.KernelRfl
namespace Go.Proofs.Ytceflhffilldeaa
/- THE CELL 'sum', in the pinned program and in every row, IS THE sha256 OF THE DUMP (.gsa) THAT YtceflhffilldeaaProg.lean LOADS. Nothing in Lean hashes anything: it is a label: what it is worth is what the hold of that sum in a sandbox is worth. -/
noncomputable def Try.pinned : Pinned := { name := "ytceflhffilldeaa", sum := "a4b8702c675faf176f7850c975e588ac486d3bd7376dab0eba8922889c2a3727", checked := Try.checked }
namespace Rows
def none {H : Type} : Left H := { results := [], args := [] }

/-- 'spinetlaw07.StorePlays': WHATEVER THE INPUT: true; the input reads as it did. -/
def storePlaysSpec : ChangeSpec := { name := "storePlays", fn := fun _ => fun
  | [d] => { results := [.lit (.bool true)], args := [d] }
  | _ => none }
def storePlaysRow : OpenClaim := { program := "ytceflhffilldeaa", sum := "a4b8702c675faf176f7850c975e588ac486d3bd7376dab0eba8922889c2a3727", func := "spinet/spinetlaw07.StorePlays", spec := "storePlays", recurses := true, plainKeys := false, apart := false }
def StorePlaysSaid : Prop := storePlaysRow.holds Try.pinned (OpenSpec.ofChange storePlaysSpec)

/-- ITS FALSE NEIGHBOUR: 'it returns false'. Refute it at one input. -/
def storePlaysWrong : ChangeSpec := { name := "storePlays", fn := fun _ => fun
  | [d] => { results := [.lit (.bool false)], args := [d] }
  | _ => none }
def StorePlaysWrongFalsely : Prop := storePlaysRow.holds Try.pinned (OpenSpec.ofChange storePlaysWrong)

/-- 'spinetlaw23.ObjWrites': WHATEVER THE INPUT: true; the input reads as it did. -/
def objWritesSpec : ChangeSpec := { name := "objWrites", fn := fun _ => fun
  | [d] => { results := [.lit (.bool true)], args := [d] }
  | _ => none }
def objWritesRow : OpenClaim := { program := "ytceflhffilldeaa", sum := "a4b8702c675faf176f7850c975e588ac486d3bd7376dab0eba8922889c2a3727", func := "spinet/spinetlaw23.ObjWrites", spec := "objWrites", inPlace := ["internal/bytealg.IndexByteString"], unfollowed := true, recurses := true, plainKeys := false, apart := false }
def ObjWritesSaid : Prop := objWritesRow.holds Try.pinned (OpenSpec.ofChange objWritesSpec)

/-- ITS FALSE NEIGHBOUR: 'it returns false'. Refute it at one input. -/
def objWritesWrong : ChangeSpec := { name := "objWrites", fn := fun _ => fun
  | [d] => { results := [.lit (.bool false)], args := [d] }
  | _ => none }
def ObjWritesWrongFalsely : Prop := objWritesRow.holds Try.pinned (OpenSpec.ofChange objWritesWrong)

/-- 'spinetlaw23.ObjReads': WHATEVER THE INPUT: true; the input reads as it did. -/
def objReadsSpec : ChangeSpec := { name := "objReads", fn := fun _ => fun
  | [d] => { results := [.lit (.bool true)], args := [d] }
  | _ => none }
def objReadsRow : OpenClaim := { program := "ytceflhffilldeaa", sum := "a4b8702c675faf176f7850c975e588ac486d3bd7376dab0eba8922889c2a3727", func := "spinet/spinetlaw23.ObjReads", spec := "objReads", inPlace := ["internal/bytealg.IndexByteString"], unfollowed := true, recurses := true, plainKeys := false, apart := false }
def ObjReadsSaid : Prop := objReadsRow.holds Try.pinned (OpenSpec.ofChange objReadsSpec)

/-- ITS FALSE NEIGHBOUR: 'it returns false'. Refute it at one input. -/
def objReadsWrong : ChangeSpec := { name := "objReads", fn := fun _ => fun
  | [d] => { results := [.lit (.bool false)], args := [d] }
  | _ => none }
def ObjReadsWrongFalsely : Prop := objReadsRow.holds Try.pinned (OpenSpec.ofChange objReadsWrong)

/-- 'spinetlaw23.ObjBack': WHATEVER THE INPUT: true; the input reads as it did. -/
def objBackSpec : ChangeSpec := { name := "objBack", fn := fun _ => fun
  | [d1, d2] => { results := [.lit (.bool true)], args := [d1, d2] }
  | _ => none }
def objBackRow : OpenClaim := { program := "ytceflhffilldeaa", sum := "a4b8702c675faf176f7850c975e588ac486d3bd7376dab0eba8922889c2a3727", func := "spinet/spinetlaw23.ObjBack", spec := "objBack", inPlace := ["internal/bytealg.IndexByteString"], unfollowed := true, recurses := true, plainKeys := false, apart := false }
def ObjBackSaid : Prop := objBackRow.holds Try.pinned (OpenSpec.ofChange objBackSpec)

/-- ITS FALSE NEIGHBOUR: 'it returns false'. Refute it at one input. -/
def objBackWrong : ChangeSpec := { name := "objBack", fn := fun _ => fun
  | [d1, d2] => { results := [.lit (.bool false)], args := [d1, d2] }
  | _ => none }
def ObjBackWrongFalsely : Prop := objBackRow.holds Try.pinned (OpenSpec.ofChange objBackWrong)

/-- 'spinetlaw23.ObjCuts': WHATEVER THE INPUT: true; the input reads as it did. -/
def objCutsSpec : ChangeSpec := { name := "objCuts", fn := fun _ => fun
  | [d1, d2, d3] => { results := [.lit (.bool true)], args := [d1, d2, d3] }
  | _ => none }
def objCutsRow : OpenClaim := { program := "ytceflhffilldeaa", sum := "a4b8702c675faf176f7850c975e588ac486d3bd7376dab0eba8922889c2a3727", func := "spinet/spinetlaw23.ObjCuts", spec := "objCuts", inPlace := ["internal/bytealg.IndexByteString"], unfollowed := true, recurses := true, plainKeys := false, apart := false }
def ObjCutsSaid : Prop := objCutsRow.holds Try.pinned (OpenSpec.ofChange objCutsSpec)

/-- ITS FALSE NEIGHBOUR: 'it returns false'. Refute it at one input. -/
def objCutsWrong : ChangeSpec := { name := "objCuts", fn := fun _ => fun
  | [d1, d2, d3] => { results := [.lit (.bool false)], args := [d1, d2, d3] }
  | _ => none }
def ObjCutsWrongFalsely : Prop := objCutsRow.holds Try.pinned (OpenSpec.ofChange objCutsWrong)

/-- 'spinetlaw23.ObjGoods': WHATEVER THE INPUT: true; the input reads as it did. -/
def objGoodsSpec : ChangeSpec := { name := "objGoods", fn := fun _ => fun
  | [d1, d2] => { results := [.lit (.bool true)], args := [d1, d2] }
  | _ => none }
def objGoodsRow : OpenClaim := { program := "ytceflhffilldeaa", sum := "a4b8702c675faf176f7850c975e588ac486d3bd7376dab0eba8922889c2a3727", func := "spinet/spinetlaw23.ObjGoods", spec := "objGoods", inPlace := ["internal/bytealg.IndexByteString"], unfollowed := true, recurses := true, plainKeys := false, apart := false }
def ObjGoodsSaid : Prop := objGoodsRow.holds Try.pinned (OpenSpec.ofChange objGoodsSpec)

/-- ITS FALSE NEIGHBOUR: 'it returns false'. Refute it at one input. -/
def objGoodsWrong : ChangeSpec := { name := "objGoods", fn := fun _ => fun
  | [d1, d2] => { results := [.lit (.bool false)], args := [d1, d2] }
  | _ => none }
def ObjGoodsWrongFalsely : Prop := objGoodsRow.holds Try.pinned (OpenSpec.ofChange objGoodsWrong)

/-- 'spinetlaw23.ObjApart': WHATEVER THE INPUT: true; the input reads as it did. -/
def objApartSpec : ChangeSpec := { name := "objApart", fn := fun _ => fun
  | [d1, d2] => { results := [.lit (.bool true)], args := [d1, d2] }
  | _ => none }
def objApartRow : OpenClaim := { program := "ytceflhffilldeaa", sum := "a4b8702c675faf176f7850c975e588ac486d3bd7376dab0eba8922889c2a3727", func := "spinet/spinetlaw23.ObjApart", spec := "objApart", inPlace := ["internal/bytealg.IndexByteString"], unfollowed := true, recurses := true, plainKeys := false, apart := false }
def ObjApartSaid : Prop := objApartRow.holds Try.pinned (OpenSpec.ofChange objApartSpec)

/-- ITS FALSE NEIGHBOUR: 'it returns false'. Refute it at one input. -/
def objApartWrong : ChangeSpec := { name := "objApart", fn := fun _ => fun
  | [d1, d2] => { results := [.lit (.bool false)], args := [d1, d2] }
  | _ => none }
def ObjApartWrongFalsely : Prop := objApartRow.holds Try.pinned (OpenSpec.ofChange objApartWrong)

/- THE SECOND FORM. 'bulk': how many values and letters a reading holds, each counted each time it is reached (what is shared counts as often as it is met; a slice's spare places count too). A statement '..UptoSaid' is the law's where the arguments, and the package variables that the reading takes, are together of bulk at most 1048576: NARROWER than '..Said'. Prove '..Said' where nothing that the law and all that it calls make is longer than what came in: it says more and counts as full. Else prove '..UptoSaid'. A law counts once. -/
mutual
def uptoBulk {H : Type} : DataW H → Nat
  | .lit (.string bytes) => bytes.length + 1
  | .lit _ => 1
  | .nil => 1
  | .ptr d => uptoBulk d + 1
  | .slice elems spare => uptoBulkAll elems + uptoBulkAll spare + 1
  | .agg parts => uptoBulkAll parts + 1
  | .iface _ d => uptoBulk d + 1
  | .map entries => uptoBulkEntries entries + 1
  | .held _ => 1
def uptoBulkAll {H : Type} : List (DataW H) → Nat
  | [] => 0
  | d :: r => uptoBulk d + uptoBulkAll r
def uptoBulkEntries {H : Type} : List (Lit × DataW H) → Nat
  | [] => 0
  | x :: r => uptoBulkEntry x + uptoBulkEntries r
def uptoBulkEntry {H : Type} : Lit × DataW H → Nat
  | (.string bytes, d) => bytes.length + uptoBulk d + 1
  | (_, d) => uptoBulk d + 1
 end
def uptoSmall : (H : Type) → List (DataW H) → Bool := fun _ ds => decide (uptoBulkAll ds ≤ 1048576)
def OpenSpec.upto (s : _root_.Go.ChangeSpec) : _root_.Go.OpenSpec := { _root_.Go.OpenSpec.ofChange s with cond := some uptoSmall }

/-- 'spinetlaw07.StorePlays', WHERE WHAT IT READS IS OF BULK AT MOST 1048576: true; the input reads as it did. -/
def storePlaysUptoRow : OpenClaim := { program := "ytceflhffilldeaa", sum := "a4b8702c675faf176f7850c975e588ac486d3bd7376dab0eba8922889c2a3727", func := "spinet/spinetlaw07.StorePlays", spec := "storePlays", recurses := true, plainKeys := false, apart := false, narrowed := true }
def StorePlaysUptoSaid : Prop := storePlaysUptoRow.holds Try.pinned (OpenSpec.upto storePlaysSpec)

/-- 'spinetlaw23.ObjWrites', WHERE WHAT IT READS IS OF BULK AT MOST 1048576: true; the input reads as it did. -/
def objWritesUptoRow : OpenClaim := { program := "ytceflhffilldeaa", sum := "a4b8702c675faf176f7850c975e588ac486d3bd7376dab0eba8922889c2a3727", func := "spinet/spinetlaw23.ObjWrites", spec := "objWrites", inPlace := ["internal/bytealg.IndexByteString"], unfollowed := true, recurses := true, plainKeys := false, apart := false, narrowed := true }
def ObjWritesUptoSaid : Prop := objWritesUptoRow.holds Try.pinned (OpenSpec.upto objWritesSpec)

/-- 'spinetlaw23.ObjReads', WHERE WHAT IT READS IS OF BULK AT MOST 1048576: true; the input reads as it did. -/
def objReadsUptoRow : OpenClaim := { program := "ytceflhffilldeaa", sum := "a4b8702c675faf176f7850c975e588ac486d3bd7376dab0eba8922889c2a3727", func := "spinet/spinetlaw23.ObjReads", spec := "objReads", inPlace := ["internal/bytealg.IndexByteString"], unfollowed := true, recurses := true, plainKeys := false, apart := false, narrowed := true }
def ObjReadsUptoSaid : Prop := objReadsUptoRow.holds Try.pinned (OpenSpec.upto objReadsSpec)

/-- 'spinetlaw23.ObjBack', WHERE WHAT IT READS IS OF BULK AT MOST 1048576: true; the input reads as it did. -/
def objBackUptoRow : OpenClaim := { program := "ytceflhffilldeaa", sum := "a4b8702c675faf176f7850c975e588ac486d3bd7376dab0eba8922889c2a3727", func := "spinet/spinetlaw23.ObjBack", spec := "objBack", inPlace := ["internal/bytealg.IndexByteString"], unfollowed := true, recurses := true, plainKeys := false, apart := false, narrowed := true }
def ObjBackUptoSaid : Prop := objBackUptoRow.holds Try.pinned (OpenSpec.upto objBackSpec)

/-- 'spinetlaw23.ObjCuts', WHERE WHAT IT READS IS OF BULK AT MOST 1048576: true; the input reads as it did. -/
def objCutsUptoRow : OpenClaim := { program := "ytceflhffilldeaa", sum := "a4b8702c675faf176f7850c975e588ac486d3bd7376dab0eba8922889c2a3727", func := "spinet/spinetlaw23.ObjCuts", spec := "objCuts", inPlace := ["internal/bytealg.IndexByteString"], unfollowed := true, recurses := true, plainKeys := false, apart := false, narrowed := true }
def ObjCutsUptoSaid : Prop := objCutsUptoRow.holds Try.pinned (OpenSpec.upto objCutsSpec)

/-- 'spinetlaw23.ObjGoods', WHERE WHAT IT READS IS OF BULK AT MOST 1048576: true; the input reads as it did. -/
def objGoodsUptoRow : OpenClaim := { program := "ytceflhffilldeaa", sum := "a4b8702c675faf176f7850c975e588ac486d3bd7376dab0eba8922889c2a3727", func := "spinet/spinetlaw23.ObjGoods", spec := "objGoods", inPlace := ["internal/bytealg.IndexByteString"], unfollowed := true, recurses := true, plainKeys := false, apart := false, narrowed := true }
def ObjGoodsUptoSaid : Prop := objGoodsUptoRow.holds Try.pinned (OpenSpec.upto objGoodsSpec)

/-- 'spinetlaw23.ObjApart', WHERE WHAT IT READS IS OF BULK AT MOST 1048576: true; the input reads as it did. -/
def objApartUptoRow : OpenClaim := { program := "ytceflhffilldeaa", sum := "a4b8702c675faf176f7850c975e588ac486d3bd7376dab0eba8922889c2a3727", func := "spinet/spinetlaw23.ObjApart", spec := "objApart", inPlace := ["internal/bytealg.IndexByteString"], unfollowed := true, recurses := true, plainKeys := false, apart := false, narrowed := true }
def ObjApartUptoSaid : Prop := objApartUptoRow.holds Try.pinned (OpenSpec.upto objApartSpec)

end Rows
end Go.Proofs.Ytceflhffilldeaa
