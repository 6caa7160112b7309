/-
  No cell of these rows narrows 'for every input' (looked for: loops, veiled, ifaces, maps, wideKeys, modest, calm, conditions, laid).
  DERIVED. THE GIVEN ROWS OF THIS SEAT. 10 by the template 'for every input the law returns true; each argument reads behind the call as it read before'; 0 by the template 'total and deterministic' (their statements: YtbnlfopghmeacaaTotals.lean).
  GIVEN WITH THE SEED: the statements are not yours to turn. If you find one false, say at which input.
  Laid BY PROGRAM, IN A SANDBOX (cutbox-rows.mjs): the forced cells as the released guide's own fill.sh prints them over the translation 340577876d384985… (all of the seat's roots in one cut). By AI agents, Wed Nov 11 2026. No macro, syntax, notation, axiom, sorry.
-/
import Derived.Test.YtbnlfopghmeacaaChecked
import GoSem.Claim
import GoSem.ClaimJoined
import GoSem.ClaimMapViews
import Derived.JoinedTies
import Derived.KernelRfl
namespace Go.Proofs.Ytbnlfopghmeacaa
/- THE CELL 'sum', in the pinned program and in every row, IS THE sha256 OF THE DUMP (.gsa) THAT YtbnlfopghmeacaaProg.lean LOADS. Nothing in Lean hashes anything: it is a label: what it is worth is what the hold of that sum in a sandbox is worth. -/
noncomputable def Try.pinned : Pinned := { name := "ytbnlfopghmeacaa", sum := "340577876d3849850c32cb778abb7b6802b3513f5c1db0646eba8c2d144ba48b", checked := Try.checked }
namespace Rows
def none {H : Type} : Left H := { results := [], args := [] }

/-- 'spinetlaw01.BitsExtends': WHATEVER THE INPUT: true; the input reads as it did. -/
def bitsExtendsSpec : ChangeSpec := { name := "bitsExtends", fn := fun _ => fun
  | [d1, d2, d3] => { results := [.lit (.bool true)], args := [d1, d2, d3] }
  | _ => none }
def bitsExtendsRow : OpenClaim := { program := "ytbnlfopghmeacaa", sum := "340577876d3849850c32cb778abb7b6802b3513f5c1db0646eba8c2d144ba48b", func := "spinet/spinetlaw01.BitsExtends", spec := "bitsExtends", plainKeys := false, apart := false }
def BitsExtendsSaid : Prop := bitsExtendsRow.holds Try.pinned (OpenSpec.ofChange bitsExtendsSpec)

/-- ITS FALSE NEIGHBOUR: 'it returns false'. Refute it at one input. -/
def bitsExtendsWrong : ChangeSpec := { name := "bitsExtends", fn := fun _ => fun
  | [d1, d2, d3] => { results := [.lit (.bool false)], args := [d1, d2, d3] }
  | _ => none }
def BitsExtendsWrongFalsely : Prop := bitsExtendsRow.holds Try.pinned (OpenSpec.ofChange bitsExtendsWrong)

/-- 'spinetlaw01.BitsMoves': WHATEVER THE INPUT: true; the input reads as it did. -/
def bitsMovesSpec : ChangeSpec := { name := "bitsMoves", fn := fun _ => fun
  | [d1, d2] => { results := [.lit (.bool true)], args := [d1, d2] }
  | _ => none }
def bitsMovesRow : OpenClaim := { program := "ytbnlfopghmeacaa", sum := "340577876d3849850c32cb778abb7b6802b3513f5c1db0646eba8c2d144ba48b", func := "spinet/spinetlaw01.BitsMoves", spec := "bitsMoves", plainKeys := false, apart := false }
def BitsMovesSaid : Prop := bitsMovesRow.holds Try.pinned (OpenSpec.ofChange bitsMovesSpec)

/-- ITS FALSE NEIGHBOUR: 'it returns false'. Refute it at one input. -/
def bitsMovesWrong : ChangeSpec := { name := "bitsMoves", fn := fun _ => fun
  | [d1, d2] => { results := [.lit (.bool false)], args := [d1, d2] }
  | _ => none }
def BitsMovesWrongFalsely : Prop := bitsMovesRow.holds Try.pinned (OpenSpec.ofChange bitsMovesWrong)

/-- 'spinetlaw01.BitsTurns': WHATEVER THE INPUT: true; the input reads as it did. -/
def bitsTurnsSpec : ChangeSpec := { name := "bitsTurns", fn := fun _ => fun
  | [d1, d2] => { results := [.lit (.bool true)], args := [d1, d2] }
  | _ => none }
def bitsTurnsRow : OpenClaim := { program := "ytbnlfopghmeacaa", sum := "340577876d3849850c32cb778abb7b6802b3513f5c1db0646eba8c2d144ba48b", func := "spinet/spinetlaw01.BitsTurns", spec := "bitsTurns", plainKeys := false, apart := false }
def BitsTurnsSaid : Prop := bitsTurnsRow.holds Try.pinned (OpenSpec.ofChange bitsTurnsSpec)

/-- ITS FALSE NEIGHBOUR: 'it returns false'. Refute it at one input. -/
def bitsTurnsWrong : ChangeSpec := { name := "bitsTurns", fn := fun _ => fun
  | [d1, d2] => { results := [.lit (.bool false)], args := [d1, d2] }
  | _ => none }
def BitsTurnsWrongFalsely : Prop := bitsTurnsRow.holds Try.pinned (OpenSpec.ofChange bitsTurnsWrong)

/-- 'spinetlaw01.BitsSigns': WHATEVER THE INPUT: true; the input reads as it did. -/
def bitsSignsSpec : ChangeSpec := { name := "bitsSigns", fn := fun _ => fun
  | [d1, d2] => { results := [.lit (.bool true)], args := [d1, d2] }
  | _ => none }
def bitsSignsRow : OpenClaim := { program := "ytbnlfopghmeacaa", sum := "340577876d3849850c32cb778abb7b6802b3513f5c1db0646eba8c2d144ba48b", func := "spinet/spinetlaw01.BitsSigns", spec := "bitsSigns", plainKeys := false, apart := false }
def BitsSignsSaid : Prop := bitsSignsRow.holds Try.pinned (OpenSpec.ofChange bitsSignsSpec)

/-- ITS FALSE NEIGHBOUR: 'it returns false'. Refute it at one input. -/
def bitsSignsWrong : ChangeSpec := { name := "bitsSigns", fn := fun _ => fun
  | [d1, d2] => { results := [.lit (.bool false)], args := [d1, d2] }
  | _ => none }
def BitsSignsWrongFalsely : Prop := bitsSignsRow.holds Try.pinned (OpenSpec.ofChange bitsSignsWrong)

/-- 'spinetlaw01.BitsFits': WHATEVER THE INPUT: true; the input reads as it did. -/
def bitsFitsSpec : ChangeSpec := { name := "bitsFits", fn := fun _ => fun
  | [d1, d2] => { results := [.lit (.bool true)], args := [d1, d2] }
  | _ => none }
def bitsFitsRow : OpenClaim := { program := "ytbnlfopghmeacaa", sum := "340577876d3849850c32cb778abb7b6802b3513f5c1db0646eba8c2d144ba48b", func := "spinet/spinetlaw01.BitsFits", spec := "bitsFits", plainKeys := false, apart := false }
def BitsFitsSaid : Prop := bitsFitsRow.holds Try.pinned (OpenSpec.ofChange bitsFitsSpec)

/-- ITS FALSE NEIGHBOUR: 'it returns false'. Refute it at one input. -/
def bitsFitsWrong : ChangeSpec := { name := "bitsFits", fn := fun _ => fun
  | [d1, d2] => { results := [.lit (.bool false)], args := [d1, d2] }
  | _ => none }
def BitsFitsWrongFalsely : Prop := bitsFitsRow.holds Try.pinned (OpenSpec.ofChange bitsFitsWrong)

/-- 'spinetlaw01.BitsCuts': WHATEVER THE INPUT: true; the input reads as it did. -/
def bitsCutsSpec : ChangeSpec := { name := "bitsCuts", fn := fun _ => fun
  | [d] => { results := [.lit (.bool true)], args := [d] }
  | _ => none }
def bitsCutsRow : OpenClaim := { program := "ytbnlfopghmeacaa", sum := "340577876d3849850c32cb778abb7b6802b3513f5c1db0646eba8c2d144ba48b", func := "spinet/spinetlaw01.BitsCuts", spec := "bitsCuts", plainKeys := false, apart := false }
def BitsCutsSaid : Prop := bitsCutsRow.holds Try.pinned (OpenSpec.ofChange bitsCutsSpec)

/-- ITS FALSE NEIGHBOUR: 'it returns false'. Refute it at one input. -/
def bitsCutsWrong : ChangeSpec := { name := "bitsCuts", fn := fun _ => fun
  | [d] => { results := [.lit (.bool false)], args := [d] }
  | _ => none }
def BitsCutsWrongFalsely : Prop := bitsCutsRow.holds Try.pinned (OpenSpec.ofChange bitsCutsWrong)

/-- 'spinetlaw01.BitsKeeps': WHATEVER THE INPUT: true; the input reads as it did. -/
def bitsKeepsSpec : ChangeSpec := { name := "bitsKeeps", fn := fun _ => fun
  | [d] => { results := [.lit (.bool true)], args := [d] }
  | _ => none }
def bitsKeepsRow : OpenClaim := { program := "ytbnlfopghmeacaa", sum := "340577876d3849850c32cb778abb7b6802b3513f5c1db0646eba8c2d144ba48b", func := "spinet/spinetlaw01.BitsKeeps", spec := "bitsKeeps", plainKeys := false, apart := false }
def BitsKeepsSaid : Prop := bitsKeepsRow.holds Try.pinned (OpenSpec.ofChange bitsKeepsSpec)

/-- ITS FALSE NEIGHBOUR: 'it returns false'. Refute it at one input. -/
def bitsKeepsWrong : ChangeSpec := { name := "bitsKeeps", fn := fun _ => fun
  | [d] => { results := [.lit (.bool false)], args := [d] }
  | _ => none }
def BitsKeepsWrongFalsely : Prop := bitsKeepsRow.holds Try.pinned (OpenSpec.ofChange bitsKeepsWrong)

/-- 'spinetlaw07.StoreNames': WHATEVER THE INPUT: true; the input reads as it did. -/
def storeNamesSpec : ChangeSpec := { name := "storeNames", fn := fun _ => fun
  | [d] => { results := [.lit (.bool true)], args := [d] }
  | _ => none }
def storeNamesRow : OpenClaim := { program := "ytbnlfopghmeacaa", sum := "340577876d3849850c32cb778abb7b6802b3513f5c1db0646eba8c2d144ba48b", func := "spinet/spinetlaw07.StoreNames", spec := "storeNames", plainKeys := false, apart := false }
def StoreNamesSaid : Prop := storeNamesRow.holds Try.pinned (OpenSpec.ofChange storeNamesSpec)

/-- ITS FALSE NEIGHBOUR: 'it returns false'. Refute it at one input. -/
def storeNamesWrong : ChangeSpec := { name := "storeNames", fn := fun _ => fun
  | [d] => { results := [.lit (.bool false)], args := [d] }
  | _ => none }
def StoreNamesWrongFalsely : Prop := storeNamesRow.holds Try.pinned (OpenSpec.ofChange storeNamesWrong)

/-- 'spinetlaw07.StoreLast': WHATEVER THE INPUT: true; the input reads as it did. -/
def storeLastSpec : ChangeSpec := { name := "storeLast", fn := fun _ => fun
  | [d1, d2, d3] => { results := [.lit (.bool true)], args := [d1, d2, d3] }
  | _ => none }
def storeLastRow : OpenClaim := { program := "ytbnlfopghmeacaa", sum := "340577876d3849850c32cb778abb7b6802b3513f5c1db0646eba8c2d144ba48b", func := "spinet/spinetlaw07.StoreLast", spec := "storeLast", plainKeys := false, apart := false }
def StoreLastSaid : Prop := storeLastRow.holds Try.pinned (OpenSpec.ofChange storeLastSpec)

/-- ITS FALSE NEIGHBOUR: 'it returns false'. Refute it at one input. -/
def storeLastWrong : ChangeSpec := { name := "storeLast", fn := fun _ => fun
  | [d1, d2, d3] => { results := [.lit (.bool false)], args := [d1, d2, d3] }
  | _ => none }
def StoreLastWrongFalsely : Prop := storeLastRow.holds Try.pinned (OpenSpec.ofChange storeLastWrong)

/-- 'spinetlaw25.ImageBoots': WHATEVER THE INPUT: true; the input reads as it did. -/
def imageBootsSpec : ChangeSpec := { name := "imageBoots", fn := fun _ => fun
  | [d1, d2, d3] => { results := [.lit (.bool true)], args := [d1, d2, d3] }
  | _ => none }
def imageBootsRow : OpenClaim := { program := "ytbnlfopghmeacaa", sum := "340577876d3849850c32cb778abb7b6802b3513f5c1db0646eba8c2d144ba48b", func := "spinet/spinetlaw25.ImageBoots", spec := "imageBoots", plainKeys := false, apart := false }
def ImageBootsSaid : Prop := imageBootsRow.holds Try.pinned (OpenSpec.ofChange imageBootsSpec)

/-- ITS FALSE NEIGHBOUR: 'it returns false'. Refute it at one input. -/
def imageBootsWrong : ChangeSpec := { name := "imageBoots", fn := fun _ => fun
  | [d1, d2, d3] => { results := [.lit (.bool false)], args := [d1, d2, d3] }
  | _ => none }
def ImageBootsWrongFalsely : Prop := imageBootsRow.holds Try.pinned (OpenSpec.ofChange imageBootsWrong)

/- THE SECOND FORM. 'bulk': how many values and letters a reading holds, each counted each time it is reached (what is shared counts as often as it is met; a slice's spare places count too). A statement '..UptoSaid' is the law's where the arguments, and the package variables that the reading takes, are together of bulk at most 1048576: NARROWER than '..Said'. Prove '..Said' where nothing that the law and all that it calls make is longer than what came in: it says more and counts as full. Else prove '..UptoSaid'. A law counts once. -/
mutual
def uptoBulk {H : Type} : DataW H → Nat
  | .lit (.string bytes) => bytes.length + 1
  | .lit _ => 1
  | .nil => 1
  | .ptr d => uptoBulk d + 1
  | .slice elems spare => uptoBulkAll elems + uptoBulkAll spare + 1
  | .agg parts => uptoBulkAll parts + 1
  | .iface _ d => uptoBulk d + 1
  | .map entries => uptoBulkEntries entries + 1
  | .held _ => 1
def uptoBulkAll {H : Type} : List (DataW H) → Nat
  | [] => 0
  | d :: r => uptoBulk d + uptoBulkAll r
def uptoBulkEntries {H : Type} : List (Lit × DataW H) → Nat
  | [] => 0
  | x :: r => uptoBulkEntry x + uptoBulkEntries r
def uptoBulkEntry {H : Type} : Lit × DataW H → Nat
  | (.string bytes, d) => bytes.length + uptoBulk d + 1
  | (_, d) => uptoBulk d + 1
 end
def uptoSmall : (H : Type) → List (DataW H) → Bool := fun _ ds => decide (uptoBulkAll ds ≤ 1048576)
def OpenSpec.upto (s : _root_.Go.ChangeSpec) : _root_.Go.OpenSpec := { _root_.Go.OpenSpec.ofChange s with cond := some uptoSmall }

/-- 'spinetlaw01.BitsExtends', WHERE WHAT IT READS IS OF BULK AT MOST 1048576: true; the input reads as it did. -/
def bitsExtendsUptoRow : OpenClaim := { program := "ytbnlfopghmeacaa", sum := "340577876d3849850c32cb778abb7b6802b3513f5c1db0646eba8c2d144ba48b", func := "spinet/spinetlaw01.BitsExtends", spec := "bitsExtends", plainKeys := false, apart := false, narrowed := true }
def BitsExtendsUptoSaid : Prop := bitsExtendsUptoRow.holds Try.pinned (OpenSpec.upto bitsExtendsSpec)

/-- 'spinetlaw01.BitsMoves', WHERE WHAT IT READS IS OF BULK AT MOST 1048576: true; the input reads as it did. -/
def bitsMovesUptoRow : OpenClaim := { program := "ytbnlfopghmeacaa", sum := "340577876d3849850c32cb778abb7b6802b3513f5c1db0646eba8c2d144ba48b", func := "spinet/spinetlaw01.BitsMoves", spec := "bitsMoves", plainKeys := false, apart := false, narrowed := true }
def BitsMovesUptoSaid : Prop := bitsMovesUptoRow.holds Try.pinned (OpenSpec.upto bitsMovesSpec)

/-- 'spinetlaw01.BitsTurns', WHERE WHAT IT READS IS OF BULK AT MOST 1048576: true; the input reads as it did. -/
def bitsTurnsUptoRow : OpenClaim := { program := "ytbnlfopghmeacaa", sum := "340577876d3849850c32cb778abb7b6802b3513f5c1db0646eba8c2d144ba48b", func := "spinet/spinetlaw01.BitsTurns", spec := "bitsTurns", plainKeys := false, apart := false, narrowed := true }
def BitsTurnsUptoSaid : Prop := bitsTurnsUptoRow.holds Try.pinned (OpenSpec.upto bitsTurnsSpec)

/-- 'spinetlaw01.BitsSigns', WHERE WHAT IT READS IS OF BULK AT MOST 1048576: true; the input reads as it did. -/
def bitsSignsUptoRow : OpenClaim := { program := "ytbnlfopghmeacaa", sum := "340577876d3849850c32cb778abb7b6802b3513f5c1db0646eba8c2d144ba48b", func := "spinet/spinetlaw01.BitsSigns", spec := "bitsSigns", plainKeys := false, apart := false, narrowed := true }
def BitsSignsUptoSaid : Prop := bitsSignsUptoRow.holds Try.pinned (OpenSpec.upto bitsSignsSpec)

/-- 'spinetlaw01.BitsFits', WHERE WHAT IT READS IS OF BULK AT MOST 1048576: true; the input reads as it did. -/
def bitsFitsUptoRow : OpenClaim := { program := "ytbnlfopghmeacaa", sum := "340577876d3849850c32cb778abb7b6802b3513f5c1db0646eba8c2d144ba48b", func := "spinet/spinetlaw01.BitsFits", spec := "bitsFits", plainKeys := false, apart := false, narrowed := true }
def BitsFitsUptoSaid : Prop := bitsFitsUptoRow.holds Try.pinned (OpenSpec.upto bitsFitsSpec)

/-- 'spinetlaw01.BitsCuts', WHERE WHAT IT READS IS OF BULK AT MOST 1048576: true; the input reads as it did. -/
def bitsCutsUptoRow : OpenClaim := { program := "ytbnlfopghmeacaa", sum := "340577876d3849850c32cb778abb7b6802b3513f5c1db0646eba8c2d144ba48b", func := "spinet/spinetlaw01.BitsCuts", spec := "bitsCuts", plainKeys := false, apart := false, narrowed := true }
def BitsCutsUptoSaid : Prop := bitsCutsUptoRow.holds Try.pinned (OpenSpec.upto bitsCutsSpec)

/-- 'spinetlaw01.BitsKeeps', WHERE WHAT IT READS IS OF BULK AT MOST 1048576: true; the input reads as it did. -/
def bitsKeepsUptoRow : OpenClaim := { program := "ytbnlfopghmeacaa", sum := "340577876d3849850c32cb778abb7b6802b3513f5c1db0646eba8c2d144ba48b", func := "spinet/spinetlaw01.BitsKeeps", spec := "bitsKeeps", plainKeys := false, apart := false, narrowed := true }
def BitsKeepsUptoSaid : Prop := bitsKeepsUptoRow.holds Try.pinned (OpenSpec.upto bitsKeepsSpec)

/-- 'spinetlaw07.StoreNames', WHERE WHAT IT READS IS OF BULK AT MOST 1048576: true; the input reads as it did. -/
def storeNamesUptoRow : OpenClaim := { program := "ytbnlfopghmeacaa", sum := "340577876d3849850c32cb778abb7b6802b3513f5c1db0646eba8c2d144ba48b", func := "spinet/spinetlaw07.StoreNames", spec := "storeNames", plainKeys := false, apart := false, narrowed := true }
def StoreNamesUptoSaid : Prop := storeNamesUptoRow.holds Try.pinned (OpenSpec.upto storeNamesSpec)

/-- 'spinetlaw07.StoreLast', WHERE WHAT IT READS IS OF BULK AT MOST 1048576: true; the input reads as it did. -/
def storeLastUptoRow : OpenClaim := { program := "ytbnlfopghmeacaa", sum := "340577876d3849850c32cb778abb7b6802b3513f5c1db0646eba8c2d144ba48b", func := "spinet/spinetlaw07.StoreLast", spec := "storeLast", plainKeys := false, apart := false, narrowed := true }
def StoreLastUptoSaid : Prop := storeLastUptoRow.holds Try.pinned (OpenSpec.upto storeLastSpec)

/-- 'spinetlaw25.ImageBoots', WHERE WHAT IT READS IS OF BULK AT MOST 1048576: true; the input reads as it did. -/
def imageBootsUptoRow : OpenClaim := { program := "ytbnlfopghmeacaa", sum := "340577876d3849850c32cb778abb7b6802b3513f5c1db0646eba8c2d144ba48b", func := "spinet/spinetlaw25.ImageBoots", spec := "imageBoots", plainKeys := false, apart := false, narrowed := true }
def ImageBootsUptoSaid : Prop := imageBootsUptoRow.holds Try.pinned (OpenSpec.upto imageBootsSpec)

end Rows
end Go.Proofs.Ytbnlfopghmeacaa
