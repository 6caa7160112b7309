/-
  No cell of these rows narrows 'for every input' (looked for: loops, veiled, ifaces, maps, wideKeys, modest, calm, conditions, laid).
  DERIVED. THE GIVEN ROWS OF THIS SEAT. 9 by the template 'for every input the law returns true; each argument reads behind the call as it read before'; 0 by the template 'total and deterministic' (their statements: YtlihcdhcljljoaaTotals.lean).
  GIVEN WITH THE SEED: the statements are not yours to turn. If you find one false, say at which input.
  Laid BY PROGRAM, IN A SANDBOX (cutbox-rows.mjs): the forced cells as the released guide's own fill.sh prints them over the translation 324710e927a39f85… (all of the seat's roots in one cut). By AI agents, Wed Nov 11 2026. No macro, syntax, notation, axiom, sorry.
-/
import Derived.Test.YtlihcdhcljljoaaChecked
import GoSem.Claim
import GoSem.ClaimJoined
import GoSem.ClaimMapViews
import Derived.JoinedTies
import Derived.KernelRfl
namespace Go.Proofs.Ytlihcdhcljljoaa
/- THE CELL 'sum', in the pinned program and in every row, IS THE sha256 OF THE DUMP (.gsa) THAT YtlihcdhcljljoaaProg.lean LOADS. Nothing in Lean hashes anything: it is a label: what it is worth is what the hold of that sum in a sandbox is worth. -/
noncomputable def Try.pinned : Pinned := { name := "ytlihcdhcljljoaa", sum := "324710e927a39f851d28271940124c96bd9ca11cf221ef26ec4d39cec5787657", checked := Try.checked }
namespace Rows
def none {H : Type} : Left H := { results := [], args := [] }

/-- 'spinetlaw25.ImageJumps': WHATEVER THE INPUT: true; the input reads as it did. -/
def imageJumpsSpec : ChangeSpec := { name := "imageJumps", fn := fun _ => fun
  | [d1, d2, d3] => { results := [.lit (.bool true)], args := [d1, d2, d3] }
  | _ => none }
def imageJumpsRow : OpenClaim := { program := "ytlihcdhcljljoaa", sum := "324710e927a39f851d28271940124c96bd9ca11cf221ef26ec4d39cec5787657", func := "spinet/spinetlaw25.ImageJumps", spec := "imageJumps", plainKeys := false, apart := false }
def ImageJumpsSaid : Prop := imageJumpsRow.holds Try.pinned (OpenSpec.ofChange imageJumpsSpec)

/-- ITS FALSE NEIGHBOUR: 'it returns false'. Refute it at one input. -/
def imageJumpsWrong : ChangeSpec := { name := "imageJumps", fn := fun _ => fun
  | [d1, d2, d3] => { results := [.lit (.bool false)], args := [d1, d2, d3] }
  | _ => none }
def ImageJumpsWrongFalsely : Prop := imageJumpsRow.holds Try.pinned (OpenSpec.ofChange imageJumpsWrong)

/-- 'spinetlaw22.FixupLinks': WHATEVER THE INPUT: true; the input reads as it did. -/
def fixupLinksSpec : ChangeSpec := { name := "fixupLinks", fn := fun _ => fun
  | [d1, d2] => { results := [.lit (.bool true)], args := [d1, d2] }
  | _ => none }
def fixupLinksRow : OpenClaim := { program := "ytlihcdhcljljoaa", sum := "324710e927a39f851d28271940124c96bd9ca11cf221ef26ec4d39cec5787657", func := "spinet/spinetlaw22.FixupLinks", spec := "fixupLinks", plainKeys := false, apart := false }
def FixupLinksSaid : Prop := fixupLinksRow.holds Try.pinned (OpenSpec.ofChange fixupLinksSpec)

/-- ITS FALSE NEIGHBOUR: 'it returns false'. Refute it at one input. -/
def fixupLinksWrong : ChangeSpec := { name := "fixupLinks", fn := fun _ => fun
  | [d1, d2] => { results := [.lit (.bool false)], args := [d1, d2] }
  | _ => none }
def FixupLinksWrongFalsely : Prop := fixupLinksRow.holds Try.pinned (OpenSpec.ofChange fixupLinksWrong)

/-- 'spinetlaw22.FixupChains': WHATEVER THE INPUT: true; the input reads as it did. -/
def fixupChainsSpec : ChangeSpec := { name := "fixupChains", fn := fun _ => fun
  | [d1, d2] => { results := [.lit (.bool true)], args := [d1, d2] }
  | _ => none }
def fixupChainsRow : OpenClaim := { program := "ytlihcdhcljljoaa", sum := "324710e927a39f851d28271940124c96bd9ca11cf221ef26ec4d39cec5787657", func := "spinet/spinetlaw22.FixupChains", spec := "fixupChains", plainKeys := false, apart := false }
def FixupChainsSaid : Prop := fixupChainsRow.holds Try.pinned (OpenSpec.ofChange fixupChainsSpec)

/-- ITS FALSE NEIGHBOUR: 'it returns false'. Refute it at one input. -/
def fixupChainsWrong : ChangeSpec := { name := "fixupChains", fn := fun _ => fun
  | [d1, d2] => { results := [.lit (.bool false)], args := [d1, d2] }
  | _ => none }
def FixupChainsWrongFalsely : Prop := fixupChainsRow.holds Try.pinned (OpenSpec.ofChange fixupChainsWrong)

/-- 'spinetlaw22.FixupKeeps': WHATEVER THE INPUT: true; the input reads as it did. -/
def fixupKeepsSpec : ChangeSpec := { name := "fixupKeeps", fn := fun _ => fun
  | [d1, d2, d3] => { results := [.lit (.bool true)], args := [d1, d2, d3] }
  | _ => none }
def fixupKeepsRow : OpenClaim := { program := "ytlihcdhcljljoaa", sum := "324710e927a39f851d28271940124c96bd9ca11cf221ef26ec4d39cec5787657", func := "spinet/spinetlaw22.FixupKeeps", spec := "fixupKeeps", plainKeys := false, apart := false }
def FixupKeepsSaid : Prop := fixupKeepsRow.holds Try.pinned (OpenSpec.ofChange fixupKeepsSpec)

/-- ITS FALSE NEIGHBOUR: 'it returns false'. Refute it at one input. -/
def fixupKeepsWrong : ChangeSpec := { name := "fixupKeeps", fn := fun _ => fun
  | [d1, d2, d3] => { results := [.lit (.bool false)], args := [d1, d2, d3] }
  | _ => none }
def FixupKeepsWrongFalsely : Prop := fixupKeepsRow.holds Try.pinned (OpenSpec.ofChange fixupKeepsWrong)

/-- 'spinetlaw22.FixupBack': WHATEVER THE INPUT: true; the input reads as it did. -/
def fixupBackSpec : ChangeSpec := { name := "fixupBack", fn := fun _ => fun
  | [d] => { results := [.lit (.bool true)], args := [d] }
  | _ => none }
def fixupBackRow : OpenClaim := { program := "ytlihcdhcljljoaa", sum := "324710e927a39f851d28271940124c96bd9ca11cf221ef26ec4d39cec5787657", func := "spinet/spinetlaw22.FixupBack", spec := "fixupBack", plainKeys := false, apart := false }
def FixupBackSaid : Prop := fixupBackRow.holds Try.pinned (OpenSpec.ofChange fixupBackSpec)

/-- ITS FALSE NEIGHBOUR: 'it returns false'. Refute it at one input. -/
def fixupBackWrong : ChangeSpec := { name := "fixupBack", fn := fun _ => fun
  | [d] => { results := [.lit (.bool false)], args := [d] }
  | _ => none }
def FixupBackWrongFalsely : Prop := fixupBackRow.holds Try.pinned (OpenSpec.ofChange fixupBackWrong)

/-- 'spinetlaw22.FixupMoved': WHATEVER THE INPUT: true; the input reads as it did. -/
def fixupMovedSpec : ChangeSpec := { name := "fixupMoved", fn := fun _ => fun
  | [d1, d2, d3] => { results := [.lit (.bool true)], args := [d1, d2, d3] }
  | _ => none }
def fixupMovedRow : OpenClaim := { program := "ytlihcdhcljljoaa", sum := "324710e927a39f851d28271940124c96bd9ca11cf221ef26ec4d39cec5787657", func := "spinet/spinetlaw22.FixupMoved", spec := "fixupMoved", plainKeys := false, apart := false }
def FixupMovedSaid : Prop := fixupMovedRow.holds Try.pinned (OpenSpec.ofChange fixupMovedSpec)

/-- ITS FALSE NEIGHBOUR: 'it returns false'. Refute it at one input. -/
def fixupMovedWrong : ChangeSpec := { name := "fixupMoved", fn := fun _ => fun
  | [d1, d2, d3] => { results := [.lit (.bool false)], args := [d1, d2, d3] }
  | _ => none }
def FixupMovedWrongFalsely : Prop := fixupMovedRow.holds Try.pinned (OpenSpec.ofChange fixupMovedWrong)

/-- 'spinetlaw07.StoreFull': WHATEVER THE INPUT: true; the input reads as it did. -/
def storeFullSpec : ChangeSpec := { name := "storeFull", fn := fun _ => fun
  | [d] => { results := [.lit (.bool true)], args := [d] }
  | _ => none }
def storeFullRow : OpenClaim := { program := "ytlihcdhcljljoaa", sum := "324710e927a39f851d28271940124c96bd9ca11cf221ef26ec4d39cec5787657", func := "spinet/spinetlaw07.StoreFull", spec := "storeFull", recurses := true, plainKeys := false, apart := false }
def StoreFullSaid : Prop := storeFullRow.holds Try.pinned (OpenSpec.ofChange storeFullSpec)

/-- ITS FALSE NEIGHBOUR: 'it returns false'. Refute it at one input. -/
def storeFullWrong : ChangeSpec := { name := "storeFull", fn := fun _ => fun
  | [d] => { results := [.lit (.bool false)], args := [d] }
  | _ => none }
def StoreFullWrongFalsely : Prop := storeFullRow.holds Try.pinned (OpenSpec.ofChange storeFullWrong)

/-- 'spinetlaw07.StorePlays': WHATEVER THE INPUT: true; the input reads as it did. -/
def storePlaysSpec : ChangeSpec := { name := "storePlays", fn := fun _ => fun
  | [d] => { results := [.lit (.bool true)], args := [d] }
  | _ => none }
def storePlaysRow : OpenClaim := { program := "ytlihcdhcljljoaa", sum := "324710e927a39f851d28271940124c96bd9ca11cf221ef26ec4d39cec5787657", func := "spinet/spinetlaw07.StorePlays", spec := "storePlays", recurses := true, plainKeys := false, apart := false }
def StorePlaysSaid : Prop := storePlaysRow.holds Try.pinned (OpenSpec.ofChange storePlaysSpec)

/-- ITS FALSE NEIGHBOUR: 'it returns false'. Refute it at one input. -/
def storePlaysWrong : ChangeSpec := { name := "storePlays", fn := fun _ => fun
  | [d] => { results := [.lit (.bool false)], args := [d] }
  | _ => none }
def StorePlaysWrongFalsely : Prop := storePlaysRow.holds Try.pinned (OpenSpec.ofChange storePlaysWrong)

/-- 'spinetlaw07.StoreForks': WHATEVER THE INPUT: true; the input reads as it did. -/
def storeForksSpec : ChangeSpec := { name := "storeForks", fn := fun _ => fun
  | [d1, d2, d3] => { results := [.lit (.bool true)], args := [d1, d2, d3] }
  | _ => none }
def storeForksRow : OpenClaim := { program := "ytlihcdhcljljoaa", sum := "324710e927a39f851d28271940124c96bd9ca11cf221ef26ec4d39cec5787657", func := "spinet/spinetlaw07.StoreForks", spec := "storeForks", recurses := true, plainKeys := false, apart := false }
def StoreForksSaid : Prop := storeForksRow.holds Try.pinned (OpenSpec.ofChange storeForksSpec)

/-- ITS FALSE NEIGHBOUR: 'it returns false'. Refute it at one input. -/
def storeForksWrong : ChangeSpec := { name := "storeForks", fn := fun _ => fun
  | [d1, d2, d3] => { results := [.lit (.bool false)], args := [d1, d2, d3] }
  | _ => none }
def StoreForksWrongFalsely : Prop := storeForksRow.holds Try.pinned (OpenSpec.ofChange storeForksWrong)

/- THE SECOND FORM. 'bulk': how many values and letters a reading holds, each counted each time it is reached (what is shared counts as often as it is met; a slice's spare places count too). A statement '..UptoSaid' is the law's where the arguments, and the package variables that the reading takes, are together of bulk at most 1048576: NARROWER than '..Said'. Prove '..Said' where nothing that the law and all that it calls make is longer than what came in: it says more and counts as full. Else prove '..UptoSaid'. A law counts once. -/
mutual
def uptoBulk {H : Type} : DataW H → Nat
  | .lit (.string bytes) => bytes.length + 1
  | .lit _ => 1
  | .nil => 1
  | .ptr d => uptoBulk d + 1
  | .slice elems spare => uptoBulkAll elems + uptoBulkAll spare + 1
  | .agg parts => uptoBulkAll parts + 1
  | .iface _ d => uptoBulk d + 1
  | .map entries => uptoBulkEntries entries + 1
  | .held _ => 1
def uptoBulkAll {H : Type} : List (DataW H) → Nat
  | [] => 0
  | d :: r => uptoBulk d + uptoBulkAll r
def uptoBulkEntries {H : Type} : List (Lit × DataW H) → Nat
  | [] => 0
  | x :: r => uptoBulkEntry x + uptoBulkEntries r
def uptoBulkEntry {H : Type} : Lit × DataW H → Nat
  | (.string bytes, d) => bytes.length + uptoBulk d + 1
  | (_, d) => uptoBulk d + 1
 end
def uptoSmall : (H : Type) → List (DataW H) → Bool := fun _ ds => decide (uptoBulkAll ds ≤ 1048576)
def OpenSpec.upto (s : _root_.Go.ChangeSpec) : _root_.Go.OpenSpec := { _root_.Go.OpenSpec.ofChange s with cond := some uptoSmall }

/-- 'spinetlaw25.ImageJumps', WHERE WHAT IT READS IS OF BULK AT MOST 1048576: true; the input reads as it did. -/
def imageJumpsUptoRow : OpenClaim := { program := "ytlihcdhcljljoaa", sum := "324710e927a39f851d28271940124c96bd9ca11cf221ef26ec4d39cec5787657", func := "spinet/spinetlaw25.ImageJumps", spec := "imageJumps", plainKeys := false, apart := false, narrowed := true }
def ImageJumpsUptoSaid : Prop := imageJumpsUptoRow.holds Try.pinned (OpenSpec.upto imageJumpsSpec)

/-- 'spinetlaw22.FixupLinks', WHERE WHAT IT READS IS OF BULK AT MOST 1048576: true; the input reads as it did. -/
def fixupLinksUptoRow : OpenClaim := { program := "ytlihcdhcljljoaa", sum := "324710e927a39f851d28271940124c96bd9ca11cf221ef26ec4d39cec5787657", func := "spinet/spinetlaw22.FixupLinks", spec := "fixupLinks", plainKeys := false, apart := false, narrowed := true }
def FixupLinksUptoSaid : Prop := fixupLinksUptoRow.holds Try.pinned (OpenSpec.upto fixupLinksSpec)

/-- 'spinetlaw22.FixupChains', WHERE WHAT IT READS IS OF BULK AT MOST 1048576: true; the input reads as it did. -/
def fixupChainsUptoRow : OpenClaim := { program := "ytlihcdhcljljoaa", sum := "324710e927a39f851d28271940124c96bd9ca11cf221ef26ec4d39cec5787657", func := "spinet/spinetlaw22.FixupChains", spec := "fixupChains", plainKeys := false, apart := false, narrowed := true }
def FixupChainsUptoSaid : Prop := fixupChainsUptoRow.holds Try.pinned (OpenSpec.upto fixupChainsSpec)

/-- 'spinetlaw22.FixupKeeps', WHERE WHAT IT READS IS OF BULK AT MOST 1048576: true; the input reads as it did. -/
def fixupKeepsUptoRow : OpenClaim := { program := "ytlihcdhcljljoaa", sum := "324710e927a39f851d28271940124c96bd9ca11cf221ef26ec4d39cec5787657", func := "spinet/spinetlaw22.FixupKeeps", spec := "fixupKeeps", plainKeys := false, apart := false, narrowed := true }
def FixupKeepsUptoSaid : Prop := fixupKeepsUptoRow.holds Try.pinned (OpenSpec.upto fixupKeepsSpec)

/-- 'spinetlaw22.FixupBack', WHERE WHAT IT READS IS OF BULK AT MOST 1048576: true; the input reads as it did. -/
def fixupBackUptoRow : OpenClaim := { program := "ytlihcdhcljljoaa", sum := "324710e927a39f851d28271940124c96bd9ca11cf221ef26ec4d39cec5787657", func := "spinet/spinetlaw22.FixupBack", spec := "fixupBack", plainKeys := false, apart := false, narrowed := true }
def FixupBackUptoSaid : Prop := fixupBackUptoRow.holds Try.pinned (OpenSpec.upto fixupBackSpec)

/-- 'spinetlaw22.FixupMoved', WHERE WHAT IT READS IS OF BULK AT MOST 1048576: true; the input reads as it did. -/
def fixupMovedUptoRow : OpenClaim := { program := "ytlihcdhcljljoaa", sum := "324710e927a39f851d28271940124c96bd9ca11cf221ef26ec4d39cec5787657", func := "spinet/spinetlaw22.FixupMoved", spec := "fixupMoved", plainKeys := false, apart := false, narrowed := true }
def FixupMovedUptoSaid : Prop := fixupMovedUptoRow.holds Try.pinned (OpenSpec.upto fixupMovedSpec)

/-- 'spinetlaw07.StoreFull', WHERE WHAT IT READS IS OF BULK AT MOST 1048576: true; the input reads as it did. -/
def storeFullUptoRow : OpenClaim := { program := "ytlihcdhcljljoaa", sum := "324710e927a39f851d28271940124c96bd9ca11cf221ef26ec4d39cec5787657", func := "spinet/spinetlaw07.StoreFull", spec := "storeFull", recurses := true, plainKeys := false, apart := false, narrowed := true }
def StoreFullUptoSaid : Prop := storeFullUptoRow.holds Try.pinned (OpenSpec.upto storeFullSpec)

/-- 'spinetlaw07.StorePlays', WHERE WHAT IT READS IS OF BULK AT MOST 1048576: true; the input reads as it did. -/
def storePlaysUptoRow : OpenClaim := { program := "ytlihcdhcljljoaa", sum := "324710e927a39f851d28271940124c96bd9ca11cf221ef26ec4d39cec5787657", func := "spinet/spinetlaw07.StorePlays", spec := "storePlays", recurses := true, plainKeys := false, apart := false, narrowed := true }
def StorePlaysUptoSaid : Prop := storePlaysUptoRow.holds Try.pinned (OpenSpec.upto storePlaysSpec)

/-- 'spinetlaw07.StoreForks', WHERE WHAT IT READS IS OF BULK AT MOST 1048576: true; the input reads as it did. -/
def storeForksUptoRow : OpenClaim := { program := "ytlihcdhcljljoaa", sum := "324710e927a39f851d28271940124c96bd9ca11cf221ef26ec4d39cec5787657", func := "spinet/spinetlaw07.StoreForks", spec := "storeForks", recurses := true, plainKeys := false, apart := false, narrowed := true }
def StoreForksUptoSaid : Prop := storeForksUptoRow.holds Try.pinned (OpenSpec.upto storeForksSpec)

end Rows
end Go.Proofs.Ytlihcdhcljljoaa
