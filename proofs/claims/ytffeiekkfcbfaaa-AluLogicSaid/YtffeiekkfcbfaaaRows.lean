/-
  No cell of these rows narrows 'for every input' (looked for: loops, veiled, ifaces, maps, wideKeys, modest, calm, conditions, laid).
  DERIVED. THE GIVEN ROWS OF THIS SEAT. 12 by the template 'for every input the law returns true; each argument reads behind the call as it read before'; 0 by the template 'total and deterministic' (their statements: YtffeiekkfcbfaaaTotals.lean).
  GIVEN WITH THE SEED: the statements are not yours to turn. If you find one false, say at which input.
  Laid BY PROGRAM, IN A SANDBOX (cutbox-rows.mjs): the forced cells as the released guide's own fill.sh prints them over the translation 57139c1ae084b8b6… (all of the seat's roots in one cut). By AI agents, Wed Nov 11 2026. No macro, syntax, notation, axiom, sorry.
-/
import Derived.Test.YtffeiekkfcbfaaaChecked
import GoSem.Claim
import GoSem.ClaimJoined
import GoSem.ClaimMapViews
import Derived.JoinedTies
import Derived.KernelRfl
namespace Go.Proofs.Ytffeiekkfcbfaaa
/- THE CELL 'sum', in the pinned program and in every row, IS THE sha256 OF THE DUMP (.gsa) THAT YtffeiekkfcbfaaaProg.lean LOADS. Nothing in Lean hashes anything: it is a label: what it is worth is what the hold of that sum in a sandbox is worth. -/
noncomputable def Try.pinned : Pinned := { name := "ytffeiekkfcbfaaa", sum := "57139c1ae084b8b6d1c0ed9fae6d128f21919bfe2215f048a7b59d7287fd7737", checked := Try.checked }
namespace Rows
def none {H : Type} : Left H := { results := [], args := [] }

/-- 'spinetlaw02.RiscEncodes': WHATEVER THE INPUT: true; the input reads as it did. -/
def riscEncodesSpec : ChangeSpec := { name := "riscEncodes", fn := fun _ => fun
  | [d] => { results := [.lit (.bool true)], args := [d] }
  | _ => none }
def riscEncodesRow : OpenClaim := { program := "ytffeiekkfcbfaaa", sum := "57139c1ae084b8b6d1c0ed9fae6d128f21919bfe2215f048a7b59d7287fd7737", func := "spinet/spinetlaw02.RiscEncodes", spec := "riscEncodes", apart := false }
def RiscEncodesSaid : Prop := riscEncodesRow.holds Try.pinned (OpenSpec.ofChange riscEncodesSpec)

/-- ITS FALSE NEIGHBOUR: 'it returns false'. Refute it at one input. -/
def riscEncodesWrong : ChangeSpec := { name := "riscEncodes", fn := fun _ => fun
  | [d] => { results := [.lit (.bool false)], args := [d] }
  | _ => none }
def RiscEncodesWrongFalsely : Prop := riscEncodesRow.holds Try.pinned (OpenSpec.ofChange riscEncodesWrong)

/-- 'spinetlaw02.RiscDecodes': WHATEVER THE INPUT: true; the input reads as it did. -/
def riscDecodesSpec : ChangeSpec := { name := "riscDecodes", fn := fun _ => fun
  | [d] => { results := [.lit (.bool true)], args := [d] }
  | _ => none }
def riscDecodesRow : OpenClaim := { program := "ytffeiekkfcbfaaa", sum := "57139c1ae084b8b6d1c0ed9fae6d128f21919bfe2215f048a7b59d7287fd7737", func := "spinet/spinetlaw02.RiscDecodes", spec := "riscDecodes", apart := false }
def RiscDecodesSaid : Prop := riscDecodesRow.holds Try.pinned (OpenSpec.ofChange riscDecodesSpec)

/-- ITS FALSE NEIGHBOUR: 'it returns false'. Refute it at one input. -/
def riscDecodesWrong : ChangeSpec := { name := "riscDecodes", fn := fun _ => fun
  | [d] => { results := [.lit (.bool false)], args := [d] }
  | _ => none }
def RiscDecodesWrongFalsely : Prop := riscDecodesRow.holds Try.pinned (OpenSpec.ofChange riscDecodesWrong)

/-- 'spinetlaw02.RiscBack': WHATEVER THE INPUT: true; the input reads as it did. -/
def riscBackSpec : ChangeSpec := { name := "riscBack", fn := fun _ => fun
  | [d1, d2] => { results := [.lit (.bool true)], args := [d1, d2] }
  | _ => none }
def riscBackRow : OpenClaim := { program := "ytffeiekkfcbfaaa", sum := "57139c1ae084b8b6d1c0ed9fae6d128f21919bfe2215f048a7b59d7287fd7737", func := "spinet/spinetlaw02.RiscBack", spec := "riscBack", apart := false }
def RiscBackSaid : Prop := riscBackRow.holds Try.pinned (OpenSpec.ofChange riscBackSpec)

/-- ITS FALSE NEIGHBOUR: 'it returns false'. Refute it at one input. -/
def riscBackWrong : ChangeSpec := { name := "riscBack", fn := fun _ => fun
  | [d1, d2] => { results := [.lit (.bool false)], args := [d1, d2] }
  | _ => none }
def RiscBackWrongFalsely : Prop := riscBackRow.holds Try.pinned (OpenSpec.ofChange riscBackWrong)

/-- 'spinetlaw02.RiscJumps': WHATEVER THE INPUT: true; the input reads as it did. -/
def riscJumpsSpec : ChangeSpec := { name := "riscJumps", fn := fun _ => fun
  | [d1, d2, d3] => { results := [.lit (.bool true)], args := [d1, d2, d3] }
  | _ => none }
def riscJumpsRow : OpenClaim := { program := "ytffeiekkfcbfaaa", sum := "57139c1ae084b8b6d1c0ed9fae6d128f21919bfe2215f048a7b59d7287fd7737", func := "spinet/spinetlaw02.RiscJumps", spec := "riscJumps", apart := false }
def RiscJumpsSaid : Prop := riscJumpsRow.holds Try.pinned (OpenSpec.ofChange riscJumpsSpec)

/-- ITS FALSE NEIGHBOUR: 'it returns false'. Refute it at one input. -/
def riscJumpsWrong : ChangeSpec := { name := "riscJumps", fn := fun _ => fun
  | [d1, d2, d3] => { results := [.lit (.bool false)], args := [d1, d2, d3] }
  | _ => none }
def RiscJumpsWrongFalsely : Prop := riscJumpsRow.holds Try.pinned (OpenSpec.ofChange riscJumpsWrong)

/-- 'spinetlaw02.RiscFields': WHATEVER THE INPUT: true; the input reads as it did. -/
def riscFieldsSpec : ChangeSpec := { name := "riscFields", fn := fun _ => fun
  | [d1, d2] => { results := [.lit (.bool true)], args := [d1, d2] }
  | _ => none }
def riscFieldsRow : OpenClaim := { program := "ytffeiekkfcbfaaa", sum := "57139c1ae084b8b6d1c0ed9fae6d128f21919bfe2215f048a7b59d7287fd7737", func := "spinet/spinetlaw02.RiscFields", spec := "riscFields", apart := false }
def RiscFieldsSaid : Prop := riscFieldsRow.holds Try.pinned (OpenSpec.ofChange riscFieldsSpec)

/-- ITS FALSE NEIGHBOUR: 'it returns false'. Refute it at one input. -/
def riscFieldsWrong : ChangeSpec := { name := "riscFields", fn := fun _ => fun
  | [d1, d2] => { results := [.lit (.bool false)], args := [d1, d2] }
  | _ => none }
def RiscFieldsWrongFalsely : Prop := riscFieldsRow.holds Try.pinned (OpenSpec.ofChange riscFieldsWrong)

/-- 'spinetlaw02.RiscForms': WHATEVER THE INPUT: true; the input reads as it did. -/
def riscFormsSpec : ChangeSpec := { name := "riscForms", fn := fun _ => fun
  | [d] => { results := [.lit (.bool true)], args := [d] }
  | _ => none }
def riscFormsRow : OpenClaim := { program := "ytffeiekkfcbfaaa", sum := "57139c1ae084b8b6d1c0ed9fae6d128f21919bfe2215f048a7b59d7287fd7737", func := "spinet/spinetlaw02.RiscForms", spec := "riscForms", apart := false }
def RiscFormsSaid : Prop := riscFormsRow.holds Try.pinned (OpenSpec.ofChange riscFormsSpec)

/-- ITS FALSE NEIGHBOUR: 'it returns false'. Refute it at one input. -/
def riscFormsWrong : ChangeSpec := { name := "riscForms", fn := fun _ => fun
  | [d] => { results := [.lit (.bool false)], args := [d] }
  | _ => none }
def RiscFormsWrongFalsely : Prop := riscFormsRow.holds Try.pinned (OpenSpec.ofChange riscFormsWrong)

/-- 'spinetlaw03.AluDoes': WHATEVER THE INPUT: true; the input reads as it did. -/
def aluDoesSpec : ChangeSpec := { name := "aluDoes", fn := fun _ => fun
  | [d] => { results := [.lit (.bool true)], args := [d] }
  | _ => none }
def aluDoesRow : OpenClaim := { program := "ytffeiekkfcbfaaa", sum := "57139c1ae084b8b6d1c0ed9fae6d128f21919bfe2215f048a7b59d7287fd7737", func := "spinet/spinetlaw03.AluDoes", spec := "aluDoes", apart := false }
def AluDoesSaid : Prop := aluDoesRow.holds Try.pinned (OpenSpec.ofChange aluDoesSpec)

/-- ITS FALSE NEIGHBOUR: 'it returns false'. Refute it at one input. -/
def aluDoesWrong : ChangeSpec := { name := "aluDoes", fn := fun _ => fun
  | [d] => { results := [.lit (.bool false)], args := [d] }
  | _ => none }
def AluDoesWrongFalsely : Prop := aluDoesRow.holds Try.pinned (OpenSpec.ofChange aluDoesWrong)

/-- 'spinetlaw03.AluHolds': WHATEVER THE INPUT: true; the input reads as it did. -/
def aluHoldsSpec : ChangeSpec := { name := "aluHolds", fn := fun _ => fun
  | [d1, d2] => { results := [.lit (.bool true)], args := [d1, d2] }
  | _ => none }
def aluHoldsRow : OpenClaim := { program := "ytffeiekkfcbfaaa", sum := "57139c1ae084b8b6d1c0ed9fae6d128f21919bfe2215f048a7b59d7287fd7737", func := "spinet/spinetlaw03.AluHolds", spec := "aluHolds", apart := false }
def AluHoldsSaid : Prop := aluHoldsRow.holds Try.pinned (OpenSpec.ofChange aluHoldsSpec)

/-- ITS FALSE NEIGHBOUR: 'it returns false'. Refute it at one input. -/
def aluHoldsWrong : ChangeSpec := { name := "aluHolds", fn := fun _ => fun
  | [d1, d2] => { results := [.lit (.bool false)], args := [d1, d2] }
  | _ => none }
def AluHoldsWrongFalsely : Prop := aluHoldsRow.holds Try.pinned (OpenSpec.ofChange aluHoldsWrong)

/-- 'spinetlaw03.AluCompares': WHATEVER THE INPUT: true; the input reads as it did. -/
def aluComparesSpec : ChangeSpec := { name := "aluCompares", fn := fun _ => fun
  | [d] => { results := [.lit (.bool true)], args := [d] }
  | _ => none }
def aluComparesRow : OpenClaim := { program := "ytffeiekkfcbfaaa", sum := "57139c1ae084b8b6d1c0ed9fae6d128f21919bfe2215f048a7b59d7287fd7737", func := "spinet/spinetlaw03.AluCompares", spec := "aluCompares", apart := false }
def AluComparesSaid : Prop := aluComparesRow.holds Try.pinned (OpenSpec.ofChange aluComparesSpec)

/-- ITS FALSE NEIGHBOUR: 'it returns false'. Refute it at one input. -/
def aluComparesWrong : ChangeSpec := { name := "aluCompares", fn := fun _ => fun
  | [d] => { results := [.lit (.bool false)], args := [d] }
  | _ => none }
def AluComparesWrongFalsely : Prop := aluComparesRow.holds Try.pinned (OpenSpec.ofChange aluComparesWrong)

/-- 'spinetlaw03.AluDivides': WHATEVER THE INPUT: true; the input reads as it did. -/
def aluDividesSpec : ChangeSpec := { name := "aluDivides", fn := fun _ => fun
  | [d1, d2, d3] => { results := [.lit (.bool true)], args := [d1, d2, d3] }
  | _ => none }
def aluDividesRow : OpenClaim := { program := "ytffeiekkfcbfaaa", sum := "57139c1ae084b8b6d1c0ed9fae6d128f21919bfe2215f048a7b59d7287fd7737", func := "spinet/spinetlaw03.AluDivides", spec := "aluDivides", apart := false }
def AluDividesSaid : Prop := aluDividesRow.holds Try.pinned (OpenSpec.ofChange aluDividesSpec)

/-- ITS FALSE NEIGHBOUR: 'it returns false'. Refute it at one input. -/
def aluDividesWrong : ChangeSpec := { name := "aluDivides", fn := fun _ => fun
  | [d1, d2, d3] => { results := [.lit (.bool false)], args := [d1, d2, d3] }
  | _ => none }
def AluDividesWrongFalsely : Prop := aluDividesRow.holds Try.pinned (OpenSpec.ofChange aluDividesWrong)

/-- 'spinetlaw03.AluWide': WHATEVER THE INPUT: true; the input reads as it did. -/
def aluWideSpec : ChangeSpec := { name := "aluWide", fn := fun _ => fun
  | [d] => { results := [.lit (.bool true)], args := [d] }
  | _ => none }
def aluWideRow : OpenClaim := { program := "ytffeiekkfcbfaaa", sum := "57139c1ae084b8b6d1c0ed9fae6d128f21919bfe2215f048a7b59d7287fd7737", func := "spinet/spinetlaw03.AluWide", spec := "aluWide", apart := false }
def AluWideSaid : Prop := aluWideRow.holds Try.pinned (OpenSpec.ofChange aluWideSpec)

/-- ITS FALSE NEIGHBOUR: 'it returns false'. Refute it at one input. -/
def aluWideWrong : ChangeSpec := { name := "aluWide", fn := fun _ => fun
  | [d] => { results := [.lit (.bool false)], args := [d] }
  | _ => none }
def AluWideWrongFalsely : Prop := aluWideRow.holds Try.pinned (OpenSpec.ofChange aluWideWrong)

/-- 'spinetlaw03.AluLogic': WHATEVER THE INPUT: true; the input reads as it did. -/
def aluLogicSpec : ChangeSpec := { name := "aluLogic", fn := fun _ => fun
  | [d] => { results := [.lit (.bool true)], args := [d] }
  | _ => none }
def aluLogicRow : OpenClaim := { program := "ytffeiekkfcbfaaa", sum := "57139c1ae084b8b6d1c0ed9fae6d128f21919bfe2215f048a7b59d7287fd7737", func := "spinet/spinetlaw03.AluLogic", spec := "aluLogic", apart := false }
def AluLogicSaid : Prop := aluLogicRow.holds Try.pinned (OpenSpec.ofChange aluLogicSpec)

/-- ITS FALSE NEIGHBOUR: 'it returns false'. Refute it at one input. -/
def aluLogicWrong : ChangeSpec := { name := "aluLogic", fn := fun _ => fun
  | [d] => { results := [.lit (.bool false)], args := [d] }
  | _ => none }
def AluLogicWrongFalsely : Prop := aluLogicRow.holds Try.pinned (OpenSpec.ofChange aluLogicWrong)

/- THE SECOND FORM. 'bulk': how many values and letters a reading holds, each counted each time it is reached (what is shared counts as often as it is met; a slice's spare places count too). A statement '..UptoSaid' is the law's where the arguments, and the package variables that the reading takes, are together of bulk at most 1048576: NARROWER than '..Said'. Prove '..Said' where nothing that the law and all that it calls make is longer than what came in: it says more and counts as full. Else prove '..UptoSaid'. A law counts once. -/
mutual
def uptoBulk {H : Type} : DataW H → Nat
  | .lit (.string bytes) => bytes.length + 1
  | .lit _ => 1
  | .nil => 1
  | .ptr d => uptoBulk d + 1
  | .slice elems spare => uptoBulkAll elems + uptoBulkAll spare + 1
  | .agg parts => uptoBulkAll parts + 1
  | .iface _ d => uptoBulk d + 1
  | .map entries => uptoBulkEntries entries + 1
  | .held _ => 1
def uptoBulkAll {H : Type} : List (DataW H) → Nat
  | [] => 0
  | d :: r => uptoBulk d + uptoBulkAll r
def uptoBulkEntries {H : Type} : List (Lit × DataW H) → Nat
  | [] => 0
  | x :: r => uptoBulkEntry x + uptoBulkEntries r
def uptoBulkEntry {H : Type} : Lit × DataW H → Nat
  | (.string bytes, d) => bytes.length + uptoBulk d + 1
  | (_, d) => uptoBulk d + 1
 end
def uptoSmall : (H : Type) → List (DataW H) → Bool := fun _ ds => decide (uptoBulkAll ds ≤ 1048576)
def OpenSpec.upto (s : _root_.Go.ChangeSpec) : _root_.Go.OpenSpec := { _root_.Go.OpenSpec.ofChange s with cond := some uptoSmall }

/-- 'spinetlaw02.RiscEncodes', WHERE WHAT IT READS IS OF BULK AT MOST 1048576: true; the input reads as it did. -/
def riscEncodesUptoRow : OpenClaim := { program := "ytffeiekkfcbfaaa", sum := "57139c1ae084b8b6d1c0ed9fae6d128f21919bfe2215f048a7b59d7287fd7737", func := "spinet/spinetlaw02.RiscEncodes", spec := "riscEncodes", apart := false, narrowed := true }
def RiscEncodesUptoSaid : Prop := riscEncodesUptoRow.holds Try.pinned (OpenSpec.upto riscEncodesSpec)

/-- 'spinetlaw02.RiscDecodes', WHERE WHAT IT READS IS OF BULK AT MOST 1048576: true; the input reads as it did. -/
def riscDecodesUptoRow : OpenClaim := { program := "ytffeiekkfcbfaaa", sum := "57139c1ae084b8b6d1c0ed9fae6d128f21919bfe2215f048a7b59d7287fd7737", func := "spinet/spinetlaw02.RiscDecodes", spec := "riscDecodes", apart := false, narrowed := true }
def RiscDecodesUptoSaid : Prop := riscDecodesUptoRow.holds Try.pinned (OpenSpec.upto riscDecodesSpec)

/-- 'spinetlaw02.RiscBack', WHERE WHAT IT READS IS OF BULK AT MOST 1048576: true; the input reads as it did. -/
def riscBackUptoRow : OpenClaim := { program := "ytffeiekkfcbfaaa", sum := "57139c1ae084b8b6d1c0ed9fae6d128f21919bfe2215f048a7b59d7287fd7737", func := "spinet/spinetlaw02.RiscBack", spec := "riscBack", apart := false, narrowed := true }
def RiscBackUptoSaid : Prop := riscBackUptoRow.holds Try.pinned (OpenSpec.upto riscBackSpec)

/-- 'spinetlaw02.RiscJumps', WHERE WHAT IT READS IS OF BULK AT MOST 1048576: true; the input reads as it did. -/
def riscJumpsUptoRow : OpenClaim := { program := "ytffeiekkfcbfaaa", sum := "57139c1ae084b8b6d1c0ed9fae6d128f21919bfe2215f048a7b59d7287fd7737", func := "spinet/spinetlaw02.RiscJumps", spec := "riscJumps", apart := false, narrowed := true }
def RiscJumpsUptoSaid : Prop := riscJumpsUptoRow.holds Try.pinned (OpenSpec.upto riscJumpsSpec)

/-- 'spinetlaw02.RiscFields', WHERE WHAT IT READS IS OF BULK AT MOST 1048576: true; the input reads as it did. -/
def riscFieldsUptoRow : OpenClaim := { program := "ytffeiekkfcbfaaa", sum := "57139c1ae084b8b6d1c0ed9fae6d128f21919bfe2215f048a7b59d7287fd7737", func := "spinet/spinetlaw02.RiscFields", spec := "riscFields", apart := false, narrowed := true }
def RiscFieldsUptoSaid : Prop := riscFieldsUptoRow.holds Try.pinned (OpenSpec.upto riscFieldsSpec)

/-- 'spinetlaw02.RiscForms', WHERE WHAT IT READS IS OF BULK AT MOST 1048576: true; the input reads as it did. -/
def riscFormsUptoRow : OpenClaim := { program := "ytffeiekkfcbfaaa", sum := "57139c1ae084b8b6d1c0ed9fae6d128f21919bfe2215f048a7b59d7287fd7737", func := "spinet/spinetlaw02.RiscForms", spec := "riscForms", apart := false, narrowed := true }
def RiscFormsUptoSaid : Prop := riscFormsUptoRow.holds Try.pinned (OpenSpec.upto riscFormsSpec)

/-- 'spinetlaw03.AluDoes', WHERE WHAT IT READS IS OF BULK AT MOST 1048576: true; the input reads as it did. -/
def aluDoesUptoRow : OpenClaim := { program := "ytffeiekkfcbfaaa", sum := "57139c1ae084b8b6d1c0ed9fae6d128f21919bfe2215f048a7b59d7287fd7737", func := "spinet/spinetlaw03.AluDoes", spec := "aluDoes", apart := false, narrowed := true }
def AluDoesUptoSaid : Prop := aluDoesUptoRow.holds Try.pinned (OpenSpec.upto aluDoesSpec)

/-- 'spinetlaw03.AluHolds', WHERE WHAT IT READS IS OF BULK AT MOST 1048576: true; the input reads as it did. -/
def aluHoldsUptoRow : OpenClaim := { program := "ytffeiekkfcbfaaa", sum := "57139c1ae084b8b6d1c0ed9fae6d128f21919bfe2215f048a7b59d7287fd7737", func := "spinet/spinetlaw03.AluHolds", spec := "aluHolds", apart := false, narrowed := true }
def AluHoldsUptoSaid : Prop := aluHoldsUptoRow.holds Try.pinned (OpenSpec.upto aluHoldsSpec)

/-- 'spinetlaw03.AluCompares', WHERE WHAT IT READS IS OF BULK AT MOST 1048576: true; the input reads as it did. -/
def aluComparesUptoRow : OpenClaim := { program := "ytffeiekkfcbfaaa", sum := "57139c1ae084b8b6d1c0ed9fae6d128f21919bfe2215f048a7b59d7287fd7737", func := "spinet/spinetlaw03.AluCompares", spec := "aluCompares", apart := false, narrowed := true }
def AluComparesUptoSaid : Prop := aluComparesUptoRow.holds Try.pinned (OpenSpec.upto aluComparesSpec)

/-- 'spinetlaw03.AluDivides', WHERE WHAT IT READS IS OF BULK AT MOST 1048576: true; the input reads as it did. -/
def aluDividesUptoRow : OpenClaim := { program := "ytffeiekkfcbfaaa", sum := "57139c1ae084b8b6d1c0ed9fae6d128f21919bfe2215f048a7b59d7287fd7737", func := "spinet/spinetlaw03.AluDivides", spec := "aluDivides", apart := false, narrowed := true }
def AluDividesUptoSaid : Prop := aluDividesUptoRow.holds Try.pinned (OpenSpec.upto aluDividesSpec)

/-- 'spinetlaw03.AluWide', WHERE WHAT IT READS IS OF BULK AT MOST 1048576: true; the input reads as it did. -/
def aluWideUptoRow : OpenClaim := { program := "ytffeiekkfcbfaaa", sum := "57139c1ae084b8b6d1c0ed9fae6d128f21919bfe2215f048a7b59d7287fd7737", func := "spinet/spinetlaw03.AluWide", spec := "aluWide", apart := false, narrowed := true }
def AluWideUptoSaid : Prop := aluWideUptoRow.holds Try.pinned (OpenSpec.upto aluWideSpec)

/-- 'spinetlaw03.AluLogic', WHERE WHAT IT READS IS OF BULK AT MOST 1048576: true; the input reads as it did. -/
def aluLogicUptoRow : OpenClaim := { program := "ytffeiekkfcbfaaa", sum := "57139c1ae084b8b6d1c0ed9fae6d128f21919bfe2215f048a7b59d7287fd7737", func := "spinet/spinetlaw03.AluLogic", spec := "aluLogic", apart := false, narrowed := true }
def AluLogicUptoSaid : Prop := aluLogicUptoRow.holds Try.pinned (OpenSpec.upto aluLogicSpec)

end Rows
end Go.Proofs.Ytffeiekkfcbfaaa
