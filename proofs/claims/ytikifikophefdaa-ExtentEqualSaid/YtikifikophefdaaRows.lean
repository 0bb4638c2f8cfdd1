/-
  No cell of these rows narrows 'for every input' (looked for: loops, veiled, ifaces, maps, wideKeys, modest, calm, conditions, laid).
  DERIVED. THE GIVEN ROWS OF THIS SEAT. 7 by the template 'for every input the law returns true; each argument reads behind the call as it read before'; 0 by the template 'total and deterministic' (their statements: YtikifikophefdaaTotals.lean).
  GIVEN WITH THE SEED: the statements are not yours to turn. If you find one false, say at which input.
  Laid BY PROGRAM, IN A SANDBOX (cutbox-rows.mjs): the forced cells as the released guide's own fill.sh prints them over the translation 73d9e0863ec6c66b… (all of the seat's roots in one cut). By AI agents, Wed Nov 11 2026. No macro, syntax, notation, axiom, sorry.
-/
import Derived.Test.YtikifikophefdaaChecked
import GoSem.Claim
import GoSem.ClaimJoined
import GoSem.ClaimMapViews
import Derived.JoinedTies
import Derived.KernelRfl
namespace Go.Proofs.Ytikifikophefdaa
/- THE CELL 'sum', in the pinned program and in every row, IS THE sha256 OF THE DUMP (.gsa) THAT YtikifikophefdaaProg.lean LOADS. Nothing in Lean hashes anything: it is a label: what it is worth is what the hold of that sum in a sandbox is worth. -/
noncomputable def Try.pinned : Pinned := { name := "ytikifikophefdaa", sum := "73d9e0863ec6c66b914736afa993c402d0a3ba100e22300283fd8af47ddb4ca2", checked := Try.checked }
namespace Rows
def none {H : Type} : Left H := { results := [], args := [] }

/-- 'dasdlaw05.ExtentCuts': WHATEVER THE INPUT: true; the input reads as it did. -/
def extentCutsSpec : ChangeSpec := { name := "extentCuts", fn := fun _ => fun
  | [d1, d2] => { results := [.lit (.bool true)], args := [d1, d2] }
  | _ => none }
def extentCutsRow : OpenClaim := { program := "ytikifikophefdaa", sum := "73d9e0863ec6c66b914736afa993c402d0a3ba100e22300283fd8af47ddb4ca2", func := "dasd/dasdlaw05.ExtentCuts", spec := "extentCuts", apart := false }
def ExtentCutsSaid : Prop := extentCutsRow.holds Try.pinned (OpenSpec.ofChange extentCutsSpec)

/-- ITS FALSE NEIGHBOUR: 'it returns false'. Refute it at one input. -/
def extentCutsWrong : ChangeSpec := { name := "extentCuts", fn := fun _ => fun
  | [d1, d2] => { results := [.lit (.bool false)], args := [d1, d2] }
  | _ => none }
def ExtentCutsWrongFalsely : Prop := extentCutsRow.holds Try.pinned (OpenSpec.ofChange extentCutsWrong)

/-- 'dasdlaw05.ExtentNormal': WHATEVER THE INPUT: true; the input reads as it did. -/
def extentNormalSpec : ChangeSpec := { name := "extentNormal", fn := fun _ => fun
  | [d] => { results := [.lit (.bool true)], args := [d] }
  | _ => none }
def extentNormalRow : OpenClaim := { program := "ytikifikophefdaa", sum := "73d9e0863ec6c66b914736afa993c402d0a3ba100e22300283fd8af47ddb4ca2", func := "dasd/dasdlaw05.ExtentNormal", spec := "extentNormal", apart := false }
def ExtentNormalSaid : Prop := extentNormalRow.holds Try.pinned (OpenSpec.ofChange extentNormalSpec)

/-- ITS FALSE NEIGHBOUR: 'it returns false'. Refute it at one input. -/
def extentNormalWrong : ChangeSpec := { name := "extentNormal", fn := fun _ => fun
  | [d] => { results := [.lit (.bool false)], args := [d] }
  | _ => none }
def ExtentNormalWrongFalsely : Prop := extentNormalRow.holds Try.pinned (OpenSpec.ofChange extentNormalWrong)

/-- 'dasdlaw05.ExtentLists': WHATEVER THE INPUT: true; the input reads as it did. -/
def extentListsSpec : ChangeSpec := { name := "extentLists", fn := fun _ => fun
  | [d1, d2] => { results := [.lit (.bool true)], args := [d1, d2] }
  | _ => none }
def extentListsRow : OpenClaim := { program := "ytikifikophefdaa", sum := "73d9e0863ec6c66b914736afa993c402d0a3ba100e22300283fd8af47ddb4ca2", func := "dasd/dasdlaw05.ExtentLists", spec := "extentLists", apart := false }
def ExtentListsSaid : Prop := extentListsRow.holds Try.pinned (OpenSpec.ofChange extentListsSpec)

/-- ITS FALSE NEIGHBOUR: 'it returns false'. Refute it at one input. -/
def extentListsWrong : ChangeSpec := { name := "extentLists", fn := fun _ => fun
  | [d1, d2] => { results := [.lit (.bool false)], args := [d1, d2] }
  | _ => none }
def ExtentListsWrongFalsely : Prop := extentListsRow.holds Try.pinned (OpenSpec.ofChange extentListsWrong)

/-- 'dasdlaw05.ExtentSizes': WHATEVER THE INPUT: true; the input reads as it did. -/
def extentSizesSpec : ChangeSpec := { name := "extentSizes", fn := fun _ => fun
  | [d1, d2] => { results := [.lit (.bool true)], args := [d1, d2] }
  | _ => none }
def extentSizesRow : OpenClaim := { program := "ytikifikophefdaa", sum := "73d9e0863ec6c66b914736afa993c402d0a3ba100e22300283fd8af47ddb4ca2", func := "dasd/dasdlaw05.ExtentSizes", spec := "extentSizes", unfollowed := true, recurses := true, apart := false }
def ExtentSizesSaid : Prop := extentSizesRow.holds Try.pinned (OpenSpec.ofChange extentSizesSpec)

/-- ITS FALSE NEIGHBOUR: 'it returns false'. Refute it at one input. -/
def extentSizesWrong : ChangeSpec := { name := "extentSizes", fn := fun _ => fun
  | [d1, d2] => { results := [.lit (.bool false)], args := [d1, d2] }
  | _ => none }
def ExtentSizesWrongFalsely : Prop := extentSizesRow.holds Try.pinned (OpenSpec.ofChange extentSizesWrong)

/-- 'dasdlaw05.ExtentParts': WHATEVER THE INPUT: true; the input reads as it did. -/
def extentPartsSpec : ChangeSpec := { name := "extentParts", fn := fun _ => fun
  | [d1, d2] => { results := [.lit (.bool true)], args := [d1, d2] }
  | _ => none }
def extentPartsRow : OpenClaim := { program := "ytikifikophefdaa", sum := "73d9e0863ec6c66b914736afa993c402d0a3ba100e22300283fd8af47ddb4ca2", func := "dasd/dasdlaw05.ExtentParts", spec := "extentParts", apart := false }
def ExtentPartsSaid : Prop := extentPartsRow.holds Try.pinned (OpenSpec.ofChange extentPartsSpec)

/-- ITS FALSE NEIGHBOUR: 'it returns false'. Refute it at one input. -/
def extentPartsWrong : ChangeSpec := { name := "extentParts", fn := fun _ => fun
  | [d1, d2] => { results := [.lit (.bool false)], args := [d1, d2] }
  | _ => none }
def ExtentPartsWrongFalsely : Prop := extentPartsRow.holds Try.pinned (OpenSpec.ofChange extentPartsWrong)

/-- 'dasdlaw05.ExtentSets': WHATEVER THE INPUT: true; the input reads as it did. -/
def extentSetsSpec : ChangeSpec := { name := "extentSets", fn := fun _ => fun
  | [d1, d2, d3] => { results := [.lit (.bool true)], args := [d1, d2, d3] }
  | _ => none }
def extentSetsRow : OpenClaim := { program := "ytikifikophefdaa", sum := "73d9e0863ec6c66b914736afa993c402d0a3ba100e22300283fd8af47ddb4ca2", func := "dasd/dasdlaw05.ExtentSets", spec := "extentSets", unfollowed := true, recurses := true, apart := false }
def ExtentSetsSaid : Prop := extentSetsRow.holds Try.pinned (OpenSpec.ofChange extentSetsSpec)

/-- ITS FALSE NEIGHBOUR: 'it returns false'. Refute it at one input. -/
def extentSetsWrong : ChangeSpec := { name := "extentSets", fn := fun _ => fun
  | [d1, d2, d3] => { results := [.lit (.bool false)], args := [d1, d2, d3] }
  | _ => none }
def ExtentSetsWrongFalsely : Prop := extentSetsRow.holds Try.pinned (OpenSpec.ofChange extentSetsWrong)

/-- 'dasdlaw05.ExtentEqual': WHATEVER THE INPUT: true; the input reads as it did. -/
def extentEqualSpec : ChangeSpec := { name := "extentEqual", fn := fun _ => fun
  | [d1, d2] => { results := [.lit (.bool true)], args := [d1, d2] }
  | _ => none }
def extentEqualRow : OpenClaim := { program := "ytikifikophefdaa", sum := "73d9e0863ec6c66b914736afa993c402d0a3ba100e22300283fd8af47ddb4ca2", func := "dasd/dasdlaw05.ExtentEqual", spec := "extentEqual", unfollowed := true, recurses := true, apart := false }
def ExtentEqualSaid : Prop := extentEqualRow.holds Try.pinned (OpenSpec.ofChange extentEqualSpec)

/-- ITS FALSE NEIGHBOUR: 'it returns false'. Refute it at one input. -/
def extentEqualWrong : ChangeSpec := { name := "extentEqual", fn := fun _ => fun
  | [d1, d2] => { results := [.lit (.bool false)], args := [d1, d2] }
  | _ => none }
def ExtentEqualWrongFalsely : Prop := extentEqualRow.holds Try.pinned (OpenSpec.ofChange extentEqualWrong)

/- THE SECOND FORM. 'bulk': how many values and letters a reading holds, each counted each time it is reached (what is shared counts as often as it is met; a slice's spare places count too). A statement '..UptoSaid' is the law's where the arguments, and the package variables that the reading takes, are together of bulk at most 1048576: NARROWER than '..Said'. Prove '..Said' where nothing that the law and all that it calls make is longer than what came in: it says more and counts as full. Else prove '..UptoSaid'. A law counts once. -/
mutual
def uptoBulk {H : Type} : DataW H → Nat
  | .lit (.string bytes) => bytes.length + 1
  | .lit _ => 1
  | .nil => 1
  | .ptr d => uptoBulk d + 1
  | .slice elems spare => uptoBulkAll elems + uptoBulkAll spare + 1
  | .agg parts => uptoBulkAll parts + 1
  | .iface _ d => uptoBulk d + 1
  | .map entries => uptoBulkEntries entries + 1
  | .held _ => 1
def uptoBulkAll {H : Type} : List (DataW H) → Nat
  | [] => 0
  | d :: r => uptoBulk d + uptoBulkAll r
def uptoBulkEntries {H : Type} : List (Lit × DataW H) → Nat
  | [] => 0
  | x :: r => uptoBulkEntry x + uptoBulkEntries r
def uptoBulkEntry {H : Type} : Lit × DataW H → Nat
  | (.string bytes, d) => bytes.length + uptoBulk d + 1
  | (_, d) => uptoBulk d + 1
 end
def uptoSmall : (H : Type) → List (DataW H) → Bool := fun _ ds => decide (uptoBulkAll ds ≤ 1048576)
def OpenSpec.upto (s : _root_.Go.ChangeSpec) : _root_.Go.OpenSpec := { _root_.Go.OpenSpec.ofChange s with cond := some uptoSmall }

/-- 'dasdlaw05.ExtentCuts', WHERE WHAT IT READS IS OF BULK AT MOST 1048576: true; the input reads as it did. -/
def extentCutsUptoRow : OpenClaim := { program := "ytikifikophefdaa", sum := "73d9e0863ec6c66b914736afa993c402d0a3ba100e22300283fd8af47ddb4ca2", func := "dasd/dasdlaw05.ExtentCuts", spec := "extentCuts", apart := false, narrowed := true }
def ExtentCutsUptoSaid : Prop := extentCutsUptoRow.holds Try.pinned (OpenSpec.upto extentCutsSpec)

/-- 'dasdlaw05.ExtentNormal', WHERE WHAT IT READS IS OF BULK AT MOST 1048576: true; the input reads as it did. -/
def extentNormalUptoRow : OpenClaim := { program := "ytikifikophefdaa", sum := "73d9e0863ec6c66b914736afa993c402d0a3ba100e22300283fd8af47ddb4ca2", func := "dasd/dasdlaw05.ExtentNormal", spec := "extentNormal", apart := false, narrowed := true }
def ExtentNormalUptoSaid : Prop := extentNormalUptoRow.holds Try.pinned (OpenSpec.upto extentNormalSpec)

/-- 'dasdlaw05.ExtentLists', WHERE WHAT IT READS IS OF BULK AT MOST 1048576: true; the input reads as it did. -/
def extentListsUptoRow : OpenClaim := { program := "ytikifikophefdaa", sum := "73d9e0863ec6c66b914736afa993c402d0a3ba100e22300283fd8af47ddb4ca2", func := "dasd/dasdlaw05.ExtentLists", spec := "extentLists", apart := false, narrowed := true }
def ExtentListsUptoSaid : Prop := extentListsUptoRow.holds Try.pinned (OpenSpec.upto extentListsSpec)

/-- 'dasdlaw05.ExtentSizes', WHERE WHAT IT READS IS OF BULK AT MOST 1048576: true; the input reads as it did. -/
def extentSizesUptoRow : OpenClaim := { program := "ytikifikophefdaa", sum := "73d9e0863ec6c66b914736afa993c402d0a3ba100e22300283fd8af47ddb4ca2", func := "dasd/dasdlaw05.ExtentSizes", spec := "extentSizes", unfollowed := true, recurses := true, apart := false, narrowed := true }
def ExtentSizesUptoSaid : Prop := extentSizesUptoRow.holds Try.pinned (OpenSpec.upto extentSizesSpec)

/-- 'dasdlaw05.ExtentParts', WHERE WHAT IT READS IS OF BULK AT MOST 1048576: true; the input reads as it did. -/
def extentPartsUptoRow : OpenClaim := { program := "ytikifikophefdaa", sum := "73d9e0863ec6c66b914736afa993c402d0a3ba100e22300283fd8af47ddb4ca2", func := "dasd/dasdlaw05.ExtentParts", spec := "extentParts", apart := false, narrowed := true }
def ExtentPartsUptoSaid : Prop := extentPartsUptoRow.holds Try.pinned (OpenSpec.upto extentPartsSpec)

/-- 'dasdlaw05.ExtentSets', WHERE WHAT IT READS IS OF BULK AT MOST 1048576: true; the input reads as it did. -/
def extentSetsUptoRow : OpenClaim := { program := "ytikifikophefdaa", sum := "73d9e0863ec6c66b914736afa993c402d0a3ba100e22300283fd8af47ddb4ca2", func := "dasd/dasdlaw05.ExtentSets", spec := "extentSets", unfollowed := true, recurses := true, apart := false, narrowed := true }
def ExtentSetsUptoSaid : Prop := extentSetsUptoRow.holds Try.pinned (OpenSpec.upto extentSetsSpec)

/-- 'dasdlaw05.ExtentEqual', WHERE WHAT IT READS IS OF BULK AT MOST 1048576: true; the input reads as it did. -/
def extentEqualUptoRow : OpenClaim := { program := "ytikifikophefdaa", sum := "73d9e0863ec6c66b914736afa993c402d0a3ba100e22300283fd8af47ddb4ca2", func := "dasd/dasdlaw05.ExtentEqual", spec := "extentEqual", unfollowed := true, recurses := true, apart := false, narrowed := true }
def ExtentEqualUptoSaid : Prop := extentEqualUptoRow.holds Try.pinned (OpenSpec.upto extentEqualSpec)

end Rows
end Go.Proofs.Ytikifikophefdaa
