/-
  No cell of these rows narrows 'for every input' (looked for: loops, veiled, ifaces, maps, wideKeys, modest, calm, conditions, laid).
  DERIVED. THE GIVEN ROWS OF THIS SEAT. 3 by the template 'for every input the law returns true; each argument reads behind the call as it read before'; 0 by the template 'total and deterministic' (their statements: YtnlaogneceanoaaGreatTotals.lean).
  GIVEN WITH THE SEED: the statements are not yours to turn. If you find one false, say at which input.
  Laid BY PROGRAM, IN A SANDBOX (cutbox-rows.mjs): the forced cells as the released guide's own fill.sh prints them over the translation 20e8c2ede6a91d82… (all of the seat's roots in one cut). By AI agents, Wed Nov 11 2026. No macro, syntax, notation, axiom, sorry.
-/
import Derived.Test.YtnlaogneceanoaaGreatChecked
import GoSem.Claim
import GoSem.ClaimJoined
import GoSem.ClaimMapViews
import Derived.JoinedTies
import Derived.KernelRfl
namespace Go.Proofs.YtnlaogneceanoaaGreat
/- THE CELL 'sum', in the pinned program and in every row, IS THE sha256 OF THE DUMP (.gsa) THAT YtnlaogneceanoaaGreatProg.lean LOADS. Nothing in Lean hashes anything: it is a label: what it is worth is what the hold of that sum in a sandbox is worth. -/
noncomputable def Tryz.pinned : Pinned := { name := "ytnlaogneceanoaagreat", sum := "20e8c2ede6a91d825b53ae8534d2b08213add9ebe7aba6c68edb433f4efce299", checked := Tryz.checked }
namespace Rows
def none {H : Type} : Left H := { results := [], args := [] }

/-- 'dasdlaw08.ContentsViews': WHATEVER THE INPUT: true; the input reads as it did. -/
def contentsViewsSpec : ChangeSpec := { name := "contentsViews", fn := fun _ => fun
  | [d1, d2, d3] => { results := [.lit (.bool true)], args := [d1, d2, d3] }
  | _ => none }
def contentsViewsRow : OpenClaim := { program := "ytnlaogneceanoaagreat", sum := "20e8c2ede6a91d825b53ae8534d2b08213add9ebe7aba6c68edb433f4efce299", func := "dasd/dasdlaw08.ContentsViews", spec := "contentsViews", unfollowed := true, recurses := true, plainKeys := false, apart := false }
def ContentsViewsSaid : Prop := contentsViewsRow.holds Tryz.pinned (OpenSpec.ofChange contentsViewsSpec)

/-- ITS FALSE NEIGHBOUR: 'it returns false'. Refute it at one input. -/
def contentsViewsWrong : ChangeSpec := { name := "contentsViews", fn := fun _ => fun
  | [d1, d2, d3] => { results := [.lit (.bool false)], args := [d1, d2, d3] }
  | _ => none }
def ContentsViewsWrongFalsely : Prop := contentsViewsRow.holds Tryz.pinned (OpenSpec.ofChange contentsViewsWrong)

/-- 'dasdlaw08.ContentsChanges': WHATEVER THE INPUT: true; the input reads as it did. -/
def contentsChangesSpec : ChangeSpec := { name := "contentsChanges", fn := fun _ => fun
  | [d1, d2] => { results := [.lit (.bool true)], args := [d1, d2] }
  | _ => none }
def contentsChangesRow : OpenClaim := { program := "ytnlaogneceanoaagreat", sum := "20e8c2ede6a91d825b53ae8534d2b08213add9ebe7aba6c68edb433f4efce299", func := "dasd/dasdlaw08.ContentsChanges", spec := "contentsChanges", unfollowed := true, recurses := true, plainKeys := false, apart := false }
def ContentsChangesSaid : Prop := contentsChangesRow.holds Tryz.pinned (OpenSpec.ofChange contentsChangesSpec)

/-- ITS FALSE NEIGHBOUR: 'it returns false'. Refute it at one input. -/
def contentsChangesWrong : ChangeSpec := { name := "contentsChanges", fn := fun _ => fun
  | [d1, d2] => { results := [.lit (.bool false)], args := [d1, d2] }
  | _ => none }
def ContentsChangesWrongFalsely : Prop := contentsChangesRow.holds Tryz.pinned (OpenSpec.ofChange contentsChangesWrong)

/-- 'dasdlaw08.ContentsSectors': WHATEVER THE INPUT: true; the input reads as it did. -/
def contentsSectorsSpec : ChangeSpec := { name := "contentsSectors", fn := fun _ => fun
  | [d1, d2, d3] => { results := [.lit (.bool true)], args := [d1, d2, d3] }
  | _ => none }
def contentsSectorsRow : OpenClaim := { program := "ytnlaogneceanoaagreat", sum := "20e8c2ede6a91d825b53ae8534d2b08213add9ebe7aba6c68edb433f4efce299", func := "dasd/dasdlaw08.ContentsSectors", spec := "contentsSectors", unfollowed := true, recurses := true, plainKeys := false, apart := false }
def ContentsSectorsSaid : Prop := contentsSectorsRow.holds Tryz.pinned (OpenSpec.ofChange contentsSectorsSpec)

/-- ITS FALSE NEIGHBOUR: 'it returns false'. Refute it at one input. -/
def contentsSectorsWrong : ChangeSpec := { name := "contentsSectors", fn := fun _ => fun
  | [d1, d2, d3] => { results := [.lit (.bool false)], args := [d1, d2, d3] }
  | _ => none }
def ContentsSectorsWrongFalsely : Prop := contentsSectorsRow.holds Tryz.pinned (OpenSpec.ofChange contentsSectorsWrong)

/- THE SECOND FORM. 'bulk': how many values and letters a reading holds, each counted each time it is reached (what is shared counts as often as it is met; a slice's spare places count too). A statement '..UptoSaid' is the law's where the arguments, and the package variables that the reading takes, are together of bulk at most 1048576: NARROWER than '..Said'. Prove '..Said' where nothing that the law and all that it calls make is longer than what came in: it says more and counts as full. Else prove '..UptoSaid'. A law counts once. -/
mutual
def uptoBulk {H : Type} : DataW H → Nat
  | .lit (.string bytes) => bytes.length + 1
  | .lit _ => 1
  | .nil => 1
  | .ptr d => uptoBulk d + 1
  | .slice elems spare => uptoBulkAll elems + uptoBulkAll spare + 1
  | .agg parts => uptoBulkAll parts + 1
  | .iface _ d => uptoBulk d + 1
  | .map entries => uptoBulkEntries entries + 1
  | .held _ => 1
def uptoBulkAll {H : Type} : List (DataW H) → Nat
  | [] => 0
  | d :: r => uptoBulk d + uptoBulkAll r
def uptoBulkEntries {H : Type} : List (Lit × DataW H) → Nat
  | [] => 0
  | x :: r => uptoBulkEntry x + uptoBulkEntries r
def uptoBulkEntry {H : Type} : Lit × DataW H → Nat
  | (.string bytes, d) => bytes.length + uptoBulk d + 1
  | (_, d) => uptoBulk d + 1
 end
def uptoSmall : (H : Type) → List (DataW H) → Bool := fun _ ds => decide (uptoBulkAll ds ≤ 1048576)
def OpenSpec.upto (s : _root_.Go.ChangeSpec) : _root_.Go.OpenSpec := { _root_.Go.OpenSpec.ofChange s with cond := some uptoSmall }

/-- 'dasdlaw08.ContentsViews', WHERE WHAT IT READS IS OF BULK AT MOST 1048576: true; the input reads as it did. -/
def contentsViewsUptoRow : OpenClaim := { program := "ytnlaogneceanoaagreat", sum := "20e8c2ede6a91d825b53ae8534d2b08213add9ebe7aba6c68edb433f4efce299", func := "dasd/dasdlaw08.ContentsViews", spec := "contentsViews", unfollowed := true, recurses := true, plainKeys := false, apart := false, narrowed := true }
def ContentsViewsUptoSaid : Prop := contentsViewsUptoRow.holds Tryz.pinned (OpenSpec.upto contentsViewsSpec)

/-- 'dasdlaw08.ContentsChanges', WHERE WHAT IT READS IS OF BULK AT MOST 1048576: true; the input reads as it did. -/
def contentsChangesUptoRow : OpenClaim := { program := "ytnlaogneceanoaagreat", sum := "20e8c2ede6a91d825b53ae8534d2b08213add9ebe7aba6c68edb433f4efce299", func := "dasd/dasdlaw08.ContentsChanges", spec := "contentsChanges", unfollowed := true, recurses := true, plainKeys := false, apart := false, narrowed := true }
def ContentsChangesUptoSaid : Prop := contentsChangesUptoRow.holds Tryz.pinned (OpenSpec.upto contentsChangesSpec)

/-- 'dasdlaw08.ContentsSectors', WHERE WHAT IT READS IS OF BULK AT MOST 1048576: true; the input reads as it did. -/
def contentsSectorsUptoRow : OpenClaim := { program := "ytnlaogneceanoaagreat", sum := "20e8c2ede6a91d825b53ae8534d2b08213add9ebe7aba6c68edb433f4efce299", func := "dasd/dasdlaw08.ContentsSectors", spec := "contentsSectors", unfollowed := true, recurses := true, plainKeys := false, apart := false, narrowed := true }
def ContentsSectorsUptoSaid : Prop := contentsSectorsUptoRow.holds Tryz.pinned (OpenSpec.upto contentsSectorsSpec)

end Rows
end Go.Proofs.YtnlaogneceanoaaGreat
