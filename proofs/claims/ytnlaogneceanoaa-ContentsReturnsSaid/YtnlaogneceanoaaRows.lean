/-
  No cell of these rows narrows 'for every input' (looked for: loops, veiled, ifaces, maps, wideKeys, modest, calm, conditions, laid).
  DERIVED. THE GIVEN ROWS OF THIS SEAT. 4 by the template 'for every input the law returns true; each argument reads behind the call as it read before'; 0 by the template 'total and deterministic' (their statements: YtnlaogneceanoaaTotals.lean).
  GIVEN WITH THE SEED: the statements are not yours to turn. If you find one false, say at which input.
  Laid BY PROGRAM, IN A SANDBOX (cutbox-rows.mjs): the forced cells as the released guide's own fill.sh prints them over the translation c7c2ecc5b49fd5c0… (all of the seat's roots in one cut). By AI agents, Wed Nov 11 2026. No macro, syntax, notation, axiom, sorry.
-/
import Derived.Test.YtnlaogneceanoaaChecked
import GoSem.Claim
import GoSem.ClaimJoined
import GoSem.ClaimMapViews
import Derived.JoinedTies
import Derived.KernelRfl
namespace Go.Proofs.Ytnlaogneceanoaa
/- THE CELL 'sum', in the pinned program and in every row, IS THE sha256 OF THE DUMP (.gsa) THAT YtnlaogneceanoaaProg.lean LOADS. Nothing in Lean hashes anything: it is a label: what it is worth is what the hold of that sum in a sandbox is worth. -/
noncomputable def Try.pinned : Pinned := { name := "ytnlaogneceanoaa", sum := "c7c2ecc5b49fd5c09f739d8e186f83c8e2fe67335010dc0e3556b30e999828cf", checked := Try.checked }
namespace Rows
def none {H : Type} : Left H := { results := [], args := [] }

/-- 'dasdlaw08.ContentsSector': WHATEVER THE INPUT: true; the input reads as it did. -/
def contentsSectorSpec : ChangeSpec := { name := "contentsSector", fn := fun _ => fun
  | [d1, d2, d3] => { results := [.lit (.bool true)], args := [d1, d2, d3] }
  | _ => none }
def contentsSectorRow : OpenClaim := { program := "ytnlaogneceanoaa", sum := "c7c2ecc5b49fd5c09f739d8e186f83c8e2fe67335010dc0e3556b30e999828cf", func := "dasd/dasdlaw08.ContentsSector", spec := "contentsSector", unfollowed := true, recurses := true, plainKeys := false, apart := false }
def ContentsSectorSaid : Prop := contentsSectorRow.holds Try.pinned (OpenSpec.ofChange contentsSectorSpec)

/-- ITS FALSE NEIGHBOUR: 'it returns false'. Refute it at one input. -/
def contentsSectorWrong : ChangeSpec := { name := "contentsSector", fn := fun _ => fun
  | [d1, d2, d3] => { results := [.lit (.bool false)], args := [d1, d2, d3] }
  | _ => none }
def ContentsSectorWrongFalsely : Prop := contentsSectorRow.holds Try.pinned (OpenSpec.ofChange contentsSectorWrong)

/-- 'dasdlaw08.ContentsConfirms': WHATEVER THE INPUT: true; the input reads as it did. -/
def contentsConfirmsSpec : ChangeSpec := { name := "contentsConfirms", fn := fun _ => fun
  | [d1, d2, d3, d4] => { results := [.lit (.bool true)], args := [d1, d2, d3, d4] }
  | _ => none }
def contentsConfirmsRow : OpenClaim := { program := "ytnlaogneceanoaa", sum := "c7c2ecc5b49fd5c09f739d8e186f83c8e2fe67335010dc0e3556b30e999828cf", func := "dasd/dasdlaw08.ContentsConfirms", spec := "contentsConfirms", unfollowed := true, recurses := true, plainKeys := false, apart := false }
def ContentsConfirmsSaid : Prop := contentsConfirmsRow.holds Try.pinned (OpenSpec.ofChange contentsConfirmsSpec)

/-- ITS FALSE NEIGHBOUR: 'it returns false'. Refute it at one input. -/
def contentsConfirmsWrong : ChangeSpec := { name := "contentsConfirms", fn := fun _ => fun
  | [d1, d2, d3, d4] => { results := [.lit (.bool false)], args := [d1, d2, d3, d4] }
  | _ => none }
def ContentsConfirmsWrongFalsely : Prop := contentsConfirmsRow.holds Try.pinned (OpenSpec.ofChange contentsConfirmsWrong)

/-- 'dasdlaw08.ContentsKeeps': WHATEVER THE INPUT: true; the input reads as it did. -/
def contentsKeepsSpec : ChangeSpec := { name := "contentsKeeps", fn := fun _ => fun
  | [d1, d2] => { results := [.lit (.bool true)], args := [d1, d2] }
  | _ => none }
def contentsKeepsRow : OpenClaim := { program := "ytnlaogneceanoaa", sum := "c7c2ecc5b49fd5c09f739d8e186f83c8e2fe67335010dc0e3556b30e999828cf", func := "dasd/dasdlaw08.ContentsKeeps", spec := "contentsKeeps", unfollowed := true, recurses := true, plainKeys := false, apart := false }
def ContentsKeepsSaid : Prop := contentsKeepsRow.holds Try.pinned (OpenSpec.ofChange contentsKeepsSpec)

/-- ITS FALSE NEIGHBOUR: 'it returns false'. Refute it at one input. -/
def contentsKeepsWrong : ChangeSpec := { name := "contentsKeeps", fn := fun _ => fun
  | [d1, d2] => { results := [.lit (.bool false)], args := [d1, d2] }
  | _ => none }
def ContentsKeepsWrongFalsely : Prop := contentsKeepsRow.holds Try.pinned (OpenSpec.ofChange contentsKeepsWrong)

/-- 'dasdlaw08.ContentsReturns': WHATEVER THE INPUT: true; the input reads as it did. -/
def contentsReturnsSpec : ChangeSpec := { name := "contentsReturns", fn := fun _ => fun
  | [d1, d2] => { results := [.lit (.bool true)], args := [d1, d2] }
  | _ => none }
def contentsReturnsRow : OpenClaim := { program := "ytnlaogneceanoaa", sum := "c7c2ecc5b49fd5c09f739d8e186f83c8e2fe67335010dc0e3556b30e999828cf", func := "dasd/dasdlaw08.ContentsReturns", spec := "contentsReturns", unfollowed := true, recurses := true, plainKeys := false, apart := false }
def ContentsReturnsSaid : Prop := contentsReturnsRow.holds Try.pinned (OpenSpec.ofChange contentsReturnsSpec)

/-- ITS FALSE NEIGHBOUR: 'it returns false'. Refute it at one input. -/
def contentsReturnsWrong : ChangeSpec := { name := "contentsReturns", fn := fun _ => fun
  | [d1, d2] => { results := [.lit (.bool false)], args := [d1, d2] }
  | _ => none }
def ContentsReturnsWrongFalsely : Prop := contentsReturnsRow.holds Try.pinned (OpenSpec.ofChange contentsReturnsWrong)

/- THE SECOND FORM. 'bulk': how many values and letters a reading holds, each counted each time it is reached (what is shared counts as often as it is met; a slice's spare places count too). A statement '..UptoSaid' is the law's where the arguments, and the package variables that the reading takes, are together of bulk at most 1048576: NARROWER than '..Said'. Prove '..Said' where nothing that the law and all that it calls make is longer than what came in: it says more and counts as full. Else prove '..UptoSaid'. A law counts once. -/
mutual
def uptoBulk {H : Type} : DataW H → Nat
  | .lit (.string bytes) => bytes.length + 1
  | .lit _ => 1
  | .nil => 1
  | .ptr d => uptoBulk d + 1
  | .slice elems spare => uptoBulkAll elems + uptoBulkAll spare + 1
  | .agg parts => uptoBulkAll parts + 1
  | .iface _ d => uptoBulk d + 1
  | .map entries => uptoBulkEntries entries + 1
  | .held _ => 1
def uptoBulkAll {H : Type} : List (DataW H) → Nat
  | [] => 0
  | d :: r => uptoBulk d + uptoBulkAll r
def uptoBulkEntries {H : Type} : List (Lit × DataW H) → Nat
  | [] => 0
  | x :: r => uptoBulkEntry x + uptoBulkEntries r
def uptoBulkEntry {H : Type} : Lit × DataW H → Nat
  | (.string bytes, d) => bytes.length + uptoBulk d + 1
  | (_, d) => uptoBulk d + 1
 end
def uptoSmall : (H : Type) → List (DataW H) → Bool := fun _ ds => decide (uptoBulkAll ds ≤ 1048576)
def OpenSpec.upto (s : _root_.Go.ChangeSpec) : _root_.Go.OpenSpec := { _root_.Go.OpenSpec.ofChange s with cond := some uptoSmall }

/-- 'dasdlaw08.ContentsSector', WHERE WHAT IT READS IS OF BULK AT MOST 1048576: true; the input reads as it did. -/
def contentsSectorUptoRow : OpenClaim := { program := "ytnlaogneceanoaa", sum := "c7c2ecc5b49fd5c09f739d8e186f83c8e2fe67335010dc0e3556b30e999828cf", func := "dasd/dasdlaw08.ContentsSector", spec := "contentsSector", unfollowed := true, recurses := true, plainKeys := false, apart := false, narrowed := true }
def ContentsSectorUptoSaid : Prop := contentsSectorUptoRow.holds Try.pinned (OpenSpec.upto contentsSectorSpec)

/-- 'dasdlaw08.ContentsConfirms', WHERE WHAT IT READS IS OF BULK AT MOST 1048576: true; the input reads as it did. -/
def contentsConfirmsUptoRow : OpenClaim := { program := "ytnlaogneceanoaa", sum := "c7c2ecc5b49fd5c09f739d8e186f83c8e2fe67335010dc0e3556b30e999828cf", func := "dasd/dasdlaw08.ContentsConfirms", spec := "contentsConfirms", unfollowed := true, recurses := true, plainKeys := false, apart := false, narrowed := true }
def ContentsConfirmsUptoSaid : Prop := contentsConfirmsUptoRow.holds Try.pinned (OpenSpec.upto contentsConfirmsSpec)

/-- 'dasdlaw08.ContentsKeeps', WHERE WHAT IT READS IS OF BULK AT MOST 1048576: true; the input reads as it did. -/
def contentsKeepsUptoRow : OpenClaim := { program := "ytnlaogneceanoaa", sum := "c7c2ecc5b49fd5c09f739d8e186f83c8e2fe67335010dc0e3556b30e999828cf", func := "dasd/dasdlaw08.ContentsKeeps", spec := "contentsKeeps", unfollowed := true, recurses := true, plainKeys := false, apart := false, narrowed := true }
def ContentsKeepsUptoSaid : Prop := contentsKeepsUptoRow.holds Try.pinned (OpenSpec.upto contentsKeepsSpec)

/-- 'dasdlaw08.ContentsReturns', WHERE WHAT IT READS IS OF BULK AT MOST 1048576: true; the input reads as it did. -/
def contentsReturnsUptoRow : OpenClaim := { program := "ytnlaogneceanoaa", sum := "c7c2ecc5b49fd5c09f739d8e186f83c8e2fe67335010dc0e3556b30e999828cf", func := "dasd/dasdlaw08.ContentsReturns", spec := "contentsReturns", unfollowed := true, recurses := true, plainKeys := false, apart := false, narrowed := true }
def ContentsReturnsUptoSaid : Prop := contentsReturnsUptoRow.holds Try.pinned (OpenSpec.upto contentsReturnsSpec)

end Rows
end Go.Proofs.Ytnlaogneceanoaa
