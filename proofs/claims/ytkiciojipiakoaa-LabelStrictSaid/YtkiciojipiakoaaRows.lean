/-
  No cell of these rows narrows 'for every input' (looked for: loops, veiled, ifaces, maps, wideKeys, modest, calm, conditions, laid).
  DERIVED. THE GIVEN ROWS OF THIS SEAT. 7 by the template 'for every input the law returns true; each argument reads behind the call as it read before'; 0 by the template 'total and deterministic' (their statements: YtkiciojipiakoaaTotals.lean).
  GIVEN WITH THE SEED: the statements are not yours to turn. If you find one false, say at which input.
  Laid BY PROGRAM, IN A SANDBOX (cutbox-rows.mjs): the forced cells as the released guide's own fill.sh prints them over the translation 575626f48665c2f2… (all of the seat's roots in one cut). By AI agents, Wed Nov 11 2026. No macro, syntax, notation, axiom, sorry.
-/
import Derived.Test.YtkiciojipiakoaaChecked
import GoSem.Claim
import GoSem.ClaimJoined
import GoSem.ClaimMapViews
import Derived.JoinedTies
import Derived.KernelRfl
namespace Go.Proofs.Ytkiciojipiakoaa
/- THE CELL 'sum', in the pinned program and in every row, IS THE sha256 OF THE DUMP (.gsa) THAT YtkiciojipiakoaaProg.lean LOADS. Nothing in Lean hashes anything: it is a label: what it is worth is what the hold of that sum in a sandbox is worth. -/
noncomputable def Try.pinned : Pinned := { name := "ytkiciojipiakoaa", sum := "575626f48665c2f28f03764d767549027bdb51ef3173bf21e1747d3e11aced38", checked := Try.checked }
namespace Rows
def none {H : Type} : Left H := { results := [], args := [] }

/-- 'dasdlaw07.LabelValid': WHATEVER THE INPUT: true; the input reads as it did. -/
def labelValidSpec : ChangeSpec := { name := "labelValid", fn := fun _ => fun
  | [d1, d2, d3] => { results := [.lit (.bool true)], args := [d1, d2, d3] }
  | _ => none }
def labelValidRow : OpenClaim := { program := "ytkiciojipiakoaa", sum := "575626f48665c2f28f03764d767549027bdb51ef3173bf21e1747d3e11aced38", func := "dasd/dasdlaw07.LabelValid", spec := "labelValid", unfollowed := true, recurses := true, apart := false }
def LabelValidSaid : Prop := labelValidRow.holds Try.pinned (OpenSpec.ofChange labelValidSpec)

/-- ITS FALSE NEIGHBOUR: 'it returns false'. Refute it at one input. -/
def labelValidWrong : ChangeSpec := { name := "labelValid", fn := fun _ => fun
  | [d1, d2, d3] => { results := [.lit (.bool false)], args := [d1, d2, d3] }
  | _ => none }
def LabelValidWrongFalsely : Prop := labelValidRow.holds Try.pinned (OpenSpec.ofChange labelValidWrong)

/-- 'dasdlaw07.LabelSlots': WHATEVER THE INPUT: true; the input reads as it did. -/
def labelSlotsSpec : ChangeSpec := { name := "labelSlots", fn := fun _ => fun
  | [d] => { results := [.lit (.bool true)], args := [d] }
  | _ => none }
def labelSlotsRow : OpenClaim := { program := "ytkiciojipiakoaa", sum := "575626f48665c2f28f03764d767549027bdb51ef3173bf21e1747d3e11aced38", func := "dasd/dasdlaw07.LabelSlots", spec := "labelSlots", unfollowed := true, recurses := true, apart := false }
def LabelSlotsSaid : Prop := labelSlotsRow.holds Try.pinned (OpenSpec.ofChange labelSlotsSpec)

/-- ITS FALSE NEIGHBOUR: 'it returns false'. Refute it at one input. -/
def labelSlotsWrong : ChangeSpec := { name := "labelSlots", fn := fun _ => fun
  | [d] => { results := [.lit (.bool false)], args := [d] }
  | _ => none }
def LabelSlotsWrongFalsely : Prop := labelSlotsRow.holds Try.pinned (OpenSpec.ofChange labelSlotsWrong)

/-- 'dasdlaw07.LabelOther': WHATEVER THE INPUT: true; the input reads as it did. -/
def labelOtherSpec : ChangeSpec := { name := "labelOther", fn := fun _ => fun
  | [d1, d2, d3] => { results := [.lit (.bool true)], args := [d1, d2, d3] }
  | _ => none }
def labelOtherRow : OpenClaim := { program := "ytkiciojipiakoaa", sum := "575626f48665c2f28f03764d767549027bdb51ef3173bf21e1747d3e11aced38", func := "dasd/dasdlaw07.LabelOther", spec := "labelOther", unfollowed := true, recurses := true, apart := false }
def LabelOtherSaid : Prop := labelOtherRow.holds Try.pinned (OpenSpec.ofChange labelOtherSpec)

/-- ITS FALSE NEIGHBOUR: 'it returns false'. Refute it at one input. -/
def labelOtherWrong : ChangeSpec := { name := "labelOther", fn := fun _ => fun
  | [d1, d2, d3] => { results := [.lit (.bool false)], args := [d1, d2, d3] }
  | _ => none }
def LabelOtherWrongFalsely : Prop := labelOtherRow.holds Try.pinned (OpenSpec.ofChange labelOtherWrong)

/-- 'dasdlaw07.LabelDecodes': WHATEVER THE INPUT: true; the input reads as it did. -/
def labelDecodesSpec : ChangeSpec := { name := "labelDecodes", fn := fun _ => fun
  | [d1, d2] => { results := [.lit (.bool true)], args := [d1, d2] }
  | _ => none }
def labelDecodesRow : OpenClaim := { program := "ytkiciojipiakoaa", sum := "575626f48665c2f28f03764d767549027bdb51ef3173bf21e1747d3e11aced38", func := "dasd/dasdlaw07.LabelDecodes", spec := "labelDecodes", unfollowed := true, recurses := true, apart := false }
def LabelDecodesSaid : Prop := labelDecodesRow.holds Try.pinned (OpenSpec.ofChange labelDecodesSpec)

/-- ITS FALSE NEIGHBOUR: 'it returns false'. Refute it at one input. -/
def labelDecodesWrong : ChangeSpec := { name := "labelDecodes", fn := fun _ => fun
  | [d1, d2] => { results := [.lit (.bool false)], args := [d1, d2] }
  | _ => none }
def LabelDecodesWrongFalsely : Prop := labelDecodesRow.holds Try.pinned (OpenSpec.ofChange labelDecodesWrong)

/-- 'dasdlaw07.LabelReturns': WHATEVER THE INPUT: true; the input reads as it did. -/
def labelReturnsSpec : ChangeSpec := { name := "labelReturns", fn := fun _ => fun
  | [d1, d2] => { results := [.lit (.bool true)], args := [d1, d2] }
  | _ => none }
def labelReturnsRow : OpenClaim := { program := "ytkiciojipiakoaa", sum := "575626f48665c2f28f03764d767549027bdb51ef3173bf21e1747d3e11aced38", func := "dasd/dasdlaw07.LabelReturns", spec := "labelReturns", unfollowed := true, recurses := true, apart := false }
def LabelReturnsSaid : Prop := labelReturnsRow.holds Try.pinned (OpenSpec.ofChange labelReturnsSpec)

/-- ITS FALSE NEIGHBOUR: 'it returns false'. Refute it at one input. -/
def labelReturnsWrong : ChangeSpec := { name := "labelReturns", fn := fun _ => fun
  | [d1, d2] => { results := [.lit (.bool false)], args := [d1, d2] }
  | _ => none }
def LabelReturnsWrongFalsely : Prop := labelReturnsRow.holds Try.pinned (OpenSpec.ofChange labelReturnsWrong)

/-- 'dasdlaw07.LabelHeads': WHATEVER THE INPUT: true; the input reads as it did. -/
def labelHeadsSpec : ChangeSpec := { name := "labelHeads", fn := fun _ => fun
  | [d1, d2, d3] => { results := [.lit (.bool true)], args := [d1, d2, d3] }
  | _ => none }
def labelHeadsRow : OpenClaim := { program := "ytkiciojipiakoaa", sum := "575626f48665c2f28f03764d767549027bdb51ef3173bf21e1747d3e11aced38", func := "dasd/dasdlaw07.LabelHeads", spec := "labelHeads", unfollowed := true, recurses := true, apart := false }
def LabelHeadsSaid : Prop := labelHeadsRow.holds Try.pinned (OpenSpec.ofChange labelHeadsSpec)

/-- ITS FALSE NEIGHBOUR: 'it returns false'. Refute it at one input. -/
def labelHeadsWrong : ChangeSpec := { name := "labelHeads", fn := fun _ => fun
  | [d1, d2, d3] => { results := [.lit (.bool false)], args := [d1, d2, d3] }
  | _ => none }
def LabelHeadsWrongFalsely : Prop := labelHeadsRow.holds Try.pinned (OpenSpec.ofChange labelHeadsWrong)

/-- 'dasdlaw07.LabelStrict': WHATEVER THE INPUT: true; the input reads as it did. -/
def labelStrictSpec : ChangeSpec := { name := "labelStrict", fn := fun _ => fun
  | [d1, d2] => { results := [.lit (.bool true)], args := [d1, d2] }
  | _ => none }
def labelStrictRow : OpenClaim := { program := "ytkiciojipiakoaa", sum := "575626f48665c2f28f03764d767549027bdb51ef3173bf21e1747d3e11aced38", func := "dasd/dasdlaw07.LabelStrict", spec := "labelStrict", unfollowed := true, recurses := true, apart := false }
def LabelStrictSaid : Prop := labelStrictRow.holds Try.pinned (OpenSpec.ofChange labelStrictSpec)

/-- ITS FALSE NEIGHBOUR: 'it returns false'. Refute it at one input. -/
def labelStrictWrong : ChangeSpec := { name := "labelStrict", fn := fun _ => fun
  | [d1, d2] => { results := [.lit (.bool false)], args := [d1, d2] }
  | _ => none }
def LabelStrictWrongFalsely : Prop := labelStrictRow.holds Try.pinned (OpenSpec.ofChange labelStrictWrong)

/- THE SECOND FORM. 'bulk': how many values and letters a reading holds, each counted each time it is reached (what is shared counts as often as it is met; a slice's spare places count too). A statement '..UptoSaid' is the law's where the arguments, and the package variables that the reading takes, are together of bulk at most 1048576: NARROWER than '..Said'. Prove '..Said' where nothing that the law and all that it calls make is longer than what came in: it says more and counts as full. Else prove '..UptoSaid'. A law counts once. -/
mutual
def uptoBulk {H : Type} : DataW H → Nat
  | .lit (.string bytes) => bytes.length + 1
  | .lit _ => 1
  | .nil => 1
  | .ptr d => uptoBulk d + 1
  | .slice elems spare => uptoBulkAll elems + uptoBulkAll spare + 1
  | .agg parts => uptoBulkAll parts + 1
  | .iface _ d => uptoBulk d + 1
  | .map entries => uptoBulkEntries entries + 1
  | .held _ => 1
def uptoBulkAll {H : Type} : List (DataW H) → Nat
  | [] => 0
  | d :: r => uptoBulk d + uptoBulkAll r
def uptoBulkEntries {H : Type} : List (Lit × DataW H) → Nat
  | [] => 0
  | x :: r => uptoBulkEntry x + uptoBulkEntries r
def uptoBulkEntry {H : Type} : Lit × DataW H → Nat
  | (.string bytes, d) => bytes.length + uptoBulk d + 1
  | (_, d) => uptoBulk d + 1
 end
def uptoSmall : (H : Type) → List (DataW H) → Bool := fun _ ds => decide (uptoBulkAll ds ≤ 1048576)
def OpenSpec.upto (s : _root_.Go.ChangeSpec) : _root_.Go.OpenSpec := { _root_.Go.OpenSpec.ofChange s with cond := some uptoSmall }

/-- 'dasdlaw07.LabelValid', WHERE WHAT IT READS IS OF BULK AT MOST 1048576: true; the input reads as it did. -/
def labelValidUptoRow : OpenClaim := { program := "ytkiciojipiakoaa", sum := "575626f48665c2f28f03764d767549027bdb51ef3173bf21e1747d3e11aced38", func := "dasd/dasdlaw07.LabelValid", spec := "labelValid", unfollowed := true, recurses := true, apart := false, narrowed := true }
def LabelValidUptoSaid : Prop := labelValidUptoRow.holds Try.pinned (OpenSpec.upto labelValidSpec)

/-- 'dasdlaw07.LabelSlots', WHERE WHAT IT READS IS OF BULK AT MOST 1048576: true; the input reads as it did. -/
def labelSlotsUptoRow : OpenClaim := { program := "ytkiciojipiakoaa", sum := "575626f48665c2f28f03764d767549027bdb51ef3173bf21e1747d3e11aced38", func := "dasd/dasdlaw07.LabelSlots", spec := "labelSlots", unfollowed := true, recurses := true, apart := false, narrowed := true }
def LabelSlotsUptoSaid : Prop := labelSlotsUptoRow.holds Try.pinned (OpenSpec.upto labelSlotsSpec)

/-- 'dasdlaw07.LabelOther', WHERE WHAT IT READS IS OF BULK AT MOST 1048576: true; the input reads as it did. -/
def labelOtherUptoRow : OpenClaim := { program := "ytkiciojipiakoaa", sum := "575626f48665c2f28f03764d767549027bdb51ef3173bf21e1747d3e11aced38", func := "dasd/dasdlaw07.LabelOther", spec := "labelOther", unfollowed := true, recurses := true, apart := false, narrowed := true }
def LabelOtherUptoSaid : Prop := labelOtherUptoRow.holds Try.pinned (OpenSpec.upto labelOtherSpec)

/-- 'dasdlaw07.LabelDecodes', WHERE WHAT IT READS IS OF BULK AT MOST 1048576: true; the input reads as it did. -/
def labelDecodesUptoRow : OpenClaim := { program := "ytkiciojipiakoaa", sum := "575626f48665c2f28f03764d767549027bdb51ef3173bf21e1747d3e11aced38", func := "dasd/dasdlaw07.LabelDecodes", spec := "labelDecodes", unfollowed := true, recurses := true, apart := false, narrowed := true }
def LabelDecodesUptoSaid : Prop := labelDecodesUptoRow.holds Try.pinned (OpenSpec.upto labelDecodesSpec)

/-- 'dasdlaw07.LabelReturns', WHERE WHAT IT READS IS OF BULK AT MOST 1048576: true; the input reads as it did. -/
def labelReturnsUptoRow : OpenClaim := { program := "ytkiciojipiakoaa", sum := "575626f48665c2f28f03764d767549027bdb51ef3173bf21e1747d3e11aced38", func := "dasd/dasdlaw07.LabelReturns", spec := "labelReturns", unfollowed := true, recurses := true, apart := false, narrowed := true }
def LabelReturnsUptoSaid : Prop := labelReturnsUptoRow.holds Try.pinned (OpenSpec.upto labelReturnsSpec)

/-- 'dasdlaw07.LabelHeads', WHERE WHAT IT READS IS OF BULK AT MOST 1048576: true; the input reads as it did. -/
def labelHeadsUptoRow : OpenClaim := { program := "ytkiciojipiakoaa", sum := "575626f48665c2f28f03764d767549027bdb51ef3173bf21e1747d3e11aced38", func := "dasd/dasdlaw07.LabelHeads", spec := "labelHeads", unfollowed := true, recurses := true, apart := false, narrowed := true }
def LabelHeadsUptoSaid : Prop := labelHeadsUptoRow.holds Try.pinned (OpenSpec.upto labelHeadsSpec)

/-- 'dasdlaw07.LabelStrict', WHERE WHAT IT READS IS OF BULK AT MOST 1048576: true; the input reads as it did. -/
def labelStrictUptoRow : OpenClaim := { program := "ytkiciojipiakoaa", sum := "575626f48665c2f28f03764d767549027bdb51ef3173bf21e1747d3e11aced38", func := "dasd/dasdlaw07.LabelStrict", spec := "labelStrict", unfollowed := true, recurses := true, apart := false, narrowed := true }
def LabelStrictUptoSaid : Prop := labelStrictUptoRow.holds Try.pinned (OpenSpec.upto labelStrictSpec)

end Rows
end Go.Proofs.Ytkiciojipiakoaa
