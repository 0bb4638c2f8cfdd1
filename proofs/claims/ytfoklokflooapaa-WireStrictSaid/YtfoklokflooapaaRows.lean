/-
  No cell of these rows narrows 'for every input' (looked for: loops, veiled, ifaces, maps, wideKeys, modest, calm, conditions, laid).
  DERIVED. THE GIVEN ROWS OF THIS SEAT. 8 by the template 'for every input the law returns true; each argument reads behind the call as it read before'; 0 by the template 'total and deterministic' (their statements: YtfoklokflooapaaTotals.lean).
  GIVEN WITH THE SEED: the statements are not yours to turn. If you find one false, say at which input.
  Laid BY PROGRAM, IN A SANDBOX (cutbox-rows.mjs): the forced cells as the released guide's own fill.sh prints them over the translation 68f2031e87dad169… (all of the seat's roots in one cut). By AI agents, Wed Nov 11 2026. No macro, syntax, notation, axiom, sorry.
-/
import Derived.Test.YtfoklokflooapaaChecked
import GoSem.Claim
import GoSem.ClaimJoined
import GoSem.ClaimMapViews
import Derived.JoinedTies
import Derived.KernelRfl
namespace Go.Proofs.Ytfoklokflooapaa
/- THE CELL 'sum', in the pinned program and in every row, IS THE sha256 OF THE DUMP (.gsa) THAT YtfoklokflooapaaProg.lean LOADS. Nothing in Lean hashes anything: it is a label: what it is worth is what the hold of that sum in a sandbox is worth. -/
noncomputable def Try.pinned : Pinned := { name := "ytfoklokflooapaa", sum := "68f2031e87dad169b464b2d0c10da43da890123f9c53fd3be76a92c21a7f1bbe", checked := Try.checked }
namespace Rows
def none {H : Type} : Left H := { results := [], args := [] }

/-- 'dasdlaw01.WireNumbers': WHATEVER THE INPUT: true; the input reads as it did. -/
def wireNumbersSpec : ChangeSpec := { name := "wireNumbers", fn := fun _ => fun
  | [d1, d2] => { results := [.lit (.bool true)], args := [d1, d2] }
  | _ => none }
def wireNumbersRow : OpenClaim := { program := "ytfoklokflooapaa", sum := "68f2031e87dad169b464b2d0c10da43da890123f9c53fd3be76a92c21a7f1bbe", func := "dasd/dasdlaw01.WireNumbers", spec := "wireNumbers", unfollowed := true, recurses := true, apart := false }
def WireNumbersSaid : Prop := wireNumbersRow.holds Try.pinned (OpenSpec.ofChange wireNumbersSpec)

/-- ITS FALSE NEIGHBOUR: 'it returns false'. Refute it at one input. -/
def wireNumbersWrong : ChangeSpec := { name := "wireNumbers", fn := fun _ => fun
  | [d1, d2] => { results := [.lit (.bool false)], args := [d1, d2] }
  | _ => none }
def WireNumbersWrongFalsely : Prop := wireNumbersRow.holds Try.pinned (OpenSpec.ofChange wireNumbersWrong)

/-- 'dasdlaw01.WirePrefix': WHATEVER THE INPUT: true; the input reads as it did. -/
def wirePrefixSpec : ChangeSpec := { name := "wirePrefix", fn := fun _ => fun
  | [d1, d2] => { results := [.lit (.bool true)], args := [d1, d2] }
  | _ => none }
def wirePrefixRow : OpenClaim := { program := "ytfoklokflooapaa", sum := "68f2031e87dad169b464b2d0c10da43da890123f9c53fd3be76a92c21a7f1bbe", func := "dasd/dasdlaw01.WirePrefix", spec := "wirePrefix", unfollowed := true, recurses := true, apart := false }
def WirePrefixSaid : Prop := wirePrefixRow.holds Try.pinned (OpenSpec.ofChange wirePrefixSpec)

/-- ITS FALSE NEIGHBOUR: 'it returns false'. Refute it at one input. -/
def wirePrefixWrong : ChangeSpec := { name := "wirePrefix", fn := fun _ => fun
  | [d1, d2] => { results := [.lit (.bool false)], args := [d1, d2] }
  | _ => none }
def WirePrefixWrongFalsely : Prop := wirePrefixRow.holds Try.pinned (OpenSpec.ofChange wirePrefixWrong)

/-- 'dasdlaw01.WireValues': WHATEVER THE INPUT: true; the input reads as it did. -/
def wireValuesSpec : ChangeSpec := { name := "wireValues", fn := fun _ => fun
  | [d1, d2, d3, d4] => { results := [.lit (.bool true)], args := [d1, d2, d3, d4] }
  | _ => none }
def wireValuesRow : OpenClaim := { program := "ytfoklokflooapaa", sum := "68f2031e87dad169b464b2d0c10da43da890123f9c53fd3be76a92c21a7f1bbe", func := "dasd/dasdlaw01.WireValues", spec := "wireValues", unfollowed := true, recurses := true, apart := false }
def WireValuesSaid : Prop := wireValuesRow.holds Try.pinned (OpenSpec.ofChange wireValuesSpec)

/-- ITS FALSE NEIGHBOUR: 'it returns false'. Refute it at one input. -/
def wireValuesWrong : ChangeSpec := { name := "wireValues", fn := fun _ => fun
  | [d1, d2, d3, d4] => { results := [.lit (.bool false)], args := [d1, d2, d3, d4] }
  | _ => none }
def WireValuesWrongFalsely : Prop := wireValuesRow.holds Try.pinned (OpenSpec.ofChange wireValuesWrong)

/-- 'dasdlaw01.WireLimits': WHATEVER THE INPUT: true; the input reads as it did. -/
def wireLimitsSpec : ChangeSpec := { name := "wireLimits", fn := fun _ => fun
  | [d1, d2] => { results := [.lit (.bool true)], args := [d1, d2] }
  | _ => none }
def wireLimitsRow : OpenClaim := { program := "ytfoklokflooapaa", sum := "68f2031e87dad169b464b2d0c10da43da890123f9c53fd3be76a92c21a7f1bbe", func := "dasd/dasdlaw01.WireLimits", spec := "wireLimits", unfollowed := true, recurses := true, apart := false }
def WireLimitsSaid : Prop := wireLimitsRow.holds Try.pinned (OpenSpec.ofChange wireLimitsSpec)

/-- ITS FALSE NEIGHBOUR: 'it returns false'. Refute it at one input. -/
def wireLimitsWrong : ChangeSpec := { name := "wireLimits", fn := fun _ => fun
  | [d1, d2] => { results := [.lit (.bool false)], args := [d1, d2] }
  | _ => none }
def WireLimitsWrongFalsely : Prop := wireLimitsRow.holds Try.pinned (OpenSpec.ofChange wireLimitsWrong)

/-- 'dasdlaw01.WireReads': WHATEVER THE INPUT: true; the input reads as it did. -/
def wireReadsSpec : ChangeSpec := { name := "wireReads", fn := fun _ => fun
  | [d1, d2] => { results := [.lit (.bool true)], args := [d1, d2] }
  | _ => none }
def wireReadsRow : OpenClaim := { program := "ytfoklokflooapaa", sum := "68f2031e87dad169b464b2d0c10da43da890123f9c53fd3be76a92c21a7f1bbe", func := "dasd/dasdlaw01.WireReads", spec := "wireReads", unfollowed := true, recurses := true, apart := false }
def WireReadsSaid : Prop := wireReadsRow.holds Try.pinned (OpenSpec.ofChange wireReadsSpec)

/-- ITS FALSE NEIGHBOUR: 'it returns false'. Refute it at one input. -/
def wireReadsWrong : ChangeSpec := { name := "wireReads", fn := fun _ => fun
  | [d1, d2] => { results := [.lit (.bool false)], args := [d1, d2] }
  | _ => none }
def WireReadsWrongFalsely : Prop := wireReadsRow.holds Try.pinned (OpenSpec.ofChange wireReadsWrong)

/-- 'dasdlaw01.WireStops': WHATEVER THE INPUT: true; the input reads as it did. -/
def wireStopsSpec : ChangeSpec := { name := "wireStops", fn := fun _ => fun
  | [d1, d2] => { results := [.lit (.bool true)], args := [d1, d2] }
  | _ => none }
def wireStopsRow : OpenClaim := { program := "ytfoklokflooapaa", sum := "68f2031e87dad169b464b2d0c10da43da890123f9c53fd3be76a92c21a7f1bbe", func := "dasd/dasdlaw01.WireStops", spec := "wireStops", unfollowed := true, recurses := true, apart := false }
def WireStopsSaid : Prop := wireStopsRow.holds Try.pinned (OpenSpec.ofChange wireStopsSpec)

/-- ITS FALSE NEIGHBOUR: 'it returns false'. Refute it at one input. -/
def wireStopsWrong : ChangeSpec := { name := "wireStops", fn := fun _ => fun
  | [d1, d2] => { results := [.lit (.bool false)], args := [d1, d2] }
  | _ => none }
def WireStopsWrongFalsely : Prop := wireStopsRow.holds Try.pinned (OpenSpec.ofChange wireStopsWrong)

/-- 'dasdlaw01.WireReturns': WHATEVER THE INPUT: true; the input reads as it did. -/
def wireReturnsSpec : ChangeSpec := { name := "wireReturns", fn := fun _ => fun
  | [d] => { results := [.lit (.bool true)], args := [d] }
  | _ => none }
def wireReturnsRow : OpenClaim := { program := "ytfoklokflooapaa", sum := "68f2031e87dad169b464b2d0c10da43da890123f9c53fd3be76a92c21a7f1bbe", func := "dasd/dasdlaw01.WireReturns", spec := "wireReturns", unfollowed := true, recurses := true, apart := false }
def WireReturnsSaid : Prop := wireReturnsRow.holds Try.pinned (OpenSpec.ofChange wireReturnsSpec)

/-- ITS FALSE NEIGHBOUR: 'it returns false'. Refute it at one input. -/
def wireReturnsWrong : ChangeSpec := { name := "wireReturns", fn := fun _ => fun
  | [d] => { results := [.lit (.bool false)], args := [d] }
  | _ => none }
def WireReturnsWrongFalsely : Prop := wireReturnsRow.holds Try.pinned (OpenSpec.ofChange wireReturnsWrong)

/-- 'dasdlaw01.WireStrict': WHATEVER THE INPUT: true; the input reads as it did. -/
def wireStrictSpec : ChangeSpec := { name := "wireStrict", fn := fun _ => fun
  | [d1, d2] => { results := [.lit (.bool true)], args := [d1, d2] }
  | _ => none }
def wireStrictRow : OpenClaim := { program := "ytfoklokflooapaa", sum := "68f2031e87dad169b464b2d0c10da43da890123f9c53fd3be76a92c21a7f1bbe", func := "dasd/dasdlaw01.WireStrict", spec := "wireStrict", unfollowed := true, recurses := true, apart := false }
def WireStrictSaid : Prop := wireStrictRow.holds Try.pinned (OpenSpec.ofChange wireStrictSpec)

/-- ITS FALSE NEIGHBOUR: 'it returns false'. Refute it at one input. -/
def wireStrictWrong : ChangeSpec := { name := "wireStrict", fn := fun _ => fun
  | [d1, d2] => { results := [.lit (.bool false)], args := [d1, d2] }
  | _ => none }
def WireStrictWrongFalsely : Prop := wireStrictRow.holds Try.pinned (OpenSpec.ofChange wireStrictWrong)

/- THE SECOND FORM. 'bulk': how many values and letters a reading holds, each counted each time it is reached (what is shared counts as often as it is met; a slice's spare places count too). A statement '..UptoSaid' is the law's where the arguments, and the package variables that the reading takes, are together of bulk at most 1048576: NARROWER than '..Said'. Prove '..Said' where nothing that the law and all that it calls make is longer than what came in: it says more and counts as full. Else prove '..UptoSaid'. A law counts once. -/
mutual
def uptoBulk {H : Type} : DataW H → Nat
  | .lit (.string bytes) => bytes.length + 1
  | .lit _ => 1
  | .nil => 1
  | .ptr d => uptoBulk d + 1
  | .slice elems spare => uptoBulkAll elems + uptoBulkAll spare + 1
  | .agg parts => uptoBulkAll parts + 1
  | .iface _ d => uptoBulk d + 1
  | .map entries => uptoBulkEntries entries + 1
  | .held _ => 1
def uptoBulkAll {H : Type} : List (DataW H) → Nat
  | [] => 0
  | d :: r => uptoBulk d + uptoBulkAll r
def uptoBulkEntries {H : Type} : List (Lit × DataW H) → Nat
  | [] => 0
  | x :: r => uptoBulkEntry x + uptoBulkEntries r
def uptoBulkEntry {H : Type} : Lit × DataW H → Nat
  | (.string bytes, d) => bytes.length + uptoBulk d + 1
  | (_, d) => uptoBulk d + 1
 end
def uptoSmall : (H : Type) → List (DataW H) → Bool := fun _ ds => decide (uptoBulkAll ds ≤ 1048576)
def OpenSpec.upto (s : _root_.Go.ChangeSpec) : _root_.Go.OpenSpec := { _root_.Go.OpenSpec.ofChange s with cond := some uptoSmall }

/-- 'dasdlaw01.WireNumbers', WHERE WHAT IT READS IS OF BULK AT MOST 1048576: true; the input reads as it did. -/
def wireNumbersUptoRow : OpenClaim := { program := "ytfoklokflooapaa", sum := "68f2031e87dad169b464b2d0c10da43da890123f9c53fd3be76a92c21a7f1bbe", func := "dasd/dasdlaw01.WireNumbers", spec := "wireNumbers", unfollowed := true, recurses := true, apart := false, narrowed := true }
def WireNumbersUptoSaid : Prop := wireNumbersUptoRow.holds Try.pinned (OpenSpec.upto wireNumbersSpec)

/-- 'dasdlaw01.WirePrefix', WHERE WHAT IT READS IS OF BULK AT MOST 1048576: true; the input reads as it did. -/
def wirePrefixUptoRow : OpenClaim := { program := "ytfoklokflooapaa", sum := "68f2031e87dad169b464b2d0c10da43da890123f9c53fd3be76a92c21a7f1bbe", func := "dasd/dasdlaw01.WirePrefix", spec := "wirePrefix", unfollowed := true, recurses := true, apart := false, narrowed := true }
def WirePrefixUptoSaid : Prop := wirePrefixUptoRow.holds Try.pinned (OpenSpec.upto wirePrefixSpec)

/-- 'dasdlaw01.WireValues', WHERE WHAT IT READS IS OF BULK AT MOST 1048576: true; the input reads as it did. -/
def wireValuesUptoRow : OpenClaim := { program := "ytfoklokflooapaa", sum := "68f2031e87dad169b464b2d0c10da43da890123f9c53fd3be76a92c21a7f1bbe", func := "dasd/dasdlaw01.WireValues", spec := "wireValues", unfollowed := true, recurses := true, apart := false, narrowed := true }
def WireValuesUptoSaid : Prop := wireValuesUptoRow.holds Try.pinned (OpenSpec.upto wireValuesSpec)

/-- 'dasdlaw01.WireLimits', WHERE WHAT IT READS IS OF BULK AT MOST 1048576: true; the input reads as it did. -/
def wireLimitsUptoRow : OpenClaim := { program := "ytfoklokflooapaa", sum := "68f2031e87dad169b464b2d0c10da43da890123f9c53fd3be76a92c21a7f1bbe", func := "dasd/dasdlaw01.WireLimits", spec := "wireLimits", unfollowed := true, recurses := true, apart := false, narrowed := true }
def WireLimitsUptoSaid : Prop := wireLimitsUptoRow.holds Try.pinned (OpenSpec.upto wireLimitsSpec)

/-- 'dasdlaw01.WireReads', WHERE WHAT IT READS IS OF BULK AT MOST 1048576: true; the input reads as it did. -/
def wireReadsUptoRow : OpenClaim := { program := "ytfoklokflooapaa", sum := "68f2031e87dad169b464b2d0c10da43da890123f9c53fd3be76a92c21a7f1bbe", func := "dasd/dasdlaw01.WireReads", spec := "wireReads", unfollowed := true, recurses := true, apart := false, narrowed := true }
def WireReadsUptoSaid : Prop := wireReadsUptoRow.holds Try.pinned (OpenSpec.upto wireReadsSpec)

/-- 'dasdlaw01.WireStops', WHERE WHAT IT READS IS OF BULK AT MOST 1048576: true; the input reads as it did. -/
def wireStopsUptoRow : OpenClaim := { program := "ytfoklokflooapaa", sum := "68f2031e87dad169b464b2d0c10da43da890123f9c53fd3be76a92c21a7f1bbe", func := "dasd/dasdlaw01.WireStops", spec := "wireStops", unfollowed := true, recurses := true, apart := false, narrowed := true }
def WireStopsUptoSaid : Prop := wireStopsUptoRow.holds Try.pinned (OpenSpec.upto wireStopsSpec)

/-- 'dasdlaw01.WireReturns', WHERE WHAT IT READS IS OF BULK AT MOST 1048576: true; the input reads as it did. -/
def wireReturnsUptoRow : OpenClaim := { program := "ytfoklokflooapaa", sum := "68f2031e87dad169b464b2d0c10da43da890123f9c53fd3be76a92c21a7f1bbe", func := "dasd/dasdlaw01.WireReturns", spec := "wireReturns", unfollowed := true, recurses := true, apart := false, narrowed := true }
def WireReturnsUptoSaid : Prop := wireReturnsUptoRow.holds Try.pinned (OpenSpec.upto wireReturnsSpec)

/-- 'dasdlaw01.WireStrict', WHERE WHAT IT READS IS OF BULK AT MOST 1048576: true; the input reads as it did. -/
def wireStrictUptoRow : OpenClaim := { program := "ytfoklokflooapaa", sum := "68f2031e87dad169b464b2d0c10da43da890123f9c53fd3be76a92c21a7f1bbe", func := "dasd/dasdlaw01.WireStrict", spec := "wireStrict", unfollowed := true, recurses := true, apart := false, narrowed := true }
def WireStrictUptoSaid : Prop := wireStrictUptoRow.holds Try.pinned (OpenSpec.upto wireStrictSpec)

end Rows
end Go.Proofs.Ytfoklokflooapaa
