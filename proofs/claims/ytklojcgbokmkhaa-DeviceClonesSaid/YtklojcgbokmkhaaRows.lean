/-
  No cell of these rows narrows 'for every input' (looked for: loops, veiled, ifaces, maps, wideKeys, modest, calm, conditions, laid).
  DERIVED. THE GIVEN ROWS OF THIS SEAT. 7 by the template 'for every input the law returns true; each argument reads behind the call as it read before'; 0 by the template 'total and deterministic' (their statements: YtklojcgbokmkhaaTotals.lean).
  GIVEN WITH THE SEED: the statements are not yours to turn. If you find one false, say at which input.
  Laid BY PROGRAM, IN A SANDBOX (cutbox-rows.mjs): the forced cells as the released guide's own fill.sh prints them over the translation 8f7388da5f31a86c… (all of the seat's roots in one cut). By AI agents, Wed Nov 11 2026. No macro, syntax, notation, axiom, sorry.
-/
import Derived.Test.YtklojcgbokmkhaaChecked
import GoSem.Claim
import GoSem.ClaimJoined
import GoSem.ClaimMapViews
import Derived.JoinedTies
import Derived.KernelRfl
namespace Go.Proofs.Ytklojcgbokmkhaa
/- THE CELL 'sum', in the pinned program and in every row, IS THE sha256 OF THE DUMP (.gsa) THAT YtklojcgbokmkhaaProg.lean LOADS. Nothing in Lean hashes anything: it is a label: what it is worth is what the hold of that sum in a sandbox is worth. -/
noncomputable def Try.pinned : Pinned := { name := "ytklojcgbokmkhaa", sum := "8f7388da5f31a86c2c142b10b75b78a53cf2ca43aa66499500b55bacd60a5a57", checked := Try.checked }
namespace Rows
def none {H : Type} : Left H := { results := [], args := [] }

/-- 'dasdlaw03.DeviceNew': WHATEVER THE INPUT: true; the input reads as it did. -/
def deviceNewSpec : ChangeSpec := { name := "deviceNew", fn := fun _ => fun
  | [d] => { results := [.lit (.bool true)], args := [d] }
  | _ => none }
def deviceNewRow : OpenClaim := { program := "ytklojcgbokmkhaa", sum := "8f7388da5f31a86c2c142b10b75b78a53cf2ca43aa66499500b55bacd60a5a57", func := "dasd/dasdlaw03.DeviceNew", spec := "deviceNew", unfollowed := true, recurses := true, apart := false }
def DeviceNewSaid : Prop := deviceNewRow.holds Try.pinned (OpenSpec.ofChange deviceNewSpec)

/-- ITS FALSE NEIGHBOUR: 'it returns false'. Refute it at one input. -/
def deviceNewWrong : ChangeSpec := { name := "deviceNew", fn := fun _ => fun
  | [d] => { results := [.lit (.bool false)], args := [d] }
  | _ => none }
def DeviceNewWrongFalsely : Prop := deviceNewRow.holds Try.pinned (OpenSpec.ofChange deviceNewWrong)

/-- 'dasdlaw03.DeviceCrashes': WHATEVER THE INPUT: true; the input reads as it did. -/
def deviceCrashesSpec : ChangeSpec := { name := "deviceCrashes", fn := fun _ => fun
  | [d1, d2] => { results := [.lit (.bool true)], args := [d1, d2] }
  | _ => none }
def deviceCrashesRow : OpenClaim := { program := "ytklojcgbokmkhaa", sum := "8f7388da5f31a86c2c142b10b75b78a53cf2ca43aa66499500b55bacd60a5a57", func := "dasd/dasdlaw03.DeviceCrashes", spec := "deviceCrashes", unfollowed := true, recurses := true, apart := false }
def DeviceCrashesSaid : Prop := deviceCrashesRow.holds Try.pinned (OpenSpec.ofChange deviceCrashesSpec)

/-- ITS FALSE NEIGHBOUR: 'it returns false'. Refute it at one input. -/
def deviceCrashesWrong : ChangeSpec := { name := "deviceCrashes", fn := fun _ => fun
  | [d1, d2] => { results := [.lit (.bool false)], args := [d1, d2] }
  | _ => none }
def DeviceCrashesWrongFalsely : Prop := deviceCrashesRow.holds Try.pinned (OpenSpec.ofChange deviceCrashesWrong)

/-- 'dasdlaw03.DeviceReturns': WHATEVER THE INPUT: true; the input reads as it did. -/
def deviceReturnsSpec : ChangeSpec := { name := "deviceReturns", fn := fun _ => fun
  | [d1, d2] => { results := [.lit (.bool true)], args := [d1, d2] }
  | _ => none }
def deviceReturnsRow : OpenClaim := { program := "ytklojcgbokmkhaa", sum := "8f7388da5f31a86c2c142b10b75b78a53cf2ca43aa66499500b55bacd60a5a57", func := "dasd/dasdlaw03.DeviceReturns", spec := "deviceReturns", unfollowed := true, recurses := true, apart := false }
def DeviceReturnsSaid : Prop := deviceReturnsRow.holds Try.pinned (OpenSpec.ofChange deviceReturnsSpec)

/-- ITS FALSE NEIGHBOUR: 'it returns false'. Refute it at one input. -/
def deviceReturnsWrong : ChangeSpec := { name := "deviceReturns", fn := fun _ => fun
  | [d1, d2] => { results := [.lit (.bool false)], args := [d1, d2] }
  | _ => none }
def DeviceReturnsWrongFalsely : Prop := deviceReturnsRow.holds Try.pinned (OpenSpec.ofChange deviceReturnsWrong)

/-- 'dasdlaw03.DeviceFences': WHATEVER THE INPUT: true; the input reads as it did. -/
def deviceFencesSpec : ChangeSpec := { name := "deviceFences", fn := fun _ => fun
  | [d1, d2] => { results := [.lit (.bool true)], args := [d1, d2] }
  | _ => none }
def deviceFencesRow : OpenClaim := { program := "ytklojcgbokmkhaa", sum := "8f7388da5f31a86c2c142b10b75b78a53cf2ca43aa66499500b55bacd60a5a57", func := "dasd/dasdlaw03.DeviceFences", spec := "deviceFences", unfollowed := true, recurses := true, apart := false }
def DeviceFencesSaid : Prop := deviceFencesRow.holds Try.pinned (OpenSpec.ofChange deviceFencesSpec)

/-- ITS FALSE NEIGHBOUR: 'it returns false'. Refute it at one input. -/
def deviceFencesWrong : ChangeSpec := { name := "deviceFences", fn := fun _ => fun
  | [d1, d2] => { results := [.lit (.bool false)], args := [d1, d2] }
  | _ => none }
def DeviceFencesWrongFalsely : Prop := deviceFencesRow.holds Try.pinned (OpenSpec.ofChange deviceFencesWrong)

/-- 'dasdlaw03.DeviceLasts': WHATEVER THE INPUT: true; the input reads as it did. -/
def deviceLastsSpec : ChangeSpec := { name := "deviceLasts", fn := fun _ => fun
  | [d1, d2, d3, d4] => { results := [.lit (.bool true)], args := [d1, d2, d3, d4] }
  | _ => none }
def deviceLastsRow : OpenClaim := { program := "ytklojcgbokmkhaa", sum := "8f7388da5f31a86c2c142b10b75b78a53cf2ca43aa66499500b55bacd60a5a57", func := "dasd/dasdlaw03.DeviceLasts", spec := "deviceLasts", unfollowed := true, recurses := true, apart := false }
def DeviceLastsSaid : Prop := deviceLastsRow.holds Try.pinned (OpenSpec.ofChange deviceLastsSpec)

/-- ITS FALSE NEIGHBOUR: 'it returns false'. Refute it at one input. -/
def deviceLastsWrong : ChangeSpec := { name := "deviceLasts", fn := fun _ => fun
  | [d1, d2, d3, d4] => { results := [.lit (.bool false)], args := [d1, d2, d3, d4] }
  | _ => none }
def DeviceLastsWrongFalsely : Prop := deviceLastsRow.holds Try.pinned (OpenSpec.ofChange deviceLastsWrong)

/-- 'dasdlaw03.DeviceOperations': WHATEVER THE INPUT: true; the input reads as it did. -/
def deviceOperationsSpec : ChangeSpec := { name := "deviceOperations", fn := fun _ => fun
  | [d1, d2] => { results := [.lit (.bool true)], args := [d1, d2] }
  | _ => none }
def deviceOperationsRow : OpenClaim := { program := "ytklojcgbokmkhaa", sum := "8f7388da5f31a86c2c142b10b75b78a53cf2ca43aa66499500b55bacd60a5a57", func := "dasd/dasdlaw03.DeviceOperations", spec := "deviceOperations", unfollowed := true, recurses := true, apart := false }
def DeviceOperationsSaid : Prop := deviceOperationsRow.holds Try.pinned (OpenSpec.ofChange deviceOperationsSpec)

/-- ITS FALSE NEIGHBOUR: 'it returns false'. Refute it at one input. -/
def deviceOperationsWrong : ChangeSpec := { name := "deviceOperations", fn := fun _ => fun
  | [d1, d2] => { results := [.lit (.bool false)], args := [d1, d2] }
  | _ => none }
def DeviceOperationsWrongFalsely : Prop := deviceOperationsRow.holds Try.pinned (OpenSpec.ofChange deviceOperationsWrong)

/-- 'dasdlaw03.DeviceClones': WHATEVER THE INPUT: true; the input reads as it did. -/
def deviceClonesSpec : ChangeSpec := { name := "deviceClones", fn := fun _ => fun
  | [d1, d2, d3] => { results := [.lit (.bool true)], args := [d1, d2, d3] }
  | _ => none }
def deviceClonesRow : OpenClaim := { program := "ytklojcgbokmkhaa", sum := "8f7388da5f31a86c2c142b10b75b78a53cf2ca43aa66499500b55bacd60a5a57", func := "dasd/dasdlaw03.DeviceClones", spec := "deviceClones", unfollowed := true, recurses := true, apart := false }
def DeviceClonesSaid : Prop := deviceClonesRow.holds Try.pinned (OpenSpec.ofChange deviceClonesSpec)

/-- ITS FALSE NEIGHBOUR: 'it returns false'. Refute it at one input. -/
def deviceClonesWrong : ChangeSpec := { name := "deviceClones", fn := fun _ => fun
  | [d1, d2, d3] => { results := [.lit (.bool false)], args := [d1, d2, d3] }
  | _ => none }
def DeviceClonesWrongFalsely : Prop := deviceClonesRow.holds Try.pinned (OpenSpec.ofChange deviceClonesWrong)

/- THE SECOND FORM. 'bulk': how many values and letters a reading holds, each counted each time it is reached (what is shared counts as often as it is met; a slice's spare places count too). A statement '..UptoSaid' is the law's where the arguments, and the package variables that the reading takes, are together of bulk at most 1048576: NARROWER than '..Said'. Prove '..Said' where nothing that the law and all that it calls make is longer than what came in: it says more and counts as full. Else prove '..UptoSaid'. A law counts once. -/
mutual
def uptoBulk {H : Type} : DataW H → Nat
  | .lit (.string bytes) => bytes.length + 1
  | .lit _ => 1
  | .nil => 1
  | .ptr d => uptoBulk d + 1
  | .slice elems spare => uptoBulkAll elems + uptoBulkAll spare + 1
  | .agg parts => uptoBulkAll parts + 1
  | .iface _ d => uptoBulk d + 1
  | .map entries => uptoBulkEntries entries + 1
  | .held _ => 1
def uptoBulkAll {H : Type} : List (DataW H) → Nat
  | [] => 0
  | d :: r => uptoBulk d + uptoBulkAll r
def uptoBulkEntries {H : Type} : List (Lit × DataW H) → Nat
  | [] => 0
  | x :: r => uptoBulkEntry x + uptoBulkEntries r
def uptoBulkEntry {H : Type} : Lit × DataW H → Nat
  | (.string bytes, d) => bytes.length + uptoBulk d + 1
  | (_, d) => uptoBulk d + 1
 end
def uptoSmall : (H : Type) → List (DataW H) → Bool := fun _ ds => decide (uptoBulkAll ds ≤ 1048576)
def OpenSpec.upto (s : _root_.Go.ChangeSpec) : _root_.Go.OpenSpec := { _root_.Go.OpenSpec.ofChange s with cond := some uptoSmall }

/-- 'dasdlaw03.DeviceNew', WHERE WHAT IT READS IS OF BULK AT MOST 1048576: true; the input reads as it did. -/
def deviceNewUptoRow : OpenClaim := { program := "ytklojcgbokmkhaa", sum := "8f7388da5f31a86c2c142b10b75b78a53cf2ca43aa66499500b55bacd60a5a57", func := "dasd/dasdlaw03.DeviceNew", spec := "deviceNew", unfollowed := true, recurses := true, apart := false, narrowed := true }
def DeviceNewUptoSaid : Prop := deviceNewUptoRow.holds Try.pinned (OpenSpec.upto deviceNewSpec)

/-- 'dasdlaw03.DeviceCrashes', WHERE WHAT IT READS IS OF BULK AT MOST 1048576: true; the input reads as it did. -/
def deviceCrashesUptoRow : OpenClaim := { program := "ytklojcgbokmkhaa", sum := "8f7388da5f31a86c2c142b10b75b78a53cf2ca43aa66499500b55bacd60a5a57", func := "dasd/dasdlaw03.DeviceCrashes", spec := "deviceCrashes", unfollowed := true, recurses := true, apart := false, narrowed := true }
def DeviceCrashesUptoSaid : Prop := deviceCrashesUptoRow.holds Try.pinned (OpenSpec.upto deviceCrashesSpec)

/-- 'dasdlaw03.DeviceReturns', WHERE WHAT IT READS IS OF BULK AT MOST 1048576: true; the input reads as it did. -/
def deviceReturnsUptoRow : OpenClaim := { program := "ytklojcgbokmkhaa", sum := "8f7388da5f31a86c2c142b10b75b78a53cf2ca43aa66499500b55bacd60a5a57", func := "dasd/dasdlaw03.DeviceReturns", spec := "deviceReturns", unfollowed := true, recurses := true, apart := false, narrowed := true }
def DeviceReturnsUptoSaid : Prop := deviceReturnsUptoRow.holds Try.pinned (OpenSpec.upto deviceReturnsSpec)

/-- 'dasdlaw03.DeviceFences', WHERE WHAT IT READS IS OF BULK AT MOST 1048576: true; the input reads as it did. -/
def deviceFencesUptoRow : OpenClaim := { program := "ytklojcgbokmkhaa", sum := "8f7388da5f31a86c2c142b10b75b78a53cf2ca43aa66499500b55bacd60a5a57", func := "dasd/dasdlaw03.DeviceFences", spec := "deviceFences", unfollowed := true, recurses := true, apart := false, narrowed := true }
def DeviceFencesUptoSaid : Prop := deviceFencesUptoRow.holds Try.pinned (OpenSpec.upto deviceFencesSpec)

/-- 'dasdlaw03.DeviceLasts', WHERE WHAT IT READS IS OF BULK AT MOST 1048576: true; the input reads as it did. -/
def deviceLastsUptoRow : OpenClaim := { program := "ytklojcgbokmkhaa", sum := "8f7388da5f31a86c2c142b10b75b78a53cf2ca43aa66499500b55bacd60a5a57", func := "dasd/dasdlaw03.DeviceLasts", spec := "deviceLasts", unfollowed := true, recurses := true, apart := false, narrowed := true }
def DeviceLastsUptoSaid : Prop := deviceLastsUptoRow.holds Try.pinned (OpenSpec.upto deviceLastsSpec)

/-- 'dasdlaw03.DeviceOperations', WHERE WHAT IT READS IS OF BULK AT MOST 1048576: true; the input reads as it did. -/
def deviceOperationsUptoRow : OpenClaim := { program := "ytklojcgbokmkhaa", sum := "8f7388da5f31a86c2c142b10b75b78a53cf2ca43aa66499500b55bacd60a5a57", func := "dasd/dasdlaw03.DeviceOperations", spec := "deviceOperations", unfollowed := true, recurses := true, apart := false, narrowed := true }
def DeviceOperationsUptoSaid : Prop := deviceOperationsUptoRow.holds Try.pinned (OpenSpec.upto deviceOperationsSpec)

/-- 'dasdlaw03.DeviceClones', WHERE WHAT IT READS IS OF BULK AT MOST 1048576: true; the input reads as it did. -/
def deviceClonesUptoRow : OpenClaim := { program := "ytklojcgbokmkhaa", sum := "8f7388da5f31a86c2c142b10b75b78a53cf2ca43aa66499500b55bacd60a5a57", func := "dasd/dasdlaw03.DeviceClones", spec := "deviceClones", unfollowed := true, recurses := true, apart := false, narrowed := true }
def DeviceClonesUptoSaid : Prop := deviceClonesUptoRow.holds Try.pinned (OpenSpec.upto deviceClonesSpec)

end Rows
end Go.Proofs.Ytklojcgbokmkhaa
