/-
  No cell of these rows narrows 'for every input' (looked for: loops, veiled, ifaces, maps, wideKeys, modest, calm, conditions, laid).
  DERIVED. THE GIVEN ROWS OF THIS SEAT. 7 by the template 'for every input the law returns true; each argument reads behind the call as it read before'; 0 by the template 'total and deterministic' (their statements: YtfmhiocigoejjaaTotals.lean).
  GIVEN WITH THE SEED: the statements are not yours to turn. If you find one false, say at which input.
  Laid BY PROGRAM, IN A SANDBOX (cutbox-rows.mjs): the forced cells as the released guide's own fill.sh prints them over the translation 04145811628e25f9… (all of the seat's roots in one cut). By AI agents, Wed Nov 11 2026. No macro, syntax, notation, axiom, sorry.
-/
import Derived.Test.YtfmhiocigoejjaaChecked
import GoSem.Claim
import GoSem.ClaimJoined
import GoSem.ClaimMapViews
import Derived.JoinedTies
import Derived.KernelRfl
namespace Go.Proofs.Ytfmhiocigoejjaa
/- THE CELL 'sum', in the pinned program and in every row, IS THE sha256 OF THE DUMP (.gsa) THAT YtfmhiocigoejjaaProg.lean LOADS. Nothing in Lean hashes anything: it is a label: what it is worth is what the hold of that sum in a sandbox is worth. -/
noncomputable def Try.pinned : Pinned := { name := "ytfmhiocigoejjaa", sum := "04145811628e25f92cd185a2955ca311725bbf2d75c8a67f8d873be9ee4056dd", checked := Try.checked }
namespace Rows
def none {H : Type} : Left H := { results := [], args := [] }

/-- 'dasdlaw25.BufferSizes': WHATEVER THE INPUT: true; the input reads as it did. -/
def bufferSizesSpec : ChangeSpec := { name := "bufferSizes", fn := fun _ => fun
  | [d] => { results := [.lit (.bool true)], args := [d] }
  | _ => none }
def bufferSizesRow : OpenClaim := { program := "ytfmhiocigoejjaa", sum := "04145811628e25f92cd185a2955ca311725bbf2d75c8a67f8d873be9ee4056dd", func := "dasd/dasdlaw25.BufferSizes", spec := "bufferSizes", unfollowed := true, recurses := true, plainKeys := false, apart := false }
def BufferSizesSaid : Prop := bufferSizesRow.holds Try.pinned (OpenSpec.ofChange bufferSizesSpec)

/-- ITS FALSE NEIGHBOUR: 'it returns false'. Refute it at one input. -/
def bufferSizesWrong : ChangeSpec := { name := "bufferSizes", fn := fun _ => fun
  | [d] => { results := [.lit (.bool false)], args := [d] }
  | _ => none }
def BufferSizesWrongFalsely : Prop := bufferSizesRow.holds Try.pinned (OpenSpec.ofChange bufferSizesWrong)

/-- 'dasdlaw25.BufferRecent': WHATEVER THE INPUT: true; the input reads as it did. -/
def bufferRecentSpec : ChangeSpec := { name := "bufferRecent", fn := fun _ => fun
  | [d1, d2] => { results := [.lit (.bool true)], args := [d1, d2] }
  | _ => none }
def bufferRecentRow : OpenClaim := { program := "ytfmhiocigoejjaa", sum := "04145811628e25f92cd185a2955ca311725bbf2d75c8a67f8d873be9ee4056dd", func := "dasd/dasdlaw25.BufferRecent", spec := "bufferRecent", unfollowed := true, recurses := true, plainKeys := false, apart := false }
def BufferRecentSaid : Prop := bufferRecentRow.holds Try.pinned (OpenSpec.ofChange bufferRecentSpec)

/-- ITS FALSE NEIGHBOUR: 'it returns false'. Refute it at one input. -/
def bufferRecentWrong : ChangeSpec := { name := "bufferRecent", fn := fun _ => fun
  | [d1, d2] => { results := [.lit (.bool false)], args := [d1, d2] }
  | _ => none }
def BufferRecentWrongFalsely : Prop := bufferRecentRow.holds Try.pinned (OpenSpec.ofChange bufferRecentWrong)

/-- 'dasdlaw25.BufferInvalidates': WHATEVER THE INPUT: true; the input reads as it did. -/
def bufferInvalidatesSpec : ChangeSpec := { name := "bufferInvalidates", fn := fun _ => fun
  | [d1, d2, d3, d4, d5] => { results := [.lit (.bool true)], args := [d1, d2, d3, d4, d5] }
  | _ => none }
def bufferInvalidatesRow : OpenClaim := { program := "ytfmhiocigoejjaa", sum := "04145811628e25f92cd185a2955ca311725bbf2d75c8a67f8d873be9ee4056dd", func := "dasd/dasdlaw25.BufferInvalidates", spec := "bufferInvalidates", unfollowed := true, recurses := true, plainKeys := false, apart := false }
def BufferInvalidatesSaid : Prop := bufferInvalidatesRow.holds Try.pinned (OpenSpec.ofChange bufferInvalidatesSpec)

/-- ITS FALSE NEIGHBOUR: 'it returns false'. Refute it at one input. -/
def bufferInvalidatesWrong : ChangeSpec := { name := "bufferInvalidates", fn := fun _ => fun
  | [d1, d2, d3, d4, d5] => { results := [.lit (.bool false)], args := [d1, d2, d3, d4, d5] }
  | _ => none }
def BufferInvalidatesWrongFalsely : Prop := bufferInvalidatesRow.holds Try.pinned (OpenSpec.ofChange bufferInvalidatesWrong)

/-- 'dasdlaw25.BufferKeeps': WHATEVER THE INPUT: true; the input reads as it did. -/
def bufferKeepsSpec : ChangeSpec := { name := "bufferKeeps", fn := fun _ => fun
  | [d1, d2] => { results := [.lit (.bool true)], args := [d1, d2] }
  | _ => none }
def bufferKeepsRow : OpenClaim := { program := "ytfmhiocigoejjaa", sum := "04145811628e25f92cd185a2955ca311725bbf2d75c8a67f8d873be9ee4056dd", func := "dasd/dasdlaw25.BufferKeeps", spec := "bufferKeeps", unfollowed := true, recurses := true, plainKeys := false, apart := false }
def BufferKeepsSaid : Prop := bufferKeepsRow.holds Try.pinned (OpenSpec.ofChange bufferKeepsSpec)

/-- ITS FALSE NEIGHBOUR: 'it returns false'. Refute it at one input. -/
def bufferKeepsWrong : ChangeSpec := { name := "bufferKeeps", fn := fun _ => fun
  | [d1, d2] => { results := [.lit (.bool false)], args := [d1, d2] }
  | _ => none }
def BufferKeepsWrongFalsely : Prop := bufferKeepsRow.holds Try.pinned (OpenSpec.ofChange bufferKeepsWrong)

/-- 'dasdlaw25.BufferDrops': WHATEVER THE INPUT: true; the input reads as it did. -/
def bufferDropsSpec : ChangeSpec := { name := "bufferDrops", fn := fun _ => fun
  | [d1, d2, d3] => { results := [.lit (.bool true)], args := [d1, d2, d3] }
  | _ => none }
def bufferDropsRow : OpenClaim := { program := "ytfmhiocigoejjaa", sum := "04145811628e25f92cd185a2955ca311725bbf2d75c8a67f8d873be9ee4056dd", func := "dasd/dasdlaw25.BufferDrops", spec := "bufferDrops", unfollowed := true, recurses := true, plainKeys := false, apart := false }
def BufferDropsSaid : Prop := bufferDropsRow.holds Try.pinned (OpenSpec.ofChange bufferDropsSpec)

/-- ITS FALSE NEIGHBOUR: 'it returns false'. Refute it at one input. -/
def bufferDropsWrong : ChangeSpec := { name := "bufferDrops", fn := fun _ => fun
  | [d1, d2, d3] => { results := [.lit (.bool false)], args := [d1, d2, d3] }
  | _ => none }
def BufferDropsWrongFalsely : Prop := bufferDropsRow.holds Try.pinned (OpenSpec.ofChange bufferDropsWrong)

/-- 'dasdlaw25.BufferCounts': WHATEVER THE INPUT: true; the input reads as it did. -/
def bufferCountsSpec : ChangeSpec := { name := "bufferCounts", fn := fun _ => fun
  | [d1, d2] => { results := [.lit (.bool true)], args := [d1, d2] }
  | _ => none }
def bufferCountsRow : OpenClaim := { program := "ytfmhiocigoejjaa", sum := "04145811628e25f92cd185a2955ca311725bbf2d75c8a67f8d873be9ee4056dd", func := "dasd/dasdlaw25.BufferCounts", spec := "bufferCounts", unfollowed := true, recurses := true, plainKeys := false, apart := false }
def BufferCountsSaid : Prop := bufferCountsRow.holds Try.pinned (OpenSpec.ofChange bufferCountsSpec)

/-- ITS FALSE NEIGHBOUR: 'it returns false'. Refute it at one input. -/
def bufferCountsWrong : ChangeSpec := { name := "bufferCounts", fn := fun _ => fun
  | [d1, d2] => { results := [.lit (.bool false)], args := [d1, d2] }
  | _ => none }
def BufferCountsWrongFalsely : Prop := bufferCountsRow.holds Try.pinned (OpenSpec.ofChange bufferCountsWrong)

/-- 'dasdlaw25.BufferCalls': WHATEVER THE INPUT: true; the input reads as it did. -/
def bufferCallsSpec : ChangeSpec := { name := "bufferCalls", fn := fun _ => fun
  | [d1, d2] => { results := [.lit (.bool true)], args := [d1, d2] }
  | _ => none }
def bufferCallsRow : OpenClaim := { program := "ytfmhiocigoejjaa", sum := "04145811628e25f92cd185a2955ca311725bbf2d75c8a67f8d873be9ee4056dd", func := "dasd/dasdlaw25.BufferCalls", spec := "bufferCalls", unfollowed := true, recurses := true, plainKeys := false, apart := false }
def BufferCallsSaid : Prop := bufferCallsRow.holds Try.pinned (OpenSpec.ofChange bufferCallsSpec)

/-- ITS FALSE NEIGHBOUR: 'it returns false'. Refute it at one input. -/
def bufferCallsWrong : ChangeSpec := { name := "bufferCalls", fn := fun _ => fun
  | [d1, d2] => { results := [.lit (.bool false)], args := [d1, d2] }
  | _ => none }
def BufferCallsWrongFalsely : Prop := bufferCallsRow.holds Try.pinned (OpenSpec.ofChange bufferCallsWrong)

/- THE SECOND FORM. 'bulk': how many values and letters a reading holds, each counted each time it is reached (what is shared counts as often as it is met; a slice's spare places count too). A statement '..UptoSaid' is the law's where the arguments, and the package variables that the reading takes, are together of bulk at most 1048576: NARROWER than '..Said'. Prove '..Said' where nothing that the law and all that it calls make is longer than what came in: it says more and counts as full. Else prove '..UptoSaid'. A law counts once. -/
mutual
def uptoBulk {H : Type} : DataW H → Nat
  | .lit (.string bytes) => bytes.length + 1
  | .lit _ => 1
  | .nil => 1
  | .ptr d => uptoBulk d + 1
  | .slice elems spare => uptoBulkAll elems + uptoBulkAll spare + 1
  | .agg parts => uptoBulkAll parts + 1
  | .iface _ d => uptoBulk d + 1
  | .map entries => uptoBulkEntries entries + 1
  | .held _ => 1
def uptoBulkAll {H : Type} : List (DataW H) → Nat
  | [] => 0
  | d :: r => uptoBulk d + uptoBulkAll r
def uptoBulkEntries {H : Type} : List (Lit × DataW H) → Nat
  | [] => 0
  | x :: r => uptoBulkEntry x + uptoBulkEntries r
def uptoBulkEntry {H : Type} : Lit × DataW H → Nat
  | (.string bytes, d) => bytes.length + uptoBulk d + 1
  | (_, d) => uptoBulk d + 1
 end
def uptoSmall : (H : Type) → List (DataW H) → Bool := fun _ ds => decide (uptoBulkAll ds ≤ 1048576)
def OpenSpec.upto (s : _root_.Go.ChangeSpec) : _root_.Go.OpenSpec := { _root_.Go.OpenSpec.ofChange s with cond := some uptoSmall }

/-- 'dasdlaw25.BufferSizes', WHERE WHAT IT READS IS OF BULK AT MOST 1048576: true; the input reads as it did. -/
def bufferSizesUptoRow : OpenClaim := { program := "ytfmhiocigoejjaa", sum := "04145811628e25f92cd185a2955ca311725bbf2d75c8a67f8d873be9ee4056dd", func := "dasd/dasdlaw25.BufferSizes", spec := "bufferSizes", unfollowed := true, recurses := true, plainKeys := false, apart := false, narrowed := true }
def BufferSizesUptoSaid : Prop := bufferSizesUptoRow.holds Try.pinned (OpenSpec.upto bufferSizesSpec)

/-- 'dasdlaw25.BufferRecent', WHERE WHAT IT READS IS OF BULK AT MOST 1048576: true; the input reads as it did. -/
def bufferRecentUptoRow : OpenClaim := { program := "ytfmhiocigoejjaa", sum := "04145811628e25f92cd185a2955ca311725bbf2d75c8a67f8d873be9ee4056dd", func := "dasd/dasdlaw25.BufferRecent", spec := "bufferRecent", unfollowed := true, recurses := true, plainKeys := false, apart := false, narrowed := true }
def BufferRecentUptoSaid : Prop := bufferRecentUptoRow.holds Try.pinned (OpenSpec.upto bufferRecentSpec)

/-- 'dasdlaw25.BufferInvalidates', WHERE WHAT IT READS IS OF BULK AT MOST 1048576: true; the input reads as it did. -/
def bufferInvalidatesUptoRow : OpenClaim := { program := "ytfmhiocigoejjaa", sum := "04145811628e25f92cd185a2955ca311725bbf2d75c8a67f8d873be9ee4056dd", func := "dasd/dasdlaw25.BufferInvalidates", spec := "bufferInvalidates", unfollowed := true, recurses := true, plainKeys := false, apart := false, narrowed := true }
def BufferInvalidatesUptoSaid : Prop := bufferInvalidatesUptoRow.holds Try.pinned (OpenSpec.upto bufferInvalidatesSpec)

/-- 'dasdlaw25.BufferKeeps', WHERE WHAT IT READS IS OF BULK AT MOST 1048576: true; the input reads as it did. -/
def bufferKeepsUptoRow : OpenClaim := { program := "ytfmhiocigoejjaa", sum := "04145811628e25f92cd185a2955ca311725bbf2d75c8a67f8d873be9ee4056dd", func := "dasd/dasdlaw25.BufferKeeps", spec := "bufferKeeps", unfollowed := true, recurses := true, plainKeys := false, apart := false, narrowed := true }
def BufferKeepsUptoSaid : Prop := bufferKeepsUptoRow.holds Try.pinned (OpenSpec.upto bufferKeepsSpec)

/-- 'dasdlaw25.BufferDrops', WHERE WHAT IT READS IS OF BULK AT MOST 1048576: true; the input reads as it did. -/
def bufferDropsUptoRow : OpenClaim := { program := "ytfmhiocigoejjaa", sum := "04145811628e25f92cd185a2955ca311725bbf2d75c8a67f8d873be9ee4056dd", func := "dasd/dasdlaw25.BufferDrops", spec := "bufferDrops", unfollowed := true, recurses := true, plainKeys := false, apart := false, narrowed := true }
def BufferDropsUptoSaid : Prop := bufferDropsUptoRow.holds Try.pinned (OpenSpec.upto bufferDropsSpec)

/-- 'dasdlaw25.BufferCounts', WHERE WHAT IT READS IS OF BULK AT MOST 1048576: true; the input reads as it did. -/
def bufferCountsUptoRow : OpenClaim := { program := "ytfmhiocigoejjaa", sum := "04145811628e25f92cd185a2955ca311725bbf2d75c8a67f8d873be9ee4056dd", func := "dasd/dasdlaw25.BufferCounts", spec := "bufferCounts", unfollowed := true, recurses := true, plainKeys := false, apart := false, narrowed := true }
def BufferCountsUptoSaid : Prop := bufferCountsUptoRow.holds Try.pinned (OpenSpec.upto bufferCountsSpec)

/-- 'dasdlaw25.BufferCalls', WHERE WHAT IT READS IS OF BULK AT MOST 1048576: true; the input reads as it did. -/
def bufferCallsUptoRow : OpenClaim := { program := "ytfmhiocigoejjaa", sum := "04145811628e25f92cd185a2955ca311725bbf2d75c8a67f8d873be9ee4056dd", func := "dasd/dasdlaw25.BufferCalls", spec := "bufferCalls", unfollowed := true, recurses := true, plainKeys := false, apart := false, narrowed := true }
def BufferCallsUptoSaid : Prop := bufferCallsUptoRow.holds Try.pinned (OpenSpec.upto bufferCallsSpec)

end Rows
end Go.Proofs.Ytfmhiocigoejjaa
