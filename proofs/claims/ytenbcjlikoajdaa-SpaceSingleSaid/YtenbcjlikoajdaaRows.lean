/-
  No cell of these rows narrows 'for every input' (looked for: loops, veiled, ifaces, maps, wideKeys, modest, calm, conditions, laid).
  DERIVED. THE GIVEN ROWS OF THIS SEAT. 8 by the template 'for every input the law returns true; each argument reads behind the call as it read before'; 0 by the template 'total and deterministic' (their statements: YtenbcjlikoajdaaTotals.lean).
  GIVEN WITH THE SEED: the statements are not yours to turn. If you find one false, say at which input.
  Laid BY PROGRAM, IN A SANDBOX (cutbox-rows.mjs): the forced cells as the released guide's own fill.sh prints them over the translation efce82e423c1dbe3… (all of the seat's roots in one cut). By AI agents, Wed Nov 11 2026. No macro, syntax, notation, axiom, sorry.
-/
import Derived.Test.YtenbcjlikoajdaaChecked
import GoSem.Claim
import GoSem.ClaimJoined
import GoSem.ClaimMapViews
import Derived.JoinedTies
import Derived.KernelRfl
namespace Go.Proofs.Ytenbcjlikoajdaa
/- THE CELL 'sum', in the pinned program and in every row, IS THE sha256 OF THE DUMP (.gsa) THAT YtenbcjlikoajdaaProg.lean LOADS. Nothing in Lean hashes anything: it is a label: what it is worth is what the hold of that sum in a sandbox is worth. -/
noncomputable def Try.pinned : Pinned := { name := "ytenbcjlikoajdaa", sum := "efce82e423c1dbe36f589518af60ea167774778932ff57932d2a9b87398d842c", checked := Try.checked }
namespace Rows
def none {H : Type} : Left H := { results := [], args := [] }

/-- 'dasdlaw06.SpaceAllocates': WHATEVER THE INPUT: true; the input reads as it did. -/
def spaceAllocatesSpec : ChangeSpec := { name := "spaceAllocates", fn := fun _ => fun
  | [d1, d2, d3] => { results := [.lit (.bool true)], args := [d1, d2, d3] }
  | _ => none }
def spaceAllocatesRow : OpenClaim := { program := "ytenbcjlikoajdaa", sum := "efce82e423c1dbe36f589518af60ea167774778932ff57932d2a9b87398d842c", func := "dasd/dasdlaw06.SpaceAllocates", spec := "spaceAllocates", unfollowed := true, recurses := true, apart := false }
def SpaceAllocatesSaid : Prop := spaceAllocatesRow.holds Try.pinned (OpenSpec.ofChange spaceAllocatesSpec)

/-- ITS FALSE NEIGHBOUR: 'it returns false'. Refute it at one input. -/
def spaceAllocatesWrong : ChangeSpec := { name := "spaceAllocates", fn := fun _ => fun
  | [d1, d2, d3] => { results := [.lit (.bool false)], args := [d1, d2, d3] }
  | _ => none }
def SpaceAllocatesWrongFalsely : Prop := spaceAllocatesRow.holds Try.pinned (OpenSpec.ofChange spaceAllocatesWrong)

/-- 'dasdlaw06.SpaceExtends': WHATEVER THE INPUT: true; the input reads as it did. -/
def spaceExtendsSpec : ChangeSpec := { name := "spaceExtends", fn := fun _ => fun
  | [d1, d2, d3] => { results := [.lit (.bool true)], args := [d1, d2, d3] }
  | _ => none }
def spaceExtendsRow : OpenClaim := { program := "ytenbcjlikoajdaa", sum := "efce82e423c1dbe36f589518af60ea167774778932ff57932d2a9b87398d842c", func := "dasd/dasdlaw06.SpaceExtends", spec := "spaceExtends", unfollowed := true, recurses := true, apart := false }
def SpaceExtendsSaid : Prop := spaceExtendsRow.holds Try.pinned (OpenSpec.ofChange spaceExtendsSpec)

/-- ITS FALSE NEIGHBOUR: 'it returns false'. Refute it at one input. -/
def spaceExtendsWrong : ChangeSpec := { name := "spaceExtends", fn := fun _ => fun
  | [d1, d2, d3] => { results := [.lit (.bool false)], args := [d1, d2, d3] }
  | _ => none }
def SpaceExtendsWrongFalsely : Prop := spaceExtendsRow.holds Try.pinned (OpenSpec.ofChange spaceExtendsWrong)

/-- 'dasdlaw06.SpaceWithin': WHATEVER THE INPUT: true; the input reads as it did. -/
def spaceWithinSpec : ChangeSpec := { name := "spaceWithin", fn := fun _ => fun
  | [d1, d2, d3] => { results := [.lit (.bool true)], args := [d1, d2, d3] }
  | _ => none }
def spaceWithinRow : OpenClaim := { program := "ytenbcjlikoajdaa", sum := "efce82e423c1dbe36f589518af60ea167774778932ff57932d2a9b87398d842c", func := "dasd/dasdlaw06.SpaceWithin", spec := "spaceWithin", unfollowed := true, recurses := true, apart := false }
def SpaceWithinSaid : Prop := spaceWithinRow.holds Try.pinned (OpenSpec.ofChange spaceWithinSpec)

/-- ITS FALSE NEIGHBOUR: 'it returns false'. Refute it at one input. -/
def spaceWithinWrong : ChangeSpec := { name := "spaceWithin", fn := fun _ => fun
  | [d1, d2, d3] => { results := [.lit (.bool false)], args := [d1, d2, d3] }
  | _ => none }
def SpaceWithinWrongFalsely : Prop := spaceWithinRow.holds Try.pinned (OpenSpec.ofChange spaceWithinWrong)

/-- 'dasdlaw06.SpacePartition': WHATEVER THE INPUT: true; the input reads as it did. -/
def spacePartitionSpec : ChangeSpec := { name := "spacePartition", fn := fun _ => fun
  | [d1, d2, d3] => { results := [.lit (.bool true)], args := [d1, d2, d3] }
  | _ => none }
def spacePartitionRow : OpenClaim := { program := "ytenbcjlikoajdaa", sum := "efce82e423c1dbe36f589518af60ea167774778932ff57932d2a9b87398d842c", func := "dasd/dasdlaw06.SpacePartition", spec := "spacePartition", unfollowed := true, recurses := true, apart := false }
def SpacePartitionSaid : Prop := spacePartitionRow.holds Try.pinned (OpenSpec.ofChange spacePartitionSpec)

/-- ITS FALSE NEIGHBOUR: 'it returns false'. Refute it at one input. -/
def spacePartitionWrong : ChangeSpec := { name := "spacePartition", fn := fun _ => fun
  | [d1, d2, d3] => { results := [.lit (.bool false)], args := [d1, d2, d3] }
  | _ => none }
def SpacePartitionWrongFalsely : Prop := spacePartitionRow.holds Try.pinned (OpenSpec.ofChange spacePartitionWrong)

/-- 'dasdlaw06.SpaceSingle': WHATEVER THE INPUT: true; the input reads as it did. -/
def spaceSingleSpec : ChangeSpec := { name := "spaceSingle", fn := fun _ => fun
  | [d1, d2] => { results := [.lit (.bool true)], args := [d1, d2] }
  | _ => none }
def spaceSingleRow : OpenClaim := { program := "ytenbcjlikoajdaa", sum := "efce82e423c1dbe36f589518af60ea167774778932ff57932d2a9b87398d842c", func := "dasd/dasdlaw06.SpaceSingle", spec := "spaceSingle", unfollowed := true, recurses := true, apart := false }
def SpaceSingleSaid : Prop := spaceSingleRow.holds Try.pinned (OpenSpec.ofChange spaceSingleSpec)

/-- ITS FALSE NEIGHBOUR: 'it returns false'. Refute it at one input. -/
def spaceSingleWrong : ChangeSpec := { name := "spaceSingle", fn := fun _ => fun
  | [d1, d2] => { results := [.lit (.bool false)], args := [d1, d2] }
  | _ => none }
def SpaceSingleWrongFalsely : Prop := spaceSingleRow.holds Try.pinned (OpenSpec.ofChange spaceSingleWrong)

/-- 'dasdlaw06.SpaceFree': WHATEVER THE INPUT: true; the input reads as it did. -/
def spaceFreeSpec : ChangeSpec := { name := "spaceFree", fn := fun _ => fun
  | [d1, d2, d3] => { results := [.lit (.bool true)], args := [d1, d2, d3] }
  | _ => none }
def spaceFreeRow : OpenClaim := { program := "ytenbcjlikoajdaa", sum := "efce82e423c1dbe36f589518af60ea167774778932ff57932d2a9b87398d842c", func := "dasd/dasdlaw06.SpaceFree", spec := "spaceFree", unfollowed := true, recurses := true, apart := false }
def SpaceFreeSaid : Prop := spaceFreeRow.holds Try.pinned (OpenSpec.ofChange spaceFreeSpec)

/-- ITS FALSE NEIGHBOUR: 'it returns false'. Refute it at one input. -/
def spaceFreeWrong : ChangeSpec := { name := "spaceFree", fn := fun _ => fun
  | [d1, d2, d3] => { results := [.lit (.bool false)], args := [d1, d2, d3] }
  | _ => none }
def SpaceFreeWrongFalsely : Prop := spaceFreeRow.holds Try.pinned (OpenSpec.ofChange spaceFreeWrong)

/-- 'dasdlaw06.SpaceKeeps': WHATEVER THE INPUT: true; the input reads as it did. -/
def spaceKeepsSpec : ChangeSpec := { name := "spaceKeeps", fn := fun _ => fun
  | [d1, d2, d3] => { results := [.lit (.bool true)], args := [d1, d2, d3] }
  | _ => none }
def spaceKeepsRow : OpenClaim := { program := "ytenbcjlikoajdaa", sum := "efce82e423c1dbe36f589518af60ea167774778932ff57932d2a9b87398d842c", func := "dasd/dasdlaw06.SpaceKeeps", spec := "spaceKeeps", unfollowed := true, recurses := true, apart := false }
def SpaceKeepsSaid : Prop := spaceKeepsRow.holds Try.pinned (OpenSpec.ofChange spaceKeepsSpec)

/-- ITS FALSE NEIGHBOUR: 'it returns false'. Refute it at one input. -/
def spaceKeepsWrong : ChangeSpec := { name := "spaceKeeps", fn := fun _ => fun
  | [d1, d2, d3] => { results := [.lit (.bool false)], args := [d1, d2, d3] }
  | _ => none }
def SpaceKeepsWrongFalsely : Prop := spaceKeepsRow.holds Try.pinned (OpenSpec.ofChange spaceKeepsWrong)

/-- 'dasdlaw06.SpaceReleases': WHATEVER THE INPUT: true; the input reads as it did. -/
def spaceReleasesSpec : ChangeSpec := { name := "spaceReleases", fn := fun _ => fun
  | [d1, d2, d3] => { results := [.lit (.bool true)], args := [d1, d2, d3] }
  | _ => none }
def spaceReleasesRow : OpenClaim := { program := "ytenbcjlikoajdaa", sum := "efce82e423c1dbe36f589518af60ea167774778932ff57932d2a9b87398d842c", func := "dasd/dasdlaw06.SpaceReleases", spec := "spaceReleases", unfollowed := true, recurses := true, apart := false }
def SpaceReleasesSaid : Prop := spaceReleasesRow.holds Try.pinned (OpenSpec.ofChange spaceReleasesSpec)

/-- ITS FALSE NEIGHBOUR: 'it returns false'. Refute it at one input. -/
def spaceReleasesWrong : ChangeSpec := { name := "spaceReleases", fn := fun _ => fun
  | [d1, d2, d3] => { results := [.lit (.bool false)], args := [d1, d2, d3] }
  | _ => none }
def SpaceReleasesWrongFalsely : Prop := spaceReleasesRow.holds Try.pinned (OpenSpec.ofChange spaceReleasesWrong)

/- THE SECOND FORM. 'bulk': how many values and letters a reading holds, each counted each time it is reached (what is shared counts as often as it is met; a slice's spare places count too). A statement '..UptoSaid' is the law's where the arguments, and the package variables that the reading takes, are together of bulk at most 1048576: NARROWER than '..Said'. Prove '..Said' where nothing that the law and all that it calls make is longer than what came in: it says more and counts as full. Else prove '..UptoSaid'. A law counts once. -/
mutual
def uptoBulk {H : Type} : DataW H → Nat
  | .lit (.string bytes) => bytes.length + 1
  | .lit _ => 1
  | .nil => 1
  | .ptr d => uptoBulk d + 1
  | .slice elems spare => uptoBulkAll elems + uptoBulkAll spare + 1
  | .agg parts => uptoBulkAll parts + 1
  | .iface _ d => uptoBulk d + 1
  | .map entries => uptoBulkEntries entries + 1
  | .held _ => 1
def uptoBulkAll {H : Type} : List (DataW H) → Nat
  | [] => 0
  | d :: r => uptoBulk d + uptoBulkAll r
def uptoBulkEntries {H : Type} : List (Lit × DataW H) → Nat
  | [] => 0
  | x :: r => uptoBulkEntry x + uptoBulkEntries r
def uptoBulkEntry {H : Type} : Lit × DataW H → Nat
  | (.string bytes, d) => bytes.length + uptoBulk d + 1
  | (_, d) => uptoBulk d + 1
 end
def uptoSmall : (H : Type) → List (DataW H) → Bool := fun _ ds => decide (uptoBulkAll ds ≤ 1048576)
def OpenSpec.upto (s : _root_.Go.ChangeSpec) : _root_.Go.OpenSpec := { _root_.Go.OpenSpec.ofChange s with cond := some uptoSmall }

/-- 'dasdlaw06.SpaceAllocates', WHERE WHAT IT READS IS OF BULK AT MOST 1048576: true; the input reads as it did. -/
def spaceAllocatesUptoRow : OpenClaim := { program := "ytenbcjlikoajdaa", sum := "efce82e423c1dbe36f589518af60ea167774778932ff57932d2a9b87398d842c", func := "dasd/dasdlaw06.SpaceAllocates", spec := "spaceAllocates", unfollowed := true, recurses := true, apart := false, narrowed := true }
def SpaceAllocatesUptoSaid : Prop := spaceAllocatesUptoRow.holds Try.pinned (OpenSpec.upto spaceAllocatesSpec)

/-- 'dasdlaw06.SpaceExtends', WHERE WHAT IT READS IS OF BULK AT MOST 1048576: true; the input reads as it did. -/
def spaceExtendsUptoRow : OpenClaim := { program := "ytenbcjlikoajdaa", sum := "efce82e423c1dbe36f589518af60ea167774778932ff57932d2a9b87398d842c", func := "dasd/dasdlaw06.SpaceExtends", spec := "spaceExtends", unfollowed := true, recurses := true, apart := false, narrowed := true }
def SpaceExtendsUptoSaid : Prop := spaceExtendsUptoRow.holds Try.pinned (OpenSpec.upto spaceExtendsSpec)

/-- 'dasdlaw06.SpaceWithin', WHERE WHAT IT READS IS OF BULK AT MOST 1048576: true; the input reads as it did. -/
def spaceWithinUptoRow : OpenClaim := { program := "ytenbcjlikoajdaa", sum := "efce82e423c1dbe36f589518af60ea167774778932ff57932d2a9b87398d842c", func := "dasd/dasdlaw06.SpaceWithin", spec := "spaceWithin", unfollowed := true, recurses := true, apart := false, narrowed := true }
def SpaceWithinUptoSaid : Prop := spaceWithinUptoRow.holds Try.pinned (OpenSpec.upto spaceWithinSpec)

/-- 'dasdlaw06.SpacePartition', WHERE WHAT IT READS IS OF BULK AT MOST 1048576: true; the input reads as it did. -/
def spacePartitionUptoRow : OpenClaim := { program := "ytenbcjlikoajdaa", sum := "efce82e423c1dbe36f589518af60ea167774778932ff57932d2a9b87398d842c", func := "dasd/dasdlaw06.SpacePartition", spec := "spacePartition", unfollowed := true, recurses := true, apart := false, narrowed := true }
def SpacePartitionUptoSaid : Prop := spacePartitionUptoRow.holds Try.pinned (OpenSpec.upto spacePartitionSpec)

/-- 'dasdlaw06.SpaceSingle', WHERE WHAT IT READS IS OF BULK AT MOST 1048576: true; the input reads as it did. -/
def spaceSingleUptoRow : OpenClaim := { program := "ytenbcjlikoajdaa", sum := "efce82e423c1dbe36f589518af60ea167774778932ff57932d2a9b87398d842c", func := "dasd/dasdlaw06.SpaceSingle", spec := "spaceSingle", unfollowed := true, recurses := true, apart := false, narrowed := true }
def SpaceSingleUptoSaid : Prop := spaceSingleUptoRow.holds Try.pinned (OpenSpec.upto spaceSingleSpec)

/-- 'dasdlaw06.SpaceFree', WHERE WHAT IT READS IS OF BULK AT MOST 1048576: true; the input reads as it did. -/
def spaceFreeUptoRow : OpenClaim := { program := "ytenbcjlikoajdaa", sum := "efce82e423c1dbe36f589518af60ea167774778932ff57932d2a9b87398d842c", func := "dasd/dasdlaw06.SpaceFree", spec := "spaceFree", unfollowed := true, recurses := true, apart := false, narrowed := true }
def SpaceFreeUptoSaid : Prop := spaceFreeUptoRow.holds Try.pinned (OpenSpec.upto spaceFreeSpec)

/-- 'dasdlaw06.SpaceKeeps', WHERE WHAT IT READS IS OF BULK AT MOST 1048576: true; the input reads as it did. -/
def spaceKeepsUptoRow : OpenClaim := { program := "ytenbcjlikoajdaa", sum := "efce82e423c1dbe36f589518af60ea167774778932ff57932d2a9b87398d842c", func := "dasd/dasdlaw06.SpaceKeeps", spec := "spaceKeeps", unfollowed := true, recurses := true, apart := false, narrowed := true }
def SpaceKeepsUptoSaid : Prop := spaceKeepsUptoRow.holds Try.pinned (OpenSpec.upto spaceKeepsSpec)

/-- 'dasdlaw06.SpaceReleases', WHERE WHAT IT READS IS OF BULK AT MOST 1048576: true; the input reads as it did. -/
def spaceReleasesUptoRow : OpenClaim := { program := "ytenbcjlikoajdaa", sum := "efce82e423c1dbe36f589518af60ea167774778932ff57932d2a9b87398d842c", func := "dasd/dasdlaw06.SpaceReleases", spec := "spaceReleases", unfollowed := true, recurses := true, apart := false, narrowed := true }
def SpaceReleasesUptoSaid : Prop := spaceReleasesUptoRow.holds Try.pinned (OpenSpec.upto spaceReleasesSpec)

end Rows
end Go.Proofs.Ytenbcjlikoajdaa
