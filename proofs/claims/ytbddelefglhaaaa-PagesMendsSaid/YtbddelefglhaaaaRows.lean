/-
  No cell of these rows narrows 'for every input' (looked for: loops, veiled, ifaces, maps, wideKeys, modest, calm, conditions, laid).
  DERIVED. THE GIVEN ROWS OF THIS SEAT. 7 by the template 'for every input the law returns true; each argument reads behind the call as it read before'; 0 by the template 'total and deterministic' (their statements: YtbddelefglhaaaaTotals.lean).
  GIVEN WITH THE SEED: the statements are not yours to turn. If you find one false, say at which input.
  Laid BY PROGRAM, IN A SANDBOX (cutbox-rows.mjs): the forced cells as the released guide's own fill.sh prints them over the translation 376d146157f5d743… (all of the seat's roots in one cut). By AI agents, Wed Nov 11 2026. No macro, syntax, notation, axiom, sorry.
-/
import Derived.Test.YtbddelefglhaaaaChecked
import GoSem.Claim
import GoSem.ClaimJoined
import GoSem.ClaimMapViews
import Derived.JoinedTies
import Derived.KernelRfl
namespace Go.Proofs.Ytbddelefglhaaaa
/- THE CELL 'sum', in the pinned program and in every row, IS THE sha256 OF THE DUMP (.gsa) THAT YtbddelefglhaaaaProg.lean LOADS. Nothing in Lean hashes anything: it is a label: what it is worth is what the hold of that sum in a sandbox is worth. -/
noncomputable def Try.pinned : Pinned := { name := "ytbddelefglhaaaa", sum := "376d146157f5d7437d7742798b34f14eb6e0d970ad9393d8dd49b619af0e9126", checked := Try.checked }
namespace Rows
def none {H : Type} : Left H := { results := [], args := [] }

/-- 'dasdlaw04.PagesPacks': WHATEVER THE INPUT: true; the input reads as it did. -/
def pagesPacksSpec : ChangeSpec := { name := "pagesPacks", fn := fun _ => fun
  | [d1, d2, d3, d4] => { results := [.lit (.bool true)], args := [d1, d2, d3, d4] }
  | _ => none }
def pagesPacksRow : OpenClaim := { program := "ytbddelefglhaaaa", sum := "376d146157f5d7437d7742798b34f14eb6e0d970ad9393d8dd49b619af0e9126", func := "dasd/dasdlaw04.PagesPacks", spec := "pagesPacks", unfollowed := true, recurses := true, apart := false }
def PagesPacksSaid : Prop := pagesPacksRow.holds Try.pinned (OpenSpec.ofChange pagesPacksSpec)

/-- ITS FALSE NEIGHBOUR: 'it returns false'. Refute it at one input. -/
def pagesPacksWrong : ChangeSpec := { name := "pagesPacks", fn := fun _ => fun
  | [d1, d2, d3, d4] => { results := [.lit (.bool false)], args := [d1, d2, d3, d4] }
  | _ => none }
def PagesPacksWrongFalsely : Prop := pagesPacksRow.holds Try.pinned (OpenSpec.ofChange pagesPacksWrong)

/-- 'dasdlaw04.PagesRefuses': WHATEVER THE INPUT: true; the input reads as it did. -/
def pagesRefusesSpec : ChangeSpec := { name := "pagesRefuses", fn := fun _ => fun
  | [d1, d2] => { results := [.lit (.bool true)], args := [d1, d2] }
  | _ => none }
def pagesRefusesRow : OpenClaim := { program := "ytbddelefglhaaaa", sum := "376d146157f5d7437d7742798b34f14eb6e0d970ad9393d8dd49b619af0e9126", func := "dasd/dasdlaw04.PagesRefuses", spec := "pagesRefuses", unfollowed := true, recurses := true, apart := false }
def PagesRefusesSaid : Prop := pagesRefusesRow.holds Try.pinned (OpenSpec.ofChange pagesRefusesSpec)

/-- ITS FALSE NEIGHBOUR: 'it returns false'. Refute it at one input. -/
def pagesRefusesWrong : ChangeSpec := { name := "pagesRefuses", fn := fun _ => fun
  | [d1, d2] => { results := [.lit (.bool false)], args := [d1, d2] }
  | _ => none }
def PagesRefusesWrongFalsely : Prop := pagesRefusesRow.holds Try.pinned (OpenSpec.ofChange pagesRefusesWrong)

/-- 'dasdlaw04.PagesShared': WHATEVER THE INPUT: true; the input reads as it did. -/
def pagesSharedSpec : ChangeSpec := { name := "pagesShared", fn := fun _ => fun
  | [d1, d2] => { results := [.lit (.bool true)], args := [d1, d2] }
  | _ => none }
def pagesSharedRow : OpenClaim := { program := "ytbddelefglhaaaa", sum := "376d146157f5d7437d7742798b34f14eb6e0d970ad9393d8dd49b619af0e9126", func := "dasd/dasdlaw04.PagesShared", spec := "pagesShared", unfollowed := true, recurses := true, apart := false }
def PagesSharedSaid : Prop := pagesSharedRow.holds Try.pinned (OpenSpec.ofChange pagesSharedSpec)

/-- ITS FALSE NEIGHBOUR: 'it returns false'. Refute it at one input. -/
def pagesSharedWrong : ChangeSpec := { name := "pagesShared", fn := fun _ => fun
  | [d1, d2] => { results := [.lit (.bool false)], args := [d1, d2] }
  | _ => none }
def PagesSharedWrongFalsely : Prop := pagesSharedRow.holds Try.pinned (OpenSpec.ofChange pagesSharedWrong)

/-- 'dasdlaw04.PagesAtomic': WHATEVER THE INPUT: true; the input reads as it did. -/
def pagesAtomicSpec : ChangeSpec := { name := "pagesAtomic", fn := fun _ => fun
  | [d1, d2, d3, d4, d5] => { results := [.lit (.bool true)], args := [d1, d2, d3, d4, d5] }
  | _ => none }
def pagesAtomicRow : OpenClaim := { program := "ytbddelefglhaaaa", sum := "376d146157f5d7437d7742798b34f14eb6e0d970ad9393d8dd49b619af0e9126", func := "dasd/dasdlaw04.PagesAtomic", spec := "pagesAtomic", unfollowed := true, recurses := true, apart := false }
def PagesAtomicSaid : Prop := pagesAtomicRow.holds Try.pinned (OpenSpec.ofChange pagesAtomicSpec)

/-- ITS FALSE NEIGHBOUR: 'it returns false'. Refute it at one input. -/
def pagesAtomicWrong : ChangeSpec := { name := "pagesAtomic", fn := fun _ => fun
  | [d1, d2, d3, d4, d5] => { results := [.lit (.bool false)], args := [d1, d2, d3, d4, d5] }
  | _ => none }
def PagesAtomicWrongFalsely : Prop := pagesAtomicRow.holds Try.pinned (OpenSpec.ofChange pagesAtomicWrong)

/-- 'dasdlaw04.PagesFenced': WHATEVER THE INPUT: true; the input reads as it did. -/
def pagesFencedSpec : ChangeSpec := { name := "pagesFenced", fn := fun _ => fun
  | [d1, d2] => { results := [.lit (.bool true)], args := [d1, d2] }
  | _ => none }
def pagesFencedRow : OpenClaim := { program := "ytbddelefglhaaaa", sum := "376d146157f5d7437d7742798b34f14eb6e0d970ad9393d8dd49b619af0e9126", func := "dasd/dasdlaw04.PagesFenced", spec := "pagesFenced", unfollowed := true, recurses := true, apart := false }
def PagesFencedSaid : Prop := pagesFencedRow.holds Try.pinned (OpenSpec.ofChange pagesFencedSpec)

/-- ITS FALSE NEIGHBOUR: 'it returns false'. Refute it at one input. -/
def pagesFencedWrong : ChangeSpec := { name := "pagesFenced", fn := fun _ => fun
  | [d1, d2] => { results := [.lit (.bool false)], args := [d1, d2] }
  | _ => none }
def PagesFencedWrongFalsely : Prop := pagesFencedRow.holds Try.pinned (OpenSpec.ofChange pagesFencedWrong)

/-- 'dasdlaw04.PagesNotices': WHATEVER THE INPUT: true; the input reads as it did. -/
def pagesNoticesSpec : ChangeSpec := { name := "pagesNotices", fn := fun _ => fun
  | [d1, d2, d3] => { results := [.lit (.bool true)], args := [d1, d2, d3] }
  | _ => none }
def pagesNoticesRow : OpenClaim := { program := "ytbddelefglhaaaa", sum := "376d146157f5d7437d7742798b34f14eb6e0d970ad9393d8dd49b619af0e9126", func := "dasd/dasdlaw04.PagesNotices", spec := "pagesNotices", unfollowed := true, recurses := true, apart := false }
def PagesNoticesSaid : Prop := pagesNoticesRow.holds Try.pinned (OpenSpec.ofChange pagesNoticesSpec)

/-- ITS FALSE NEIGHBOUR: 'it returns false'. Refute it at one input. -/
def pagesNoticesWrong : ChangeSpec := { name := "pagesNotices", fn := fun _ => fun
  | [d1, d2, d3] => { results := [.lit (.bool false)], args := [d1, d2, d3] }
  | _ => none }
def PagesNoticesWrongFalsely : Prop := pagesNoticesRow.holds Try.pinned (OpenSpec.ofChange pagesNoticesWrong)

/-- 'dasdlaw04.PagesMends': WHATEVER THE INPUT: true; the input reads as it did. -/
def pagesMendsSpec : ChangeSpec := { name := "pagesMends", fn := fun _ => fun
  | [d1, d2, d3] => { results := [.lit (.bool true)], args := [d1, d2, d3] }
  | _ => none }
def pagesMendsRow : OpenClaim := { program := "ytbddelefglhaaaa", sum := "376d146157f5d7437d7742798b34f14eb6e0d970ad9393d8dd49b619af0e9126", func := "dasd/dasdlaw04.PagesMends", spec := "pagesMends", unfollowed := true, recurses := true, apart := false }
def PagesMendsSaid : Prop := pagesMendsRow.holds Try.pinned (OpenSpec.ofChange pagesMendsSpec)

/-- ITS FALSE NEIGHBOUR: 'it returns false'. Refute it at one input. -/
def pagesMendsWrong : ChangeSpec := { name := "pagesMends", fn := fun _ => fun
  | [d1, d2, d3] => { results := [.lit (.bool false)], args := [d1, d2, d3] }
  | _ => none }
def PagesMendsWrongFalsely : Prop := pagesMendsRow.holds Try.pinned (OpenSpec.ofChange pagesMendsWrong)

/- THE SECOND FORM. 'bulk': how many values and letters a reading holds, each counted each time it is reached (what is shared counts as often as it is met; a slice's spare places count too). A statement '..UptoSaid' is the law's where the arguments, and the package variables that the reading takes, are together of bulk at most 1048576: NARROWER than '..Said'. Prove '..Said' where nothing that the law and all that it calls make is longer than what came in: it says more and counts as full. Else prove '..UptoSaid'. A law counts once. -/
mutual
def uptoBulk {H : Type} : DataW H → Nat
  | .lit (.string bytes) => bytes.length + 1
  | .lit _ => 1
  | .nil => 1
  | .ptr d => uptoBulk d + 1
  | .slice elems spare => uptoBulkAll elems + uptoBulkAll spare + 1
  | .agg parts => uptoBulkAll parts + 1
  | .iface _ d => uptoBulk d + 1
  | .map entries => uptoBulkEntries entries + 1
  | .held _ => 1
def uptoBulkAll {H : Type} : List (DataW H) → Nat
  | [] => 0
  | d :: r => uptoBulk d + uptoBulkAll r
def uptoBulkEntries {H : Type} : List (Lit × DataW H) → Nat
  | [] => 0
  | x :: r => uptoBulkEntry x + uptoBulkEntries r
def uptoBulkEntry {H : Type} : Lit × DataW H → Nat
  | (.string bytes, d) => bytes.length + uptoBulk d + 1
  | (_, d) => uptoBulk d + 1
 end
def uptoSmall : (H : Type) → List (DataW H) → Bool := fun _ ds => decide (uptoBulkAll ds ≤ 1048576)
def OpenSpec.upto (s : _root_.Go.ChangeSpec) : _root_.Go.OpenSpec := { _root_.Go.OpenSpec.ofChange s with cond := some uptoSmall }

/-- 'dasdlaw04.PagesPacks', WHERE WHAT IT READS IS OF BULK AT MOST 1048576: true; the input reads as it did. -/
def pagesPacksUptoRow : OpenClaim := { program := "ytbddelefglhaaaa", sum := "376d146157f5d7437d7742798b34f14eb6e0d970ad9393d8dd49b619af0e9126", func := "dasd/dasdlaw04.PagesPacks", spec := "pagesPacks", unfollowed := true, recurses := true, apart := false, narrowed := true }
def PagesPacksUptoSaid : Prop := pagesPacksUptoRow.holds Try.pinned (OpenSpec.upto pagesPacksSpec)

/-- 'dasdlaw04.PagesRefuses', WHERE WHAT IT READS IS OF BULK AT MOST 1048576: true; the input reads as it did. -/
def pagesRefusesUptoRow : OpenClaim := { program := "ytbddelefglhaaaa", sum := "376d146157f5d7437d7742798b34f14eb6e0d970ad9393d8dd49b619af0e9126", func := "dasd/dasdlaw04.PagesRefuses", spec := "pagesRefuses", unfollowed := true, recurses := true, apart := false, narrowed := true }
def PagesRefusesUptoSaid : Prop := pagesRefusesUptoRow.holds Try.pinned (OpenSpec.upto pagesRefusesSpec)

/-- 'dasdlaw04.PagesShared', WHERE WHAT IT READS IS OF BULK AT MOST 1048576: true; the input reads as it did. -/
def pagesSharedUptoRow : OpenClaim := { program := "ytbddelefglhaaaa", sum := "376d146157f5d7437d7742798b34f14eb6e0d970ad9393d8dd49b619af0e9126", func := "dasd/dasdlaw04.PagesShared", spec := "pagesShared", unfollowed := true, recurses := true, apart := false, narrowed := true }
def PagesSharedUptoSaid : Prop := pagesSharedUptoRow.holds Try.pinned (OpenSpec.upto pagesSharedSpec)

/-- 'dasdlaw04.PagesAtomic', WHERE WHAT IT READS IS OF BULK AT MOST 1048576: true; the input reads as it did. -/
def pagesAtomicUptoRow : OpenClaim := { program := "ytbddelefglhaaaa", sum := "376d146157f5d7437d7742798b34f14eb6e0d970ad9393d8dd49b619af0e9126", func := "dasd/dasdlaw04.PagesAtomic", spec := "pagesAtomic", unfollowed := true, recurses := true, apart := false, narrowed := true }
def PagesAtomicUptoSaid : Prop := pagesAtomicUptoRow.holds Try.pinned (OpenSpec.upto pagesAtomicSpec)

/-- 'dasdlaw04.PagesFenced', WHERE WHAT IT READS IS OF BULK AT MOST 1048576: true; the input reads as it did. -/
def pagesFencedUptoRow : OpenClaim := { program := "ytbddelefglhaaaa", sum := "376d146157f5d7437d7742798b34f14eb6e0d970ad9393d8dd49b619af0e9126", func := "dasd/dasdlaw04.PagesFenced", spec := "pagesFenced", unfollowed := true, recurses := true, apart := false, narrowed := true }
def PagesFencedUptoSaid : Prop := pagesFencedUptoRow.holds Try.pinned (OpenSpec.upto pagesFencedSpec)

/-- 'dasdlaw04.PagesNotices', WHERE WHAT IT READS IS OF BULK AT MOST 1048576: true; the input reads as it did. -/
def pagesNoticesUptoRow : OpenClaim := { program := "ytbddelefglhaaaa", sum := "376d146157f5d7437d7742798b34f14eb6e0d970ad9393d8dd49b619af0e9126", func := "dasd/dasdlaw04.PagesNotices", spec := "pagesNotices", unfollowed := true, recurses := true, apart := false, narrowed := true }
def PagesNoticesUptoSaid : Prop := pagesNoticesUptoRow.holds Try.pinned (OpenSpec.upto pagesNoticesSpec)

/-- 'dasdlaw04.PagesMends', WHERE WHAT IT READS IS OF BULK AT MOST 1048576: true; the input reads as it did. -/
def pagesMendsUptoRow : OpenClaim := { program := "ytbddelefglhaaaa", sum := "376d146157f5d7437d7742798b34f14eb6e0d970ad9393d8dd49b619af0e9126", func := "dasd/dasdlaw04.PagesMends", spec := "pagesMends", unfollowed := true, recurses := true, apart := false, narrowed := true }
def PagesMendsUptoSaid : Prop := pagesMendsUptoRow.holds Try.pinned (OpenSpec.upto pagesMendsSpec)

end Rows
end Go.Proofs.Ytbddelefglhaaaa
