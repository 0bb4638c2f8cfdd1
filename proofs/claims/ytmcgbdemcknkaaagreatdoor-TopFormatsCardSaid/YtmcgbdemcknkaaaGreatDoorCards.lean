/-
  DERIVED. GIVEN WITH THE SEED: THE CARDS: each row of YtmcgbdemcknkaaaGreatDoorRows.lean that lists a variable, with what it lists TIED to the program's text (the seventh form; the later family's looks); each row that meets fmt, with fmt's text TOLD by the authors' own Lean function (tested against real Go, not proved from fmt's source: count such statements apart). THE CARD IS WHAT COUNTS. Prove the row's statement (the work); the ties are given (YtmcgbdemcknkaaaGreatDoorTie.lean); close each card by the builder's one call (the guide's Derived/Test/ToyasCard.lean, 'card_holds'). Laid BY PROGRAM, IN A SANDBOX (cutbox-door.mjs). By AI agents, Wed Nov 11 2026. No macro, syntax, notation, axiom, sorry.
-/
import Derived.Test.YtmcgbdemcknkaaaGreatDoorRows
import GoSem.ClaimSeven
namespace Go.Proofs.YtmcgbdemcknkaaaGreatDoor
namespace Rows

/-- THE TIED CARD OF 'dasdtop.TopFormats'. -/
def topFormatsCard : Claim7 := { stood := { row := topFormatsRow, standIns := [], harness := (true, "2b5e08f3636cd705392cadae00186fd1fdd7fd90495daa5643f86d6b762c72a1"), looks := false }, kinds := [], alts := [], laidByText := true, laidKinds := [.widerDeep], laidTests := true, laidLooks := .later }
def TopFormatsCardSaid : Prop := Claim7.holds Tryz.pinned (.plain (OpenSpec.ofChange topFormatsSpec)) topFormatsCard

/-- THE SECOND FORM's CARD OF 'dasdtop.TopFormats'. -/
def topFormatsUptoCard : Claim7 := { stood := { row := topFormatsUptoRow, standIns := [], harness := (true, "2b5e08f3636cd705392cadae00186fd1fdd7fd90495daa5643f86d6b762c72a1"), looks := false }, kinds := [], alts := [], laidByText := true, laidKinds := [.widerDeep], laidTests := true, laidLooks := .later }
def TopFormatsUptoCardSaid : Prop := Claim7.holds Tryz.pinned (.plain (OpenSpec.upto topFormatsSpec)) topFormatsUptoCard
end Rows
end Go.Proofs.YtmcgbdemcknkaaaGreatDoor
