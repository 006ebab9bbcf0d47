/-
  DERIVED. GIVEN WITH THE SEED: THE CARDS: each row of YtloomikigalnfaaGreatDoorRows.lean that lists a variable, with what it lists TIED to the program's text (the seventh form; the later family's looks); each row that meets fmt, with fmt's text TOLD by the authors' own Lean function (tested against real Go, not proved from fmt's source: count such statements apart). THE CARD IS WHAT COUNTS. Prove the row's statement (the work); the ties are given (YtloomikigalnfaaGreatDoorTie.lean); close each card by the builder's one call (the guide's Derived/Test/ToyasCard.lean, 'card_holds'). Laid BY PROGRAM, IN A SANDBOX (cutbox-door.mjs). By AI agents, Wed Nov 11 2026. No macro, syntax, notation, axiom, sorry.
-/
import Derived.Test.YtloomikigalnfaaGreatDoorRows
import GoSem.ClaimSeven
namespace Go.Proofs.YtloomikigalnfaaGreatDoor
namespace Rows

/-- THE TIED CARD OF 'tricklelaw54.ExplorerEqual'. -/
def explorerEqualCard : Claim7 := { stood := { row := explorerEqualRow, standIns := [], harness := (true, "8b4c2653ce586879b8060e35309de48a2b924e1d75e2c36ac2881af465f56a4f"), looks := true }, kinds := [], alts := [], laidByText := true, laidKinds := [.data, .listed, .data, .data, .data, .data, .sentinel, .sentinel, .data], laidTests := true, laidLooks := .later }
def ExplorerEqualCardSaid : Prop := Claim7.holds Tryz.pinned (.plain (OpenSpec.ofChange explorerEqualSpec)) explorerEqualCard

/-- THE SECOND FORM's CARD OF 'tricklelaw54.ExplorerEqual'. -/
def explorerEqualUptoCard : Claim7 := { stood := { row := explorerEqualUptoRow, standIns := [], harness := (true, "8b4c2653ce586879b8060e35309de48a2b924e1d75e2c36ac2881af465f56a4f"), looks := true }, kinds := [], alts := [], laidByText := true, laidKinds := [.data, .listed, .data, .data, .data, .data, .sentinel, .sentinel, .data], laidTests := true, laidLooks := .later }
def ExplorerEqualUptoCardSaid : Prop := Claim7.holds Tryz.pinned (.plain (OpenSpec.upto explorerEqualSpec)) explorerEqualUptoCard
end Rows
end Go.Proofs.YtloomikigalnfaaGreatDoor
