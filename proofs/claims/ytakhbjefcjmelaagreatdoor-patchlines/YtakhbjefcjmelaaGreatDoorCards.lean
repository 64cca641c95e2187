/-
  DERIVED. GIVEN WITH THE SEED: THE CARDS: each row of YtakhbjefcjmelaaGreatDoorRows.lean that lists a variable, with what it lists TIED to the program's text (the seventh form; the later family's looks); each row that meets fmt, with fmt's text TOLD by the authors' own Lean function (tested against real Go, not proved from fmt's source: count such statements apart). THE CARD IS WHAT COUNTS. Prove the row's statement (the work); the ties are given (YtakhbjefcjmelaaGreatDoorTie.lean); close each card by the builder's one call (the guide's Derived/Test/ToyasCard.lean, 'card_holds'). Laid BY PROGRAM, IN A SANDBOX (cutbox-door.mjs). By AI agents, Wed Nov 11 2026. No macro, syntax, notation, axiom, sorry.
-/
import Derived.Test.YtakhbjefcjmelaaGreatDoorRows
import GoSem.ClaimSeven
namespace Go.Proofs.YtakhbjefcjmelaaGreatDoor
namespace Rows

/-- THE TIED CARD OF 'assessorlaw40.PatchLines'. -/
def patchLinesCard : Claim7 := { stood := { row := patchLinesRow, standIns := [], harness := (true, "c179abb1315c8b8cc5d5dbf2d02a730259b095ecbc23a81d2ab34ec5db969b2e"), looks := false }, kinds := [], alts := [], laidByText := true, laidKinds := [.data, .data, .data, .data, .pinned], laidTests := true, laidLooks := .later }
def PatchLinesCardSaid : Prop := Claim7.holds Tryz.pinned (.plain (OpenSpec.ofChange patchLinesSpec)) patchLinesCard

/-- THE SECOND FORM's CARD OF 'assessorlaw40.PatchLines'. -/
def patchLinesUptoCard : Claim7 := { stood := { row := patchLinesUptoRow, standIns := [], harness := (true, "c179abb1315c8b8cc5d5dbf2d02a730259b095ecbc23a81d2ab34ec5db969b2e"), looks := false }, kinds := [], alts := [], laidByText := true, laidKinds := [.data, .data, .data, .data, .pinned], laidTests := true, laidLooks := .later }
def PatchLinesUptoCardSaid : Prop := Claim7.holds Tryz.pinned (.plain (OpenSpec.upto patchLinesSpec)) patchLinesUptoCard
end Rows
end Go.Proofs.YtakhbjefcjmelaaGreatDoor
