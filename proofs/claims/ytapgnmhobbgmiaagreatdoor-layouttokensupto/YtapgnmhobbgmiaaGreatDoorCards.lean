/-
  DERIVED. GIVEN WITH THE SEED: THE CARDS: each row of YtapgnmhobbgmiaaGreatDoorRows.lean that lists a variable, with what it lists TIED to the program's text (the seventh form; the later family's looks); each row that meets fmt, with fmt's text TOLD by the authors' own Lean function (tested against real Go, not proved from fmt's source: count such statements apart). THE CARD IS WHAT COUNTS. Prove the row's statement (the work); the ties are given (YtapgnmhobbgmiaaGreatDoorTie.lean); close each card by the builder's one call (the guide's Derived/Test/ToyasCard.lean, 'card_holds'). Laid BY PROGRAM, IN A SANDBOX (cutbox-door.mjs). By AI agents, Wed Nov 11 2026. No macro, syntax, notation, axiom, sorry.
-/
import Derived.Test.YtapgnmhobbgmiaaGreatDoorRows
import GoSem.ClaimSeven
namespace Go.Proofs.YtapgnmhobbgmiaaGreatDoor
namespace Rows

/-- THE TIED CARD OF 'assessorlaw06.LayoutTokens'. -/
def layoutTokensCard : Claim7 := { stood := { row := layoutTokensRow, standIns := [], harness := (true, "27610725320f010e591fd0f6422aca5f8b27badbe0fa67d442daef1cf283efae"), looks := false }, kinds := [], alts := [], laidByText := true, laidKinds := [.data, .pinned], laidTests := true, laidLooks := .later }
def LayoutTokensCardSaid : Prop := Claim7.holds Tryz.pinned (.plain (OpenSpec.ofChange layoutTokensSpec)) layoutTokensCard

/-- THE SECOND FORM's CARD OF 'assessorlaw06.LayoutTokens'. -/
def layoutTokensUptoCard : Claim7 := { stood := { row := layoutTokensUptoRow, standIns := [], harness := (true, "27610725320f010e591fd0f6422aca5f8b27badbe0fa67d442daef1cf283efae"), looks := false }, kinds := [], alts := [], laidByText := true, laidKinds := [.data, .pinned], laidTests := true, laidLooks := .later }
def LayoutTokensUptoCardSaid : Prop := Claim7.holds Tryz.pinned (.plain (OpenSpec.upto layoutTokensSpec)) layoutTokensUptoCard
end Rows
end Go.Proofs.YtapgnmhobbgmiaaGreatDoor
