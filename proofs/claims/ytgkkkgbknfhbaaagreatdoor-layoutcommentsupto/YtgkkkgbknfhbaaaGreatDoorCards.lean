/-
  DERIVED. GIVEN WITH THE SEED: THE CARDS: each row of YtgkkkgbknfhbaaaGreatDoorRows.lean that lists a variable, with what it lists TIED to the program's text (the seventh form; the later family's looks); each row that meets fmt, with fmt's text TOLD by the authors' own Lean function (tested against real Go, not proved from fmt's source: count such statements apart). THE CARD IS WHAT COUNTS. Prove the row's statement (the work); the ties are given (YtgkkkgbknfhbaaaGreatDoorTie.lean); close each card by the builder's one call (the guide's Derived/Test/ToyasCard.lean, 'card_holds'). Laid BY PROGRAM, IN A SANDBOX (cutbox-door.mjs). By AI agents, Wed Nov 11 2026. No macro, syntax, notation, axiom, sorry.
-/
import Derived.Test.YtgkkkgbknfhbaaaGreatDoorRows
import GoSem.ClaimSeven
namespace Go.Proofs.YtgkkkgbknfhbaaaGreatDoor
namespace Rows

/-- THE TIED CARD OF 'assessorlaw06.LayoutBlocks'. -/
def layoutBlocksCard : Claim7 := { stood := { row := layoutBlocksRow, standIns := [], harness := (true, "e726f7493997bc4c4c18a11db6932b292705b90c48f7e8db2975728551726090"), looks := false }, kinds := [], alts := [], laidByText := true, laidKinds := [.data, .pinned], laidTests := true, laidLooks := .later }
def LayoutBlocksCardSaid : Prop := Claim7.holds Tryz.pinned (.plain (OpenSpec.ofChange layoutBlocksSpec)) layoutBlocksCard

/-- THE TIED CARD OF 'assessorlaw06.LayoutComments'. -/
def layoutCommentsCard : Claim7 := { stood := { row := layoutCommentsRow, standIns := [], harness := (true, "e726f7493997bc4c4c18a11db6932b292705b90c48f7e8db2975728551726090"), looks := false }, kinds := [], alts := [], laidByText := true, laidKinds := [.data, .pinned], laidTests := true, laidLooks := .later }
def LayoutCommentsCardSaid : Prop := Claim7.holds Tryz.pinned (.plain (OpenSpec.ofChange layoutCommentsSpec)) layoutCommentsCard

/-- THE SECOND FORM's CARD OF 'assessorlaw06.LayoutBlocks'. -/
def layoutBlocksUptoCard : Claim7 := { stood := { row := layoutBlocksUptoRow, standIns := [], harness := (true, "e726f7493997bc4c4c18a11db6932b292705b90c48f7e8db2975728551726090"), looks := false }, kinds := [], alts := [], laidByText := true, laidKinds := [.data, .pinned], laidTests := true, laidLooks := .later }
def LayoutBlocksUptoCardSaid : Prop := Claim7.holds Tryz.pinned (.plain (OpenSpec.upto layoutBlocksSpec)) layoutBlocksUptoCard

/-- THE SECOND FORM's CARD OF 'assessorlaw06.LayoutComments'. -/
def layoutCommentsUptoCard : Claim7 := { stood := { row := layoutCommentsUptoRow, standIns := [], harness := (true, "e726f7493997bc4c4c18a11db6932b292705b90c48f7e8db2975728551726090"), looks := false }, kinds := [], alts := [], laidByText := true, laidKinds := [.data, .pinned], laidTests := true, laidLooks := .later }
def LayoutCommentsUptoCardSaid : Prop := Claim7.holds Tryz.pinned (.plain (OpenSpec.upto layoutCommentsSpec)) layoutCommentsUptoCard
end Rows
end Go.Proofs.YtgkkkgbknfhbaaaGreatDoor
