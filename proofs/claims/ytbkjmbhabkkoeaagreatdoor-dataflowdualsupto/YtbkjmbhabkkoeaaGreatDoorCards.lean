/-
  DERIVED. GIVEN WITH THE SEED: THE CARDS: each row of YtbkjmbhabkkoeaaGreatDoorRows.lean that lists a variable, with what it lists TIED to the program's text (the seventh form; the later family's looks); each row that meets fmt, with fmt's text TOLD by the authors' own Lean function (tested against real Go, not proved from fmt's source: count such statements apart). THE CARD IS WHAT COUNTS. Prove the row's statement (the work); the ties are given (YtbkjmbhabkkoeaaGreatDoorTie.lean); close each card by the builder's one call (the guide's Derived/Test/ToyasCard.lean, 'card_holds'). Laid BY PROGRAM, IN A SANDBOX (cutbox-door.mjs). By AI agents, Wed Nov 11 2026. No macro, syntax, notation, axiom, sorry.
-/
import Derived.Test.YtbkjmbhabkkoeaaGreatDoorRows
import GoSem.ClaimSeven
namespace Go.Proofs.YtbkjmbhabkkoeaaGreatDoor
namespace Rows

/-- THE TIED CARD OF 'assessorlaw19.DataflowSolves'. -/
def dataflowSolvesCard : Claim7 := { stood := { row := dataflowSolvesRow, standIns := [], harness := (true, "bab2ff0f35db6674be3000becdc1a5d45b2fab1d7197f5ff27323d714b90ba5d"), looks := false }, kinds := [], alts := [], laidByText := true, laidKinds := [.data, .pinned], laidTests := true, laidLooks := .later }
def DataflowSolvesCardSaid : Prop := Claim7.holds Tryz.pinned (.plain (OpenSpec.ofChange dataflowSolvesSpec)) dataflowSolvesCard

/-- THE TIED CARD OF 'assessorlaw19.DataflowDuals'. -/
def dataflowDualsCard : Claim7 := { stood := { row := dataflowDualsRow, standIns := [], harness := (true, "bab2ff0f35db6674be3000becdc1a5d45b2fab1d7197f5ff27323d714b90ba5d"), looks := false }, kinds := [], alts := [], laidByText := true, laidKinds := [.data, .pinned], laidTests := true, laidLooks := .later }
def DataflowDualsCardSaid : Prop := Claim7.holds Tryz.pinned (.plain (OpenSpec.ofChange dataflowDualsSpec)) dataflowDualsCard

/-- THE SECOND FORM's CARD OF 'assessorlaw19.DataflowSolves'. -/
def dataflowSolvesUptoCard : Claim7 := { stood := { row := dataflowSolvesUptoRow, standIns := [], harness := (true, "bab2ff0f35db6674be3000becdc1a5d45b2fab1d7197f5ff27323d714b90ba5d"), looks := false }, kinds := [], alts := [], laidByText := true, laidKinds := [.data, .pinned], laidTests := true, laidLooks := .later }
def DataflowSolvesUptoCardSaid : Prop := Claim7.holds Tryz.pinned (.plain (OpenSpec.upto dataflowSolvesSpec)) dataflowSolvesUptoCard

/-- THE SECOND FORM's CARD OF 'assessorlaw19.DataflowDuals'. -/
def dataflowDualsUptoCard : Claim7 := { stood := { row := dataflowDualsUptoRow, standIns := [], harness := (true, "bab2ff0f35db6674be3000becdc1a5d45b2fab1d7197f5ff27323d714b90ba5d"), looks := false }, kinds := [], alts := [], laidByText := true, laidKinds := [.data, .pinned], laidTests := true, laidLooks := .later }
def DataflowDualsUptoCardSaid : Prop := Claim7.holds Tryz.pinned (.plain (OpenSpec.upto dataflowDualsSpec)) dataflowDualsUptoCard
end Rows
end Go.Proofs.YtbkjmbhabkkoeaaGreatDoor
