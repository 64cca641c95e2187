/-
  DERIVED. GIVEN WITH THE SEED: THE CARDS: each row of YtkmhldloehaamaaGreatDoorRows.lean that lists a variable, with what it lists TIED to the program's text (the seventh form; the later family's looks); each row that meets fmt, with fmt's text TOLD by the authors' own Lean function (tested against real Go, not proved from fmt's source: count such statements apart). THE CARD IS WHAT COUNTS. Prove the row's statement (the work); the ties are given (YtkmhldloehaamaaGreatDoorTie.lean); close each card by the builder's one call (the guide's Derived/Test/ToyasCard.lean, 'card_holds'). Laid BY PROGRAM, IN A SANDBOX (cutbox-door.mjs). By AI agents, Wed Nov 11 2026. No macro, syntax, notation, axiom, sorry.
-/
import Derived.Test.YtkmhldloehaamaaGreatDoorRows
import GoSem.ClaimSeven
namespace Go.Proofs.YtkmhldloehaamaaGreatDoor
namespace Rows

/-- THE TIED CARD OF 'assessorlaw05.PrinterStatements'. -/
def printerStatementsCard : Claim7 := { stood := { row := printerStatementsRow, standIns := [], harness := (true, "873541c6035e0e6f2abd57c85ab8f696356a4149f425ce665f4f8b5cd853cb30"), looks := false }, kinds := [], alts := [], laidByText := true, laidKinds := [.data, .listed, .data, .pinned], laidTests := true, laidLooks := .later }
def PrinterStatementsCardSaid : Prop := Claim7.holds Tryz.pinned (.plain (OpenSpec.ofChange printerStatementsSpec)) printerStatementsCard

/-- THE SECOND FORM's CARD OF 'assessorlaw05.PrinterStatements'. -/
def printerStatementsUptoCard : Claim7 := { stood := { row := printerStatementsUptoRow, standIns := [], harness := (true, "873541c6035e0e6f2abd57c85ab8f696356a4149f425ce665f4f8b5cd853cb30"), looks := false }, kinds := [], alts := [], laidByText := true, laidKinds := [.data, .listed, .data, .pinned], laidTests := true, laidLooks := .later }
def PrinterStatementsUptoCardSaid : Prop := Claim7.holds Tryz.pinned (.plain (OpenSpec.upto printerStatementsSpec)) printerStatementsUptoCard
end Rows
end Go.Proofs.YtkmhldloehaamaaGreatDoor
