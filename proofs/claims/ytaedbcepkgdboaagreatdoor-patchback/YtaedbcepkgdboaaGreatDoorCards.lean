/-
  DERIVED. GIVEN WITH THE SEED: THE CARDS: each row of YtaedbcepkgdboaaGreatDoorRows.lean that lists a variable, with what it lists TIED to the program's text (the seventh form; the later family's looks); each row that meets fmt, with fmt's text TOLD by the authors' own Lean function (tested against real Go, not proved from fmt's source: count such statements apart). THE CARD IS WHAT COUNTS. Prove the row's statement (the work); the ties are given (YtaedbcepkgdboaaGreatDoorTie.lean); close each card by the builder's one call (the guide's Derived/Test/ToyasCard.lean, 'card_holds'). Laid BY PROGRAM, IN A SANDBOX (cutbox-door.mjs). By AI agents, Wed Nov 11 2026. No macro, syntax, notation, axiom, sorry.
-/
import Derived.Test.YtaedbcepkgdboaaGreatDoorRows
import GoSem.ClaimSeven
namespace Go.Proofs.YtaedbcepkgdboaaGreatDoor
namespace Rows

/-- THE TIED CARD OF 'assessorlaw40.PatchDiffs'. -/
def patchDiffsCard : Claim7 := { stood := { row := patchDiffsRow, standIns := [], harness := (true, "0b7dc67bd1cf152d7cda7d587895ecded72c137ffab7373409061a57c4c79766"), looks := false }, kinds := [], alts := [], laidByText := true, laidKinds := [.data, .data, .data, .data, .pinned], laidTests := true, laidLooks := .later }
def PatchDiffsCardSaid : Prop := Claim7.holds Tryz.pinned (.plain (OpenSpec.ofChange patchDiffsSpec)) patchDiffsCard

/-- THE TIED CARD OF 'assessorlaw40.PatchBack'. -/
def patchBackCard : Claim7 := { stood := { row := patchBackRow, standIns := [], harness := (true, "0b7dc67bd1cf152d7cda7d587895ecded72c137ffab7373409061a57c4c79766"), looks := false }, kinds := [], alts := [], laidByText := true, laidKinds := [.data, .data, .data, .data, .pinned], laidTests := true, laidLooks := .later }
def PatchBackCardSaid : Prop := Claim7.holds Tryz.pinned (.plain (OpenSpec.ofChange patchBackSpec)) patchBackCard

/-- THE SECOND FORM's CARD OF 'assessorlaw40.PatchDiffs'. -/
def patchDiffsUptoCard : Claim7 := { stood := { row := patchDiffsUptoRow, standIns := [], harness := (true, "0b7dc67bd1cf152d7cda7d587895ecded72c137ffab7373409061a57c4c79766"), looks := false }, kinds := [], alts := [], laidByText := true, laidKinds := [.data, .data, .data, .data, .pinned], laidTests := true, laidLooks := .later }
def PatchDiffsUptoCardSaid : Prop := Claim7.holds Tryz.pinned (.plain (OpenSpec.upto patchDiffsSpec)) patchDiffsUptoCard

/-- THE SECOND FORM's CARD OF 'assessorlaw40.PatchBack'. -/
def patchBackUptoCard : Claim7 := { stood := { row := patchBackUptoRow, standIns := [], harness := (true, "0b7dc67bd1cf152d7cda7d587895ecded72c137ffab7373409061a57c4c79766"), looks := false }, kinds := [], alts := [], laidByText := true, laidKinds := [.data, .data, .data, .data, .pinned], laidTests := true, laidLooks := .later }
def PatchBackUptoCardSaid : Prop := Claim7.holds Tryz.pinned (.plain (OpenSpec.upto patchBackSpec)) patchBackUptoCard
end Rows
end Go.Proofs.YtaedbcepkgdboaaGreatDoor
