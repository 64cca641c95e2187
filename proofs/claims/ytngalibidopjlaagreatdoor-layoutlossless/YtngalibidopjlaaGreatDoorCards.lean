/-
  DERIVED. GIVEN WITH THE SEED: THE CARDS: each row of YtngalibidopjlaaGreatDoorRows.lean that lists a variable, with what it lists TIED to the program's text (the seventh form; the later family's looks); each row that meets fmt, with fmt's text TOLD by the authors' own Lean function (tested against real Go, not proved from fmt's source: count such statements apart). THE CARD IS WHAT COUNTS. Prove the row's statement (the work); the ties are given (YtngalibidopjlaaGreatDoorTie.lean); close each card by the builder's one call (the guide's Derived/Test/ToyasCard.lean, 'card_holds'). Laid BY PROGRAM, IN A SANDBOX (cutbox-door.mjs). By AI agents, Wed Nov 11 2026. No macro, syntax, notation, axiom, sorry.
-/
import Derived.Test.YtngalibidopjlaaGreatDoorRows
import GoSem.ClaimSeven
namespace Go.Proofs.YtngalibidopjlaaGreatDoor
namespace Rows

/-- THE TIED CARD OF 'assessorlaw06.LayoutLossless'. -/
def layoutLosslessCard : Claim7 := { stood := { row := layoutLosslessRow, standIns := [], harness := (true, "03d785709fa2107e783d39a136d69580f327ab67a8ba018f586ca003af97dfac"), looks := false }, kinds := [], alts := [], laidByText := true, laidKinds := [.data, .pinned], laidTests := true, laidLooks := .later }
def LayoutLosslessCardSaid : Prop := Claim7.holds Tryz.pinned (.plain (OpenSpec.ofChange layoutLosslessSpec)) layoutLosslessCard

/-- THE SECOND FORM's CARD OF 'assessorlaw06.LayoutLossless'. -/
def layoutLosslessUptoCard : Claim7 := { stood := { row := layoutLosslessUptoRow, standIns := [], harness := (true, "03d785709fa2107e783d39a136d69580f327ab67a8ba018f586ca003af97dfac"), looks := false }, kinds := [], alts := [], laidByText := true, laidKinds := [.data, .pinned], laidTests := true, laidLooks := .later }
def LayoutLosslessUptoCardSaid : Prop := Claim7.holds Tryz.pinned (.plain (OpenSpec.upto layoutLosslessSpec)) layoutLosslessUptoCard
end Rows
end Go.Proofs.YtngalibidopjlaaGreatDoor
