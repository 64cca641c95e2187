/-
  DERIVED. GIVEN WITH THE SEED: THE CARDS: each row of YtfahhgdeociahaaDoorRows.lean that lists a variable, with what it lists TIED to the program's text (the seventh form; the later family's looks); each row that meets fmt, with fmt's text TOLD by the authors' own Lean function (tested against real Go, not proved from fmt's source: count such statements apart). THE CARD IS WHAT COUNTS. Prove the row's statement (the work); the ties are given (YtfahhgdeociahaaDoorTie.lean); close each card by the builder's one call (the guide's Derived/Test/ToyasCard.lean, 'card_holds'). Laid BY PROGRAM, IN A SANDBOX (cutbox-door.mjs). By AI agents, Wed Nov 11 2026. No macro, syntax, notation, axiom, sorry.
-/
import Derived.Test.YtfahhgdeociahaaDoorRows
import GoSem.ClaimSeven
namespace Go.Proofs.YtfahhgdeociahaaDoor
namespace Rows

/-- THE TIED CARD OF 'assessorlaw04.ParserPlaces'. -/
def parserPlacesCard : Claim7 := { stood := { row := parserPlacesRow, standIns := [], harness := (true, "52172b83d898d12ba4c0508f13f058553677752fe1fca50f1dbd3b6d25a5e724"), looks := false }, kinds := [], alts := [], laidByText := true, laidKinds := [.data, .pinned], laidTests := true, laidLooks := .later }
def ParserPlacesCardSaid : Prop := Claim7.holds Tryd.pinned (.plain (OpenSpec.ofChange parserPlacesSpec)) parserPlacesCard

/-- THE TIED CARD OF 'assessorlaw04.ParserFollows'. -/
def parserFollowsCard : Claim7 := { stood := { row := parserFollowsRow, standIns := [], harness := (true, "52172b83d898d12ba4c0508f13f058553677752fe1fca50f1dbd3b6d25a5e724"), looks := false }, kinds := [], alts := [], laidByText := true, laidKinds := [.data, .pinned], laidTests := true, laidLooks := .later }
def ParserFollowsCardSaid : Prop := Claim7.holds Tryd.pinned (.plain (OpenSpec.ofChange parserFollowsSpec)) parserFollowsCard

/-- THE SECOND FORM's CARD OF 'assessorlaw04.ParserPlaces'. -/
def parserPlacesUptoCard : Claim7 := { stood := { row := parserPlacesUptoRow, standIns := [], harness := (true, "52172b83d898d12ba4c0508f13f058553677752fe1fca50f1dbd3b6d25a5e724"), looks := false }, kinds := [], alts := [], laidByText := true, laidKinds := [.data, .pinned], laidTests := true, laidLooks := .later }
def ParserPlacesUptoCardSaid : Prop := Claim7.holds Tryd.pinned (.plain (OpenSpec.upto parserPlacesSpec)) parserPlacesUptoCard

/-- THE SECOND FORM's CARD OF 'assessorlaw04.ParserFollows'. -/
def parserFollowsUptoCard : Claim7 := { stood := { row := parserFollowsUptoRow, standIns := [], harness := (true, "52172b83d898d12ba4c0508f13f058553677752fe1fca50f1dbd3b6d25a5e724"), looks := false }, kinds := [], alts := [], laidByText := true, laidKinds := [.data, .pinned], laidTests := true, laidLooks := .later }
def ParserFollowsUptoCardSaid : Prop := Claim7.holds Tryd.pinned (.plain (OpenSpec.upto parserFollowsSpec)) parserFollowsUptoCard
end Rows
end Go.Proofs.YtfahhgdeociahaaDoor
