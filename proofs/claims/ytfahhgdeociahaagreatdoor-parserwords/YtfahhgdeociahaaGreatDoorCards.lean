/-
  DERIVED. GIVEN WITH THE SEED: THE CARDS: each row of YtfahhgdeociahaaGreatDoorRows.lean that lists a variable, with what it lists TIED to the program's text (the seventh form; the later family's looks); each row that meets fmt, with fmt's text TOLD by the authors' own Lean function (tested against real Go, not proved from fmt's source: count such statements apart). THE CARD IS WHAT COUNTS. Prove the row's statement (the work); the ties are given (YtfahhgdeociahaaGreatDoorTie.lean); close each card by the builder's one call (the guide's Derived/Test/ToyasCard.lean, 'card_holds'). Laid BY PROGRAM, IN A SANDBOX (cutbox-door.mjs). By AI agents, Wed Nov 11 2026. No macro, syntax, notation, axiom, sorry.
-/
import Derived.Test.YtfahhgdeociahaaGreatDoorRows
import GoSem.ClaimSeven
namespace Go.Proofs.YtfahhgdeociahaaGreatDoor
namespace Rows

/-- THE TIED CARD OF 'assessorlaw04.ParserTrees'. -/
def parserTreesCard : Claim7 := { stood := { row := parserTreesRow, standIns := [], harness := (true, "5355784fa741b2a8b2ac9160d9d12879a40b79e143aab4c24196f3ec6da77e57"), looks := false }, kinds := [], alts := [], laidByText := true, laidKinds := [.data, .pinned], laidTests := true, laidLooks := .later }
def ParserTreesCardSaid : Prop := Claim7.holds Tryz.pinned (.plain (OpenSpec.ofChange parserTreesSpec)) parserTreesCard

/-- THE TIED CARD OF 'assessorlaw04.ParserShapes'. -/
def parserShapesCard : Claim7 := { stood := { row := parserShapesRow, standIns := [], harness := (true, "5355784fa741b2a8b2ac9160d9d12879a40b79e143aab4c24196f3ec6da77e57"), looks := false }, kinds := [], alts := [], laidByText := true, laidKinds := [.data, .pinned], laidTests := true, laidLooks := .later }
def ParserShapesCardSaid : Prop := Claim7.holds Tryz.pinned (.plain (OpenSpec.ofChange parserShapesSpec)) parserShapesCard

/-- THE TIED CARD OF 'assessorlaw04.ParserParts'. -/
def parserPartsCard : Claim7 := { stood := { row := parserPartsRow, standIns := [], harness := (true, "5355784fa741b2a8b2ac9160d9d12879a40b79e143aab4c24196f3ec6da77e57"), looks := false }, kinds := [], alts := [], laidByText := true, laidKinds := [.data, .pinned], laidTests := true, laidLooks := .later }
def ParserPartsCardSaid : Prop := Claim7.holds Tryz.pinned (.plain (OpenSpec.ofChange parserPartsSpec)) parserPartsCard

/-- THE TIED CARD OF 'assessorlaw04.ParserWords'. -/
def parserWordsCard : Claim7 := { stood := { row := parserWordsRow, standIns := [], harness := (true, "5355784fa741b2a8b2ac9160d9d12879a40b79e143aab4c24196f3ec6da77e57"), looks := false }, kinds := [], alts := [], laidByText := true, laidKinds := [.data, .pinned], laidTests := true, laidLooks := .later }
def ParserWordsCardSaid : Prop := Claim7.holds Tryz.pinned (.plain (OpenSpec.ofChange parserWordsSpec)) parserWordsCard

/-- THE SECOND FORM's CARD OF 'assessorlaw04.ParserTrees'. -/
def parserTreesUptoCard : Claim7 := { stood := { row := parserTreesUptoRow, standIns := [], harness := (true, "5355784fa741b2a8b2ac9160d9d12879a40b79e143aab4c24196f3ec6da77e57"), looks := false }, kinds := [], alts := [], laidByText := true, laidKinds := [.data, .pinned], laidTests := true, laidLooks := .later }
def ParserTreesUptoCardSaid : Prop := Claim7.holds Tryz.pinned (.plain (OpenSpec.upto parserTreesSpec)) parserTreesUptoCard

/-- THE SECOND FORM's CARD OF 'assessorlaw04.ParserShapes'. -/
def parserShapesUptoCard : Claim7 := { stood := { row := parserShapesUptoRow, standIns := [], harness := (true, "5355784fa741b2a8b2ac9160d9d12879a40b79e143aab4c24196f3ec6da77e57"), looks := false }, kinds := [], alts := [], laidByText := true, laidKinds := [.data, .pinned], laidTests := true, laidLooks := .later }
def ParserShapesUptoCardSaid : Prop := Claim7.holds Tryz.pinned (.plain (OpenSpec.upto parserShapesSpec)) parserShapesUptoCard

/-- THE SECOND FORM's CARD OF 'assessorlaw04.ParserParts'. -/
def parserPartsUptoCard : Claim7 := { stood := { row := parserPartsUptoRow, standIns := [], harness := (true, "5355784fa741b2a8b2ac9160d9d12879a40b79e143aab4c24196f3ec6da77e57"), looks := false }, kinds := [], alts := [], laidByText := true, laidKinds := [.data, .pinned], laidTests := true, laidLooks := .later }
def ParserPartsUptoCardSaid : Prop := Claim7.holds Tryz.pinned (.plain (OpenSpec.upto parserPartsSpec)) parserPartsUptoCard

/-- THE SECOND FORM's CARD OF 'assessorlaw04.ParserWords'. -/
def parserWordsUptoCard : Claim7 := { stood := { row := parserWordsUptoRow, standIns := [], harness := (true, "5355784fa741b2a8b2ac9160d9d12879a40b79e143aab4c24196f3ec6da77e57"), looks := false }, kinds := [], alts := [], laidByText := true, laidKinds := [.data, .pinned], laidTests := true, laidLooks := .later }
def ParserWordsUptoCardSaid : Prop := Claim7.holds Tryz.pinned (.plain (OpenSpec.upto parserWordsSpec)) parserWordsUptoCard
end Rows
end Go.Proofs.YtfahhgdeociahaaGreatDoor
