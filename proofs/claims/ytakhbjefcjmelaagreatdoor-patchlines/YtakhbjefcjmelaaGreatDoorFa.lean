/- A part of the proof: F95. -/
import Derived.Test.YtakhbjefcjmelaaGreatDoorRa

set_option linter.unusedVariables false
set_option linter.unusedSimpArgs false
namespace Go.Proofs.YtakhbjefcjmelaaGreatDoor.patchLines
open Go.ChangeShapes Go.WideShapes Go.ChangeAt Go.RowKit Go.Abs.Z
set_option linter.unusedVariables false
set_option maxRecDepth 100000 in
theorem fInPlace : (Rows.patchLinesRow.inPlace == Tryz.prog.inPlace 3) = true := by kernel_rfl
set_option maxRecDepth 100000 in
theorem fUnfollowed : (Rows.patchLinesRow.unfollowed == Tryz.prog.unfollowed 3) = true := by kernel_rfl
set_option maxRecDepth 100000 in
theorem fRecurses : (Rows.patchLinesRow.recurses == Tryz.prog.recurses 3) = true := by kernel_rfl
set_option maxRecDepth 100000 in
theorem fNamed : (Rows.patchLinesRow.named == Tryz.prog.varsNamed 3) = true := by kernel_rfl
set_option maxRecDepth 100000 in
theorem fKeys : (Rows.patchLinesRow.plainKeys == Tryz.prog.plainKeys) = true := by kernel_rfl
set_option maxRecDepth 100000 in
theorem closed : joinedFacts Tryz.prog 3 Tryz.f3 (OpenSpec.ofChange Rows.patchLinesSpec).bare Rows.patchLinesRow = true := by
  unfold joinedFacts
  rw [pLaidOut, pMaps, fInPlace, fUnfollowed, fRecurses, fNamed, fKeys, pHeard, pEnter]
  kernel_rfl
end Go.Proofs.YtakhbjefcjmelaaGreatDoor.patchLines
