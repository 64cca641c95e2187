/- A part of the proof: F91. -/
import Derived.Test.YtaedbcepkgdboaaGreatDoorRa

set_option linter.unusedVariables false
set_option linter.unusedSimpArgs false
namespace Go.Proofs.YtaedbcepkgdboaaGreatDoor.patchDiffs
open Go.ChangeShapes Go.WideShapes Go.ChangeAt Go.RowKit Go.Abs.Z
set_option linter.unusedVariables false
set_option maxRecDepth 100000 in
theorem fInPlace : (Rows.patchDiffsRow.inPlace == Tryz.prog.inPlace 3) = true := by kernel_rfl
set_option maxRecDepth 100000 in
theorem fUnfollowed : (Rows.patchDiffsRow.unfollowed == Tryz.prog.unfollowed 3) = true := by kernel_rfl
set_option maxRecDepth 100000 in
theorem fRecurses : (Rows.patchDiffsRow.recurses == Tryz.prog.recurses 3) = true := by kernel_rfl
set_option maxRecDepth 100000 in
theorem fNamed : (Rows.patchDiffsRow.named == Tryz.prog.varsNamed 3) = true := by kernel_rfl
set_option maxRecDepth 100000 in
theorem fKeys : (Rows.patchDiffsRow.plainKeys == Tryz.prog.plainKeys) = true := by kernel_rfl
set_option maxRecDepth 100000 in
theorem closed : joinedFacts Tryz.prog 3 Tryz.f3 (OpenSpec.ofChange Rows.patchDiffsSpec).bare Rows.patchDiffsRow = true := by
  unfold joinedFacts
  rw [pLaidOut, pMaps, fInPlace, fUnfollowed, fRecurses, fNamed, fKeys, pHeard, pEnter]
  kernel_rfl
end Go.Proofs.YtaedbcepkgdboaaGreatDoor.patchDiffs
