/- A part of the proof: F92. -/
import Derived.Test.YtaedbcepkgdboaaGreatDoorRa

set_option linter.unusedVariables false
set_option linter.unusedSimpArgs false
namespace Go.Proofs.YtaedbcepkgdboaaGreatDoor.patchBack
open Go.ChangeShapes Go.WideShapes Go.ChangeAt Go.RowKit Go.Abs.Z
set_option linter.unusedVariables false
set_option maxRecDepth 100000 in
theorem fInPlace : (Rows.patchBackRow.inPlace == Tryz.prog.inPlace 4) = true := by kernel_rfl
set_option maxRecDepth 100000 in
theorem fUnfollowed : (Rows.patchBackRow.unfollowed == Tryz.prog.unfollowed 4) = true := by kernel_rfl
set_option maxRecDepth 100000 in
theorem fRecurses : (Rows.patchBackRow.recurses == Tryz.prog.recurses 4) = true := by kernel_rfl
set_option maxRecDepth 100000 in
theorem fNamed : (Rows.patchBackRow.named == Tryz.prog.varsNamed 4) = true := by kernel_rfl
set_option maxRecDepth 100000 in
theorem fKeys : (Rows.patchBackRow.plainKeys == Tryz.prog.plainKeys) = true := by kernel_rfl
set_option maxRecDepth 100000 in
theorem closed : joinedFacts Tryz.prog 4 Tryz.f4 (OpenSpec.ofChange Rows.patchBackSpec).bare Rows.patchBackRow = true := by
  unfold joinedFacts
  rw [pLaidOut, pMaps, fInPlace, fUnfollowed, fRecurses, fNamed, fKeys, pHeard, pEnter]
  kernel_rfl
end Go.Proofs.YtaedbcepkgdboaaGreatDoor.patchBack
