/- A part of the proof: F99. -/
import Derived.Test.YtbkjmbhabkkoeaaGreatDoorKbb

set_option linter.unusedVariables false
set_option linter.unusedSimpArgs false
namespace Go.Proofs.YtbkjmbhabkkoeaaGreatDoor.dataflowSolves
open Go.ChangeShapes Go.WideShapes Go.ChangeAt Go.RowKit Go.Abs.Z
set_option linter.unusedVariables false
set_option maxRecDepth 100000 in
theorem jA:(Rows.dataflowSolvesUptoRow.inPlace==Tryz.prog.inPlace 3)=true:=by kernel_rfl
set_option maxRecDepth 100000 in
theorem Wv:(Rows.dataflowSolvesUptoRow.unfollowed==Tryz.prog.unfollowed 3)=true:=by kernel_rfl
set_option maxRecDepth 100000 in
theorem aO:(Rows.dataflowSolvesUptoRow.recurses==Tryz.prog.recurses 3)=true:=by kernel_rfl
set_option maxRecDepth 100000 in
theorem rX:(Rows.dataflowSolvesUptoRow.named==Tryz.prog.varsNamed 3)=true:=by kernel_rfl
set_option maxRecDepth 100000 in
theorem zQ:(Rows.dataflowSolvesUptoRow.plainKeys==Tryz.prog.plainKeys)=true:=by kernel_rfl
set_option maxRecDepth 100000 in
theorem closed:joinedFacts Tryz.prog 3 Tryz.f3 (Rows.OpenSpec.upto Rows.dataflowSolvesSpec).bare Rows.dataflowSolvesUptoRow=true:=by
 unfold joinedFacts;rw[VE,uW,jA,Wv,aO,rX,zQ,qz,qA]
 kernel_rfl
end Go.Proofs.YtbkjmbhabkkoeaaGreatDoor.dataflowSolves
