/- A part of the proof: F97. -/
import Derived.Test.YtbkjmbhabkkoeaaGreatDoorKbb

set_option linter.unusedVariables false
set_option linter.unusedSimpArgs false
namespace Go.Proofs.YtbkjmbhabkkoeaaGreatDoor.dataflowDuals
open Go.ChangeShapes Go.WideShapes Go.ChangeAt Go.RowKit Go.Abs.Z
set_option linter.unusedVariables false
set_option maxRecDepth 100000 in
theorem lL:(Rows.dataflowDualsUptoRow.inPlace==Tryz.prog.inPlace 4)=true:=by kernel_rfl
set_option maxRecDepth 100000 in
theorem XM:(Rows.dataflowDualsUptoRow.unfollowed==Tryz.prog.unfollowed 4)=true:=by kernel_rfl
set_option maxRecDepth 100000 in
theorem dA:(Rows.dataflowDualsUptoRow.recurses==Tryz.prog.recurses 4)=true:=by kernel_rfl
set_option maxRecDepth 100000 in
theorem vk:(Rows.dataflowDualsUptoRow.named==Tryz.prog.varsNamed 4)=true:=by kernel_rfl
set_option maxRecDepth 100000 in
theorem AxZ:(Rows.dataflowDualsUptoRow.plainKeys==Tryz.prog.plainKeys)=true:=by kernel_rfl
set_option maxRecDepth 100000 in
theorem closed:joinedFacts Tryz.prog 4 Tryz.f4 (Rows.OpenSpec.upto Rows.dataflowDualsSpec).bare Rows.dataflowDualsUptoRow=true:=by
 unfold joinedFacts;rw[WS,xn,lL,XM,dA,vk,AxZ,ui,uj]
 kernel_rfl
end Go.Proofs.YtbkjmbhabkkoeaaGreatDoor.dataflowDuals
