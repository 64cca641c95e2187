/- A part of the proof: F99. -/
import Derived.Test.YtapgnmhobbgmiaaGreatDoorKaw

set_option linter.unusedVariables false
set_option linter.unusedSimpArgs false
namespace Go.Proofs.YtapgnmhobbgmiaaGreatDoor.layoutTokens
open Go.ChangeShapes Go.WideShapes Go.ChangeAt Go.RowKit Go.Abs.Z
set_option linter.unusedVariables false
set_option maxRecDepth 100000 in
theorem sQ:(Rows.layoutTokensUptoRow.inPlace==Tryz.prog.inPlace 3)=true:=by kernel_rfl
set_option maxRecDepth 100000 in
theorem dz:(Rows.layoutTokensUptoRow.unfollowed==Tryz.prog.unfollowed 3)=true:=by kernel_rfl
set_option maxRecDepth 100000 in
theorem lQ:(Rows.layoutTokensUptoRow.recurses==Tryz.prog.recurses 3)=true:=by kernel_rfl
set_option maxRecDepth 100000 in
theorem AwW:(Rows.layoutTokensUptoRow.named==Tryz.prog.varsNamed 3)=true:=by kernel_rfl
set_option maxRecDepth 100000 in
theorem BqX:(Rows.layoutTokensUptoRow.plainKeys==Tryz.prog.plainKeys)=true:=by kernel_rfl
set_option maxRecDepth 100000 in
theorem closed:joinedFacts Tryz.prog 3 Tryz.f3 (Rows.OpenSpec.upto Rows.layoutTokensSpec).bare Rows.layoutTokensUptoRow=true:=by
 unfold joinedFacts;rw[bv,AWG,sQ,dz,lQ,AwW,BqX,Aw6,Aw7]
 kernel_rfl
end Go.Proofs.YtapgnmhobbgmiaaGreatDoor.layoutTokens
