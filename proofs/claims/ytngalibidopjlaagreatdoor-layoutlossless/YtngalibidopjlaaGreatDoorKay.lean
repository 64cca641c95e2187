/- A part of the proof: F98. -/
import Derived.Test.YtngalibidopjlaaGreatDoorKax

set_option linter.unusedVariables false
set_option linter.unusedSimpArgs false
namespace Go.Proofs.YtngalibidopjlaaGreatDoor.layoutLossless
open Go.ChangeShapes Go.WideShapes Go.ChangeAt Go.RowKit Go.Abs.Z
set_option linter.unusedVariables false
set_option maxRecDepth 100000 in
theorem fInPlace:(Rows.layoutLosslessRow.inPlace==Tryz.prog.inPlace 3)=true:=by kernel_rfl
set_option maxRecDepth 100000 in
theorem fUnfollowed:(Rows.layoutLosslessRow.unfollowed==Tryz.prog.unfollowed 3)=true:=by kernel_rfl
set_option maxRecDepth 100000 in
theorem fRecurses:(Rows.layoutLosslessRow.recurses==Tryz.prog.recurses 3)=true:=by kernel_rfl
set_option maxRecDepth 100000 in
theorem fNamed:(Rows.layoutLosslessRow.named==Tryz.prog.varsNamed 3)=true:=by kernel_rfl
set_option maxRecDepth 100000 in
theorem fKeys:(Rows.layoutLosslessRow.plainKeys==Tryz.prog.plainKeys)=true:=by kernel_rfl
set_option maxRecDepth 100000 in
theorem closed:joinedFacts Tryz.prog 3 Tryz.f3 (OpenSpec.ofChange Rows.layoutLosslessSpec).bare Rows.layoutLosslessRow=true:=by
 unfold joinedFacts;rw[pLaidOut,pMaps,fInPlace,fUnfollowed,fRecurses,fNamed,fKeys,pHeard,pEnter]
 kernel_rfl
end Go.Proofs.YtngalibidopjlaaGreatDoor.layoutLossless
