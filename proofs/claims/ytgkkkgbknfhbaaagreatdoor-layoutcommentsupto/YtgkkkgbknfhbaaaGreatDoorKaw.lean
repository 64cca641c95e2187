/- A part of the proof: F99. -/
import Derived.Test.YtgkkkgbknfhbaaaGreatDoorKav

set_option linter.all false
namespace Go.Proofs.YtgkkkgbknfhbaaaGreatDoor.layoutComments
open Go.ChangeShapes Go.WideShapes Go.ChangeAt Go.RowKit Go.Abs.Z
set_option maxRecDepth 100000 in
theorem xN:(Rows.layoutCommentsUptoRow.inPlace==Tryz.prog.inPlace 4)=true:=by kernel_rfl
set_option maxRecDepth 100000 in
theorem gH:(Rows.layoutCommentsUptoRow.unfollowed==Tryz.prog.unfollowed 4)=true:=by kernel_rfl
set_option maxRecDepth 100000 in
theorem o9:(Rows.layoutCommentsUptoRow.recurses==Tryz.prog.recurses 4)=true:=by kernel_rfl
set_option maxRecDepth 100000 in
theorem AUQ:(Rows.layoutCommentsUptoRow.named==Tryz.prog.varsNamed 4)=true:=by kernel_rfl
set_option maxRecDepth 100000 in
theorem BV4:(Rows.layoutCommentsUptoRow.plainKeys==Tryz.prog.plainKeys)=true:=by kernel_rfl
set_option maxRecDepth 100000 in
theorem closed:joinedFacts Tryz.prog 4 Tryz.f4 (Rows.OpenSpec.upto Rows.layoutCommentsSpec).bare Rows.layoutCommentsUptoRow=true:=by
 unfold joinedFacts;rw[eX,BQE,xN,gH,o9,AUQ,BV4,AYS,AYT]
 kernel_rfl
end Go.Proofs.YtgkkkgbknfhbaaaGreatDoor.layoutComments
