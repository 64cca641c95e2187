/- A part of the proof: M87. -/
import Derived.Test.YtbkjmbhabkkoeaaGreatDoorKar

set_option linter.unusedVariables false
set_option linter.unusedSimpArgs false
namespace Go.Abs.Z
open Go.Proofs Go.RowKit Go.Abs.Y
set_option maxRecDepth 100000 in
theorem qW:Oa Mq (Gl [] 200 87 Mt SX.nil)=true:=by decide +kernel
theorem QF:Fz 87 Mt Mq:=I4 (fun _ h=>by cases h) (by decide +kernel) qW
end Go.Abs.Z
