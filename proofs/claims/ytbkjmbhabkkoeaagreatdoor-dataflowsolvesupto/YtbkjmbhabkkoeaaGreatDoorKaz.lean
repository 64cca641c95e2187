/- A part of the proof: P8. -/
import Derived.Test.YtbkjmbhabkkoeaaGreatDoorKay

set_option linter.unusedVariables false
set_option linter.unusedSimpArgs false
namespace Go.Abs.Z
open Go.Proofs Go.RowKit Go.Abs.Y
set_option maxRecDepth 100000 in
theorem sW:Oa (.bool true) (Gl mL5 200 5 [] SX.nil)=true:=by decide +kernel
theorem Yl:Fz 5 [] (.bool true):=I4 qP (by decide +kernel) sW
end Go.Abs.Z
