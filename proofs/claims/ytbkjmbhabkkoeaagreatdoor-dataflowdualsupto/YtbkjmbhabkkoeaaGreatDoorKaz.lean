/- A part of the proof: P8. -/
import Derived.Test.YtbkjmbhabkkoeaaGreatDoorKay

set_option linter.unusedVariables false
set_option linter.unusedSimpArgs false
namespace Go.Abs.Z
open Go.Proofs Go.RowKit Go.Abs.Y
set_option maxRecDepth 100000 in
theorem vU:OM (.bool true) (Gr mL5 200 5 [] SX.nil)=true:=by decide +kernel
theorem Zh:FH 5 [] (.bool true):=Jh uE (by decide +kernel) vU
end Go.Abs.Z
