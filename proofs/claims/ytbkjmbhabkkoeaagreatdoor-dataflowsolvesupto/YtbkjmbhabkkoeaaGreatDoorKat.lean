/- A part of the proof: M82. -/
import Derived.Test.YtbkjmbhabkkoeaaGreatDoorKar

set_option linter.unusedVariables false
set_option linter.unusedSimpArgs false
namespace Go.Abs.Z
open Go.Proofs Go.RowKit Go.Abs.Y
set_option maxRecDepth 100000 in
theorem qZ:Oa J5 (Gl [] 200 82 J6 SX.nil)=true:=by decide +kernel
theorem QG:Fz 82 J6 J5:=I4 (fun _ h=>by cases h) (by decide +kernel) qZ
end Go.Abs.Z
