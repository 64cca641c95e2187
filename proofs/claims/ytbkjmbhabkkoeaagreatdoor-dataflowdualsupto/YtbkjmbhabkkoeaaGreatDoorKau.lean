/- A part of the proof: M63. -/
import Derived.Test.YtbkjmbhabkkoeaaGreatDoorKar

set_option linter.unusedVariables false
set_option linter.unusedSimpArgs false
namespace Go.Abs.Z
open Go.Proofs Go.RowKit Go.Abs.Y
set_option maxRecDepth 100000 in
theorem uM:OM M7 (Gr [] 200 63 Na SX.nil)=true:=by decide +kernel
theorem Ri:FH 63 Na M7:=Jh (fun _ h=>by cases h) (by decide +kernel) uM
end Go.Abs.Z
