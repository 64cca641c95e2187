/- A part of the proof: M61. -/
import Derived.Test.YtbkjmbhabkkoeaaGreatDoorKar

set_option linter.unusedVariables false
set_option linter.unusedSimpArgs false
namespace Go.Abs.Z
open Go.Proofs Go.RowKit Go.Abs.Y
set_option maxRecDepth 100000 in
theorem uN:OM M8 (Gr [] 200 61 Nb SX.nil)=true:=by decide +kernel
theorem Rj:FH 61 Nb M8:=Jh (fun _ h=>by cases h) (by decide +kernel) uN
end Go.Abs.Z
