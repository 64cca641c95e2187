/- A part of the proof: M87. -/
import Derived.Test.YtbkjmbhabkkoeaaGreatDoorKar

set_option linter.unusedVariables false
set_option linter.unusedSimpArgs false
namespace Go.Abs.Z
open Go.Proofs Go.RowKit Go.Abs.Y
set_option maxRecDepth 100000 in
theorem uI:OM M6 (Gr [] 200 87 M9 SX.nil)=true:=by decide +kernel
theorem Rf:FH 87 M9 M6:=Jh (fun _ h=>by cases h) (by decide +kernel) uI
end Go.Abs.Z
