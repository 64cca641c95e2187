/- A part of the proof: M82. -/
import Derived.Test.YtbkjmbhabkkoeaaGreatDoorKar

set_option linter.unusedVariables false
set_option linter.unusedSimpArgs false
namespace Go.Abs.Z
open Go.Proofs Go.RowKit Go.Abs.Y
set_option maxRecDepth 100000 in
theorem uL:OM Ko (Gr [] 200 82 Kq SX.nil)=true:=by decide +kernel
theorem Rh:FH 82 Kq Ko:=Jh (fun _ h=>by cases h) (by decide +kernel) uL
end Go.Abs.Z
