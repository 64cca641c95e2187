/- A part of the proof: M63. -/
import Derived.Test.YtbkjmbhabkkoeaaGreatDoorKar

set_option linter.unusedVariables false
set_option linter.unusedSimpArgs false
namespace Go.Abs.Z
open Go.Proofs Go.RowKit Go.Abs.Y
set_option maxRecDepth 100000 in
theorem q8:Oa Mr (Gl [] 200 63 Mv SX.nil)=true:=by decide +kernel
theorem QH:Fz 63 Mv Mr:=I4 (fun _ h=>by cases h) (by decide +kernel) q8
end Go.Abs.Z
