/- A part of the proof: M61. -/
import Derived.Test.YtbkjmbhabkkoeaaGreatDoorKar

set_option linter.unusedVariables false
set_option linter.unusedSimpArgs false
namespace Go.Abs.Z
open Go.Proofs Go.RowKit Go.Abs.Y
set_option maxRecDepth 100000 in
theorem rq:Oa Ms (Gl [] 200 61 Mw SX.nil)=true:=by decide +kernel
theorem QI:Fz 61 Mw Ms:=I4 (fun _ h=>by cases h) (by decide +kernel) rq
end Go.Abs.Z
