/- A part of the proof: P8. -/
import Derived.Test.YtakhbjefcjmelaaGreatDoorPc

set_option linter.unusedVariables false
set_option linter.unusedSimpArgs false
namespace Go.Abs.Z
def isTrue : Option (PV × Sto) → Bool
  | some (.bool true, _) => true
  | _ => false
set_option maxRecDepth 100000 in
theorem awake_true : isTrue (run 200 4 [] []) = true := by decide +kernel
end Go.Abs.Z
