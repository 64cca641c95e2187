/- A part of the proof: P8. -/
import Derived.Test.YtkmhldloehaamaaGreatDoorPc

set_option linter.unusedVariables false
set_option linter.unusedSimpArgs false
namespace Go.Abs.Z
open Go.Proofs Go.RowKit
def isTrue : Option (PV × Sto) → Bool
  | some (.bool true, _) => true
  | _ => false
theorem awake_true : isTrue (run 200 6 [] []) = true := by decide +kernel
end Go.Abs.Z
