/- A part of the proof: P0. -/
import Derived.Test.YtfahhgdeociahaaGreatDoorTd

set_option linter.unusedVariables false
set_option linter.unusedSimpArgs false
namespace Go.Abs.Z
open Go.Proofs Go.RowKit
noncomputable def run (n : Nat) : Caller := callK pur (fun _ => none) tab n
theorem Bq4 (n : Nat) : Sound Tryz.prog (run n) := BqQ mixed tabOk (fun _ _ h => by cases h) n
end Go.Abs.Z
