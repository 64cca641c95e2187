/- A part of the proof: P0. -/
import Derived.Test.YtfahhgdeociahaaDoorTd

set_option linter.unusedVariables false
set_option linter.unusedSimpArgs false
namespace Go.Abs.Z
open Go.Proofs Go.RowKit
noncomputable def run (n : Nat) : Caller := callK pur (fun _ => none) tab n
theorem AwS (n : Nat) : Sound Tryd.prog (run n) := BqF mixed tabOk (fun _ _ h => by cases h) n
end Go.Abs.Z
