/- A part of the proof: D31. -/
import Derived.Test.YtfahhgdeociahaaDoorDk
import Derived.Test.YtfahhgdeociahaaDoorWh

set_option linter.unusedVariables false
set_option linter.unusedSimpArgs false
namespace Go.Abs.Z
open Go.Proofs Go.RowKit
set_option linter.unusedVariables false
end Go.Abs.Z
