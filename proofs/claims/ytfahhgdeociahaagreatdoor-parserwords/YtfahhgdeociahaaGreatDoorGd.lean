/- A part of the proof: G8. -/
import Derived.Test.YtfahhgdeociahaaGreatDoorGa
import Derived.Test.YtfahhgdeociahaaGreatDoorDb
import Derived.Test.YtfahhgdeociahaaGreatDoorGb

set_option linter.unusedVariables false
set_option linter.unusedSimpArgs false
namespace Go.Abs.Z
open Go.Proofs Go.RowKit
section
variable {s : List UInt8} {ls : List Tk} {k l : Nat} {es : List PV}
end
end Go.Abs.Z
