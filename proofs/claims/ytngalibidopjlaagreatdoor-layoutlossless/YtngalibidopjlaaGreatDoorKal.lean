/- A part of the proof: T3e. -/
import Derived.Test.YtngalibidopjlaaGreatDoorKah
import Derived.KernelRfl

set_option linter.unusedVariables false
set_option linter.unusedSimpArgs false
namespace Go.Abs.Z
open Go.Proofs
def tabL3:List (FuncId×FI):=[(105,fi105),(106,fi106),(112,fi112),(122,fi122),(152,fi152),(161,fi161),(191,fi191),(217,fi217),(245,fi245),(4,fi4),(9,fi9),(10,fi10),(12,fi12),(14,fi14),(15,fi15),(31,fi31),(43,fi43),(48,fi48),(49,fi49),(53,fi53),(55,fi55),(91,fi91),(93,fi93),(107,fi107),(108,fi108),(117,fi117),(150,fi150),(163,fi163),(168,fi168),(204,fi204),(3,fi3),(8,fi8),(22,fi22),(24,fi24),(61,fi61),(63,fi63),(64,fi64),(65,fi65),(131,fi131),(138,fi138),(179,fi179),(235,fi235),(237,fi237),(238,fi238),(240,fi240),(241,fi241),(243,fi243),(263,fi263),(266,fi266),(268,fi268),(274,fi274)]
set_option maxRecDepth 100000 in
theorem okL3:tabL3.all (fun x=>chk x.1 x.2)=true:=by kernel_rfl
end Go.Abs.Z
