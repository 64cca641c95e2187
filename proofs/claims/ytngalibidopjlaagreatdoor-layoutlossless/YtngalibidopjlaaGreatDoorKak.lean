/- A part of the proof: T3d. -/
import Derived.Test.YtngalibidopjlaaGreatDoorKah
import Derived.KernelRfl

set_option linter.unusedVariables false
set_option linter.unusedSimpArgs false
namespace Go.Abs.Z
open Go.Proofs
def tabL2:List (FuncId×FI):=[(5,fi5),(16,fi16),(17,fi17),(21,fi21),(56,fi56),(58,fi58),(62,fi62),(130,fi130),(137,fi137),(140,fi140),(142,fi142),(169,fi169),(176,fi176),(180,fi180),(183,fi183),(234,fi234),(242,fi242),(27,fi27),(35,fi35),(36,fi36),(40,fi40),(104,fi104),(109,fi109),(111,fi111),(126,fi126),(159,fi159),(232,fi232),(233,fi233),(261,fi261),(38,fi38),(52,fi52),(113,fi113),(120,fi120),(121,fi121),(125,fi125),(154,fi154),(173,fi173),(249,fi249),(11,fi11),(13,fi13),(39,fi39),(41,fi41),(42,fi42),(44,fi44),(45,fi45),(47,fi47),(50,fi50),(51,fi51),(54,fi54),(92,fi92)]
set_option maxRecDepth 100000 in
theorem okL2:tabL2.all (fun x=>chk x.1 x.2)=true:=by kernel_rfl
end Go.Abs.Z
