/- A part of the proof: T3d. -/
import Derived.Test.YtapgnmhobbgmiaaGreatDoorKag
import Derived.KernelRfl

set_option linter.unusedVariables false
set_option linter.unusedSimpArgs false
namespace Go.Abs.Z
open Go.Proofs
def nK:List (FuncId×FI):=[(234,Aq3),(256,Aq0),(260,zX),(263,zU),(268,zT),(276,zL),(31,AU6),(39,AYY),(40,AYX),(44,BkU),(96,BkE),(101,BqU),(103,BqS),(113,BqJ),(138,BqF),(219,AUQ),(220,AUO),(254,AUD),(28,AU9),(42,BkV),(73,AYN),(75,AYL),(76,AYK),(105,BqQ),(125,AxE),(133,Ax8),(244,AUJ),(15,Bv1),(17,BkZ),(43,AYV),(45,BkT),(46,BkS),(48,BkQ),(49,BkP),(51,BkN),(54,BkK),(55,BkJ),(57,BkH),(84,AYD),(97,BkD),(98,BkC),(104,BqR),(111,BqK),(131,AxA),(140,BqC),(180,Bq1),(206,AUX),(240,AUK),(5,fi5),(8,fi8),(11,BqL),(14,BqD),(16,Bv0),(18,BkY),(19,BkX)]
set_option maxRecDepth 100000 in
theorem lm:nK.all (fun x=>chk x.1 x.2)=true:=by kernel_rfl
end Go.Abs.Z
