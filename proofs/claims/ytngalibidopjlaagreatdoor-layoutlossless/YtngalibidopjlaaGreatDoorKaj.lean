/- A part of the proof: T3c. -/
import Derived.Test.YtngalibidopjlaaGreatDoorKah
import Derived.KernelRfl

set_option linter.unusedVariables false
set_option linter.unusedSimpArgs false
namespace Go.Abs.Z
open Go.Proofs
def tabL1:List (FuncId×FI):=[(136,fi136),(165,fi165),(187,fi187),(285,fi285),(286,fi286),(225,fi225),(258,fi258),(6,fi6),(115,fi115),(167,fi167),(284,fi284),(25,fi25),(129,fi129),(230,fi230),(128,fi128),(118,fi118),(141,fi141),(162,fi162),(181,fi181),(182,fi182),(236,fi236),(239,fi239),(265,fi265),(267,fi267),(269,fi269),(275,fi275),(276,fi276),(280,fi280),(87,fi87),(88,fi88),(96,fi96),(114,fi114),(166,fi166),(23,fi23),(46,fi46),(85,fi85),(116,fi116),(160,fi160),(259,fi259),(260,fi260),(273,fi273),(100,fi100),(102,fi102),(155,fi155),(262,fi262),(20,fi20),(110,fi110),(164,fi164),(200,fi200),(253,fi253)]
set_option maxRecDepth 100000 in
theorem okL1:tabL1.all (fun x=>chk x.1 x.2)=true:=by kernel_rfl
end Go.Abs.Z
