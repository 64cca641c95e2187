/- A part of the proof: T3b. -/
import Derived.Test.YtngalibidopjlaaGreatDoorKah
import Derived.KernelRfl

set_option linter.unusedVariables false
set_option linter.unusedSimpArgs false
namespace Go.Abs.Z
open Go.Proofs
def tabL0:List (FuncId×FI):=[(57,fi57),(69,fi69),(133,fi133),(60,fi60),(71,fi71),(66,fi66),(18,fi18),(132,fi132),(177,fi177),(19,fi19),(95,fi95),(134,fi134),(28,fi28),(156,fi156),(70,fi70),(178,fi178),(86,fi86),(67,fi67),(73,fi73),(186,fi186),(190,fi190),(244,fi244),(59,fi59),(153,fi153),(143,fi143),(226,fi226),(29,fi29),(72,fi72),(144,fi144),(185,fi185),(76,fi76),(145,fi145),(139,fi139),(148,fi148),(188,fi188),(90,fi90),(149,fi149),(264,fi264),(37,fi37),(175,fi175),(135,fi135),(82,fi82),(97,fi97),(229,fi229),(94,fi94),(68,fi68),(33,fi33),(227,fi227),(34,fi34),(157,fi157)]
set_option maxRecDepth 100000 in
theorem okL0:tabL0.all (fun x=>chk x.1 x.2)=true:=by kernel_rfl
end Go.Abs.Z
