/- A part of the proof: T3d. -/
import Derived.Test.YtbkjmbhabkkoeaaGreatDoorKah
import Derived.KernelRfl

set_option linter.unusedVariables false
set_option linter.unusedSimpArgs false
namespace Go.Abs.Z
open Go.Proofs
def bR:List (FuncId×FI):=[(44,Av0),(45,AkZ),(63,AkK),(64,AkJ),(67,AkH),(103,zK),(143,za),(148,yX),(204,xL),(223,xq),(243,wR),(269,wC),(282,wo),(16,AvD),(163,yI),(174,yx),(7,fi7),(23,Av7),(26,wG),(43,Av1),(47,vM),(84,Ak2),(93,AjV),(123,EW),(125,zt),(139,ze),(142,zb),(164,yH),(169,yC),(171,yA),(180,yl),(186,yc),(187,x9),(191,xY),(202,xN),(203,xM),(218,xy),(226,xk),(228,xh),(233,w9),(240,wT),(246,wQ),(253,wJ),(258,wH),(267,wE),(278,ww),(5,fi5),(19,AvB),(20,AvA),(21,Av9),(22,Av8),(24,Av6),(42,Av2),(61,AkM),(62,AkL),(80,Ak6)]
set_option maxRecDepth 100000 in
theorem ah:bR.all (fun x=>chk x.1 x.2)=true:=by kernel_rfl
end Go.Abs.Z
