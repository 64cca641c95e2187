/- A part of the proof: T3b. -/
import Derived.Test.YtbkjmbhabkkoeaaGreatDoorKah
import Derived.KernelRfl

set_option linter.unusedVariables false
set_option linter.unusedSimpArgs false
namespace Go.Abs.Z
open Go.Proofs
def bV:List (FuncId×FI):=[(167,yE),(113,zB),(236,wX),(168,yD),(155,yR),(116,zy),(154,yS),(198,xQ),(15,AvE),(38,Av4),(39,Av3),(50,AkX),(60,AkN),(196,xS),(102,zL),(181,yj),(156,yQ),(238,wV),(266,wF),(234,wY),(206,xJ),(220,xx),(197,xR),(91,AjX),(170,yB),(205,xK),(211,xD),(248,wP),(128,zn),(224,xn),(199,xP),(30,vW),(31,vU),(237,wW),(105,zI),(106,zH),(207,xI),(56,AkR),(79,Ak7),(46,AkY),(71,AkD),(219,Fj),(115,zz),(194,xV),(124,zu),(165,yG),(195,xU),(127,zo),(17,AvC),(249,wO),(29,wh),(48,vL),(49,Iq),(68,AkG),(70,AkE),(101,zM)]
set_option maxRecDepth 100000 in
theorem AjI:bV.all (fun x=>chk x.1 x.2)=true:=by kernel_rfl
end Go.Abs.Z
