/- A part of the proof: T3c. -/
import Derived.Test.YtbkjmbhabkkoeaaGreatDoorKah
import Derived.KernelRfl

set_option linter.unusedVariables false
set_option linter.unusedSimpArgs false
namespace Go.Abs.Z
open Go.Proofs
def bU:List (FuncId×FI):=[(109,zG),(129,zm),(83,Ak3),(98,AjS),(126,zq),(173,yz),(161,yM),(99,AjR),(100,zN),(210,xE),(214,xA),(268,wD),(28,wu),(229,xg),(69,AkF),(150,yV),(192,xX),(193,xW),(208,xH),(239,wU),(250,wM),(251,wL),(72,vK),(73,vJ),(110,pu),(146,yY),(152,yT),(157,yP),(225,xm),(130,zk),(176,yu),(213,xB),(215,xz),(222,xu),(97,AjT),(158,yO),(175,yw),(65,AkI),(104,zJ),(232,xc),(178,yo),(221,xw),(271,wz),(273,wy),(283,wm),(293,vY),(298,vX),(300,vV),(82,Ak4),(189,x8),(209,xG),(212,xC),(257,wI),(290,vZ),(27,wB),(32,vT)]
set_option maxRecDepth 100000 in
theorem AjH:bU.all (fun x=>chk x.1 x.2)=true:=by kernel_rfl
end Go.Abs.Z
