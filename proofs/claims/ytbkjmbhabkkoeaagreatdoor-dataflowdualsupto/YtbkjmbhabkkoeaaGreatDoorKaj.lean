/- A part of the proof: T3c. -/
import Derived.Test.YtbkjmbhabkkoeaaGreatDoorKah
import Derived.KernelRfl

set_option linter.unusedVariables false
set_option linter.unusedSimpArgs false
namespace Go.Abs.Z
open Go.Proofs
def fe:List (FuncId×FI):=[(109,AxP),(129,Ax9),(83,AwF),(98,Aw4),(126,AxC),(173,AqA),(161,AqL),(99,Aw3),(100,AxW),(210,zC),(214,zy),(268,yE),(28,yx),(229,zg),(69,AwR),(150,AqV),(192,zU),(193,zT),(208,zF),(239,yX),(250,yO),(251,yN),(72,xS),(73,xR),(110,rV),(146,AqX),(152,AqT),(157,AqP),(225,zm),(130,Ax7),(176,Aq7),(213,zz),(215,zx),(222,zq),(97,Aw5),(158,AqO),(175,Aq8),(65,AwU),(104,AxS),(232,ze),(178,Aq6),(221,zt),(271,yB),(273,yA),(283,yu),(293,yl),(298,yj),(300,yg),(82,AwG),(189,zY),(209,zD),(212,zA),(257,yJ),(290,ym),(27,yC),(32,yc)]
set_option maxRecDepth 100000 in
theorem AvS:fe.all (fun x=>chk x.1 x.2)=true:=by kernel_rfl
end Go.Abs.Z
