/- A part of the proof: T3b. -/
import Derived.Test.YtgkkkgbknfhbaaaGreatDoorKaf
import Derived.KernelRfl

set_option linter.all false
namespace Go.Abs.Z
open Go.Proofs
def tV:List (FuncId×FI):=[(231,AwV),(202,AQO),(268,Aw5),(234,AwS),(204,AQM),(199,AQR),(144,AXG),(247,AwH),(280,AvT),(145,AXF),(90,BJ6),(269,Aw4),(37,BK9),(152,AXA),(203,AQN),(285,AvR),(81,BJF),(200,AQQ),(206,AQK),(193,AQX),(197,AQT),(258,AwF),(233,AwT),(141,AXJ),(278,AvV),(164,BKQ),(38,BK8),(205,AQL),(260,AwD),(192,AQY),(111,AXW),(157,AX5),(274,AvZ),(136,AXO),(195,AQV),(85,BJB),(137,AXN),(308,AvA),(53,BJT),(120,AXS),(270,Aw3),(103,AZ4),(112,BV2),(167,BKO),(89,BJ7),(201,AQP),(42,BK4),(165,BKP),(43,BK3),(153,AX9),(147,AXD),(194,AQW),(271,Aw2),(319,AkZ),(320,AkY),(163,AX4),(242,AwM),(94,BJ2),(100,AZ7),(149,BKV),(318,Av0)]
set_option maxRecDepth 100000 in
def okL0:tV.all (λx=>chk x.1 x.2)=true:=by kernel_rfl
end Go.Abs.Z
