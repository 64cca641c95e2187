/- A part of the proof: T3d. -/
import Derived.Test.YtbkjmbhabkkoeaaGreatDoorKah
import Derived.KernelRfl

set_option linter.unusedVariables false
set_option linter.unusedSimpArgs false
namespace Go.Abs.Z
open Go.Proofs
def eZ:List (FuncId×FI):=[(44,AQC),(45,AQB),(63,AwW),(64,AwV),(67,AwT),(103,AxT),(143,Ax0),(148,AqW),(204,zJ),(223,zo),(243,yT),(269,yD),(282,yw),(16,AqM),(163,AqJ),(174,Aq9),(7,fi7),(23,AQJ),(26,yH),(43,AQD),(47,xV),(84,AwE),(93,Aw7),(123,E5),(125,AxD),(139,Ax3),(142,Ax1),(164,AqI),(169,AqD),(171,AqB),(180,Aq4),(186,z8),(187,zZ),(191,zV),(202,zL),(203,zK),(218,zw),(226,zk),(228,zh),(233,zb),(240,yV),(246,yS),(253,yM),(258,yI),(267,yF),(278,yz),(5,fi5),(19,AQN),(20,AQM),(21,AQL),(22,AQK),(24,AQI),(42,AQE),(61,AwY),(62,AwX),(80,AwI)]
set_option maxRecDepth 100000 in
theorem bR:eZ.all (fun x=>chk x.1 x.2)=true:=by kernel_rfl
end Go.Abs.Z
