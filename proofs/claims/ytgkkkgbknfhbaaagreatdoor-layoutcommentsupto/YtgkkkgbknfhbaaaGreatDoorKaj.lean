/- A part of the proof: T3e. -/
import Derived.Test.YtgkkkgbknfhbaaaGreatDoorKaf
import Derived.KernelRfl

set_option linter.all false
namespace Go.Abs.Z
open Go.Proofs
def tO:List (FuncId×FI):=[(14,BKX),(39,BK7),(41,BK5),(84,BJC),(104,AZ3),(105,AZ2),(107,AZ0),(109,AXY),(139,AXL),(154,AX8),(159,BKU),(160,BKT),(161,BKS),(162,BKR),(166,AX3),(169,AX1),(172,BKN),(173,BKM),(196,AQU),(207,AQJ),(208,AQI),(209,AQH),(210,AQG),(211,AQF),(213,AQD),(214,AQC),(215,AQB),(217,AQ9),(218,AQ8),(219,AQ7),(220,AQ6),(221,AQ5),(222,AQ4),(223,AQ3),(224,AQ2),(225,AQ1),(226,AQ0),(227,AwZ),(228,AwY),(235,AwR),(237,AwP),(238,AwO),(239,AwN),(241,BKF),(262,AwB),(263,AwA),(264,Aw9),(267,Aw6),(273,Aw0),(286,AvQ),(295,AvK),(297,AvI),(298,AvH),(300,AvF),(301,AvE),(303,AvC),(307,AvB),(310,Av8),(312,Av6),(314,Av4)]
set_option maxRecDepth 100000 in
def okL3:tO.all (λx=>chk x.1 x.2)=true:=by kernel_rfl
end Go.Abs.Z
