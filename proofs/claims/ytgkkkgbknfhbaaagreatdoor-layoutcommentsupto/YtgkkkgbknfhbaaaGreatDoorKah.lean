/- A part of the proof: T3c. -/
import Derived.Test.YtgkkkgbknfhbaaaGreatDoorKaf
import Derived.KernelRfl

set_option linter.all false
namespace Go.Abs.Z
open Go.Proofs
def tT:List (FuncId×FI):=[(114,BV1),(168,AX2),(248,AwG),(63,BJN),(72,BJL),(143,AXH),(276,AvX),(288,AvO),(289,AvN),(296,AvJ),(299,AvG),(309,Av9),(311,Av7),(313,Av5),(315,Av3),(316,Av2),(317,Av1),(82,BJE),(83,BJD),(99,BZX),(102,AZ5),(148,BKW),(49,BJX),(51,BJV),(80,BJG),(101,AZ6),(117,AXU),(243,AwL),(244,AwK),(279,AvU),(106,AZ1),(108,AXZ),(151,AXB),(246,AwI),(95,BJ1),(119,AXT),(146,AXE),(212,AQE),(265,Aw8),(56,BJR),(110,AXX),(131,AXQ),(155,AX7),(156,AX6),(230,AwW),(232,AwU),(236,AwQ),(266,Aw7),(272,Aw1),(275,AvY),(277,AvW),(284,AvS),(287,AvP),(290,AvM),(294,AvL),(302,AvD),(18,BKL),(36,BKA),(44,BK2),(45,BK1),(58,BJQ)]
set_option maxRecDepth 100000 in
def okL1:tT.all (λx=>chk x.1 x.2)=true:=by kernel_rfl
end Go.Abs.Z
