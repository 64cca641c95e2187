/- A part of the proof: T3d. -/
import Derived.Test.YtgkkkgbknfhbaaaGreatDoorKaf
import Derived.KernelRfl

set_option linter.all false
namespace Go.Abs.Z
open Go.Proofs
def tQ:List (FuncId×FI):=[(59,BJP),(93,BJ3),(96,BJ0),(116,AXV),(170,AX0),(171,AQZ),(245,AwJ),(34,BKB),(54,fi54),(74,BJK),(75,BJJ),(79,BJH),(98,BZY),(135,AXP),(150,AXC),(261,AwC),(12,BKZ),(15,fi15),(20,BKJ),(22,BKH),(33,BKC),(46,BK0),(47,BJZ),(48,BJY),(50,BJW),(52,BJU),(55,BJS),(76,BJI),(87,BJ9),(91,BJ5),(92,BJ4),(97,BZZ),(140,AXK),(142,AXI),(198,AQS),(229,AwX),(259,AwE),(6,fi6),(7,fi7),(9,fi9),(11,BV3),(16,fi16),(17,fi17),(19,BKK),(21,BKI),(23,BKG),(31,BKE),(32,BKD),(40,BK6),(61,BJO),(71,BJM),(86,BJA),(88,BJ8),(130,AXR),(138,AXM),(216,AQA),(4,fi4),(5,fi5),(13,BKY)]
set_option maxRecDepth 100000 in
def oJ:tQ.all (λx=>chk x.1 x.2)=true:=by kernel_rfl
end Go.Abs.Z
