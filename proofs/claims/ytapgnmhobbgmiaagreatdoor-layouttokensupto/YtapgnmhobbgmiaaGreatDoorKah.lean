/- A part of the proof: T3b. -/
import Derived.Test.YtapgnmhobbgmiaaGreatDoorKag
import Derived.KernelRfl

set_option linter.unusedVariables false
set_option linter.unusedSimpArgs false
namespace Go.Abs.Z
open Go.Proofs
def nM:List (FuncId×FI):=[(152,Ax2),(164,AqQ),(225,AqC),(155,AqZ),(166,AqO),(161,AqT),(117,AxK),(224,AqD),(257,z8),(118,AxJ),(87,AYA),(226,AqB),(32,AU5),(135,Ax6),(165,AqP),(258,zZ),(78,AYJ),(162,AqS),(168,AqM),(172,AqK),(179,Bq2),(239,AUM),(154,Ax0),(132,Ax9),(235,Aq2),(213,AUU),(33,AU4),(167,AqN),(236,Aq1),(171,AqL),(60,AYS),(119,AxI),(231,Aq6),(122,AxG),(174,AqI),(82,AYF),(123,AxF),(282,zI),(41,AYW),(150,Bq3),(227,AqA),(70,AYO),(89,AY8),(216,AUS),(86,AYB),(163,AqR),(37,AU0),(214,AUT),(38,AYZ),(136,Ax5),(144,Bq8),(173,AqJ),(228,Aq9),(296,zw),(297,zu)]
set_option maxRecDepth 100000 in
theorem Bk4:nM.all (fun x=>chk x.1 x.2)=true:=by kernel_rfl
end Go.Abs.Z
