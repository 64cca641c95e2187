/- A part of the proof: T3b. -/
import Derived.Test.YtbkjmbhabkkoeaaGreatDoorKah
import Derived.KernelRfl

set_option linter.unusedVariables false
set_option linter.unusedSimpArgs false
namespace Go.Abs.Z
open Go.Proofs
def fo:List (FuncId×FI):=[(167,AqF),(113,AxL),(236,y9),(168,AqE),(155,AqR),(116,AxI),(154,AqS),(198,zO),(15,AQP),(38,AQG),(39,AQF),(50,AQ9),(60,AwZ),(196,zQ),(102,AxU),(181,Aq3),(156,AqQ),(238,yY),(266,yG),(234,za),(206,zH),(220,zu),(197,zP),(91,Aw9),(170,AqC),(205,zI),(211,zB),(248,yR),(128,AxA),(224,zn),(199,zN),(30,yh),(31,yf),(237,y8),(105,AxR),(106,AxQ),(207,zG),(56,AQ3),(79,AwJ),(46,AQA),(71,AwP),(219,Fw),(115,AxJ),(194,zS),(124,AxE),(165,AqH),(195,zR),(127,AxB),(17,AQO),(249,yQ),(29,yo),(48,xU),(49,IG),(68,AwS),(70,AwQ),(101,AxV)]
set_option maxRecDepth 100000 in
theorem AvT:fo.all (fun x=>chk x.1 x.2)=true:=by kernel_rfl
end Go.Abs.Z
