/- A part of the proof: T3e. -/
import Derived.Test.YtbkjmbhabkkoeaaGreatDoorKah
import Derived.KernelRfl

set_option linter.unusedVariables false
set_option linter.unusedSimpArgs false
namespace Go.Abs.Z
open Go.Proofs
def bQ:List (FuncId×FI):=[(81,Ak5),(85,Ak1),(86,Ak0),(87,AjZ),(90,AjY),(92,AjW),(96,AjU),(112,zC),(114,zA),(118,zx),(134,zh),(135,zg),(136,zf),(144,y9),(151,yU),(159,yN),(162,yJ),(183,yh),(184,yg),(185,yf),(190,xZ),(201,xO),(230,xe),(241,wS),(3,fi3),(4,fi4),(6,fi6),(8,fi8),(9,fi9),(10,zO),(11,zF),(12,AvH),(13,AvG),(14,AvF),(18,ym),(25,wN),(33,vS),(34,vR),(35,vQ),(36,vP),(37,Av5),(40,vO),(41,vN),(51,AkW),(52,AkV),(53,AkU),(54,AkT),(55,AkS),(57,AkQ),(58,AkP),(59,AkO),(74,AkC),(75,AkB),(76,AkA),(77,Ak9),(78,Ak8),(111,zD)]
set_option maxRecDepth 100000 in
theorem AjG:bQ.all (fun x=>chk x.1 x.2)=true:=by kernel_rfl
end Go.Abs.Z
