/- A part of the proof: T3e. -/
import Derived.Test.YtbkjmbhabkkoeaaGreatDoorKah
import Derived.KernelRfl

set_option linter.unusedVariables false
set_option linter.unusedSimpArgs false
namespace Go.Abs.Z
open Go.Proofs
def eY:List (FuncId×FI):=[(81,AwH),(85,AwD),(86,AwC),(87,AwB),(90,AwA),(92,Aw8),(96,Aw6),(112,AxM),(114,AxK),(118,AxH),(134,Ax6),(135,Ax5),(136,Ax4),(144,AqZ),(151,AqU),(159,AqN),(162,AqK),(183,Aq2),(184,Aq1),(185,Aq0),(190,zX),(201,zM),(230,zf),(241,yU),(3,fi3),(4,fi4),(6,fi6),(8,fi8),(9,fi9),(10,AxX),(11,AxO),(12,AxG),(13,Ax8),(14,Ax2),(18,Aq5),(25,yP),(33,AQH),(34,x9),(35,x8),(36,xZ),(37,xY),(40,xX),(41,xW),(51,AQ8),(52,AQ7),(53,AQ6),(54,AQ5),(55,AQ4),(57,AQ2),(58,AQ1),(59,AQ0),(74,AwO),(75,AwN),(76,AwM),(77,AwL),(78,AwK),(111,AxN)]
set_option maxRecDepth 100000 in
theorem AvR:eY.all (fun x=>chk x.1 x.2)=true:=by kernel_rfl
end Go.Abs.Z
