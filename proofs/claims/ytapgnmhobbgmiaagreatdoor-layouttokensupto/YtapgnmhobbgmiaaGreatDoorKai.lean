/- A part of the proof: T3c. -/
import Derived.Test.YtapgnmhobbgmiaaGreatDoorKag
import Derived.KernelRfl

set_option linter.unusedVariables false
set_option linter.unusedSimpArgs false
namespace Go.Abs.Z
open Go.Proofs
def nL:List (FuncId×FI):=[(212,AUV),(251,AUG),(59,AYT),(107,BqO),(146,Bq6),(295,zx),(24,AUL),(217,AUR),(221,AqG),(29,AU8),(74,AYM),(141,BqB),(233,Aq4),(261,zW),(262,zV),(270,zR),(273,zO),(283,zH),(285,zF),(287,zC),(292,zA),(293,zz),(294,zy),(79,AYI),(80,AYH),(88,AY9),(106,BqP),(145,Bq7),(22,AUP),(50,BkO),(68,AYQ),(108,BqN),(139,BqE),(252,AUF),(253,AUE),(267,AUA),(92,AY5),(94,AY3),(134,Ax7),(255,AUC),(102,BqT),(120,AxH),(143,Bq9),(189,Bq0),(248,AUI),(20,AUY),(58,AYU),(115,AxM),(116,AxL),(126,AxD),(151,Ax3),(153,Ax1),(157,AqX),(222,AqF),(229,Aq8),(232,Aq5)]
set_option maxRecDepth 100000 in
theorem Bk3:nL.all (fun x=>chk x.1 x.2)=true:=by kernel_rfl
end Go.Abs.Z
