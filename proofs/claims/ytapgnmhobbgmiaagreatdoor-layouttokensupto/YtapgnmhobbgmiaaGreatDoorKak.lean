/- A part of the proof: T3e. -/
import Derived.Test.YtapgnmhobbgmiaaGreatDoorKag
import Derived.KernelRfl

set_option linter.unusedVariables false
set_option linter.unusedSimpArgs false
namespace Go.Abs.Z
open Go.Proofs
def nJ:List (FuncId×FI):=[(35,AU2),(47,BkR),(52,BkM),(53,BkL),(56,BkI),(83,AYE),(85,AYC),(99,BkB),(100,BqV),(109,BqM),(129,AxC),(142,BqA),(147,Bq5),(193,AUZ),(3,fi3),(4,fi4),(6,fi6),(7,fi7),(9,fi9),(10,BqW),(12,BqH),(13,BqG),(21,AUW),(23,AUN),(25,AUH),(26,AUB),(30,AU7),(34,AU3),(36,AU1),(67,AYR),(69,AYP),(81,AYG),(90,AY7),(91,AY6),(93,AY4),(95,AY2),(130,AxB),(137,Ax4),(156,AqY),(158,AqW),(159,AqV),(160,AqU),(175,AqH),(223,AqE),(230,Aq7),(259,zY),(269,zS),(271,zQ),(272,zP),(274,zN),(275,zM),(277,zK),(281,zJ),(284,zG),(286,zD),(291,zB)]
set_option maxRecDepth 100000 in
theorem Bk1:nJ.all (fun x=>chk x.1 x.2)=true:=by kernel_rfl
end Go.Abs.Z
