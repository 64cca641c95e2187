/- A part of the proof: M84. -/
import Derived.Test.YtbkjmbhabkkoeaaGreatDoorKaw

set_option linter.unusedVariables false
set_option linter.unusedSimpArgs false
namespace Go.Abs.Z
open Go.Proofs Go.RowKit Go.Abs.Y
noncomputable def r84(n:Nat):Caller:=Mf pur (VP ((123,mX)::(82,memo [(J6,J5)])::fD)) tab n
theorem ZU(n:Nat):EX Tryz.prog (r84 n):=Ie mixed Yz (Nj _ fun x hx=>by
 rcases Ay.1 hx with rfl | hx
 ·exact eY
 rcases Ay.1 hx with rfl | hx
 ·exact(qV (tm 82 [(J6,J5)]) (by simp[mL1])).ok
 ·exact VB x hx) n
set_option maxRecDepth 100000 in
theorem qY:isD N7 (r84 200 84 N8 [])=true:=by decide +kernel
theorem Uj:Fz 84 N8 N7:=known (ZU 200) (by decide +kernel) qY
end Go.Abs.Z
