/- A part of the proof: M84. -/
import Derived.Test.YtbkjmbhabkkoeaaGreatDoorKaw

set_option linter.unusedVariables false
set_option linter.unusedSimpArgs false
namespace Go.Abs.Z
open Go.Proofs Go.RowKit Go.Abs.Y
noncomputable def r84(n:Nat):Caller:=LW pur (MP ((123,pG)::(82,memo [(Kq,Ko)])::iT)) tab n
theorem bB(n:Nat):EW Tryz.prog (r84 n):=Ha mixed VW (LB _ fun x hx=>by
 rcases Av.1 hx with rfl | hx
 ·exact iI
 rcases Av.1 hx with rfl | hx
 ·exact(uH (tm 82 [(Kq,Ko)]) (by simp[mL1])).ok
 ·exact WN x hx) n
set_option maxRecDepth 100000 in
theorem uK:isD OI (r84 200 84 OJ [])=true:=by decide +kernel
theorem U4:FH 84 OJ OI:=known (bB 200) (by decide +kernel) uK
end Go.Abs.Z
