/- A part of the proof: P9. -/
import Derived.Test.YtbkjmbhabkkoeaaGreatDoorKaz

set_option linter.unusedVariables false
set_option linter.unusedSimpArgs false
namespace Go.Abs.Z
noncomputable section
open Go.Proofs Go.RowKit
def oQ:List (FuncId×HV):=(5,memo [([],.bool true)])::fD
theorem fC:∀x∈oQ,Gp Tryz.prog x.1 x.2:=by
 intro x hx;rcases Ay.1 hx with rfl | hx
 ·refine Y4 fun e he=>?_
  simp only[Ay,AC,or_false] at he;subst he;exact Yl
 ·exact VB x hx
def qx(f:FuncId):Option HV:=VP oQ f
def run(n:Nat):Caller:=Mf pur qx tab n
theorem ZN(n:Nat):EX Tryz.prog (run n):=Ie mixed Yz (Nj _ fC) n
end
end Go.Abs.Z
