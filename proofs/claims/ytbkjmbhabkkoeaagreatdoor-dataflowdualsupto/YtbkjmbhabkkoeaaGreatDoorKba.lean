/- A part of the proof: P9. -/
import Derived.Test.YtbkjmbhabkkoeaaGreatDoorKaz

set_option linter.unusedVariables false
set_option linter.unusedSimpArgs false
namespace Go.Abs.Z
noncomputable section
open Go.Proofs Go.RowKit
def rz:List (FuncId×GM):=(5,memo [([],.bool true)])::iT
theorem iQ:∀x∈rz,FQ Tryz.prog x.1 x.2:=by
 intro x hx;rcases Av.1 hx with rfl | hx
 ·refine ZY fun e he=>?_
  simp only[Av,AB,or_false] at he;subst he;exact Zh
 ·exact WN x hx
def ug(f:FuncId):Option GM:=MP rz f
def run(n:Nat):Caller:=LW pur ug tab n
theorem bn(n:Nat):EW Tryz.prog (run n):=Ha mixed VW (LB _ iQ) n
end
end Go.Abs.Z
