/- A part of the proof: ML1. -/
import Derived.Test.YtbkjmbhabkkoeaaGreatDoorKas
import Derived.Test.YtbkjmbhabkkoeaaGreatDoorKat
import Derived.Test.YtbkjmbhabkkoeaaGreatDoorKau
import Derived.Test.YtbkjmbhabkkoeaaGreatDoorKav

set_option linter.unusedVariables false
set_option linter.unusedSimpArgs false
namespace Go.Abs.Z
open Go.Proofs Go.RowKit Go.Abs.Y
noncomputable def mL1:List Trp:=[tm 61 [(Nb,M8)],tm 82 [(Kq,Ko)],tm 63 [(Na,M7)],tm 87 [(M9,M6)]]
theorem uH:∀x∈mL1,Kb x:=by
 intro x hx;simp only[mL1,Av,AB,or_false] at hx;rcases hx with rfl | rfl | rfl | rfl
 ·refine Er fun e he=>?_
  simp only[Av,AB,or_false] at he;subst he;exact Rj
 ·refine Er fun e he=>?_
  simp only[Av,AB,or_false] at he;subst he;exact Rh
 ·refine Er fun e he=>?_
  simp only[Av,AB,or_false] at he;subst he;exact Ri
 ·refine Er fun e he=>?_
  simp only[Av,AB,or_false] at he;subst he;exact Rf
end Go.Abs.Z
