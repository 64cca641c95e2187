/- A part of the proof: ML1. -/
import Derived.Test.YtbkjmbhabkkoeaaGreatDoorKas
import Derived.Test.YtbkjmbhabkkoeaaGreatDoorKat
import Derived.Test.YtbkjmbhabkkoeaaGreatDoorKau
import Derived.Test.YtbkjmbhabkkoeaaGreatDoorKav

set_option linter.unusedVariables false
set_option linter.unusedSimpArgs false
namespace Go.Abs.Z
open Go.Proofs Go.RowKit Go.Abs.Y
noncomputable def mL1:List Trp:=[tm 61 [(Mw,Ms)],tm 82 [(J6,J5)],tm 63 [(Mv,Mr)],tm 87 [(Mt,Mq)]]
theorem qV:∀x∈mL1,JU x:=by
 intro x hx;simp only[mL1,Ay,AC,or_false] at hx;rcases hx with rfl | rfl | rfl | rfl
 ·refine Er fun e he=>?_
  simp only[Ay,AC,or_false] at he;subst he;exact QI
 ·refine Er fun e he=>?_
  simp only[Ay,AC,or_false] at he;subst he;exact QG
 ·refine Er fun e he=>?_
  simp only[Ay,AC,or_false] at he;subst he;exact QH
 ·refine Er fun e he=>?_
  simp only[Ay,AC,or_false] at he;subst he;exact QF
end Go.Abs.Z
