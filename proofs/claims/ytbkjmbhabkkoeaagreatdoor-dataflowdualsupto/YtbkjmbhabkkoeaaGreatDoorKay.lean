/- A part of the proof: ML2 M86 ML3 M42 M23 M21 M22 ML4 M20 ML5. -/
import Derived.Test.YtbkjmbhabkkoeaaGreatDoorKax

set_option linter.unusedVariables false
set_option linter.unusedSimpArgs false
namespace Go.Abs.Z
open Go.Proofs Go.RowKit Go.Abs.Y
noncomputable def mL2:List Trp:=[tm 61 [(Nb,M8)],tm 82 [(Kq,Ko)],tm 63 [(Na,M7)],tm 87 [(M9,M6)],tm 84 [(OJ,OI)]]
theorem uG:∀x∈mL2,Kb x:=by
 intro x hx;simp only[mL2,Av,AB,or_false] at hx;rcases hx with rfl | rfl | rfl | rfl | rfl
 ·refine Er fun e he=>?_
  simp only[Av,AB,or_false] at he;subst he;exact Rj
 ·refine Er fun e he=>?_
  simp only[Av,AB,or_false] at he;subst he;exact Rh
 ·refine Er fun e he=>?_
  simp only[Av,AB,or_false] at he;subst he;exact Ri
 ·refine Er fun e he=>?_
  simp only[Av,AB,or_false] at he;subst he;exact Rf
 ·refine Er fun e he=>?_
  simp only[Av,AB,or_false] at he;subst he;exact U4
end Go.Abs.Z

namespace Go.Abs.Z
open Go.Proofs Go.RowKit Go.Abs.Y
set_option maxRecDepth 100000 in
theorem uJ:OM Rk (Gr mL2 200 86 Rl SX.nil)=true:=by decide +kernel
theorem YJ:FH 86 Rl Rk:=Jh uG (by decide +kernel) uJ
end Go.Abs.Z

namespace Go.Abs.Z
open Go.Proofs Go.RowKit Go.Abs.Y
noncomputable def mL3:List Trp:=[tm 61 [(Nb,M8)],tm 82 [(Kq,Ko)],tm 63 [(Na,M7)],tm 87 [(M9,M6)],tm 84 [(OJ,OI)],tm 86 [(Rl,Rk)]]
theorem U9:∀x∈mL3,Kb x:=by
 intro x hx;simp only[mL3,Av,AB,or_false] at hx;rcases hx with rfl | rfl | rfl | rfl | rfl | rfl
 ·refine Er fun e he=>?_
  simp only[Av,AB,or_false] at he;subst he;exact Rj
 ·refine Er fun e he=>?_
  simp only[Av,AB,or_false] at he;subst he;exact Rh
 ·refine Er fun e he=>?_
  simp only[Av,AB,or_false] at he;subst he;exact Ri
 ·refine Er fun e he=>?_
  simp only[Av,AB,or_false] at he;subst he;exact Rf
 ·refine Er fun e he=>?_
  simp only[Av,AB,or_false] at he;subst he;exact U4
 ·refine Er fun e he=>?_
  simp only[Av,AB,or_false] at he;subst he;exact YJ
end Go.Abs.Z

namespace Go.Abs.Z
open Go.Proofs Go.RowKit Go.Abs.Y
set_option maxRecDepth 100000 in
theorem uO:OM U5 (Gr mL3 200 42 Va SX.nil)=true:=by decide +kernel
theorem jP:FH 42 Va U5:=Jh U9 (by decide +kernel) uO
end Go.Abs.Z

namespace Go.Abs.Z
open Go.Proofs Go.RowKit Go.Abs.Y
set_option maxRecDepth 100000 in
theorem uP:OM U6 (Gr mL3 200 23 Vb SX.nil)=true:=by decide +kernel
theorem jQ:FH 23 Vb U6:=Jh U9 (by decide +kernel) uP
end Go.Abs.Z

namespace Go.Abs.Z
open Go.Proofs Go.RowKit Go.Abs.Y
set_option maxRecDepth 100000 in
theorem uR:OM U8 (Gr mL3 200 21 Ve SX.nil)=true:=by decide +kernel
theorem jS:FH 21 Ve U8:=Jh U9 (by decide +kernel) uR
end Go.Abs.Z

namespace Go.Abs.Z
open Go.Proofs Go.RowKit Go.Abs.Y
set_option maxRecDepth 100000 in
theorem uQ:OM U7 (Gr mL3 200 22 Vd SX.nil)=true:=by decide +kernel
theorem jR:FH 22 Vd U7:=Jh U9 (by decide +kernel) uQ
end Go.Abs.Z

namespace Go.Abs.Z
open Go.Proofs Go.RowKit Go.Abs.Y
noncomputable def mL4:List Trp:=[tm 61 [(Nb,M8)],tm 82 [(Kq,Ko)],tm 63 [(Na,M7)],tm 87 [(M9,M6)],tm 84 [(OJ,OI)],tm 86 [(Rl,Rk)],tm 42 [(Va,U5)],tm 23 [(Vb,U6)],tm 21 [(Ve,U8)],tm 22 [(Vd,U7)]]
theorem uF:∀x∈mL4,Kb x:=by
 intro x hx;simp only[mL4,Av,AB,or_false] at hx;rcases hx with rfl | rfl | rfl | rfl | rfl | rfl | rfl | rfl | rfl | rfl
 ·refine Er fun e he=>?_
  simp only[Av,AB,or_false] at he;subst he;exact Rj
 ·refine Er fun e he=>?_
  simp only[Av,AB,or_false] at he;subst he;exact Rh
 ·refine Er fun e he=>?_
  simp only[Av,AB,or_false] at he;subst he;exact Ri
 ·refine Er fun e he=>?_
  simp only[Av,AB,or_false] at he;subst he;exact Rf
 ·refine Er fun e he=>?_
  simp only[Av,AB,or_false] at he;subst he;exact U4
 ·refine Er fun e he=>?_
  simp only[Av,AB,or_false] at he;subst he;exact YJ
 ·refine Er fun e he=>?_
  simp only[Av,AB,or_false] at he;subst he;exact jP
 ·refine Er fun e he=>?_
  simp only[Av,AB,or_false] at he;subst he;exact jQ
 ·refine Er fun e he=>?_
  simp only[Av,AB,or_false] at he;subst he;exact jS
 ·refine Er fun e he=>?_
  simp only[Av,AB,or_false] at he;subst he;exact jR
end Go.Abs.Z

namespace Go.Abs.Z
open Go.Proofs Go.RowKit Go.Abs.Y
set_option maxRecDepth 100000 in
theorem uS:OM YK (Gr mL4 200 20 YL SX.nil)=true:=by decide +kernel
theorem uD:FH 20 YL YK:=Jh uF (by decide +kernel) uS
end Go.Abs.Z

namespace Go.Abs.Z
open Go.Proofs Go.RowKit Go.Abs.Y
noncomputable def mL5:List Trp:=[tm 61 [(Nb,M8)],tm 82 [(Kq,Ko)],tm 63 [(Na,M7)],tm 87 [(M9,M6)],tm 84 [(OJ,OI)],tm 86 [(Rl,Rk)],tm 42 [(Va,U5)],tm 23 [(Vb,U6)],tm 21 [(Ve,U8)],tm 22 [(Vd,U7)],tm 20 [(YL,YK)]]
theorem uE:∀x∈mL5,Kb x:=by
 intro x hx;simp only[mL5,Av,AB,or_false] at hx;rcases hx with rfl | rfl | rfl | rfl | rfl | rfl | rfl | rfl | rfl | rfl | rfl
 ·refine Er fun e he=>?_
  simp only[Av,AB,or_false] at he;subst he;exact Rj
 ·refine Er fun e he=>?_
  simp only[Av,AB,or_false] at he;subst he;exact Rh
 ·refine Er fun e he=>?_
  simp only[Av,AB,or_false] at he;subst he;exact Ri
 ·refine Er fun e he=>?_
  simp only[Av,AB,or_false] at he;subst he;exact Rf
 ·refine Er fun e he=>?_
  simp only[Av,AB,or_false] at he;subst he;exact U4
 ·refine Er fun e he=>?_
  simp only[Av,AB,or_false] at he;subst he;exact YJ
 ·refine Er fun e he=>?_
  simp only[Av,AB,or_false] at he;subst he;exact jP
 ·refine Er fun e he=>?_
  simp only[Av,AB,or_false] at he;subst he;exact jQ
 ·refine Er fun e he=>?_
  simp only[Av,AB,or_false] at he;subst he;exact jS
 ·refine Er fun e he=>?_
  simp only[Av,AB,or_false] at he;subst he;exact jR
 ·refine Er fun e he=>?_
  simp only[Av,AB,or_false] at he;subst he;exact uD
end Go.Abs.Z
