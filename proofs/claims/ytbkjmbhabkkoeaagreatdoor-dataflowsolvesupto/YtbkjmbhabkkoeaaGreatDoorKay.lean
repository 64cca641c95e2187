/- A part of the proof: ML2 M86 ML3 M42 M23 M21 M22 ML4 M20 ML5. -/
import Derived.Test.YtbkjmbhabkkoeaaGreatDoorKax

set_option linter.unusedVariables false
set_option linter.unusedSimpArgs false
namespace Go.Abs.Z
open Go.Proofs Go.RowKit Go.Abs.Y
noncomputable def mL2:List Trp:=[tm 61 [(Mw,Ms)],tm 82 [(J6,J5)],tm 63 [(Mv,Mr)],tm 87 [(Mt,Mq)],tm 84 [(N8,N7)]]
theorem qU:∀x∈mL2,JU x:=by
 intro x hx;simp only[mL2,Ay,AC,or_false] at hx;rcases hx with rfl | rfl | rfl | rfl | rfl
 ·refine Er fun e he=>?_
  simp only[Ay,AC,or_false] at he;subst he;exact QI
 ·refine Er fun e he=>?_
  simp only[Ay,AC,or_false] at he;subst he;exact QG
 ·refine Er fun e he=>?_
  simp only[Ay,AC,or_false] at he;subst he;exact QH
 ·refine Er fun e he=>?_
  simp only[Ay,AC,or_false] at he;subst he;exact QF
 ·refine Er fun e he=>?_
  simp only[Ay,AC,or_false] at he;subst he;exact Uj
end Go.Abs.Z

namespace Go.Abs.Z
open Go.Proofs Go.RowKit Go.Abs.Y
set_option maxRecDepth 100000 in
theorem qX:Oa QJ (Gl mL2 200 86 QK SX.nil)=true:=by decide +kernel
theorem XI:Fz 86 QK QJ:=I4 qU (by decide +kernel) qX
end Go.Abs.Z

namespace Go.Abs.Z
open Go.Proofs Go.RowKit Go.Abs.Y
noncomputable def mL3:List Trp:=[tm 61 [(Mw,Ms)],tm 82 [(J6,J5)],tm 63 [(Mv,Mr)],tm 87 [(Mt,Mq)],tm 84 [(N8,N7)],tm 86 [(QK,QJ)]]
theorem Uo:∀x∈mL3,JU x:=by
 intro x hx;simp only[mL3,Ay,AC,or_false] at hx;rcases hx with rfl | rfl | rfl | rfl | rfl | rfl
 ·refine Er fun e he=>?_
  simp only[Ay,AC,or_false] at he;subst he;exact QI
 ·refine Er fun e he=>?_
  simp only[Ay,AC,or_false] at he;subst he;exact QG
 ·refine Er fun e he=>?_
  simp only[Ay,AC,or_false] at he;subst he;exact QH
 ·refine Er fun e he=>?_
  simp only[Ay,AC,or_false] at he;subst he;exact QF
 ·refine Er fun e he=>?_
  simp only[Ay,AC,or_false] at he;subst he;exact Uj
 ·refine Er fun e he=>?_
  simp only[Ay,AC,or_false] at he;subst he;exact XI
end Go.Abs.Z

namespace Go.Abs.Z
open Go.Proofs Go.RowKit Go.Abs.Y
set_option maxRecDepth 100000 in
theorem ru:Oa Uk (Gl mL3 200 42 Uq SX.nil)=true:=by decide +kernel
theorem iw:Fz 42 Uq Uk:=I4 Uo (by decide +kernel) ru
end Go.Abs.Z

namespace Go.Abs.Z
open Go.Proofs Go.RowKit Go.Abs.Y
set_option maxRecDepth 100000 in
theorem ry:Oa Ul (Gl mL3 200 23 Ur SX.nil)=true:=by decide +kernel
theorem iy:Fz 23 Ur Ul:=I4 Uo (by decide +kernel) ry
end Go.Abs.Z

namespace Go.Abs.Z
open Go.Proofs Go.RowKit Go.Abs.Y
set_option maxRecDepth 100000 in
theorem rA:Oa Un (Gl mL3 200 21 Ut SX.nil)=true:=by decide +kernel
theorem iB:Fz 21 Ut Un:=I4 Uo (by decide +kernel) rA
end Go.Abs.Z

namespace Go.Abs.Z
open Go.Proofs Go.RowKit Go.Abs.Y
set_option maxRecDepth 100000 in
theorem rz:Oa Um (Gl mL3 200 22 Us SX.nil)=true:=by decide +kernel
theorem iA:Fz 22 Us Um:=I4 Uo (by decide +kernel) rz
end Go.Abs.Z

namespace Go.Abs.Z
open Go.Proofs Go.RowKit Go.Abs.Y
noncomputable def mL4:List Trp:=[tm 61 [(Mw,Ms)],tm 82 [(J6,J5)],tm 63 [(Mv,Mr)],tm 87 [(Mt,Mq)],tm 84 [(N8,N7)],tm 86 [(QK,QJ)],tm 42 [(Uq,Uk)],tm 23 [(Ur,Ul)],tm 21 [(Ut,Un)],tm 22 [(Us,Um)]]
theorem qR:∀x∈mL4,JU x:=by
 intro x hx;simp only[mL4,Ay,AC,or_false] at hx;rcases hx with rfl | rfl | rfl | rfl | rfl | rfl | rfl | rfl | rfl | rfl
 ·refine Er fun e he=>?_
  simp only[Ay,AC,or_false] at he;subst he;exact QI
 ·refine Er fun e he=>?_
  simp only[Ay,AC,or_false] at he;subst he;exact QG
 ·refine Er fun e he=>?_
  simp only[Ay,AC,or_false] at he;subst he;exact QH
 ·refine Er fun e he=>?_
  simp only[Ay,AC,or_false] at he;subst he;exact QF
 ·refine Er fun e he=>?_
  simp only[Ay,AC,or_false] at he;subst he;exact Uj
 ·refine Er fun e he=>?_
  simp only[Ay,AC,or_false] at he;subst he;exact XI
 ·refine Er fun e he=>?_
  simp only[Ay,AC,or_false] at he;subst he;exact iw
 ·refine Er fun e he=>?_
  simp only[Ay,AC,or_false] at he;subst he;exact iy
 ·refine Er fun e he=>?_
  simp only[Ay,AC,or_false] at he;subst he;exact iB
 ·refine Er fun e he=>?_
  simp only[Ay,AC,or_false] at he;subst he;exact iA
end Go.Abs.Z

namespace Go.Abs.Z
open Go.Proofs Go.RowKit Go.Abs.Y
set_option maxRecDepth 100000 in
theorem rC:Oa XJ (Gl mL4 200 20 XK SX.nil)=true:=by decide +kernel
theorem qO:Fz 20 XK XJ:=I4 qR (by decide +kernel) rC
end Go.Abs.Z

namespace Go.Abs.Z
open Go.Proofs Go.RowKit Go.Abs.Y
noncomputable def mL5:List Trp:=[tm 61 [(Mw,Ms)],tm 82 [(J6,J5)],tm 63 [(Mv,Mr)],tm 87 [(Mt,Mq)],tm 84 [(N8,N7)],tm 86 [(QK,QJ)],tm 42 [(Uq,Uk)],tm 23 [(Ur,Ul)],tm 21 [(Ut,Un)],tm 22 [(Us,Um)],tm 20 [(XK,XJ)]]
theorem qP:∀x∈mL5,JU x:=by
 intro x hx;simp only[mL5,Ay,AC,or_false] at hx;rcases hx with rfl | rfl | rfl | rfl | rfl | rfl | rfl | rfl | rfl | rfl | rfl
 ·refine Er fun e he=>?_
  simp only[Ay,AC,or_false] at he;subst he;exact QI
 ·refine Er fun e he=>?_
  simp only[Ay,AC,or_false] at he;subst he;exact QG
 ·refine Er fun e he=>?_
  simp only[Ay,AC,or_false] at he;subst he;exact QH
 ·refine Er fun e he=>?_
  simp only[Ay,AC,or_false] at he;subst he;exact QF
 ·refine Er fun e he=>?_
  simp only[Ay,AC,or_false] at he;subst he;exact Uj
 ·refine Er fun e he=>?_
  simp only[Ay,AC,or_false] at he;subst he;exact XI
 ·refine Er fun e he=>?_
  simp only[Ay,AC,or_false] at he;subst he;exact iw
 ·refine Er fun e he=>?_
  simp only[Ay,AC,or_false] at he;subst he;exact iy
 ·refine Er fun e he=>?_
  simp only[Ay,AC,or_false] at he;subst he;exact iB
 ·refine Er fun e he=>?_
  simp only[Ay,AC,or_false] at he;subst he;exact iA
 ·refine Er fun e he=>?_
  simp only[Ay,AC,or_false] at he;subst he;exact qO
end Go.Abs.Z
