/- A part of the proof: P8. -/
import Derived.Test.YtapgnmhobbgmiaaGreatDoorKaq
import Derived.Test.YtapgnmhobbgmiaaGreatDoorKar
import Derived.Test.YtapgnmhobbgmiaaGreatDoorKas
import Derived.Test.YtapgnmhobbgmiaaGreatDoorKat

set_option linter.unusedVariables false
set_option linter.unusedSimpArgs false
namespace Go.Abs.Z
noncomputable section
open Go.Proofs Go.RowKit
def gz:Option (PV×Sto)→Bool
 |some (.bool true,_)=>true
 |_=>false
def pR(f:FuncId):Option OT:=if f=17 then some (memo [(mA1,mR1),(mA2,mR2)]) else if f=18 then some (memo [(mA3,mR3)]) else if f=19 then some (memo [(mA4,mR4)]) else pM f
theorem xC{A:List PV}(h:Vs 100 (A.map PV.Ae) A=true):∀p∈A,p.Ae=p:=by
 intro p hp;have h2:=(gN 100).2 _ _ h;obtain⟨i,hi⟩:=BL.1 hp;have h3:=congrArg (·[i]?) h2;simp only[Am,hi,AO] at h3;exact Option.some.inj h3
theorem known{f:FuncId}{A:List PV}{R:PV}(hown:Vs 100 (A.map PV.Ae) A=true)(h:isR R (run 150 f A [])=true):K3 Tryz.prog f A [] R []:=Qg 150 f A [] R [] (xC hown) (AwQ h)
theorem pQ:∀f g,pR f=some g→JE Tryz.prog f g:=by
 intro f g h;unfold pR at h
 split at h
 ·rename_i hf;subst hf;cases h;refine YJ ⟨Tryz.f17,Tryz.func17,by kernel_rfl,by kernel_rfl⟩ fun e he=>?_
  simp only[AY,Fe,or_false] at he;rcases he with rfl | rfl
  ·exact known (by decide +kernel) mT1
  ·exact known (by decide +kernel) mT2
 split at h
 ·rename_i hf;subst hf;cases h;refine YJ ⟨Tryz.f18,Tryz.func18,by kernel_rfl,by kernel_rfl⟩ fun e he=>?_
  simp only[AY,Fe,or_false] at he;subst he
  ·exact known (by decide +kernel) mT3
 split at h
 ·rename_i hf;subst hf;cases h;refine YJ ⟨Tryz.f19,Tryz.func19,by kernel_rfl,by kernel_rfl⟩ fun e he=>?_
  simp only[AY,Fe,or_false] at he;subst he
  ·exact known (by decide +kernel) mT4
 exact bg f g h
def AzO(n:Nat):Caller:=dK pur pR tab n
theorem eU(n:Nat):Ig Tryz.prog (AzO n):=M5 mixed nI pQ n
set_option maxRecDepth 100000 in
theorem ib:gz (AzO 200 5 [] [])=true:=by decide +kernel
end
end Go.Abs.Z
