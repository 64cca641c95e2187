/- A part of the proof: P8. -/
import Derived.Test.YtngalibidopjlaaGreatDoorKar
import Derived.Test.YtngalibidopjlaaGreatDoorKas
import Derived.Test.YtngalibidopjlaaGreatDoorKat
import Derived.Test.YtngalibidopjlaaGreatDoorKau

set_option linter.unusedVariables false
set_option linter.unusedSimpArgs false
namespace Go.Abs.Z
open Go.Proofs Go.RowKit
def isTrue:Option (PV×Sto)→Bool
 |some (.bool true,_)=>true
 |_=>false
noncomputable def primB(f:FuncId):Option Prim:=if f=13 then some (memo [(mA1,mR1),(mA2,mR2)]) else if f=14 then some (memo [(mA3,mR3)]) else if f=15 then some (memo [(mA4,mR4)]) else prims f
theorem own_all{A:List PV}(h:eqVs 100 (A.map PV.Aq0) A=true):∀p∈A,p.Aq0=p:=by
 intro p hp;have h2:=(eqV_ok 100).2 _ _ h;obtain⟨i,hi⟩:=List.mem_iff_getElem?.1 hp;have h3:=congrArg (·[i]?) h2;simp only[List.getElem?_map,hi,Option.map_some] at h3
 exact Option.some.inj h3
theorem known{f:FuncId}{A:List PV}{R:PV}(hown:eqVs 100 (A.map PV.Aq0) A=true)(h:isR R (run 150 f A [])=true):AvR Tryz.prog f A [] R []:=AXX 150 f A [] R [] (own_all hown) (isR_ok h)
theorem primB_ok:∀f g,primB f=some g→AkL Tryz.prog f g:=by
 intro f g h;unfold primB at h
 split at h
 ·rename_i hf;subst hf;cases h;refine memo_ok ⟨Tryz.f13,Tryz.func13,by kernel_rfl,by kernel_rfl⟩ fun e he=>?_
  simp only[List.mem_cons,List.not_mem_nil,or_false] at he;rcases he with rfl | rfl
  ·exact known (by decide +kernel) mT1
  ·exact known (by decide +kernel) mT2
 split at h
 ·rename_i hf;subst hf;cases h;refine memo_ok ⟨Tryz.f14,Tryz.func14,by kernel_rfl,by kernel_rfl⟩ fun e he=>?_
  simp only[List.mem_cons,List.not_mem_nil,or_false] at he;subst he
  ·exact known (by decide +kernel) mT3
 split at h
 ·rename_i hf;subst hf;cases h;refine memo_ok ⟨Tryz.f15,Tryz.func15,by kernel_rfl,by kernel_rfl⟩ fun e he=>?_
  simp only[List.mem_cons,List.not_mem_nil,or_false] at he;subst he
  ·exact known (by decide +kernel) mT4
 exact prims_ok f g h
noncomputable def runB(n:Nat):Caller:=callK pur primB tab n
theorem runB_sound(n:Nat):Sound Tryz.prog (runB n):=Aw0 mixed tabOk primB_ok n
set_option maxRecDepth 100000 in
theorem awake_true:isTrue (runB 200 4 [] [])=true:=by decide +kernel
end Go.Abs.Z
