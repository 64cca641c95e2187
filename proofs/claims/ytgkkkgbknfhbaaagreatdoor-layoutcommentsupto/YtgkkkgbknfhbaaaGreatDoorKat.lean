/- A part of the proof: P8. -/
import Derived.Test.YtgkkkgbknfhbaaaGreatDoorKap
import Derived.Test.YtgkkkgbknfhbaaaGreatDoorKaq
import Derived.Test.YtgkkkgbknfhbaaaGreatDoorKar
import Derived.Test.YtgkkkgbknfhbaaaGreatDoorKas

set_option linter.all false
namespace Go.Abs.Z
noncomputable section
open Go.Proofs Go.RowKit
def AkS:Option (PV×Sto)->Bool
 |some (.bool true,_)=>true
 |_=>false
def vz(f:FuncId):Option Nw:=if f=12 then some (memo [(mA1,mR1),(mA2,mR2)]) else if f=9 then some (memo [(mA3,mR3)]) else if f=7 then some (memo [(mA4,mR4)]) else vo f
def AxJ{A:List PV}(h:Wl 100 (A.map PV.Ag) A=true):∀p∈A,p.Ag=p:=by
 intro p hp;have h2:=(j3 100).2 _ _ h;obtain⟨i,hi⟩:=BP.1 hp;have h3:=congrArg (·[i]?) h2;simp only[Al,hi,AJ] at h3;exact Option.some.inj h3
def known{f:FuncId}{A:List PV}{R:PV}(hown:Wl 100 (A.map PV.Ag) A=true)(h:isR R (run 150 f A [])=true):LD Tryz.prog f A [] R []:=Qm 150 f A [] R [] (AxJ hown) (AUG h)
def vw:∀f g,vz f=some g->Jo Tryz.prog f g:=by
 intro f g h;unfold vz at h
 split at h
 ·rename_i hf;subst hf;cases h;refine ZX ⟨Tryz.f12,Tryz.func12,by kernel_rfl,by kernel_rfl⟩ λe he=>?_
  simp only[AU,ET,or_false] at he;rcases he with rfl | rfl
  ·exact known (by decide +kernel) mT1
  ·exact known (by decide +kernel) mT2
 split at h
 ·rename_i hf;subst hf;cases h;refine ZX ⟨Tryz.f9,Tryz.func9,by kernel_rfl,by kernel_rfl⟩ λe he=>?_
  simp only[AU,ET,or_false] at he;subst he
  ·exact known (by decide +kernel) mT3
 split at h
 ·rename_i hf;subst hf;cases h;refine ZX ⟨Tryz.f7,Tryz.func7,by kernel_rfl,by kernel_rfl⟩ λe he=>?_
  simp only[AU,ET,or_false] at he;subst he
  ·exact known (by decide +kernel) mT4
 exact eP f g h
def AKA(n:Nat):Caller:=yl pur vz tab n
def je(n:Nat):Iu Tryz.prog (AKA n):=Nt mixed tN vw n
set_option maxRecDepth 100000 in
def kE:AkS (AKA 200 6 [] [])=true:=by decide +kernel
end
end Go.Abs.Z
