/- A part of the proof: R9. -/
import Derived.Test.YtbkjmbhabkkoeaaGreatDoorKba
import Derived.Test.YtbkjmbhabkkoeaaGreatDoorRows
import Derived.WalkKit
import Derived.ProofKit
import Derived.OpenShut
import Derived.JoinedCond
import Derived.Carry
import Derived.ShutString
import Derived.ChangeMaps5
import Derived.Deep.DeepHandedRow
import Derived.Lib.LaidU8
import Derived.Lay
import Derived.SevenTiedAt
import Derived.Test.YtbkjmbhabkkoeaaGreatDoorCards
import Derived.Test.YtbkjmbhabkkoeaaGreatDoorTie

set_option linter.unusedVariables false
set_option linter.unusedSimpArgs false
namespace Go.Abs.Z
open Go.Proofs Go.RowKit Go.ChangeShapes Go.WideShapes Go.ChangeAt
open Go.Proofs.YtbkjmbhabkkoeaaGreatDoor
set_option linter.unusedVariables false
def IW(W:World):Imm:=fun b _=>b<W.heap.size
theorem own:ownKnob Tryz.prog.godebug=none:=by kernel_rfl
theorem mX:FW none=Fence.wide:=rfl
theorem YA{H:Type}{enc:TypeId×Value→H}{P:Program}{f:Func}{s:ChangeSpec}{apart fresh handsOn again:Bool}{W W':World}{args:Array Value}{v:Value}{ds gs:List (DataW H)}{before:List MemPlace}
  (hW:DataW.Whole enc P f.params.toList s.vars apart W args.toList ds gs before) (hv:s.vars=[]) (hfn:(s.fn H (ds++gs)).args=ds) (hfv:(s.fn H (ds++gs)).vars=[])
  (hres:∀(b:Nat) (sp:Nat→Bool) (hd:Bool),DataW.TrodAll enc P W' b sp hd f.resultTypes.toList (v.resultList f.resultTypes.size) (s.fn H (ds++gs)).results [])
  (hargs:∀sp:Nat→Bool,(∀p∈before,sp p.block=true)→DataW.TrodAll enc P W' 0 sp true f.params.toList args.toList ds before)
  (hb:Below W.heap.size W W')
  (hok:∀(j:Nat) (t:TypeId) (r:Value),f.resultTypes[j]?=some t→(v.resultList f.resultTypes.size)[j]?=some r→Value.okWide P W' .any 0 t r) :
  s.post enc P f apart fresh handsOn again W args v W':=by
 have hvar:∀sp:Nat→Bool,DataW.TrodVars enc P W' sp s.vars (s.fn H (ds++gs)).vars []:=fun sp=>by rw[hv,hfv];rfl
 have hlt:∀p∈before,p.block<W.heap.size:=fun p hp=>hW.lt p hp
 have hold:∀p∈before,(fun b=>decide (b<W.heap.size)) p.block=true:=fun p hp=>by simpa using hlt p hp
 refine⟨ds,gs,before,[],before,[],hW,hres _ _ _,by rw[hfn];exact hargs _ hold,hvar _,World.keptBut_mono (fun p hp=>⟨hp,?_⟩) (hb.frame (·∈before)),fun _=>?_⟩
 ·exact Or.inr (.inl hp)
 ·obtain⟨_,_,_,_,_,hz,hn⟩:=hW;refine⟨hok,_,_,([]++before)++[],⟨[]++before,[],trodAll_append (hargs _ (fun _ _=>rfl)) (hres _ _ _),hvar _,rfl,?_,?_⟩,?_⟩
  ·intro b off hp;have hp':MemPlace.cell b off∈before:=by simpa using hp
   rw[hb.frozen (hlt _ hp')];exact hz b off hp'
  ·intro ha;simpa using hn ha
  ·intro p hp _;simpa using hp
theorem l9{W W':World}{σ':Sto}{G':Gh}(h:Aft (fun b=>b<W.heap.size) ⟨IW W,fun _=>none,Bl.nil⟩ W σ' G' W'):Below W.heap.size W W':=
 ⟨h.os,h.tape,h.output,h.grow,fun k hk=>h.keep k hk⟩
theorem sM(W:World):KOk (fun b=>b<W.heap.size) W:=⟨fun b h=>h,fun b cs h=>by cases h⟩
theorem uh{W:World}(hk:KOk (fun b=>b<W.heap.size) W):Pre (fun b=>b<W.heap.size) ⟨IW W,fun _=>none,Bl.nil⟩ W []:=
 ⟨fun b x h=>h,hk,fun b tag h=>(by cases h),fun id cs h=>(by simp at h),rfl,fun id g a h=>(by cases h)⟩
theorem Ze{f:FuncId}{ps:List PV}{vs:Array Value}{W:World}(hk:KOk (fun b=>b<W.heap.size) W){σ':Sto}(h:Jp Tryz.prog f ps [] (.bool true) σ')(ha:FJ (IW W) Bl.nil W vs.toList ps):
  Calls Tryz.prog f vs W fun e W'=>e=.returned (.bool true)∧Below W.heap.size W W':=by
 refine(callsIn_wide (n:=0)).1 ?_
 rw[←mX];refine(h.2 0 vs W ⟨IW W,fun _=>none,Bl.nil⟩ (fun b=>b<W.heap.size) ha (uh hk)).mono ?_
 rintro e W' ⟨v,G',rfl,hv,haft⟩
 have:=hv.Ht;subst this;exact⟨rfl,l9 haft⟩
set_option maxRecDepth 100000 in
theorem WS:laidOutB Tryz.prog=true:=by kernel_rfl
set_option maxRecDepth 100000 in
theorem xn:mapsRowed Tryz.prog=true:=by kernel_rfl
set_option maxRecDepth 100000 in
theorem ui:Tryz.prog.stopsHeard=true:=by kernel_rfl
set_option maxRecDepth 100000 in
theorem uj:Tryz.prog.mayEnter=true:=by kernel_rfl
end Go.Abs.Z
