/- A part of the proof: R9. -/
import Derived.Test.YtgkkkgbknfhbaaaGreatDoorKau
import Derived.Shelf.Vars
import Derived.Test.YtgkkkgbknfhbaaaGreatDoorRows
import Derived.WalkKit
import Derived.ProofKit
import Derived.OpenShut
import Derived.JoinedCond
import Derived.Carry
import Derived.ShutString
import Derived.ChangeMaps5
import Derived.Deep.DeepHandedRow
import Derived.Lib.LaidU8
import Derived.Lay
import Derived.SevenTiedAt
import Derived.Test.YtgkkkgbknfhbaaaGreatDoorCards
import Derived.Test.YtgkkkgbknfhbaaaGreatDoorTie

set_option linter.all false
namespace Go.Abs.Z
open Go.Proofs Go.RowKit Go.ChangeShapes Go.WideShapes Go.ChangeAt
open Go.Proofs.YtgkkkgbknfhbaaaGreatDoor
def IW(W:World):Imm:=λb _=>b<W.heap.size
theorem own:ownKnob Tryz.prog.godebug=none:=by kernel_rfl
theorem za:FW none=Fence.wide:=rfl
theorem jA{H:Type}{enc:TypeId×Value->H}{P:Program}{f:Func}{s:ChangeSpec}{c l e m:Bool}{W W':World}{args:Array Value}{v:Value}{k n:List (DataW H)}{a:List MemPlace}
  (z:DataW.Whole enc P f.params.toList s.vars c W args.toList k n a) (E:s.vars=[]) (y:(s.fn H (k++n)).args=k) (x:(s.fn H (k++n)).vars=[])
  (h:∀(b:Nat) (sp:Nat->Bool) (C:Bool),DataW.TrodAll enc P W' b sp C f.resultTypes.toList (v.resultList f.resultTypes.size) (s.fn H (k++n)).results [])
  (d:∀sp:Nat->Bool,(∀p∈a,sp p.block=true)->DataW.TrodAll enc P W' 0 sp true f.params.toList args.toList k a)
  (A:Below W.heap.size W W')
  (w:∀(j:Nat) (t:TypeId) (r:Value),f.resultTypes[j]?=some t->(v.resultList f.resultTypes.size)[j]?=some r->Value.okWide P W' .any 0 t r) :
  s.post enc P f c l e m W args v W':=by
 have i:∀sp:Nat->Bool,DataW.TrodVars enc P W' sp s.vars (s.fn H (k++n)).vars []:=λsp=>by rw[E,x];rfl
 have o:∀p∈a,p.block<W.heap.size:=λp g=>z.lt p g
 have q:∀p∈a,(λb=>decide (b<W.heap.size)) p.block=true:=λp g=>by simpa using o p g
 refine⟨k,n,a,[],a,[],z,h _ _ _,by rw[y];exact d _ q,i _,World.keptBut_mono (λp g=>⟨g,?_⟩) (A.frame (·∈a)),λ_=>?_⟩
 ·exact Or.inr (.inl g)
 ·obtain⟨_,_,_,_,_,F,D⟩:=z;refine⟨w,_,_,([]++a)++[],⟨[]++a,[],trodAll_append (d _ (λ_ _=>rfl)) (h _ _ _),i _,rfl,?_,?_⟩,?_⟩
  ·intro b off g;have u:MemPlace.cell b off∈a:=by simpa using g
   rw[A.frozen (o _ u)];exact F b off u
  ·intro B;simpa using D B
  ·intro p g _;simpa using g
theorem yw{W W':World}{a:Sto}{G':Gh}(h:Aft (λb=>b<W.heap.size) ⟨IW W,λ_=>none,Bl.nil⟩ W a G' W'):Below W.heap.size W W':=
 ⟨h.os,h.tape,h.output,h.grow,λk c=>h.keep k c⟩
theorem AJT{W:World}(h:W.ShapedOpen Tryz.prog):KOk (λb=>b<W.heap.size) W:=by
 obtain⟨m,c⟩:=cell_of_shapedOpen_int (g:=0) (zero:=#[.int .i64 0]) (t:=3) h (of_decide_eq_true (by kernel_rfl)) (by kernel_rfl) rfl (by kernel_rfl) (by kernel_rfl) Tryz.underlying3
 refine⟨λb h=>h,?_,m,c⟩
 rcases Eu W.heap.size with d | d
 ·unfold World.cell? at c;rw[show W.heap[0]?=none from DN am] at c
  cases c
 ·exact d
theorem AYQ{W:World}(d:KOk (λb=>b<W.heap.size) W):Pre (λb=>b<W.heap.size) ⟨IW W,λ_=>none,Bl.nil⟩ W []:=
 ⟨λb x h=>h,d,λb c h=>(by cases h),λid cs h=>(by simp at h),rfl,λid g a h=>(by cases h)⟩
theorem ko{f:FuncId}{ps:List PV}{vs:Array Value}{W:World}(g:KOk (λb=>b<W.heap.size) W)(h:LD Tryz.prog f ps [] (.bool true) [])(i:FX (IW W) Bl.nil W vs.toList ps):
  Calls Tryz.prog f vs W λe W'=>e=.returned (.bool true)/\Below W.heap.size W W':=by
 refine(callsIn_wide (n:=0)).1 ?_
 rw[<-za];refine(h.2 0 vs W ⟨IW W,λ_=>none,Bl.nil⟩ (λb=>b<W.heap.size) i (AYQ g)).mono ?_
 rintro e W' ⟨v,G',rfl,d,a⟩
 have:=d.Iq;subst this;exact⟨rfl,yw a⟩
set_option maxRecDepth 100000 in
theorem eX:laidOutB Tryz.prog=true:=by kernel_rfl
set_option maxRecDepth 100000 in
theorem BQE:mapsRowed Tryz.prog=true:=by kernel_rfl
set_option maxRecDepth 100000 in
theorem AYS:Tryz.prog.stopsHeard=true:=by kernel_rfl
set_option maxRecDepth 100000 in
theorem AYT:Tryz.prog.mayEnter=true:=by kernel_rfl
end Go.Abs.Z
