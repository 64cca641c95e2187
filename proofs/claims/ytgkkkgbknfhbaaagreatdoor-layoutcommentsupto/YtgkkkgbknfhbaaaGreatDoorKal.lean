/- A part of the proof: T5 A35 A36 A37 T6c A38 T6 PD P1 P2 P3 P4. -/
import Derived.Test.YtgkkkgbknfhbaaaGreatDoorKag
import Derived.Test.YtgkkkgbknfhbaaaGreatDoorKah
import Derived.Test.YtgkkkgbknfhbaaaGreatDoorKai
import Derived.Test.YtgkkkgbknfhbaaaGreatDoorKaj
import Derived.Test.YtgkkkgbknfhbaaaGreatDoorKak
import Derived.Test.YtgkkkgbknfhbaaaGreatDoorKaf
import Derived.RangeFuncFrom
import Derived.RangeFuncLeaves
import Derived.Test.YtgkkkgbknfhbaaaGreatDoorProg
import Derived.KernelRfl
import Derived.Lib.Bytealg
import Derived.WalkKit
import Derived.Lib.Builder
import Derived.Lib.UnsafeStr
import Derived.Lib.AppendStr
import Derived.Laws.Externs
import Derived.RegionTactic
import Derived.Lib.Hide

set_option linter.all false
namespace Go.Abs.Z
noncomputable section
open Go.Proofs
def AJU:List (FuncId×FI):=tV++(tT++(tQ++tO))
def mF(l:List (FuncId×FI))(f:FuncId):Option Ay:=List.rec (motive:=λ_=>Option Ay) none (λp _ a=>cond (Nat.beq p.1 f) (some (cA p.1 p.2)) a) l
def tab(f:FuncId):Option Ay:=cond (Nat.beq 118 f) (some BqH) (mF AJU f)
set_option maxRecDepth 100000 in
def fE:∀(l:List (FuncId×FI)),(∀x∈l,chk x.1 x.2=true)->∀f af,mF l f=some af->Aj3 f af
 |[],_,f,af,h=>by cases h
 |p::l,hl,f,af,h=>by
  have h':cond (Nat.beq p.1 f) (some (cA p.1 p.2)) (mF l f)=some af:=h;cases hb:Nat.beq p.1 f with
  |true=>
   rw[hb] at h';cases h';have:p.1=f:=CQ hb;rw[<-this];exact Bq9 (hl p (AV ..))
  |false=>rw[hb] at h';exact fE l (λx hx=>hl x (AP _ hx)) f af h'
set_option maxRecDepth 100000 in
def tN:AZH Tryz.prog pur tab:=λf af h=>by
 have h':cond (Nat.beq 118 f) (some BqH) (mF AJU f)=some af:=h;cases hb:Nat.beq 118 f with
 |true=>
  rw[hb] at h';cases h';rw[<-CQ hb];exact okS
 |false=>
  rw[hb] at h'
  exact fE AJU (Au.1 (by
   show(tV++(tT++(tQ++tO))).all _=true;rw[Ga,Ga,Ga,okL0,okL1,oJ,okL3];rfl)) f af h'
def mixed:Tryz.prog.follows .mixedOrders=true:=by kernel_rfl
end
end Go.Abs.Z

namespace Go.Abs
open Go.RowKit
mutual

def PV.EO:PV->Bool
 |.mapv _ _=>false
 |.vptr v=>v.EO
 |.slice _ _ es=>PV.EY es
 |.agg cs=>PV.EY cs
 |.aggr cs=>PV.EY cs
 |.tuple vs=>PV.EY vs
 |.func _ fs cs=>PV.EY fs&&PV.EY cs
 |.arrv _ _ es=>PV.EY es
 |.mapo _ _ _ _=>false
 |_=>true
def PV.EY:List PV->Bool
 |[]=>true
 |v::vs=>v.EO&&PV.EY vs
end
def Ec:∀{l:List PV},PV.EY l=true->∀{i:Nat} {p:PV},l[i]?=some p->p.EO=true
 |[],_,i,p,h=>by grind
 |v::vs,b,i,p,h=>by
  rw[PV.EY,Aj] at b;cases i with
  |zero=>grind
  |succ i=>exact Ec b.2 (by simpa using h)
def K9{v:PV}(a:v.EO=true){j:Nat}{p:PV}(h:v.cells[j]?=some p):p.EO=true:=by
 cases v with
 |agg cs=>exact Ec a h
 |aggr cs=>exact Ec a h
 |_=>
  simp  [PV.cells] at h
  cases j with
  |zero=>grind
  |succ j=>simp at h
def ZK(I:Imm)(B:Nat)(w:World):Imm:=λb x=>I b x/\(b<B\/∃o,x=some o/\(w.cell? ⟨b,o,none⟩).isSome=true)
def Rep.DR{I:Imm}{w:World}(B:Nat){v:Value}{p:PV}(h:Rep I w v p):p.EO=true->Rep (ZK I B w) w v p:=by
 induction h with
 |bool b=>intro _;exact .bool b
 |int k n=>intro _;exact .int k n
 |str s=>intro _;exact .str s
 |nilp=>intro _;exact .nilp
 |vptr cv d f _ c=>
  intro a;rw[PV.EO] at a;exact .vptr _ (λj p h=>⟨d j p h,.inr ⟨_,rfl,by grind⟩⟩) f (λj p h=>c j p h (K9 a h))
 |nils=>intro _;exact .nils
 |empt=>intro _;exact .empt
 |slice cv d f u t r q _ c=>
  intro a;rw[PV.EO] at a;exact .slice _ d f u t (λi e j p l g=>⟨r i e j p l g,.inr ⟨_,rfl,by grind⟩⟩) q (λi e j p l g=>c i e j p l g (K9 (Ec a l) g))
 |nili=>intro _;exact .nili
 |nilm=>intro _;exact .nilm
 |mapv=>intro a;simp[PV.EO] at a
 |nilf=>intro _;exact .nilf
 |func d f _ _ o m=>
  intro a;rw[PV.EO,Aj] at a;exact .func d f (λi p h=>o i p h (Ec a.1 h)) (λi p h=>m i p h (Ec a.2 h))
 |agg h _ c=>
  intro a;rw[PV.EO] at a;exact .agg h (λi p h=>c i p h (Ec a h))
 |tuple h _ c=>
  intro a;exact .tuple h (λi p h=>c i p h (Ec a h))
def JZ.DR{I:Imm}{bl:Bl}{w:World}(B:Nat){v:Value}{p:PV}(h:JZ I bl w v p)(a:p.EO=true):JZ (ZK I B w) bl w v p:=by
 rcases h with h | h
 ·exact .inl (h.DR B a)
 ·exact .inr h
def BF.DR{I:Imm}{bl:Bl}{w:World}(B:Nat){v:Value}{p:PV}(h:BF I bl w v p)(a:p.EO=true):BF (ZK I B w) bl w v p:=by
 cases h with
 |one h=>exact .one (h.DR B a)
 |func c f e d=>
  rw[PV.EO,Aj] at a;exact .func c f (λi p h=>(e i p h).DR B (Ec a.1 h)) (λi p h=>(d i p h).DR B (Ec a.2 h))
 |tuple h b=>
  exact .tuple h (λi p h=>(b i p h).DR B (Ec a h))
 |aggr h b=>
  rw[PV.EO] at a;exact .aggr h (λi p h=>(b i p h).DR B (Ec a h))
def Gh.DR(G:Gh)(B:Nat)(w:World):Gh:=⟨ZK G.I B w,λb=>match w.heap[b]? with | some (.cells _ _ _)=>G.ω b | _=>none,G.bl⟩
structure qj(B:Nat)(G:Gh)(w:World):Prop where
 I:∀b x,G.I b x->b<B\/∃o,x=some o/\(w.cell? ⟨b,o,none⟩).isSome=true
 ω:∀b tag,G.ω b=some tag->∃cs e f,w.heap[b]?=some (.cells cs e f)
def Mh(G:Gh)(B:Nat)(w:World):qj B (G.DR B w) w:=by
 refine⟨λb x h=>h.2,λb a h=>?_⟩
 simp  [Gh.DR] at h
 grind
section
variable{P:Program}{pur:FuncId->Bool}{call:Caller}{fi:FI}{cx:Cx}{G:Gh}{a:Act}{w:World}{A A':Frm}{σ F:Sto}
def Na{B b:Nat}{cs:Array Value}{e:TypeId}{f:Nat×Nat}(h:w.heap[b]?=some (.cells cs e f)):(G.DR B w).ω b=G.ω b:=by
 simp  [Gh.DR,h]
def EB.DR(B:Nat){d:Tag}{c:Value}{p:PV}(h:EB G w d c p):EB (G.DR B w) w d c p:=by
 unfold EB ;split
 ·let ⟨b,off,cap,_,_,g,e,i,k,f,l⟩:=h
  exact⟨b,_,_,_,_,g,by rw[Na f];exact e,λhi=>i hi.1,λo j hi=>k o j hi.1,f,l⟩
 ·trivial
def Gr.DR(B:Nat){b:Nat}{d:Option Nat->Tag}{c:List PV}(h:Gr G w b d c)(l:∀(j:Nat) (p:PV),c[j]?=some p->p.EO=true):Gr (G.DR B w) w b d c:=by
 let ⟨e,i,_,_,g,m,q⟩:=h
 refine⟨by rw[Na g];exact e,λx k=>i x k.1,_,_,g,m,λj p f=>?_⟩
 rcases q j p f with⟨o,n⟩ | r
 ·exact .inl ⟨o.DR B (l j p f),n.DR B⟩
 ·exact .inr r
def BOk.DR(B:Nat){b id:Nat}{t e:TypeId}{l:List UInt8}(h:BOk G w b id t e l):BOk (G.DR B w) w b id t e l:=by
 let ⟨k,y,p,v,n,i,j,q⟩:=h
 refine⟨by rw[Na i];exact k,λx f=>y x f.1,p,v,n,i,j,λg c=>?_⟩
 let ⟨m,s,u⟩:=q g c
 refine⟨m,?_,λx f=>u x f.1⟩
 rcases j.2 with⟨h,_⟩ | ⟨D,cap,z,o,C,d,r⟩
 ·subst h;cases c
 ·subst o;cases c;rw[Na d];exact s
def Rw.DR(B:Nat){id gen size:Nat}{es:List PV}(h:Rw G w id gen size es)(r:∀(i:Nat) (e:PV),es[i]?=some e->e.EO=true):Rw (G.DR B w) w id gen size es:=by
 let ⟨b,_,n,cs,_,k,t,o,m,g,l,u,s,f⟩:=h
 exact⟨b,_,n,_,_,k,t,by rw[Na g];exact o,λx q=>m x q.1,g,l,u,s,λi e c=>⟨(f i e c).1,λj p d=>((f i e c).2 j p d).DR B (K9 (r i e c) d)⟩⟩
def Jp.DR(B:Nat){id:Nat}{cs:List PV}(h:Jp G w id cs)(f:PV.EY cs=true):Jp (G.DR B w) w id cs:=by
 let ⟨b,g,c⟩:=h
 refine⟨b,g,?_⟩
 rcases c with c | ⟨t,e,l,rfl,c⟩ | c | ⟨gen,size,es,rfl,c⟩ | ⟨d,z,ks,vs,rfl,c⟩
 rotate_right
 ·cases (Ec f (i:=0) rfl)
 ·exact .inl (c.DR B (λj p m=>Ec f m))
 ·exact .inr (.inl ⟨t,e,l,rfl,c.DR B⟩)
 ·grind
 ·refine .inr (.inr (.inr (.inl ⟨_,_,_,rfl,c.DR B (λi e k=>?_)⟩)))
  exact Ec (Ec f (i:=0) rfl) k
def EP(cx:Cx)(t:Nat)(v:PV):Prop:=v.free=true/\((cx.kd t).val=true\/cx.kd t=.box)
def Ei.DR(B:Nat){t:Nat}{v:PV}(c:EP cx t v)(e:v.EO=true)(h:Ei cx G a w t v):Ei cx (G.DR B w) a w t v:=by
 rcases c.2 with d | d
 ·rw[Ch d c.1] at h ⊢;exact⟨h.1.DR B e,h.2.DR B⟩
 ·rw[DV d] at h ⊢
  let ⟨b,f,g⟩:=h
  exact⟨b,f,g.DR B (λj p c=>K9 e c)⟩
def Ei.wu{b:Cx}(f:b.kd=cx.kd){a':Act}{t:Nat}{v:PV}(e:EP cx t v)(c:at' a' t=at' a t)(h:Ei cx G a w t v):Ei b G a' w t v:=by
 rcases e.2 with d | d
 ·rw[Ch d e.1] at h;rw[Ch (by grind) e.1,c];exact h
 ·rw[DV d] at h;rw[DV (by grind),c];exact h
def quiet(A:Frm)(σ:Sto):Bool:=A.all (λv=>match v with | some p=>p.EO | none=>true)&&σ.all PV.EY
def oh(h:quiet A σ=true){t:Nat}{v:PV}(b:A.get t=some v):v.EO=true:=by
 unfold quiet at h;rw[Aj] at h;unfold Frm.get at b
 split at b
 ·rename_i u c;have:=Au.1 h.1 _ (Am c)
  grind
 ·cases b
def Inv.DR(hi:Inv cx G a w A σ)(B:Nat)(j:∀b x,cx.I0 b x->b<B)(f:∀t v,A.get t=some v->EP cx t v)(e:quiet A σ=true):Inv cx (G.DR B w) a w A σ:=by
 have c:=hi.base
 refine⟨hi.defers,hi.size,hi.room,⟨c.keep,c.same,λb x h=>⟨c.sub b x h,.inl (j b x h)⟩,λb x h=>c.new b x h.1,λb x h=>c.lt b x h.1,λb g h=>?_,c.Klt,c.grow,c.bl,c.os,c.tape,c.output⟩,
  λt v d=>(hi.slot t v d).DR B (f t v d) (oh e d),λid cs i=>(hi.obj _ _ i).DR B ?_,hi.len,hi.abl⟩
 ·simp  [Gh.DR] at h
  split at h
  ·exact c.own b _ h
  ·cases h
 ·unfold quiet at e
  grind
def aI{b o:Nat}(h:(w.cell? ⟨b,o,none⟩).isSome=true):∃cs e f,w.heap[b]?=some (.cells cs e f):=by
 unfold World.cell? at h
 grind
def Inv.grown(hi:Inv cx G a w A σ){B:Nat}(u:qj B G w)(E:∀b,cx.K b->b<B)(D:B<=w.heap.size){k:World}{v:Option Nat}(l:w.grownBy k v)
  (s:∀r,v=some r->B<=r/\∃o:Obj,w.heap[r]?=some o/\o.isCells=false):Inv cx G a k A σ/\qj B G k/\Same G.I w k:=by
 have d:∀b:Nat,(∃cs e f,w.heap[b]?=some (Obj.cells cs e f))->k.heap[b]?=w.heap[b]?:=by
  rintro b ⟨cs,e,f,h⟩
  refine l.block b (BG.1 h).1 λy=>?_
  obtain⟨_,o,z,n⟩:=s b y.symm;rw[h] at z;cases z;cases n
 have m:∀b:Nat,b<B->k.heap[b]?=w.heap[b]?:=λb c=>l.block b am (λy=>by grind)
 have j:∀b x,G.I b x->k.heap[b]?=w.heap[b]?:=by
  intro b x h;rcases u.I b x h with c | ⟨o,rfl,n⟩
  ·exact m b c
  ·exact d b (aI n)
 have g:Same G.I w k:=⟨λb o h=>cell_of_heap (j b _ h),λb h=>j b _ h⟩
 have c:=hi.base
 have q:Base cx G k:=⟨λb h=>(m b (E b h)).trans (c.keep b h),c.same.trans g c.sub,c.sub,c.new,λb x h=>Bj (c.lt b x h) l.size,
  λb i h=>⟨Bj (c.own b i h).1 l.size,(c.own b i h).2⟩,c.Klt,Bf c.grow l.size,c.bl,l.os.trans c.os,l.tape.trans c.tape,l.output.trans c.output⟩
 refine⟨hi.step (λ_=>False) none undef (⟨λ_ _ h=>h,g,Bl.le_refl _,by simp,λb i h _=>⟨h,d b (u.ω b i h),λ_ h=>h⟩⟩) q rfl (λt p C=>.inl ⟨C,by simp,λ_ h=>h,by simp,by simp⟩) (λid cs n=>.inl ⟨n,λ_ h=>h⟩) hi.len hi.abl,⟨λb x h=>?_,λb i h=>?_⟩,g⟩
 ·rcases u.I b x h with c | ⟨o,rfl,n⟩
  ·exact .inl c
  ·exact .inr ⟨o,rfl,by rw[cell_of_heap (j b _ h)];exact n⟩
 ·rw[d b (u.ω b i h)];exact u.ω b i h
def Ou(G:Gh)(b:Nat):Prop:=G.ω b≠none\/∃x,G.I b x
def Ld{B b:Nat}(h:Ou (G.DR B w) b):Ou G b:=by
 rcases h with h | ⟨x,h⟩
 ·refine .inl λe=>h ?_
  simp  [Gh.DR]
  grind
 ·exact .inr ⟨x,h.1⟩
def Cx.inner(cx:Cx)(G:Gh)(w:World)(c:List Deferred):Cx:=
 { cx with K:=λb=>cx.K b\/(b<w.heap.size/\((∀cs e f,w.heap[b]?≠some (Obj.cells cs e f))\/¬Ou G b)),I0:=G.I,w0:=w,bl0:=G.bl,ds:=c }
def Inv.inner(hi:Inv cx G a w A σ){B:Nat}(q:qj B G w)(l:List Deferred){a':Act}(o:a'.defers=l)(k:a'.tmps.size=a.tmps.size)(j:∀t v,A'.get t=some v->EP cx t v/\A.get t=some v/\at' a' t=at' a t)(n:A'.length=A.length):
  Inv (cx.inner G w l) G a' w A' σ:=by
 have c:=hi.base
 refine⟨o,k.trans hi.size,by rw[n];exact hi.room,⟨λ_ _=>rfl,Same.refl _ _,λ_ _ h=>h,λ_ _ h=>.inl h,c.lt,λb d h=>⟨(c.own b d h).1,?_⟩,⟨λb h=>?_,c.Klt.tab.imp .inl λ⟨m,e⟩=>⟨m,(nC (c.keep 0 c.Klt.tab.1)).trans e⟩⟩,Ai _,Bl.le_refl _,rfl,rfl,rfl⟩,
  λt v i=>(hi.slot t v (j t v i).2.1).wu rfl (j t v i).1 (j t v i).2.2,hi.obj,hi.len,hi.abl⟩
 ·rintro(g | ⟨_,g | g⟩)
  ·exact(c.own b d h).2 g
  ·obtain⟨cs,e,f,p⟩:=q.ω b d h;exact g cs e f p
  ·exact g (.inl (by rw[h];simp))
 ·rcases h with h | h
  ·exact Bj (c.Klt b h) c.grow
  ·exact h.1
def kD(d:Base cx G w){i:List Deferred}{G':Gh}{g:World}(c:Base (cx.inner G w i) G' g):Base cx G' g:=by
 refine⟨λb h=>(c.keep b (.inl h)).trans (d.keep b h),d.same.trans c.same d.sub,λb x h=>c.sub b x (d.sub b x h),λb x h=>?_,c.lt,λb j h=>⟨(c.own b _ h).1,λe=>(c.own b _ h).2 (.inl e)⟩,d.Klt,Bf d.grow c.grow,d.bl.trans c.bl,c.os.trans d.os,c.tape.trans d.tape,c.output.trans d.output⟩
 rcases c.new b x h with f | f
 ·exact d.new b x f
 ·exact .inr λe=>f (.inl e)
def Inv.outer(hi:Inv cx G a w A σ){k ds':List Deferred}{G':Gh}{d a2:Act}{h:World}{A1 A2:Frm}(b:Inv (cx.inner G w k) G' d h A1 F)(j:a2.defers=ds')(g:a2.tmps.size=d.tmps.size)
  (f:∀t v,A2.get t=some v->EP cx t v/\A1.get t=some v/\at' a2 t=at' d t) (i:A2.length=A1.length):Inv { cx with ds:=ds' } G' a2 h A2 F:=by
 have c:=kD hi.base b.base
 exact⟨j,g.trans b.size,by rw[i];exact b.room,⟨c.keep,c.same,c.sub,c.new,c.lt,c.own,c.Klt,c.grow,c.bl,c.os,c.tape,c.output⟩,
  λt v e=>(b.slot t v (f t v e).2.1).wu rfl (f t v e).1 (f t v e).2.2,b.obj,b.len,b.abl⟩
def Nn{i:List Deferred}{G':Gh}{d:World}(b:Base (cx.inner G w i) G' d):KeepsOthers w d:=by
 refine⟨b.grow,λk o c g=>?_⟩
 refine(b.keep k (.inr ⟨(BG.1 c).1,.inl λcs e f h=>?_⟩)).trans c
 rw[c] at h;cases h;cases g
def TZ{g:List Deferred}{G':Gh}{d:World}(c:Base (cx.inner G w g) G' d){b:Nat}(e:b<w.heap.size)(f:¬Ou G b):d.heap[b]?=w.heap[b]?:=
 c.keep b (.inr ⟨e,.inr f⟩)
def Nl{k:List Deferred}{G':Gh}{j:World}(d:Base (cx.inner G w k) G' j){b:Nat}(e:Ou G' b):w.heap.size<=b\/Ou G b:=by
 rcases Be b _ with h | h
 ·refine .inr ?_
  rcases e with e | ⟨x,e⟩
  ·cases l:G'.ω b with
   |none=>grind
   |some i=>exact Classical.byContradiction λg=>(d.own b _ l).2 (.inr ⟨h,.inr g⟩)
  ·rcases d.new b x e with f | f
   ·exact .inr ⟨x,f⟩
   ·exact Classical.byContradiction λg=>f (.inr ⟨h,.inr g⟩)
 omega
def UK(d:Base cx G w){b:Nat}(c:Ou G b):b<w.heap.size:=by
 rcases c with c | ⟨x,c⟩
 ·cases e:G.ω b with
  |none=>grind
  |some f=>exact(d.own b _ e).1
 ·exact d.lt b x c
end
end Go.Abs

namespace Go.Abs
noncomputable section
open Go.RowKit
section
variable{P:Program}{pur:FuncId->Bool}{call:Caller}{fi:FI}{cx:Cx}{G:Gh}{a:Act}{w:World}{A A':Frm}{σ z:Sto}
def EJ(L:List Bool)(A:Frm):Frm:=List.zipWith (λb v=>if b then v.filter PV.free else none) L A
def Ie{L:List Bool}(h:A.length=L.length):(EJ L A).length=L.length:=by simp[EJ,h]
def Ki{L:List Bool}{t:Nat}{p:PV}(h:(EJ L A).get t=some p):L.getD t false=true/\A.get t=some p/\p.free=true:=by
 unfold EJ Frm.get at h
 split at h
 ·rename_i v c;subst h;rw[Ex] at c
  split at c
  ·rename_i b u g d;cases b with
   |true=>
    let ⟨e,f⟩:=Option.filter_eq_some_iff.1 (Option.some.inj c)
    subst e;refine⟨by grind,?_,f⟩
    unfold Frm.get;rw[d]
   |false=>simp at c
  ·cases c
 ·cases h
def Ju(p:PV):Bool:=p.flat&&!p.EO&&p.free&&(match p with | .mapv _ _=>true | .vptr _=>true | _=>false)
def J4(L:List Bool)(A:Frm):Frm:=List.zipWith (λb v=>if b then v.filter Ju else none) L A
def Gm(X B:Frm):Frm:=List.zipWith (λx b=>match x with | some _=>none | none=>b) X B
def KP(X B:Frm):Frm:=List.zipWith (λx b=>match x with | some v=>some v | none=>b) X B
def LZ{X B:Frm}(h:X.length=B.length):(Gm X B).length=B.length:=by simp[Gm,h]
def QK{X B:Frm}(h:X.length=B.length):(KP X B).length=B.length:=by simp[KP,h]
def oQ{L:List Bool}{t:Nat}{p:PV}(h:(J4 L A).get t=some p):L.getD t false=true/\A.get t=some p/\Ju p=true:=by
 unfold J4 Frm.get at h
 split at h
 ·rename_i v c;subst h;rw[Ex] at c
  split at c
  ·rename_i b u g d;cases b with
   |true=>
    let ⟨e,f⟩:=Option.filter_eq_some_iff.1 (Option.some.inj c)
    subst e;refine⟨by grind,?_,f⟩
    unfold Frm.get;rw[d]
   |false=>simp at c
  ·cases c
 ·cases h
def IY{X B:Frm}{t:Nat}{p:PV}(h:(Gm X B).get t=some p):B.get t=some p:=by
 unfold Gm Frm.get at h
 split at h
 ·rename_i v b;subst h;rw[Ex] at b
  split at b
  ·rename_i x u c d;cases x with
   |some y=>cases b
   |none=>unfold Frm.get;grind
  ·cases b
 ·cases h
def NN{X B:Frm}{t:Nat}{p:PV}(h:(KP X B).get t=some p):X.get t=some p\/(Gm X B).get t=some p:=by
 unfold KP Frm.get at h
 split at h
 ·rename_i v b;rw[Ex] at b
  split at b
  ·rename_i x u c d;cases x with
   |some y=>exact .inl (by unfold Frm.get;grind)
   |none=>exact .inr (by unfold Frm.get Gm;grind)
  ·cases b
 ·cases h
def Inv.fill{X B:Frm}(hi:Inv cx G a w (Gm X B) σ)(b:X.length=B.length)(c:∀t v,X.get t=some v->Ei cx G a w t v):Inv cx G a w (KP X B) σ:=by
 refine⟨hi.defers,hi.size,?_,hi.base,λt v d=>?_,hi.obj,hi.len,hi.abl⟩
 ·rw[QK b,<-LZ b];exact hi.room
 ·rcases NN d with h | h
  ·exact c t v h
  ·exact hi.slot t v h
def Ng{p:PV}(h:Ju p=true):p.free=true/\p.flat=true:=by
 unfold Ju at h
 grind
def jM{p:PV}(h:Ju p=true)(b:Tag)(c:Value):EB G w b c p:=by
 unfold Ju at h
 simp  [Aj] at h
 have d:=h.2
 split at d
 ·trivial
 ·trivial
 ·cases d
def QO(b:List (Nat×Nat))(x:List PV)(A:Frm):Frm:=b.foldl (λA d=>A.set d.1 (x[d.2]?)) A
def Uv(x:List PV):∀(c:List (Nat×Nat)) (A:Frm),(QO c x A).length=A.length
 |[],A=>rfl
 |d::c,A=>by
  show(QO c x _).length=_;rw[Uv x _,C9]
def Uw(x:List PV){t:Nat}{p:PV}:∀(c:List (Nat×Nat)) (A:Frm),(QO c x A).get t=some p->(∃i,(t,i)∈c/\x[i]?=some p)\/A.get t=some p
 |[],A,h=>.inr h
 |d::c,A,h=>by
  rcases Uw x c _ h with⟨i,e,f⟩ | e
  ·grind
  ·rw[Dp] at e
   grind
def ofF(A:Frm):Nat->FF:=List.rec (motive:=λ_=>Nat->FF) (λ_=>[]) (λv _ b n=>Option.rec (motive:=λ_=>FF) (b (n+1)) (λp=>(n,some p)::b (n+1)) v) A
def toF(ff:FF)(N:Nat):Frm:=(List.range N).map (FQ ff)
def Va(pur:FuncId->Bool)(call:Caller)(m:Nat)(b:De)(A:Frm)(σ:Sto):Option (CE×Frm×Sto):=
 cond (GZ A.length b) ((Gd pur call m b (ofF A 0) σ).map λr=>(r.1,toF r.2.1 A.length,r.2.2)) none
def Uc{p:PV}{t:Nat}:∀(A:Frm) (n:Nat),FQ (ofF A n) t=some p->n<=t/\A[t - n]?=some (some p)
 |[],n,h=>by cases h
 |v::A,n,h=>by
  cases v with
  |none=>
   let ⟨e,_⟩:=Uc A _ h
   grind
  |some q=>
   have c:FQ ((n,some q)::ofF A _) t=some p:=h;rw[L6] at c;cases d:Nat.beq n t with
   |true=>
    simp_all
   |false=>
    rw[d] at c
    let ⟨_,_⟩:=Uc A (n+1) c
    grind
def NG{m:Nat}{f:De}{e:CE}(h:Va pur call m f A σ=some (e,A',z)):∃b,Ig pur call m f A σ=some (e,b,z)/\A'.length=b.length/\∀t v,A'.get t=some v->b.get t=some v:=by
 unfold Va at h;cases d:GZ A.length f with
 |false=>grind
 |true=>
  rw[d] at h
  let ⟨_,l,k⟩:=Ac.1 h
  cases k
  have c:Rel A.length (ofF A 0) A:=by
   refine⟨rfl,λt v g=>?_⟩
   let ⟨_,_⟩:=Uc A 0 g
   unfold Frm.get
   grind
  let ⟨A2,j,i⟩:=XG _ _ _ _ _ _ _ d c l
  refine⟨_,j,by rw[i.len];simp[toF],λt v g=>i.get t v ?_⟩
  unfold Frm.get toF at g
  grind
def Qt(pur:FuncId->Bool)(call:Caller)(m:Nat)(c f:De)(d L:List Bool)(X:Frm)(e:List (Nat×Nat))(x:List PV)(A:Frm)(σ:Sto):Option (Frm×Sto):=
 match Va pur call m c (QO e x A) σ with
 |some (.normal,A1,b)=>if quiet (Gm X (EJ d A1)) b=true/\A1.length=d.length then(match Va pur call m f (KP X (EJ d A1)) b with
  |some (.normal,A',z)=>if quiet (Gm X (EJ L A')) z=true/\A'.length=L.length then some (KP X (EJ L A'),z) else none
  |_=>none) else none
 |_=>none
def J5(pur:FuncId->Bool)(call:Caller)(m:Nat)(b f:De)(d L:List Bool)(X:Frm)(e:List (Nat×Nat)):List (List PV)->Frm->Sto->Option (Frm×Sto)
 |[],A,σ=>some (A,σ)
 |x::xs,A,σ=>match Qt pur call m b f d L X e x A σ with
  |some (A',z)=>J5 pur call m b f d L X e xs A' z
  |none=>none
def PG{m:Nat}{c f:De}{d L:List Bool}{X:Frm}{e:List (Nat×Nat)}(ys:List (List PV)){r:Frm×Sto}:∀(xs:List (List PV)) (A:Frm) (σ:Sto),J5 pur call m c f d L X e (xs++ys) A σ=some r->
  ∃A' z,J5 pur call m c f d L X e xs A σ=some (A',z)/\J5 pur call m c f d L X e ys A' z=some r
 |[],A,σ,h=>⟨A,_,rfl,h⟩
 |y::xs,A,σ,h=>by
  simp  [J5,Bg] at h ⊢
  split at h
  ·exact PG _ _ _ _ h
  ·cases h
def TR{m:Nat}{c i:De}{e L:List Bool}{X:Frm}{g:List (Nat×Nat)}(x:List PV){A2:Frm}{d:Sto}:∀(xs:List (List PV)) (A:Frm) (σ:Sto) {A':Frm} {z:Sto},J5 pur call m c i e L X g xs A σ=some (A',z)->Qt pur call m c i e L X g x A' z=some (A2,d)->
  J5 pur call m c i e L X g (xs++[x]) A σ=some (A2,d)
 |[],A,σ,A',z,h,f=>by
  cases h
  simp  [Bn,J5,f]
 |y::ys,A,σ,A',z,h,f=>by
  simp  [J5,Bg] at h ⊢
  split at h
  ·exact TR x _ _ _ h f
  ·cases h
def Inv.qF(hi:Inv cx G a w A σ)(f:∀t v,A.get t=some v->EP cx t v)(d:List Deferred){a':Act}(c:a'.tmps=a.tmps)(g:a'.defers=d):Inv { cx with ds:=d } G a' w A σ:=by
 have b:=hi.base
 exact⟨g,by rw[c];exact hi.size,hi.room,⟨b.keep,b.same,b.sub,b.new,b.lt,b.own,b.Klt,b.grow,b.bl,b.os,b.tape,b.output⟩,
  λt v e=>(hi.slot t v e).wu rfl (f t v e) (by simp  [at',c]),hi.obj,hi.len,hi.abl⟩
def mark(D:Nat):Deferred:={ target:=.collected D,args:=#[] }
def y9(P:Program)(h:FuncId)(i:Array Value)(xs:List (Array Value))(I:Imm)(w:World):Prop:=
 ∀(n l:Nat) (J:List (Array Value)->(Nat->Prop)->World->Prop) (W:World),Below w.heap.size w W->(∀O,AbidesFrom W.heap.size (λs=>J s O))->
  (∀c x g O d,xs=c++x::g->J c O d->YieldAt (FW none) n P l x d λe W'=>e=.returned (.bool true)/\J (c++[x]) (λb=>O b\/(d.heap.size<=b/\b<W'.heap.size)) W'/\Same I d W'/\d.heap.size<=W'.heap.size/\
   ∀b cs t f,¬O b->d.heap[b]?=some (Obj.cells cs t f)->W'.heap[b]?=some (Obj.cells cs t f))->J [] (λb=>b<W.heap.size) W->
  CallsIn (FW none) n P h (#[.func (.yield l) #[] #[]]++i) W λe W'=>(∃v,e=.returned v)/\∃O,J xs O W'
def cO{n m:Nat}(hS:Iu P call)(hx:Ih cx fi)(hmo:P.follows .mixedOrders=true){g:Operand}{ps:Array Tmp}{assign body:Code}{aca ac:De}(hca:comp P pur fi assign=some aca)(hcb:comp P pur fi body=some ac)
  {gf:FuncId} {lb:Array Value} (hg:a.eval g=.func (.func gf) #[] lb) (hent:Ff P gf) {vs:List (Array Value)} {xs:List (List PV)} (hit:y9 P gf lb vs G.I w) (hps:∀x∈vs,x.size=ps.size)
  (hlv:vs.length=xs.length) (hpv:∀(j:Nat) (v:Array Value) (x:List PV),vs[j]?=some v->xs[j]?=some x->∀(i:Nat) (p:PV),x[i]?=some p->Rep G.I w (v.getD i undef) p/\p.free=true/\p.Ag=p)
  {La L:List Bool} {X:Frm} {ds:List (Nat×Nat)} (hi:Inv cx G a w A σ) (hB:∀b x,cx.I0 b x->b<w.heap.size) (hA:∀t v,A.get t=some v->EP cx t v/\L.getD t false=true) (hXl:X.length=L.length) (hXs:∀t v,X.get t=some v->L.getD t false=true/\(cx.kd t).val=true/\Ju v=true/\A.get t=some v) (hq:quiet (Gm X A) σ=true) (hlen:A.length=L.length) (hla:La.length=L.length)
  (hLk:∀t,L.getD t false=true->((cx.kd t).val=true\/cx.kd t=.box)/\EX t assign=true/\EX t body=true/\∀p∈ps,p≠t) (hLa:∀t,La.getD t false=true->(cx.kd t).val=true\/cx.kd t=.box)
  (hds:∀d∈ds,(cx.kd d.1).val=true/\∀(v:Array Value) (tm:Array Value),v.size=ps.size->tm.size=cx.nt->((ps.zip v).foldl (λt (p,v)=>t.setIfInBounds p v) tm).getD d.1 undef=v.getD d.2 undef)
  {A2:Frm} {σ2:Sto} (hrun:J5 pur call m aca ac La L X ds xs (KP X A) σ=some (A2,σ2))
  {Q:Exit->Act->World->Prop} (hdone:∀(D:Nat) (W:World),w.heap.size<=D->W.heap[D]?=some (.deferred (some []))->w.heap.size<=W.heap.size->
   (∃G',Inv { cx with ds:=mark D::a.defers } G' { a with defers:=mark D::a.defers } W A2 σ2/\qj w.heap.size G' W/\(∀t v,A2.get t=some v->EP cx t v/\L.getD t false=true))->Q .normal { a with defers:=mark D::a.defers } W) :
  (Code.rangeFunc g ps assign body).wpIn (FW none) n P Q a w:=by
 obtain⟨fn0,hfn0,hname,hbody0⟩:=hent;have hKB:∀b,cx.K b->b<w.heap.size:=λb h=>Bj (hi.base.Klt b h) hi.base.grow
 have eg:∀(args:Array Value) (w:World),(callFunc gf args).run P w=.ok (.enter gf args) w:=λargs W=>by
  have h1:¬fn0.name = "runtime.NumGoroutine" := by simpa using hname
  have J:¬fn0.body=none:=λe=>by rw[e] at hbody0;cases hbody0
  simp[callFunc,hfn0,h1,J]
 have hXok:∀{E:Cx} {G':Gh} {a':Act} {W:World},E.kd=cx.kd->(∀b x,G.I b x->G'.I b x)->Same G.I w W->∀t v,X.get t=some v->at' a' t=at' a t->Ei E G' a' W t v:=by
  intro E G' a' W hkd q hsm t v hv hat;obtain⟨x1,x2,x3,x4⟩:=hXs t v hv;obtain⟨f1,f2⟩:=Ng x3;have hr:=((Ch x2 f1).1 (hi.slot t v x4)).1;rw[Ch (by rw[hkd];exact x2) f1,hat]
  exact⟨.one (.inl ((hr.flat f2).mono q hsm)),jM x3 _ _⟩
 have hXp:∀{E:Cx},E.kd=cx.kd->∀t v,X.get t=some v->EP E t v:=λhkd t v hv=>⟨(Ng (hXs t v hv).2.2.1).1,.inl (by rw[hkd];exact(hXs t v hv).2.1)⟩
 have hXA:X.length=A.length:=hXl.trans hlen.symm
 let I:List (Array Value)->(Nat->Prop)->World->Prop:=λy O W=>w.heap.size<=W.heap.size/\∃A' z,J5 pur call m aca ac La L X ds (xs.take y.length) (KP X A) σ=some (A',z)/\(∀t v,A'.get t=some v->EP cx t v/\L.getD t false=true)/\A'.length=L.length/\
   ∃G',Inv { cx with ds:=[] } G' { a with defers:=[] } W A' z/\qj w.heap.size G' W/\(∀b x,G.I b x->G'.I b x)/\Same G.I w W/\∀b,Ou G' b->O b
 have hI:∀(y:List (Array Value)) (O:Nat->Prop) (W W':World) (row:Option Nat),I y O W->W.grownBy W' row->(∀r,row=some r->w.heap.size<=r/\∃o:Obj,W.heap[r]?=some o/\o.isCells=false)->I y O W':=by
  rintro y O W W' row ⟨R,A',z,hit,K,hl',G',M,ht',q,k,hO⟩ hgr hrow
  obtain⟨J,h3,h4⟩:=M.grown ht' hKB R hgr hrow;exact⟨Bf R hgr.size,A',z,hit,K,hl',G',J,h3,q,k.trans h4 q,hO⟩
 have h0:I [] (λb=>b<w.heap.size) w:=by
  have hp:∀t v,A.get t=some v->EP cx t v:=λt v h=>(hA t v h).1
  have J:=((hi.forget (A':=Gm X A) (LZ hXA) (λt v h=>IY h)).qF (λt v h=>hp t v (IY h)) [] (a':={ a with defers:=[] }) rfl rfl)
  have h3:=(J.DR w.heap.size hB (λt v h=>hp t v (IY h)) hq).fill hXA (λt v hv=>hXok (G':=G.DR w.heap.size w) rfl (λb x h=>⟨h,.inl (hi.base.lt b x h)⟩) (Same.refl _ _) t v hv rfl)
  exact⟨Ai _,KP X A,σ,rfl,λt v hv=>(NN hv).elim (λh=>⟨hXp rfl t v h,(hXs t v h).1⟩) (λh=>hA t v (IY h)),by rw[QK hXA,hlen],_,h3,Mh _ _ _,λb x h=>⟨h,.inl (hi.base.lt b x h)⟩,Same.refl _ _,λb hb=>UK hi.base (Ld hb)⟩
 refine wpIn_rangeFunc λfn hfn=>?_
 obtain⟨F,C⟩:∃F:LoopState->Option Code->Loop,F=λst pe=>{ state:=st,pending:=pe,fn,tmps:=a.tmps,params:=ps,assign,body,defers:=w.heap.size }:=⟨_,rfl⟩
 obtain⟨W1,hW1⟩:∃W1,(w.alloc (.deferred (some []))).alloc (.loop (F .ready none))=W1:=⟨_,rfl⟩
 have hL1:W1.heap[w.heap.size+1]?=some (.loop (F .ready none)):=by
  rw[<-hW1];have:=World.alloc_heap_new (w.alloc (.deferred (some []))) (.loop (F .ready none));rwa [World.size_alloc] at this
 have hK1:W1.heap[w.heap.size]?=some (.deferred (some [])):=by
  rw[<-hW1];exact(Below.heap_alloc _ _ _ (by simp)).trans (World.alloc_heap_new w _)
 have hg1:w.grownBy (w.alloc (.deferred (some []))) none:=World.grownBy_alloc w _ none;have hg2:(w.alloc (.deferred (some []))).grownBy W1 none:=by rw[<-hW1];exact World.grownBy_alloc _ _ none
 have hI1':I [] (λb=>b<w.heap.size) W1:=hI _ _ _ _ none (hI _ _ _ _ none h0 hg1 (λr e=>by cases e)) hg2 (λr e=>by cases e)
 have hb1:Below w.heap.size w W1:=by
  rw[<-hW1];exact(((Below.refl w.heap.size w).alloc (Ai _) _).alloc (by simp) _)
 have hsz1:W1.heap.size=w.heap.size+2:=by rw[<-hW1];simp
 have hI1:I [] (λb=>b<W1.heap.size) W1:=by
  obtain⟨R,A',z,hit,K,hl',G',M,ht',q,k,hO⟩:=hI1';exact⟨R,A',z,hit,K,hl',G',M,ht',q,k,λb hb=>by have:=hO b hb;omega⟩
 refine⟨w.heap.size+1,[mark w.heap.size],W1,{ target:=.fn (.func gf) lb,args:=#[.func (.yield (w.heap.size+1)) #[] #[]] },W1,gf,
  #[.func (.yield (w.heap.size+1)) #[] #[]]++lb,W1,?_,?_,?_,?_,λh=>(by cases h),?_⟩
 ·rw[<-hW1,C];exact run_enterLoop_outer _ _ _ _ _
 ·simp only[resolve,hg];simp[go_sem]
 ·intro f' _;trivial
 ·simp[invoke,go_sem,eg]
 ·have hnc:∀{W W':World} {row:Option Nat},(∀r,row=some r->W1.heap.size<=r/\∃o:Obj,W.heap[r]?=some o/\o.isWalk=true)->(∀r,row=some r->w.heap.size<=r/\∃o:Obj,W.heap[r]?=some o/\o.isCells=false):=
   λhr r e=>by obtain⟨hB',o,ho,hw⟩:=hr r e;exact⟨am,o,ho,Obj.not_cells_of_walk hw⟩
  refine(hit (n - 1) (w.heap.size+1) (λy O W=>I y O W/\W.heap[w.heap.size+1]?=some (.loop (F .ready none))/\W.heap[w.heap.size]?=some (.deferred (some []))) W1 hb1
   (λO s X Y row hs hg' hr=>⟨hI s O X Y row hs.1 hg' (hnc (W':=Y) hr),(grownBy_keeps hg' (λr e=>(hr r e).2) hs.2.1 rfl).trans hs.2.1,(grownBy_keeps hg' (λr e=>(hr r e).2) hs.2.2 rfl).trans hs.2.2⟩) ?_ ⟨hI1,hL1,hK1⟩).mono ?_
  ·
   rintro y v post O W hvs ⟨⟨R,A',z,hitr,K,hl',G',M,ht',q,k,hO⟩,hl,hk⟩
   have hjv:vs[y.length]?=some v:=by rw[hvs];simp
   have hjlt:y.length<xs.length:=by rw[<-hlv];exact(Ad.1 hjv).1
   obtain⟨x,hjx⟩:∃x,xs[y.length]?=some x:=⟨_,Af hjlt⟩
   have hsplit:xs=xs.take y.length++x::xs.drop (y.length+1):=by
    have:=BH y.length xs;rw[BN hjlt] at this;have hx':xs[y.length]=x:=(Ad.1 hjx).2;rw[hx'] at this;exact this.symm
   have htake:xs.take (y++[v]).length=xs.take y.length++[x]:=by
    rw[Ae,DX,List.take_add_one,hjx];rfl
   obtain⟨rr,c⟩:∃rr,Qt pur call m aca ac La L X ds x A' z=some rr:=by
    rw[hsplit] at hrun;obtain⟨B',τ',h1,J⟩:=PG _ _ _ _ hrun;rw[hitr] at h1;cases h1;simp only[J5] at J
    split at J
    ·rename_i h3;exact⟨_,h3⟩
    ·cases J
   obtain⟨A4,σ4⟩:=rr;have hround':=c;unfold Qt at c
   split at c
   case h_2=>cases c
   rename_i Aa σa hruna0;obtain⟨Aa',hruna,hla',hsa⟩:=NG hruna0
   split at c
   case isFalse=>cases c
   rename_i hqa
   split at c
   case h_2=>cases c
   rename_i A3 σ3 hrunb0;obtain⟨A3',hrunb,hlb',hsb⟩:=NG hrunb0
   split at c
   case isFalse=>cases c
   rename_i hqb;cases c;have hvm:v∈vs:=Am hjv;have hy:=run_yield (P:=P) (args:=v) hl (by rw[C];exact hps v hvm)
   rw[C] at hy;obtain⟨tm,htm⟩:∃tm,(ps.zip v).foldl (λt (p,v)=>t.setIfInBounds p v) a.tmps=tm:=⟨_,rfl⟩
   have htsz:tm.size=a.tmps.size:=by
    rw[<-htm,<-Fa];generalize (ps.zip v).toList=l;generalize a.tmps=t0
    induction l generalizing t0 with
    |nil=>rfl
    |cons d l ih=>rw[F9,ih];simp
   have htat:∀t,(∀p∈ps,p≠t)->tm.getD t undef=a.tmps.getD t undef:=by
    intro t ht
    have hz:∀d∈(ps.zip v).toList,d.1≠t:=by
     intro d hd;have hd':(d.1,d.2)∈ps.toList.zip v.toList:=by simpa [Array.toList_zip] using hd
     exact ht _ (by have:=(List.of_mem_zip hd').1;simpa using this)
    rw[<-htm,<-Fa];generalize (ps.zip v).toList=l at hz;generalize a.tmps=t0
    induction l generalizing t0 with
    |nil=>rfl
    |cons d l ih=>
     rw[F9,ih (λd' hd'=>hz d' (AP _ hd'))]
     have:=hz d (AV ..);simp only[Ao];rw[DK this]
   let E:Cx:={ cx with ds:=[] }
   have hx':∀{H:Gh} {V:World},Ih (E.inner H V []) fi:=⟨hx.kd,hx.nt,hx.al⟩
   let a1:Act:={ tmps:=tm,defers:=[] }
   have Z:=M.inner ht' [] (a':=a1) rfl htsz (A':=A') (λt u T=>⟨(K t u T).1,T,htat t (hLk t (K t u T).2).2.2.2⟩) rfl
   have hi2:Inv (E.inner G' W []) G' a1 W (QO ds x A') z:=by
    refine⟨Z.defers,Z.size,by rw[Uv];exact Z.room,Z.base,λt u T=>?_,Z.obj,Z.len,Z.abl⟩
    rcases Uw _ _ _ T with⟨i,J,h3⟩ | J
    ·obtain⟨e1,e2,e3⟩:=hpv _ v x hjv hjx i u h3;obtain⟨hdv,hdt⟩:=hds _ J;rw[Ch (cx:=E.inner G' W []) hdv e2]
     have hat:at' a1 t=v.getD i undef:=by
      have:=hdt v a.tmps (hps v hvm) hi.size;rw[htm] at this;exact this
     rw[hat];exact⟨.one (.inl (e1.mono q k)),Q8 e3⟩
    ·exact Z.slot t u J
   refine⟨fn,tm,assign,body,by rw[<-htm];exact hy,roundIn_of_wpIn hfn ?_⟩
   refine IK (ro:=some (w.heap.size+1)) (cx:=E.inner G' W []) hS hx' hmo assign aca hca m _ _ _ _ _ hruna a1 W ⟨G',hi2⟩ _ (λa2 w2 hs2 hat2=>?_)
   obtain⟨G2,hi3'⟩:=hs2;have S:=hi3'.forget hla' hsa;have hk2:=Nn S.base;have hXa:X.length=(EJ La Aa).length:=by rw[Ie hqa.2,hXl,hla]
   have hA2:∀t u,(Gm X (EJ La Aa)).get t=some u->EP cx t u/\Aa.get t=some u/\at' a2 t=at' a2 t:=λt u T=>by
    obtain⟨e1,e2,e3⟩:=Ki (IY T);exact⟨⟨e3,hLa t e1⟩,e2,rfl⟩
   have hi4:=(M.outer S (ds':=[]) (a2:=a2) S.defers rfl (A2:=Gm X (EJ La Aa)) hA2 (by rw[LZ hXa,Ie hqa.2];exact hqa.2.symm)).DR w.heap.size hB (λt u T=>(hA2 t u T).1) hqa.1
   have ht4:=Mh G2 w.heap.size w2;have B:∀b x,G.I b x->(G2.DR w.heap.size w2).I b x:=λb x h=>⟨S.base.sub _ _ (q _ _ h),.inl (hi.base.lt b x h)⟩
   have hss2:Same G.I W w2:=⟨λb o h=>S.base.same.cell b o (q _ _ h),λb h=>S.base.same.blk b (q _ _ h)⟩
   have hsz2:w.heap.size<=w2.heap.size:=Bf R hk2.size;have hl2:=hk2.same _ _ hl rfl;have hd2:=hk2.same _ _ hk rfl;refine⟨_,run_beginRound hl2 (by rw[C]),?_⟩
   obtain⟨w3,hw3⟩:∃w3,w2.putObj (w.heap.size+1) (.loop { F .ready none with state:=.busy })=w3:=⟨_,rfl⟩
   have hg3:w2.grownBy w3 (some (w.heap.size+1)):=by rw[<-hw3];exact grownBy_putObj' _ _ _
   have hlt2:w.heap.size+1<w2.heap.size:=(BG.1 hl2).1;have hl3:w3.heap[w.heap.size+1]?=some (.loop { F .ready none with state:=.busy }):=by rw[<-hw3];exact World.putObj_heap_same hlt2
   have hd3:w3.heap[w.heap.size]?=some (.deferred (some [])):=by rw[<-hw3];exact(World.putObj_heap_other am).trans hd2
   obtain⟨hi5,ht5,hs5⟩:=hi4.grown ht4 hKB hsz2 hg3 (λr e=>by cases e;exact⟨am,_,hl2,rfl⟩)
   have hsz3:w.heap.size<=w3.heap.size:=Bf hsz2 hg3.size;have hss5:Same G.I w2 w3:=⟨λb o h=>hs5.cell b o (B _ _ h),λb h=>hs5.blk b (B _ _ h)⟩
   have hi5f:=hi5.fill hXa (λt v hv=>hXok rfl B ((k.trans hss2 (λ_ _ h=>h)).trans hss5 (λ_ _ h=>h)) t v hv (by
    obtain⟨k1,k2,k3,k4⟩:=hLk t (hXs t v hv).1;exact(hat2 t k2).trans (htat t k4)))
   have hi6:=hi5f.inner ht5 [] (a':=a2) hi5.defers rfl (A':=KP X (EJ La Aa)) (λt u T=>⟨(NN T).elim (λh=>hXp rfl t u h) (λh=>(hA2 t u h).1),T,rfl⟩) rfl
   rw[hw3];refine IK (ro:=some (w.heap.size+1)) (cx:=E.inner (G2.DR w.heap.size w2) w3 []) hS hx' hmo body ac hcb m _ _ _ _ _ hrunb a2 w3 ⟨_,hi6⟩ _ (λa4 w4 hs4 hat4=>?_)
   obtain⟨G4,hi7'⟩:=hs4;have hi7:=hi7'.forget hlb' hsb;have hk4:=Nn hi7.base;have hXb:X.length=(EJ L A3).length:=by rw[Ie hqb.2,hXl]
   have hA4:∀t u,(Gm X (EJ L A3)).get t=some u->EP cx t u/\A3.get t=some u/\at' { a with defers:=[] } t=at' a4 t:=by
    intro t u T;obtain⟨e1,e2,e3⟩:=Ki (IY T);obtain⟨k1,k2,k3,k4⟩:=hLk t e1;refine⟨⟨e3,k1⟩,e2,?_⟩
    rw[hat4 t k3,hat2 t k2];exact(htat t k4).symm
   have hi8:=(hi5.outer hi7 (ds':=[]) (a2:={ a with defers:=[] }) rfl (by have J:=hi7.size;have h3:=hi.size;show a.tmps.size=_;rw[h3,J];rfl) (A2:=Gm X (EJ L A3)) hA4 (by rw[LZ hXb,Ie hqb.2];exact hqb.2.symm)).DR w.heap.size hB (λt u T=>(hA4 t u T).1) hqb.1
   have ht8:=Mh G4 w.heap.size w4;have hl4:=hk4.same _ _ hl3 rfl;have hd4:=hk4.same _ _ hd3 rfl;have hlt4:w.heap.size+1<w4.heap.size:=(BG.1 hl4).1;have he4:=run_endRound (P:=P) none hl4;have hss4:Same G.I w3 w4:=⟨λb o h=>hi7.base.same.cell b o (B _ _ h),λb h=>hi7.base.same.blk b (B _ _ h)⟩
   obtain⟨w5,hw5⟩:∃w5,w4.putObj (w.heap.size+1) (.loop (F .ready none))=w5:=⟨_,rfl⟩;have hg5:w4.grownBy w5 (some (w.heap.size+1)):=by rw[<-hw5];exact grownBy_putObj' _ _ _
   obtain⟨hi9,ht9,hs9⟩:=hi8.grown ht8 hKB (Bf hsz3 hk4.size) hg5 (λr e=>by cases e;exact⟨am,_,hl4,rfl⟩)
   have N:∀b x,G.I b x->(G4.DR w.heap.size w4).I b x:=λb x h=>⟨hi7.base.sub _ _ (B _ _ h),.inl (hi.base.lt b x h)⟩
   have hss9:Same G.I w4 w5:=⟨λb o h=>hs9.cell b o (N _ _ h),λb h=>hs9.blk b (N _ _ h)⟩
   have hall:Same G.I W w5:=((hss2.trans hss5 (λ_ _ h=>h)).trans hss4 (λ_ _ h=>h)).trans hss9 (λ_ _ h=>h)
   have hsW5:W.heap.size<=w5.heap.size:=Bf (Bf (Bf hk2.size hg3.size) hk4.size) hg5.size;refine⟨_,w5,?_,rfl,⟨⟨Bf (Bf hsz3 hk4.size) hg5.size,KP X (EJ L A3),σ4,?_,λt u T=>(NN T).elim (λh=>⟨hXp rfl t u h,(hXs t u h).1⟩) (λh=>⟨(hA4 t u h).1,(Ki (IY h)).1⟩),by rw[QK hXb,Ie hqb.2],_,hi9.fill hXb (λt v hv=>hXok rfl N (k.trans hall (λ_ _ h=>h)) t v hv rfl),ht9,N,k.trans hall (λ_ _ h=>h),λb hb=>?_⟩,?_,?_⟩,hall,hsW5,λb cs t f hnO hb=>?_⟩
   ·rw[<-hw5];rw[C] at he4 ⊢;exact he4
   ·rw[htake];exact TR _ _ _ _ hitr hround'
   ·
    have hlt:=UK hi9.base hb;rcases Nl hi7.base (Ld hb) with h1 | h1
    ·exact .inr ⟨Bf (Bf hk2.size hg3.size) h1,hlt⟩
    ·rcases Nl S.base (Ld h1) with J | J
     ·exact .inr ⟨J,hlt⟩
     ·exact .inl (hO b J)
   ·rw[<-hw5];exact World.putObj_heap_same hlt4
   ·rw[<-hw5];exact(World.putObj_heap_other am).trans hd4
   ·
    have hbl:b<W.heap.size:=(BG.1 hb).1;have hnk:¬Ou G' b:=λh=>hnO (hO b h)
    have hne:w.heap.size+1≠b:=by rintro rfl;rw[hl] at hb;cases hb
    have e2:w2.heap[b]?=some (Obj.cells cs t f):=(TZ S.base hbl hnk).trans hb;have hb2:b<w2.heap.size:=(BG.1 e2).1;have e3:w3.heap[b]?=some (Obj.cells cs t f):=by rw[<-hw3];exact(World.putObj_heap_other am).trans e2
    have hb3:b<w3.heap.size:=(BG.1 e3).1
    have hnk2:¬Ou (G2.DR w.heap.size w2) b:=λh=>by
     rcases Nl S.base (Ld h) with h | h
     ·omega
     ·exact hnk h
    have e4:w4.heap[b]?=some (Obj.cells cs t f):=(TZ hi7.base hb3 hnk2).trans e3;rw[<-hw5];exact(World.putObj_heap_other am).trans e4
  ·
   rintro e W2 ⟨⟨v,rfl⟩,O,hIx,hl,hk⟩
   have hlt:w.heap.size+1<W2.heap.size:=(BG.1 hl).1;refine⟨none,_,by have:=run_endLoop (P:=P) hl (by rw[C];simp);rw[C] at this;exact this,?_⟩
   have hg9:W2.grownBy (W2.putObj (w.heap.size+1) (.loop { F .ready none with state:=.exhausted })) (some (w.heap.size+1)):=grownBy_putObj' _ _ _
   obtain⟨R,A',z,hitr,K,hl',G',M,ht',q,k,_⟩:=hI _ _ _ _ _ hIx hg9 (λr e=>by cases e;exact⟨am,_,hl,rfl⟩)
   rw[hlv,FJ,hrun] at hitr;cases hitr;rw[C] at M ht' k R;refine hdone w.heap.size _ (Ai _) ((World.putObj_heap_other am).trans hk) R ⟨G',M.qF (cx:={ cx with ds:=[] }) (λt v h=>(K t v h).1) (mark w.heap.size::a.defers) (a':={ a with defers:=mark w.heap.size::a.defers }) rfl rfl,ht',K⟩
end
end
end Go.Abs

namespace Go.Abs
open Go.RowKit
def AqH:List Code->Code->Code
 |[],c=>c
 |p::ps,c=>.seq p (AqH ps c)
def UB(P:Program)(pur:FuncId->Bool)(fi:FI):List Code->Option (List De)
 |[]=>some []
 |c::cs=>match comp P pur fi c,UB P pur fi cs with
  |some x,some xs=>some (x::xs)
  |_,_=>none
noncomputable section
def ZL(pur:FuncId->Bool)(call:Caller)(m:Nat):List De->Frm->Sto->Option (CE×Frm×Sto)
 |[],A,a=>some (.normal,A,a)
 |c::cs,A,a=>match Va pur call m c A a with
  |some (.normal,A',b)=>ZL pur call m cs A' b
  |r=>r
structure LFn where
 nargs:Nat
 ntmps:Nat
 extra:Nat
 pre:List De
 rg:De
 g:Nat
 aca:De
 ac:De
 post:De
 La:List Bool
 L:List Bool
 Lr:List Bool
 ds:List (Nat×Nat)
 nps:Nat
 res:List (Nat×Option Nat)
 Lv:List Bool
def gL(f:LFn)(A:Frm)(a:Sto):Option (PV×Sto):=(Gu A f.res).bind λvs=>(CX vs).map λr=>(r,a)
def mE(pur:FuncId->Bool)(call:Caller)(c:FuncId->List PV->Option (List (List PV)))(m:Nat)(f:LFn)(A:Frm)(h:Sto):Option (PV×Sto):=
 match A.get f.g with
 |some (.func i [] a)=>match c i a with
  |some xs=>if quiet (Gm (J4 f.Lv A) (EJ f.L A)) h=true/\A.length=f.L.length/\f.Lv.length=f.L.length/\f.Lr.length=f.L.length/\a.all PV.flat=true/\xs.all (λx=>x.length==f.nps)=true then
   (match J5 pur call m f.aca f.ac f.La f.L (J4 f.Lv A) f.ds xs (KP (J4 f.Lv A) (EJ f.L A)) h with
   |some (A2,g)=>match Va pur call m f.post A2 g with
    |some (e,d,b)=>if(e=.normal\/e=.ret)/\quiet (Gm (J4 f.Lv A) (EJ f.Lr d)) b=true/\d.length=f.Lr.length then gL f (Gm (J4 f.Lv A) (EJ f.Lr d)) b else none
    |none=>none
   |none=>none) else none
  |none=>none
 |_=>none
def SQ(pur:FuncId->Bool)(b:FuncId->List PV->Option (List (List PV)))(m:Nat)(f:LFn)(call:Caller)(args:List PV)(d:Sto):Option (PV×Sto):=
 if args.length=f.nargs/\args.length<=f.ntmps then
  match ZL pur call m f.pre (args.map some++List.replicate (f.ntmps+f.extra - args.length) none) d with
  |some (.ret,A,a)=>gL f A a
  |some (.normal,A,a)=>match Va pur call m f.rg A a with
   |some (.normal,A1,c)=>mE pur call b m f A1 c
   |_=>none
  |_=>none
 else none
end
def y7(P:Program)(c:FuncId->List PV->Option (List (List PV))):Prop:=
 ∀d a xs,c d a=some xs->Ff P d/\∀(I:Imm) (w:World) (cs:Array Value),(∀b x,I b x->b<w.heap.size)->cs.size=a.length->(∀(i:Nat) (p:PV),a[i]?=some p->Rep I w (cs.getD i undef) p)->
  ∃vs:List (Array Value),y9 P d cs vs I w/\vs.length=xs.length/\∀(j:Nat) (v:Array Value) (x:List PV),vs[j]?=some v->xs[j]?=some x->v.size=x.length/\∀(i:Nat) (p:PV),x[i]?=some p->Rep I w (v.getD i undef) p/\p.free=true/\p.Ag=p
section
variable{P:Program}{pur:FuncId->Bool}{call:Caller}{fi:FI}{cx:Cx}{G:Gh}{a:Act}{w:World}{A A':Frm}{σ σ':Sto}
def j6{c:Code}{cs:List Code}{b:List De}(h:UB P pur fi (c::cs)=some b):∃x xs,b=x::xs/\comp P pur fi c=some x/\UB P pur fi cs=some xs:=by
 simp  [UB] at h
 grind
def Qw{n m:Nat}(t:Iu P call)(s:Ih cx fi)(k:P.follows .mixedOrders=true):∀(cs:List Code) (f:List De),UB P pur fi cs=some f->∀(A:Frm) (σ:Sto) (e:CE) (A':Frm) (σ':Sto),ZL pur call m f A σ=some (e,A',σ')->
  ∀(a:Act) (w:World),Sim cx a w A σ->∀(b:Code) (Q:Exit->Act->World->Prop),(∀a' o,Sim cx a' o A' σ'->(e=.normal->b.wpIn (FW none) n P Q a' o)/\(e≠.normal->Q e.ex a' o))->(AqH cs b).wpIn (FW none) n P Q a w
 |[],f,u,A,σ,e,A',σ',h,a,w,p,b,Q,q=>by
  cases u;cases h;exact(q a w p).1 rfl
 |c::cs,f,u,A,σ,e,A',σ',h,a,w,p,b,Q,q=>by
  obtain⟨x,xs,rfl,v,z⟩:=j6 u
  simp  [ZL] at h
  refine wpIn_seq ?_
  split at h
  ·rename_i A1 B y
   let ⟨_,g,r,d⟩:=NG y
   refine IK t s k c x v m _ _ _ _ _ g a w p _ (λa' o l _=>?_)
   have⟨G',j⟩:=l;exact Qw t s k _ _ z A1 _ e A' _ h a' o ⟨G',j.forget r d⟩ _ Q q
  ·let ⟨_,g,r,d⟩:=NG h
   refine IK (ro:=none) t s k c x v m _ _ _ _ _ g a w p _ (λa' o l _=>?_)
   let ⟨G',j⟩:=l
   have:=q _ _ ⟨G',j.forget r d⟩;cases e with
   |normal=>grind
   |exit id=>exact this.2 (by simp)
   |ret=>exact this.2 (by simp)
def okL(fi:FI)(L:List Bool):Bool:=(List.range L.length).all λt=>!(L.getD t false)||(fi.kind t).Nk||decide (fi.kind t=.box)
def R5{L:List Bool}(h:okL fi L=true){t:Nat}(c:L.getD t false=true):(fi.kind t).val=true\/fi.kind t=.box:=by
 have:=Au.1 h t (Dy.2 (by grind))
 rw[c] at this
 simp  [F3,CS,Dk,decide_eq_true_eq] at this
 rcases this with b | b
 ·exact .inl (Kj b)
 grind
def oJ(L:List Bool)(ps:Array Tmp)(b c:Code):Bool:=(List.range L.length).all λt=>!(L.getD t false)||(EX t b&&EX t c&&ps.all (λp=>p != t))
def vY{L:List Bool}{ps:Array Tmp}{b c:Code}(h:oJ L ps b c=true){t:Nat}(d:L.getD t false=true):EX t b=true/\EX t c=true/\∀p∈ps,p≠t:=by
 have:=Au.1 h t (Dy.2 (by grind))
 rw[d] at this;simp only[F3,CS,Aj] at this;refine⟨this.1.1,this.1.2,λp e=>?_⟩
 simpa using ((Array.all_eq_true_iff_forall_mem.1 this.2) p e)
def oU{L:List Bool}{A:Frm}{t:Nat}{p:PV}(h:L.getD t false=true)(b:A.get t=some p)(c:p.free=true):(EJ L A).get t=some p:=by
 unfold Frm.get at b
 split at b
 ·unfold EJ Frm.get
  grind
 ·cases b
def BZB{f:FuncId}{S:Func}{c:LFn}{m:Nat}{itr:FuncId->List PV->Option (List (List PV))}(hitr:y7 P itr)(I:P.follows .mixedOrders=true)(hfn:P.funcs[f]?=some S)(hname:(S.name == "runtime.NumGoroutine")=false)
  (u:fi.okB=true) (hnt:fi.nt=S.ntmps) (hna:c.ntmps=S.ntmps) (hex:c.extra=fi.ps.length) {X:List Code} {rg k B z:Code} {bid gt:Nat} {ps:Array Tmp}
  (H:S.body=some (AqH X (.seq (.seq rg (.block bid (.rangeFunc (.tmp gt) ps k B))) z))) (hgt:c.g=gt) (hnp:c.nps=ps.size)
  (hcp:UB P pur fi X=some c.pre) (hcr:comp P pur fi rg=some c.rg) (hca:comp P pur fi k=some c.aca) (hcb:comp P pur fi B=some c.ac) (hct:comp P pur fi z=some c.post)
  (hrs:Jd P fi S.results.toList=some c.res) (hvals:(List.range c.nargs).all (λt=>(fi.kind t).Nk)=true) (hgk:(fi.kind gt).Nk=true)
  (hLa:okL fi c.La=true) (hL:okL fi c.L=true) (hLr:okL fi c.Lr=true) (hL2:oJ c.L ps k B=true) (hll:c.La.length=c.L.length) (hLv:∀t,c.Lv.getD t false=true->c.L.getD t false=true/\(fi.kind t).val=true)
  (hds:∀d∈c.ds,(fi.kind d.1).val=true/\∀(v:Array Value) (tm:Array Value),v.size=ps.size->tm.size=fi.nt->((ps.zip v).foldl (λt (p,v)=>t.setIfInBounds p v) tm).getD d.1 undef=v.getD d.2 undef) :
  Jo P f (SQ pur itr m c):=by
 intro call hS args σ r σ' hown h;have hent:Ff P f:=⟨S,hfn,hname,by rw[H];rfl⟩
 refine⟨hent,λn vs w G K M F=>?_⟩
 unfold SQ at h
 split at h
 case isFalse=>cases h
 rename_i hlen;obtain⟨hl1,hl2⟩:=hlen;have hval:∀t,t<args.length->(fi.kind t).val=true:=λt ht=>Kj (Au.1 hvals t (Dy.2 am))
 have L:=fV u F M hown am hval fi.ps.length
 have hvs:vs.size=args.length:=by simpa using M.1
 have l:=BVJ u K G w;rw[hna,<-hnt,hex] at h;refine callsIn_of_wp_marks hfn H trivial ?_
 rw[<-hnt]
 have fin0:∀(e:CE) (A1:Frm) (a':Act) (s:World),(e=.normal\/e=.ret)->Sim (fA fi u K G w) a' s A1 σ'->gL c A1 σ'=some (r,σ')->
   bodyPostM (FW none) n P S (λe s=>∃v G',e=.returned v/\BF G'.I G'.bl s v r/\Aft K G w σ' G' s) e.ex a' s:=by
  intro e A1 a' s he hs o;obtain⟨G',C⟩:=hs;unfold gL at o;obtain⟨ps',hps,o⟩:=AB.1 o;obtain⟨r',hr',Z⟩:=Ac.1 o;cases Z;obtain⟨v,q,J⟩:=OD (P:=P) C l hrs hps hr';have g:=C.base;have R:Aft K G w σ' G' s:=⟨g.keep,g.same,g.sub,g.new,g.lt,g.own,g.grow,g.bl,g.os,g.tape,g.output,C.obj,C.len,C.abl⟩;have hd:a'.defers=[]:=C.defers
  have y:LeavesInM (FW none) n P S a'.tmps (λe s=>∃v G',e=.returned v/\BF G'.I G'.bl s v r/\Aft K G w σ' G' s) a'.defers .returning s:=by
   rw[hd];exact⟨v,q,v,G',rfl,J,R⟩
  rcases he with rfl | rfl
  ·exact y
  ·exact y
 split at h
 ·
  rename_i A1 Y Q
  have hσ:Y=σ':=by
   unfold gL at h;obtain⟨_,_,h⟩:=AB.1 h;obtain⟨_,_,e⟩:=Ac.1 h;cases e;rfl
  subst hσ;exact Qw hS l I X c.pre hcp _ σ _ A1 Y Q _ w ⟨G,L⟩ _ _ (λa' s hs=>⟨λe=>(by cases e),λ_=>fin0 .ret A1 a' s (.inr rfl) hs h⟩)
 ·rename_i A1 Y Q
  split at h
  case h_2=>cases h
  rename_i A2 σ2 hrg;refine Qw hS l I X c.pre hcp _ σ _ A1 Y Q _ w ⟨G,L⟩ _ _ (λa' s hs=>⟨λ_=>?_,λe=>absurd rfl e⟩)
  refine wpIn_seq (wpIn_seq ?_)
  obtain⟨A2',hrg',hlg,hsg⟩:=NG hrg;refine IK (ro:=none) hS l I rg c.rg hcr m _ _ _ _ _ hrg' a' s hs _ (λa2 w2 hs2 _=>?_)
  obtain⟨G2,hi2'⟩:=hs2;have E:=hi2'.forget hlg hsg;show(Code.block bid (Code.rangeFunc (.tmp gt) ps k B)).wpIn (FW none) n P _ a2 w2;refine wpIn_block ?_
  unfold mE at h;rw[hgt] at h
  split at h
  case h_2=>cases h
  rename_i gf caps hget
  split at h
  case h_2=>cases h
  rename_i xs hxs
  split at h
  case isFalse=>cases h
  rename_i hcc;obtain⟨hq,V,hlv1,hlr1,hcaps,hxl⟩:=hcc
  split at h
  case h_2=>cases h
  rename_i A3 σ3 hiter
  split at h
  case h_2=>cases h
  rename_i e4 A4 σ4 hpost
  split at h
  case isFalse=>cases h
  rename_i hend;obtain⟨he4,hq4,hl4⟩:=hend;have hgv:((fA fi u K G w).kd gt).val=true:=Kj hgk;have hrepg:=((Ch hgv rfl).1 (E.slot gt _ hget)).1;obtain⟨fs,cs,hat,hf1,hf2,hf3,hf4⟩:=hrepg.L8;have hfs:fs=#[]:=Array.eq_empty_of_size_eq_zero hf1;subst hfs;obtain⟨hge,hg⟩:=hitr gf caps xs hxs;obtain⟨vls,hito,hlv,hpv⟩:=hg G2.I w2 cs E.base.lt hf2 (λi p hp=>BF.flat (.one (hf4 i p hp)) (Au.1 hcaps p (Am hp)))
  have hA0:∀t v,(EJ c.L A2).get t=some v->EP (fA fi u K G w) t v/\c.L.getD t false=true:=λt v q=>by
   obtain⟨Z,e2,e3⟩:=Ki q;exact⟨⟨e3,R5 hL Z⟩,Z⟩
  have hi3:=E.forget (A':=EJ c.L A2) (by rw[Ie V,V]) (λt v q=>(Ki q).2.1)
  have hXl:(J4 c.Lv A2).length=c.L.length:=by simp[J4,hlv1,V]
  have hXs:∀t v,(J4 c.Lv A2).get t=some v->c.L.getD t false=true/\((fA fi u K G w).kd t).val=true/\Ju v=true/\(EJ c.L A2).get t=some v:=λt v q=>by
   obtain⟨x1,x2,x3⟩:=oQ q;obtain⟨y1,y2⟩:=hLv t x1;exact⟨y1,y2,x3,oU y1 x2 (Ng x3).1⟩
  have hI0:∀b x,(fA fi u K G w).I0 b x->b<w2.heap.size:=λb x g=>Bj (F.lt b x g) E.base.grow
  refine cO (pur:=pur) (call:=call) (m:=m) hS l I hca hcb (a:=a2) (g:=.tmp gt) (by exact hat) hge hito (λv q=>?_) hlv (λj v x h1 h2=>(hpv j v x h1 h2).2) hi3 hI0 hA0 hXl hXs hq (by rw[Ie V]) hll
   (λt ht=>⟨R5 hL ht,vY hL2 ht⟩) (λt ht=>R5 hLa ht) hds hiter (λD W hD hdef hBW hex=>?_)
  ·obtain⟨j,hj⟩:=BP.1 q;have hjl:j<xs.length:=by rw[<-hlv];exact(Ad.1 hj).1
   rw[(hpv j v _ hj (Af hjl)).1];have:=Au.1 hxl _ (Cg hjl);rw[<-hnp];simpa using this
  ·obtain⟨G3,hi4,ht4,hA3⟩:=hex;have hd2:a2.defers=[]:=E.defers;rw[hd2] at hi4 ⊢
   let T:Cx:={ fA fi u K G w with ds:=[mark D] }
   have hi5:Inv (T.inner G3 W [mark D]) G3 { a2 with defers:=[mark D] } W A3 σ3:=hi4.inner ht4 [mark D] rfl rfl (λt v q=>⟨(hA3 t v q).1,q,rfl⟩) rfl
   obtain⟨A4',U,hlp,hsp⟩:=NG hpost;show z.wpIn (FW none) n P _ { a2 with defers:=[mark D] } W
   refine IK (ro:=none) (cx:=T.inner G3 W [mark D]) hS ⟨l.kd,l.nt,l.al⟩ I z c.post hct m _ _ _ _ _ U _ W ⟨G3,hi5⟩ _ (λa4 w4 hs4 _=>?_)
   obtain⟨G4,hi6'⟩:=hs4;have hi6:=hi6'.forget hlp hsp;have hk4:=Nn hi6.base;have N:=hk4.same _ _ hdef rfl;have hd4:a4.defers=[mark D]:=hi6.defers;have hXr:(J4 c.Lv A2).length=(EJ c.Lr A4).length:=by rw[Ie hl4,hXl,hlr1]
   have hA4:∀t v,(Gm (J4 c.Lv A2) (EJ c.Lr A4)).get t=some v->EP T t v/\A4.get t=some v/\at' { a4 with defers:=[] } t=at' a4 t:=λt v q=>by
    obtain⟨Z,e2,e3⟩:=Ki (IY q);exact⟨⟨e3,R5 hLr Z⟩,e2,rfl⟩
   have hi7:=(hi4.outer (cx:=T) hi6 (ds':=[]) (a2:={ a4 with defers:=[] }) rfl rfl (A2:=Gm (J4 c.Lv A2) (EJ c.Lr A4)) hA4 (by rw[LZ hXr,Ie hl4];exact hl4.symm)).DR w2.heap.size hI0 (λt v q=>(hA4 t v q).1) hq4
   have ht7:=Mh G4 w2.heap.size w4;obtain⟨w5,hw5⟩:∃w5,w4.putObj D (.deferred none)=w5:=⟨_,rfl⟩;have hg5:w4.grownBy w5 (some D):=by rw[<-hw5];exact grownBy_putObj' _ _ _
   have hKB:∀b,K b->b<w2.heap.size:=λb g=>Bj (F.Klt b g) E.base.grow
   obtain⟨O,_,_⟩:=hi7.grown ht7 hKB (Bf hBW hk4.size) hg5 (λr e=>by cases e;exact⟨hD,_,N,rfl⟩)
   have hσ:σ4=σ':=by
    unfold gL at h;obtain⟨_,_,h⟩:=AB.1 h;obtain⟨_,_,e⟩:=Ac.1 h;cases e;rfl
   subst hσ;unfold gL at h;obtain⟨ps',hps,o⟩:=AB.1 h;obtain⟨r',hr',Z⟩:=Ac.1 o;cases Z;obtain⟨v,q,J⟩:=OD (P:=P) O ⟨l.kd,l.nt,l.al⟩ hrs hps hr';have g:=O.base;have R:Aft K G w σ4 _ w5:=⟨g.keep,g.same,g.sub,g.new,g.lt,g.own,g.grow,g.bl,g.os,g.tape,g.output,O.obj,O.len,O.abl⟩
   have y:LeavesInM (FW none) n P S a4.tmps (λe s=>∃v G',e=.returned v/\BF G'.I G'.bl s v r/\Aft K G w σ4 G' s) a4.defers .returning w4:=by
    rw[hd4];refine⟨by simp,.inl ⟨D,w5,rfl,by rw[<-hw5];exact run_takeDeferred N,?_⟩⟩
    exact⟨v,q,v,_,rfl,J,R⟩
   rcases he4 with rfl | rfl
   ·exact y
   ·exact y
 ·cases h
end
end Go.Abs

namespace Go.Abs.Z
open Go.Abs.T
def lf57:LFn:=⟨2,35,0,[R [o 2 (.p .bx) [s 0],o 3 (.p .bx) [s 1],v 4 (S [])],R [o 5 (.w (.alB 125 5)) []],R [o 9 (f 4) [s 3],o 10 L1 [s 9],o 6 (.w (.alO [.nils])) [],u (.w (.st 1)) [s 6,s 10]],R [o 11 (.p (.mkf 112 0)) [s 6,s 5,s 2],o 7 (.w (.alO [.nilf])) [],u (.w (.st 1)) [s 7,s 11]]],R [o 12 (.r (.ld 8 true)) [s 2],o 13 L5 [s 3],o 14 (c 114) [s 12,s 13]],14,R [o 8 (.p (.zi 4)) [],h (.p (.sti 4)) [s 8,s 15] [8]],B 1 (q (R [o 16 L1 [s 7],o 17 (f 2) [s 8],o 18 L1 [s 17],o 19 (.w .DC) [s 16,s 18]]) (R [o 20 (f 0) [s 2],o 21 L1 [s 20],o 22 (f 1) [s 8],o 23 L1 [s 22],o 24 (f 3) [s 8],o 25 L1 [s 24],o 26 (.p (.ssl true true)) [s 21,s 23,s 25],o 27 (w 113) [s 5,s 26]])),q (R [o 28 L1 [s 7],o 29 (f 0) [s 2],o 30 L1 [s 29],o 31 (.p (.len true)) [s 30],o 32 (y .add) [s 31,i 1],o 33 (.w .DC) [s 28,s 32]]) (q (R [o 34 (w 115) [s 5],m 4 34]) .ret),t (t (t (t (t (t (t (t (t (t (t (t (t (t (t (t (t (t (t (t (t (t (t (t (t (t (t (t (t (t (t (t (t (t (t [])))))))))))))))))))))))))))))))))),t (t (t (t (t (t (t (t (f1 (t (t (t (t (t (t (f8 (f4 (f1 (t (t (t (t (t (t (t [])))))))))))))))))))))))),t (t (t (t (t (t (t (t (t (t (t (t (t (t (t (t (t (t (t (t (t (t (t (t (t (t (t (t (t (t (t (t (t (t (t [])))))))))))))))))))))))))))))))))),[(15,0)],1,[(4,none)],t (t (t (t (t (t (t (t (f1 (t (t (t (t (t (t (f8 (f4 (f1 (t (t (t (t (t (t (t []))))))))))))))))))))))))⟩
def lf60:LFn:=⟨1,49,0,[R [o 1 (.p .bx) [s 0],v 2 (.bool false)],R [o 8 (c 118) [],o 3 (.p (.zi 1)) [],h (.p (.sti 1)) [s 3,s 8] [3]],R [o 4 (.p (.zl (.bool false))) [],h (.p (.stl 0 1)) [s 4,b true] [4]]],R [o 9 L5 [s 1],o 10 (c 119) [s 9]],10,R [o 5 (.p (.zi 5)) [],h (.p (.sti 5)) [s 5,s 11] [5]],B 1 (q (R [o 13 L1 [s 3],o 14 (f 0) [s 5],o 15 L1 [s 14],o 16 (.p (.look (.agg [.nilf,.nils,.nilf,I 0]) true true)) [s 13,s 15],m 12 16,o 17 (.p (.ext 0)) [s 12],o 18 (.p (.ext 1)) [s 12],o 6 (.p (.zi 4)) [],h (.p (.sti 4)) [s 6,s 17] [6],m 7 18]) (q (R [o 19 (.p (.ldl 0 1 false)) [s 4],m 20 19,n 20 true 21 7,o 22 pk [s 20,s 21,b false],m 23 22,g 23 true 24 (.r (.ld 4 true)) [s 6],g 23 true 25 L5 [s 5],g 23 true 26 (c 120) [s 24,s 25],o 27 pk [s 23,s 26,b false],h (.p (.stl 0 1)) [s 4,s 27] [4]]) (q (R [o 28 (f 0) [s 5],o 29 L1 [s 28],o 30 (y .eql) [s 29,i 4],m 31 30,g 31 true 32 (.p (.ldl 0 1 false)) [s 4],o 33 pk [s 31,s 32,b false]]) (C 33 (R [o 34 (f 4) [s 5],o 35 L1 [s 34],o 36 (.p (.idx 5)) [s 35,i 0],o 37 (f 1) [s 36],o 38 L1 [s 37],o 39 (y .eql) [s 38,.val (S [105,110,116])],m 40 39,g 40 false 41 (f 4) [s 5],g 40 false 42 L1 [s 41],g 40 false 43 (.p (.idx 5)) [s 42,i 0],g 40 false 44 (f 1) [s 43],g 40 false 45 L1 [s 44],g 40 false 46 (y .eql) [s 45,.val (S [98,111,111,108])],o 47 pk [s 40,b true,s 46],h (.p (.stl 0 1)) [s 4,s 47] [4]]) .skip)))),q (R [o 48 (.p (.ldl 0 1 false)) [s 4],m 2 48]) .ret,t (t (t (t (t (t (t (t (t (t (t (t (t (t (t (t (t (t (t (t (t (t (t (t (t (t (t (t (t (t (t (t (t (t (t (t (t (t (t (t (t (t (t (t (t (t (t (t (t [])))))))))))))))))))))))))))))))))))))))))))))))),t (t (t (t (t (f2 (f1 (t (t (t (f32 (f4 (f1 (t []))))))))))))),t (t (t (t (t (t (t (t (t (t (t (t (t (t (t (t (t (t (t (t (t (t (t (t (t (t (t (t (t (t (t (t (t (t (t (t (t (t (t (t (t (t (t (t (t (t (t (t (t [])))))))))))))))))))))))))))))))))))))))))))))))),[(11,0)],1,[(2,none)],t (t (t (t (f4 (t (t (t (f32 (f4 (f1 (t [])))))))))))⟩
end Go.Abs.Z

namespace Go.Abs
open Go.RowKit
structure Split where
 rg:Code
 bid:Nat
 g:Nat
 ps:Array Tmp
 assign:Code
 body:Code
 post:Code
def SH:Code->Option (List Code×Split)
 |.seq (.seq i (.block h (.rangeFunc (.tmp g) ps c d))) e=>some ([],⟨i,h,g,ps,c,d,e⟩)
 |.seq a b=>(SH b).map λr=>(a::r.1,r.2)
 |_=>none
def nO:∀(c:Code) (d:List Code) (s:Split),SH c=some (d,s)->c=AqH d (.seq (.seq s.rg (.block s.bid (.rangeFunc (.tmp s.g) s.ps s.assign s.body))) s.post):=by
 intro c
 induction c with
 |seq a b o i=>
  intro d s h;unfold SH at h
  split at h
  ·rename_i t m g ps e j k f;cases f;cases h;rfl
  ·rename_i x y r f;cases f;obtain⟨⟨l,q⟩,n,p⟩:=Ac.1 h;cases p;rw[i _ _ n];rfl
  ·cases h
 |_=>intro d s h;simp[SH] at h
def Po(fi:FI)(N:Nat):List Bool:=(List.range N).map λt=>(fi.kind t).Nk||decide (fi.kind t=.box)
def Jv(fi:FI)(N:Nat)(ps:Array Tmp)(a b:Code):List Bool:=
 (List.range N).map λt=>((fi.kind t).Nk||decide (fi.kind t=.box))&&(EX t a&&EX t b&&ps.all (λp=>p != t))
def Sn(fi:FI)(N:Nat)(ps:Array Tmp)(a b:Code):List Bool:=
 (List.range N).map λt=>(fi.kind t).Nk&&(EX t a&&EX t b&&ps.all (λp=>p != t))
def nodupB:List Nat->Bool
 |[]=>true
 |x::xs=>!xs.contains x&&nodupB xs
def pF:Nat->List Nat->List (Nat×Nat)
 |_,[]=>[]
 |i,p::ps=>(p,i)::pF (i+1) ps
def aG(P:Program)(pur:FuncId->Bool)(fi:FI)(a:Func):Option LFn:=
 match a.body with
 |some c=>match SH c with
  |some (g,s)=>match UB P pur fi g,comp P pur fi s.rg,comp P pur fi s.assign,comp P pur fi s.body,comp P pur fi s.post,Jd P fi a.results.toList with
   |some d,some f,some e,some i,some b,some h=>
    if fi.nt=a.ntmps/\fi.okB=true/\(List.range (a.params.size+a.nfree)).all (λt=>(fi.kind t).Nk)=true/\(fi.kind s.g).Nk=true/\s.ps.toList.all (λp=>decide (p<fi.nt)&&(fi.kind p).Nk)=true/\nodupB s.ps.toList=true then
     some { nargs:=a.params.size+a.nfree,ntmps:=a.ntmps,extra:=fi.ps.length,pre:=d,rg:=f,g:=s.g,aca:=e,ac:=i,post:=b,La:=Po fi (a.ntmps+fi.ps.length),L:=Jv fi (a.ntmps+fi.ps.length) s.ps s.assign s.body,Lr:=Po fi (a.ntmps+fi.ps.length),ds:=pF 0 s.ps.toList,nps:=s.ps.size,res:=h,Lv:=Sn fi (a.ntmps+fi.ps.length) s.ps s.assign s.body }
    else none
   |_,_,_,_,_,_=>none
  |none=>none
 |none=>none
section
variable{P:Program}{pur:FuncId->Bool}{fi:FI}
def Jg{N:Nat}{f:Nat->Bool}{t:Nat}(h:((List.range N).map f).getD t false=true):f t=true:=by
 rw[BA,Al] at h;cases a:(List.range N)[t]? with
 |none=>rw[a] at h;cases h
 |some u=>
  rw[a] at h;obtain⟨c,b⟩:=Ad.1 a;rw[List.getElem_range] at b;subst b;exact h
def Q9(N:Nat):okL fi (Po fi N)=true:=by
 unfold okL;rw[Au];intro t _;cases h:(Po fi N).getD t false with
 |false=>rfl
 |true=>
  have:=Jg h;simp only[F3,CS];exact this
def vX(N:Nat)(ps:Array Tmp)(a b:Code):okL fi (Jv fi N ps a b)=true:=by
 unfold okL;rw[Au];intro t _;cases h:(Jv fi N ps a b).getD t false with
 |false=>rfl
 |true=>
  have:=Jg h;simp only[F3,CS];rw[Aj] at this;exact this.1
def oI(N:Nat)(ps:Array Tmp)(a b:Code):oJ (Jv fi N ps a b) ps a b=true:=by
 unfold oJ;rw[Au];intro t _;cases h:(Jv fi N ps a b).getD t false with
 |false=>rfl
 |true=>
  have:=Jg h;simp only[F3,CS];rw[Aj] at this;exact this.2
def gm{N:Nat}{f:Nat->Bool}{t:Nat}(h:t<N)(a:f t=true):((List.range N).map f).getD t false=true:=by
 rw[BA,Al,FO h];exact a
def xg{N:Nat}{ps:Array Tmp}{a b:Code}{t:Nat}(h:(Sn fi N ps a b).getD t false=true):(Jv fi N ps a b).getD t false=true/\(fi.kind t).val=true:=by
 have e:t<N:=by
  rcases Be t N with d | d
  ·exact d
  ·rw[BA,Ey (by simpa [Sn] using d)] at h;cases h
 have c:=Jg h;rw[Aj] at c;exact⟨gm e (by rw[c.1,c.2];rfl),Kj c.1⟩
def Ri{t:Nat}:∀(l:List (Nat×Value)) (b:Array Value),(∀d∈l,d.1≠t)->(l.foldl (λt d=>t.setIfInBounds d.1 d.2) b).getD t undef=b.getD t undef
 |[],b,_=>rfl
 |d::l,b,h=>by
  rw[F9,Ri l _ (λc e=>h c (AP _ e))]
  have:=h d (AV ..);simp only[Ao];rw[DK this]
def Ug{t:Nat}{i:Nat}:∀(ps:List Nat) (v:List Value) (k:Nat) (c:Array Value),nodupB ps=true->v.length=ps.length->t<c.size->(t,i)∈pF k ps->((ps.zip v).foldl (λt d=>t.setIfInBounds d.1 d.2) c).getD t undef=v.getD (i - k) undef/\k<=i
 |[],v,k,c,_,_,_,b=>by cases b
 |p::ps,[],k,c,_,h,_,_=>by cases h
 |p::ps,x::v,k,c,l,h,m,b=>by
  rw[nodupB,Aj] at l;simp only[pF,AU,Prod.mk.injEq] at b;rw[List.zip_cons_cons,F9];rcases b with⟨rfl,rfl⟩ | b
  ·rw[Ri]
   ·simp[m]
   ·intro d n e;have g:(d.1,d.2)∈ps.zip v:=n;have j:=(List.of_mem_zip g).1;rw[e] at j;have f:=l.1;simp[j] at f
  ·obtain⟨f,j⟩:=Ug ps v (k+1) (c.setIfInBounds p x) l.2 (by simpa using h) (by simpa using m) b
   refine⟨?_,am⟩
   rw[f,show i - k=(i - (k+1))+1 from am]
   simp
def gN{t i:Nat}:∀{ps:List Nat} {k:Nat},(t,i)∈pF k ps->t∈ps
 |p::ps,k,h=>by
  simp only[pF,AU,Prod.mk.injEq] at h;rcases h with⟨rfl,_⟩ | h
  ·exact AV ..
  ·exact AP _ (gN h)
def XA{f:FuncId}{p:Func}{w:LFn}{m:Nat}{g:FuncId->List PV->Option (List (List PV))}(j:y7 P g)(u:P.follows .mixedOrders=true)(o:P.funcs[f]?=some p)(b:(p.name == "runtime.NumGoroutine")=false)
  (h:aG P pur fi p=some w):Jo P f (SQ pur g m w):=by
 unfold aG at h
 split at h
 case h_2=>cases h
 rename_i c a
 split at h
 case h_2=>cases h
 rename_i k s H
 split at h
 case h_2=>cases h
 rename_i z I R T q S A N C D B E
 split at h
 case isFalse=>cases h
 rename_i r;obtain⟨G,c2,O,J,F,M⟩:=r;cases h;have L:=nO c k s H;subst L;refine BZB (fi:=fi) j u o b c2 G rfl rfl a rfl rfl A N C D B E O J (Q9 _) (vX _ _ _ _) (Q9 _) (oI _ _ _ _) (by simp[Po,Jv]) (λt Q=>xg Q) ?_
 rintro⟨t,i⟩ x
 have e:=gN x;have n:=Au.1 F t e;simp only[Aj,decide_eq_true_eq] at n;refine⟨Kj n.2,λv y K l=>?_⟩
 have:=(Ug (t:=t) (i:=i) s.ps.toList v.toList 0 y M (by simpa using K) (by rw[l];exact n.1) x).1
 rw[<-Fa,Array.toList_zip];show((s.ps.toList.zip v.toList).foldl (λt d=>t.setIfInBounds d.1 d.2) y).getD t undef=_
 rw[this];simp[BA,Ao]
end
end Go.Abs

namespace Go.Abs.Z
open Go.Proofs
def BVL:aG Tryz.prog pur fi57 Tryz.f57=some lf57:=by kernel_rfl
def BVK:aG Tryz.prog pur fi60 Tryz.f60=some lf60:=by kernel_rfl
end Go.Abs.Z

namespace Go.Abs.Z
def Tv:Nw:=λ_ xs a=>match xs with
 |[.ref id 0,.str s]=>match a[id]? with
  |some [.bld t e l]=>if t=125/\e=5/\l.length+s.length<=4294967296 then some (.tuple [.int .i64 s.length,.nili],a.set id [.bld t e (l++s)]) else none
  |_=>none
 |_=>none
def ZM:Nw:=λ_ xs a=>match xs with
 |[.ref id 0]=>match a[id]? with
  |some [.bld t e l]=>if t=125/\e=5 then some (.str l,a.set id [.dead]) else none
  |_=>none
 |_=>none
def OH:Nw:=λ_ xs b=>match xs with
 |[.str s,.int .u8 c]=>if 0<=c/\c<256 then some (.int .i64 (Lib.indexByte s c.toNat.toUInt8),b) else none
 |_=>none
def Oi:PV->Bool
 |.slice _ _ _ | .nils=>true
 |_=>false
mutual

def JO:Nat->PV->Option (List PV)
 |0,_=>none
 |n+1,v=>match v with
  |.agg [.int .i64 _,.str _,.int .i64 _,.int .i64 _,x]=>match x with
   |.nils=>some [v]
   |.slice _ 5 ks=>(Ii n ks).map λl=>v::l
   |_=>none
  |_=>none
def Ii:Nat->List PV->Option (List PV)
 |0,_=>none
 |n+1,vs=>match vs with
  |[]=>some []
  |v::vs=>match JO n v,Ii n vs with
   |some l,some r=>some (l++r)
   |_,_=>none
end
def inP(t n:PV):Option Bool:=match t,n with
 |.agg [.int .i64 k,.int .i64 _,.int .i64 a,.int .i64 e],.agg [.int .i64 _,.str _,.int .i64 st,.int .i64 en,x]=>if Oi x then some (k != 5&&(decide (st<=a)&&decide (e<=en))) else none
 |_,_=>none
def yH(t:PV):List PV->Option Bool
 |[]=>some false
 |k::ks=>match inP t k with
  |some true=>some true
  |some false=>yH t ks
  |none=>none
def AYV(t n:PV)(kd:Int)(ks:List PV):Option Bool:=match inP t n,t with
 |some b,.agg (.int .i64 k::_)=>if b||(k==5&&kd==2) then(yH t ks).map (! ·) else some false
 |_,_=>none
def eY(n:PV)(kd:Int)(ks:List PV):List PV->Option (List PV)
 |[]=>some []
 |t::ts=>match AYV t n kd ks,eY n kd ks ts with
  |some true,some l=>some (t::l)
  |some false,some l=>some l
  |_,_=>none
def ai:PV->Bool
 |.agg [.int .i64 _,.str _,.int .i64 _,.int .i64 _,x]=>Oi x
 |_=>false
def small(l:List PV):Bool:=decide (l.length<=1000000000)
def fJ:PV->Option (List PV)
 |.nils=>some []
 |.slice _ 5 ks=>some ks
 |_=>none
def itr(d:FuncId)(a:List PV):Option (List (List PV)):=
 if d=172 then match a with
  |[.vptr v]=>match JO 1000000 v with
   |some l=>if small l then some (l.map λx=>[x.Ag]) else none
   |none=>none
  |_=>none
 else if d=159 then match a with
  |[.vptr (.agg [.str _,.int .i64 _,.str _,.int .i64 _,.int .i64 _,k0,.slice _ 4 b,.bool _]),.vptr (.agg [.int .i64 kd,.str tx,.int .i64 st,.int .i64 en,c])]=>
   if Oi k0 then match fJ c with
    |some ks=>match eY (.agg [.int .i64 kd,.str tx,.int .i64 st,.int .i64 en,c]) kd ks b with
     |some l=>if small b&&(small ks&&ks.all ai) then some (l.map λx=>[x.Ag]) else none
     |none=>none
    |none=>none
   else none
  |_=>none
 else none
end Go.Abs.Z

namespace Go.Abs.Z
open Go.Proofs Go.RowKit
def pq{G:Gh}{K:Nat->Prop}{w e:World}{f:Sto}(a:Pre K G w f)(d:Below w.heap.size w e):Ext (λ_=>False) G G w e:=
 ⟨λ_ _ h=>h,⟨λb o h=>cell_of_heap (d.block b (a.lt b _ h)),λb h=>d.block b (a.lt b _ h)⟩,Bl.le_refl _,λid i j g=>rfl,λb c h _=>⟨h,d.block b (a.own b c h).1,λ_ h=>h⟩⟩
def Kl{G:Gh}{K:Nat->Prop}{w f:World}{e:Sto}(a:Pre K G w e)(c:Below w.heap.size w f):Aft K G w e G f:=by
 have g:=pq a c
 exact⟨λb h=>c.block b (a.Klt b h),g.same,λ_ _ h=>h,λ_ _ h=>.inl h,λb x h=>Bj (a.lt b x h) c.size,
  λb d h=>⟨Bj (a.own b d h).1 c.size,(a.own b d h).2⟩,c.size,Bl.le_refl _,c.os,c.tape,c.output,λid cs h=>(a.obj id cs h).ext g (λ_ h=>h),a.len,a.abl⟩
def GH{f:FuncId}{vs:Array Value}{w:World}{n:Nat}{R:Ending->World->Prop}(h:Calls Tryz.prog f vs w R):CallsIn (FW none) n Tryz.prog f vs w R:=callsIn_wide.2 h
def Nv{I:Imm}{bl:Bl}{w:World}{vs:Array Value}{p q:PV}(h:FX I bl w vs.toList [p,q]):∃v u,vs=#[v,u]/\BF I bl w v p/\BF I bl w u q:=by
 obtain⟨v,c,g⟩:=h.2 0 p rfl;obtain⟨u,d,e⟩:=h.2 1 q rfl;have f:=h.1
 match vs,f,c,d with
 |⟨[a,b]⟩,_,c,d=>
  simp at c d;subst c d;exact⟨a,b,rfl,g,e⟩
def Js{I:Imm}{bl:Bl}{w:World}(l:List UInt8):BF I bl w (.string ⟨l.toArray⟩) (.str l):=by
 have:=Rep.str (I:=I) (w:=w) ⟨l.toArray⟩;exact .one (.inl (by simpa using this))
def lu:(Tryz.prog.info? 125).map (·.size)=some 2:=by kernel_rfl
def AxY:liesAt Tryz.prog Tryz.prog.depth 125 (2 / Tryz.prog.cellsOf 125) 0 125 1=true:=by kernel_rfl
def info5:(Tryz.prog.info? 5).map (λi=>(i.zero,i.size,i.bytes))=some (some (.int .u8 0),1,1):=by kernel_rfl
def cells5:Tryz.prog.cellsOf 5=1:=by kernel_rfl
set_option maxHeartbeats 1000000 in
set_option maxRecDepth 100000 in
def Uz(b:Nat)(w:World)(h0:w.cell? ⟨b,0,none⟩=some (.pointer (some ⟨b,0,none⟩))):
  Calls Tryz.prog 158 #[.pointer (some ⟨b,0,none⟩)] w λe w'=>e=.returned (.tuple #[])/\w'=w:=by
 obtain⟨j,hj,_⟩:=Ac.1 lu
 go_enter Tryz.func158,Tryz.ntmps158
 go_wp2
 rw[Lib.run_neq_ptr_same w _ Tryz.underlying122 hj]
 go_wp2
 go_end0
 exact⟨rfl,rfl⟩
set_option maxHeartbeats 1000000 in
set_option maxRecDepth 100000 in
def RF(b:Nat)(w:World)(h0:w.cell? ⟨b,0,none⟩=some (.pointer none))(hsh:w.shape? b=some (125,2))(hfz:w.frozen? ⟨b,0,none⟩=false):
  Calls Tryz.prog 158 #[.pointer (some ⟨b,0,none⟩)] w λe w'=>e=.returned (.tuple #[])/\w'=w.setCell ⟨b,0,none⟩ (.pointer (some ⟨b,0,none⟩)):=by
 obtain⟨j,hj,hjs⟩:=Ac.1 lu
 go_enter Tryz.func158,Tryz.ntmps158
 go_wp2
 rw[Lib.run_to_unsafe w ⟨b,0,none⟩ Tryz.underlying122 Tryz.underlying196 hj (by rw[hjs];decide) hsh (Nat.zero_lt_succ 1)]
 simp only[Result.andThen];rw[Oper.upon_value]
 go_wp2
 rw[run_callFunc_extern Tryz.func240 (by kernel_rfl) (by kernel_rfl) (by kernel_rfl) (e:=Extern.AbiNoEscape.same) (by kernel_rfl)]
 rw[Lib.run_noEscape];simp only[Result.andThen];rw[Oper.upon_value]
 go_wp2
 rw[Lib.run_from_unsafe w ⟨b,0,none⟩ Tryz.underlying196 Tryz.underlying122 hj hsh AxY];simp only[Result.andThen];rw[Oper.upon_value]
 go_wp2
 go_end0
 exact⟨rfl,rfl⟩
def pW{w:World}{v:Value}{l:List UInt8}(o:w.ownsRow 0 5 1 v l.length (l.map λc=>Value.int .u8 c.toNat))(s:ByteArray)(T:l.length+s.size<=4294967296):
  ∃e f,(∀m,(Builtin.append_ #[123,9] m #[v,.string s]).run Tryz.prog w=.ok e f)/\f.ownsRow 0 5 1 e (l.length+s.size) ((l.map λc=>Value.int .u8 c.toNat)++Lib.strCells s)/\
   w.grownBy f v.ownBlock/\(e.ownBlock=v.ownBlock\/e.ownBlock=some w.heap.size):=by
 obtain⟨A,hi,u,n,t⟩:=info_parts info5
 have B:∀m,∃e f,(Builtin.append_ #[123,9] m #[v,.string s]).run Tryz.prog w=.ok e f/\f.ownsRow 0 5 1 e (l.length+s.size) ((l.map λc=>Value.int .u8 c.toNat)++Lib.strCells s)/\
   w.grownBy f v.ownBlock/\(e.ownBlock=v.ownBlock\/e.ownBlock=some w.heap.size):=by
  intro m;obtain⟨e,f,i,C,D,G⟩:=Lib.run_append_own_string (P:=Tryz.prog) w 0 123 9 m 5 A Tryz.underlying123 Tryz.underlying9 hi u n t v l.length _ o s (by unfold maxLen;omega) am (Ca _)
  refine⟨e,f,i,C,D,?_⟩
  have H:s.size=s.data.toList.length:=Lib.size_eq s
  obtain⟨d,h,_⟩:=SF (P:=Tryz.prog) (G:=⟨λ_ _=>False,λ_=>none,Bl.nil⟩) (w:=w) (size:=1) (by decide) (xT:=9) (.inr Tryz.underlying9) (bl:=Bl.nil) (v:=.string s) (x:=.str s.data.toList) (.one (.inl (.str s)))
   (xs:=s.data.toList.map λb=>.int .u8 b.toNat) rfl (by rw[Au];intro p M;obtain⟨_,_,rfl⟩:=E8.1 M;rfl)
  rw[Ap,<-H] at h;have k:=h;rw[<-n] at k;rcases o.2 with⟨rfl,Q⟩ | ⟨g,cap,P,rfl,_,E,N,O,S,z⟩
  ·by_cases J:s.size=0
   ·have:=G.2 ⟨rfl,J⟩;rw[this];exact .inl rfl
   ·have y:=run_append_grow_src w 123 9 m 5 A (.int .u8 0) Tryz.underlying123 hi u none 0 0 [] (run_firstCells_none _ _ _ _ _) (.string s) s.size d k am am
     (by rw[t];have:=nextslicecap_le (need:=0+s.size) (old:=0) am;omega)
    rw[y] at i;cases i;exact .inr rfl
  ·by_cases q:l.length+s.size<=cap
   ·have L:d.length=s.size:=by rw[h.newsLen];omega
    have I:=run_append_room_src w 123 9 m 5 A Tryz.underlying123 hi g 0 l.length cap (.string s) s.size d k q
     (by intro j R;rw[n];simp only[World.cell?,E];simp;omega)
     (by intro j R;simp[World.frozen?,E])
    rw[I] at i;cases i;exact .inl rfl
   ·have y:=run_append_grow_src w 123 9 m 5 A (.int .u8 0) Tryz.underlying123 hi u (some ⟨g,0,none⟩) l.length cap (l.map λc=>Value.int .u8 c.toNat)
     (by
      rw[n];refine run_firstCells_some w.drew 1 l.length ⟨g,0,none⟩ _ _ _ (by simp) ?_
      intro j x K;have F:j<l.length:=by have:=(Ad.1 K).1;simpa using this
      rw[FM,BB];show w.cell? ⟨g,j,none⟩=some x;simp only[World.cell?,E];rw[<-z,Gg,CO,if_pos F,Bc] at K;exact K) (.string s) s.size d k am am
     (by rw[t];have:=nextslicecap_le (need:=l.length+s.size) (old:=cap) am;omega)
    rw[y] at i;cases i;exact .inr rfl
 obtain⟨e,f,i,C,D,G⟩:=B 0;exact⟨e,f,λm=>i,C,D,G⟩
def uK{w:World}{b:Nat}{p v x:Value}{t:TypeId}(h:w.heap[b]?=some (.cells #[p,v] t (0,0))):(w.setCell ⟨b,0,none⟩ x).heap[b]?=some (.cells #[x,v] t (0,0)):=by
 simp only[World.setCell,Dh,if_true,h];rfl
def uJ{w:World}{b:Nat}{p v x:Value}{t:TypeId}(h:w.heap[b]?=some (.cells #[p,v] t (0,0))):(w.setCell ⟨b,1,none⟩ x).heap[b]?=some (.cells #[p,x] t (0,0)):=by
 simp only[World.setCell,Dh,if_true,h];rfl
def Ic(w:World)(b o:Nat)(x:Value):Iw b w (w.setCell ⟨b,o,none⟩ x):=
 ⟨λk a=>Below.heap_setCell _ _ _ _ a,by simp[World.setCell],rfl,rfl,rfl⟩
def Wm(b:Nat)(w:World)(p v:Value)(g:p=.pointer none\/p=.pointer (some ⟨b,0,none⟩))(a:w.heap[b]?=some (.cells #[p,v] 125 (0,0))):
  Calls Tryz.prog 158 #[.pointer (some ⟨b,0,none⟩)] w λe c=>e=.returned (.tuple #[])/\(c.heap[b]?=some (.cells #[.pointer (some ⟨b,0,none⟩),v] 125 (0,0))/\Iw b w c):=by
 have d:w.cell? ⟨b,0,none⟩=some p:=by simp[World.cell?,a]
 rcases g with rfl | rfl
 ·refine(RF b w d (by simp[World.shape?,a]) (by simp[World.frozen?,a])).mono ?_
  rintro e c ⟨rfl,rfl⟩
  exact⟨rfl,uK a,Ic ..⟩
 ·refine(Uz b w d).mono ?_
  rintro e c ⟨rfl,rfl⟩
  exact⟨rfl,a,⟨λ_ _=>rfl,rfl,rfl,rfl,rfl⟩⟩
def Og{w f:World}{b:Nat}{v:Value}{n:Nat}{xs:List Value}(c:Iw b w f)(a:v.ownBlock≠some b)(h:w.ownsRow 0 5 1 v n xs):f.ownsRow 0 5 1 v n xs:=by
 refine⟨h.1,?_⟩
 rcases h.2 with h | ⟨g,cap,d,rfl,j,i,r⟩
 ·exact .inl h
 ·exact .inr ⟨g,cap,d,rfl,j,by rw[c.other g (λe=>a (by rw[e];rfl))];exact i,r⟩
def wpList_append_run{P:Program}{w:World}{ops:Array Oper}{b:List Oper}{o:Oper}{a:Act}{Q:Exit->Act->World->Prop}(c:o.guard=none)(f x:Operand)(t u:TypeId)
  (m:o.op=.call { callee:=.builtin .append,args:=#[f,x],argTypes:=#[t,u] }) {v y d:Value} {e:World} (i:a.eval f=v) (l:a.eval x=y)
  (k:∀g,(Builtin.append_ #[t,u] g #[v,y]).run P w=.ok d e) (h:wpList P ops Q b (a.put o.dst d) e):wpList P ops Q (o::b) a w:=by
 refine wpList_plain c λK j=>?_
 unfold Oper.wp execOp;simp only[m,resolve,invoke,builtin,Sem.run_bind,Sem.run_pure,Result.andThen_ok,List.map_toArray,Bu,CK,i,l,k];exact j _ _ h
def BW1(w:World)(b:Nat)(v:Value)(n:Nat)(xs:List Value)(e:Ending)(r:Value)(a:World):Prop:=
 e=.returned r/\∃c,a.heap[b]?=some (.cells #[.pointer (some ⟨b,0,none⟩),c] 125 (0,0))/\a.ownsRow 0 5 1 c n xs/\(c.ownBlock=v.ownBlock\/c.ownBlock=some w.heap.size)/\c.ownBlock≠some b/\
  (∀k,k<w.heap.size->k≠b->some k≠v.ownBlock->a.heap[k]?=w.heap[k]?)/\w.heap.size<=a.heap.size/\a.os=w.os/\a.tape=w.tape/\a.output=w.output
set_option maxHeartbeats 2000000 in
set_option maxRecDepth 100000 in
def bD(b:Nat)(w:World)(p v:Value)(l:List UInt8)(s:ByteArray)(hp:p=.pointer none\/p=.pointer (some ⟨b,0,none⟩))(hbk:w.heap[b]?=some (.cells #[p,v] 125 (0,0)))
  (hown:w.ownsRow 0 5 1 v l.length (l.map λc=>Value.int .u8 c.toNat)) (hne:v.ownBlock≠some b) (hlen:l.length+s.size<=4294967296) :
  Calls Tryz.prog 113 #[.pointer (some ⟨b,0,none⟩),.string s] w λe w'=>BW1 w b v (l.length+s.size) ((l.map λc=>Value.int .u8 c.toNat)++Lib.strCells s) e (.tuple #[.int .i64 s.size,.nilIface]) w':=by
 go_enter Tryz.func113,Tryz.ntmps113
 go_wp2_with (go_at_call 158;refine(Wm b w p v hp hbk).mono ?_)
 rintro e w1 ⟨rfl,hb1,hob⟩
 obtain⟨v',w2,happ,hown2,hgrow,hblk⟩:=pW (Og hob hne hown) s hlen
 have hlt:b<w1.heap.size:=by
  rcases Be b w1.heap.size with h' | h'
  ·exact h'
  ·simp[DN h'] at hb1
 have hb2:w2.heap[b]?=some (.cells #[.pointer (some ⟨b,0,none⟩),v] 125 (0,0)):=by
  rw[hgrow.block b hlt (λe=>hne e.symm)];exact hb1
 have c1:w1.cell? ⟨b,1,none⟩=some v:=by simp[World.cell?,hb1]
 have d1:w2.cell? ⟨b,1,none⟩=some v:=by simp[World.cell?,hb2]
 have f1:w2.frozen? ⟨b,1,none⟩=false:=by simp[World.frozen?,hb2]
 obtain⟨ao,n',cap,rfl⟩:∃ao n' cap,v'=.slice ao n' cap:=by
  rcases hown2.2 with⟨hv,_⟩ | ⟨g,cap,cur,hv,_⟩
  ·exact⟨_,_,_,hv⟩
  ·exact⟨_,_,_,hv⟩
 have HB2:=Lib.hid hb2;clear hb2;have HOB:=Lib.hid hob;clear hob;have HB1:=Lib.hid hb1;clear hb1;have HBK:=Lib.hid hbk;clear hbk;have HG:=Lib.hid hgrow;clear hgrow;have HBL:=Lib.hid hblk;clear hblk;have HN:=Lib.hid hne;clear hne;have HP:=Lib.hid hp;clear hp;have HA:=Lib.hid happ;clear happ
 go_wp2_with (at_builtin;refine wpList_append_run rfl _ _ 123 9 rfl rfl rfl HA.out ?_)
 go_ret2
 have hsz:w1.heap.size=w.heap.size:=HOB.out.size
 have hne2:(Value.slice ao n' cap).ownBlock≠some b:=by
  rcases HBL.out with h | h
  ·rw[h];exact HN.out
  ·rw[h];intro e;have:=Option.some.inj e;omega
 refine⟨rfl,.slice ao n' cap,uJ HB2.out,Og (Ic w2 b 1 _) hne2 hown2,?_,hne2,λk hk hkb hkv=>?_,?_,?_,?_,?_⟩
 ·rcases HBL.out with h | h
  ·exact .inl h
  ·right;rw[h,hsz]
 ·rw[(Ic w2 b 1 _).other k hkb,HG.out.block k am hkv,HOB.out.other k hkb]
 ·have:=HG.out.size;show w.heap.size<=(w2.setCell ⟨b,1,none⟩ _).heap.size;rw[(Ic w2 b 1 _).size];omega
 ·show w2.os=_;rw[HG.out.os,HOB.out.os]
 ·show w2.tape=_;rw[HG.out.tape,HOB.out.tape]
 ·show w2.output=_;rw[HG.out.output,HOB.out.output]
def RA(w:World)(g n:Nat):Iw g w (w.drew.freeze ⟨g,0,none⟩ n):=by
 refine⟨λk a=>?_,?_,?_,?_,?_⟩
 ·simp only[World.freeze];split
  ·rfl
  ·simp only[Dh];rw[if_neg (λe=>a e.symm)];rfl
 all_goals (simp only[World.freeze];split<;>first | rfl | (rw[Array.size_modify];rfl))
set_option maxHeartbeats 1000000 in
set_option maxRecDepth 100000 in
def Wo(b g cap:Nat)(w:World)(p:Value)(cur:Array Value)(l:List UInt8)(h0:l≠[])(hbk:w.heap[b]?=some (.cells #[p,.slice (some ⟨g,0,none⟩) l.length cap] 125 (0,0)))(hg:w.heap[g]?=some (.cells cur 5 (0,0)))
  (hnc:l.length<=cap) (hcm:cap<=maxLen) (hcs:cur.size=cap * 1) (htake:cur.toList.take (l.length * 1)=l.map λc=>Value.int .u8 c.toNat) :
  Calls Tryz.prog 115 #[.pointer (some ⟨b,0,none⟩)] w λe w'=>e=.returned (.string ⟨l.toArray⟩)/\w'=w.drew.freeze ⟨g,0,none⟩ l.length:=by
 have hl0:l.length≠0:=by simpa using h0
 have c1:w.drew.cell? ⟨b,1,none⟩=some (.slice (some ⟨g,0,none⟩) l.length cap):=by
  have:w.drew.heap[b]?=some (.cells #[p,.slice (some ⟨g,0,none⟩) l.length cap] 125 (0,0)):=hbk;simp[World.cell?,this]
 have hSD:(Builtin.unsafeSliceData_ #[123] 174 #[.slice (some ⟨g,0,none⟩) l.length cap]).run Tryz.prog w.drew=.ok (.pointer (some ⟨g,0,none⟩)) w.drew:=
  Lib.run_unsafeSliceData_row _ _ _ _ _ _ am
 have hUS:(Builtin.unsafeString_ #[174,3] 9 #[.pointer (some ⟨g,0,none⟩),.int .i64 l.length]).run Tryz.prog w.drew=.ok (.string ⟨l.toArray⟩) (w.drew.freeze ⟨g,0,none⟩ l.length):=by
  refine Lib.run_unsafeString_row w.drew 174 3 9 5 Tryz.underlying174 cells5 g cur.size (by have hg':w.drew.heap[g]?=some (.cells cur 5 (0,0)):=hg;simp[World.shape?,hg']) l h0 am (by unfold maxLen at hcm;omega) ?_
  intro j x hx;rw[FM,BB];show w.cell? ⟨g,j,none⟩=_;have hj:j<l.length:=(Ad.1 hx).1;have:(l.map λc=>Value.int .u8 c.toNat)[j]?=some (.int .u8 x.toNat):=by rw[Al,hx];rfl
  rw[<-htake,Gg,CO,if_pos hj,Bc] at this;simp[World.cell?,hg,this]
 clear htake hg
 go_enter Tryz.func115,Tryz.ntmps115
 go_wp2
 go_region
 all_goals (go_wp2;go_ret;exact⟨rfl,rfl⟩)
def yD{I:Imm}{bl:Bl}{w:World}{vs:Array Value}{p:PV}(h:FX I bl w vs.toList [p]):∃v,vs=#[v]/\BF I bl w v p:=by
 obtain⟨v,b,d⟩:=h.2 0 p rfl;have c:=h.1
 match vs,c,b with
 |⟨[a]⟩,_,b=>
  simp at b;subst b;exact⟨a,rfl,d⟩
def AUW:Ff Tryz.prog 113:=⟨Tryz.f113,Tryz.func113,by kernel_rfl,by kernel_rfl⟩
def AUV:Ff Tryz.prog 115:=⟨Tryz.f115,Tryz.func115,by kernel_rfl,by kernel_rfl⟩
def mg{K:Nat->Prop}{G:Gh}{w:World}{j:Sto}(c:Pre K G w j){id b:Nat}{t e:TypeId}{l:List UInt8}(m:G.bl.l[id]?=some b)(d:j[id]?=some [.bld t e l]):BOk G w b id t e l:=by
 obtain⟨o,g,n⟩:=c.obj id _ d;rw[m] at g;cases g;rcases n with⟨_,_,cs,i,_,_,h⟩ | ⟨q,p,r,f,h⟩ | h | ⟨_,_,_,h,_⟩ | ⟨_,_,_,_,h,_⟩
 rotate_right
 ·cases h
 ·have:=h 0 _ rfl;rcases this with⟨k,_⟩ | ⟨f,_⟩
  ·generalize cs.getD 0 undef=z at k;cases k;rename_i a;rcases a with a | a
   ·cases a
   ·first | exact a.elim | cases a | simp[Jn] at a
  ·cases f
 ·cases f;exact h
 ·cases h
 ·cases h
def aW{K:Nat->Prop}{G G':Gh}{w d:World}{D:Sto}(a:Pre K G w D){id:Nat}{cs:List PV}(M:id<D.length)
  (y:G'.I=G.I) (l:G'.bl=G.bl) (E:∀k b,G.ω k=some b->(∀j,b≠.obj id j)->G'.ω k=some b) (z:∀k b,G'.ω k=some b->G.ω k=some b\/(w.heap.size<=k/\k<d.heap.size))
  (c:∀k,k<w.heap.size->(∀j,G.ω k≠some (.obj id j))->d.heap[k]?=w.heap[k]?) (t:∀k j x,G.ω k=some (.obj id j)->G.I k x->d.cell? ⟨k,x.getD 0,none⟩=w.cell? ⟨k,x.getD 0,none⟩/\(x=none->d.heap[k]?=w.heap[k]?))
  (q:w.heap.size<=d.heap.size) (C:d.os=w.os) (r:d.tape=w.tape) (u:d.output=w.output) (v:Jp G' d id cs):Aft K G w (D.set id cs) G' d:=by
 have f:Same G.I w d:=by
  refine⟨λk o h=>?_,λk h=>?_⟩
  ·by_cases n:∃j,G.ω k=some (.obj id j)
   ·obtain⟨j,n⟩:=n;exact(t k j (some o) n h).1
   ·exact cell_of_heap (c k (a.lt k _ h) (λj m=>n ⟨j,m⟩))
  ·by_cases n:∃j,G.ω k=some (.obj id j)
   ·obtain⟨j,n⟩:=n;exact(t k j none n h).2 rfl
   ·exact c k (a.lt k _ h) (λj m=>n ⟨j,m⟩)
 have s:Ext (λJ=>∃j,J=.obj id j) G G' w d:=by
  refine⟨by rw[y];exact λ_ _ h=>h,f,by rw[l];exact Bl.le_refl _,λi hi I g=>by rw[l],λk b h I=>?_⟩
  have p:∀j,b≠.obj id j:=λj e=>I ⟨j,e⟩
  refine⟨E k b h p,c k (a.own k b h).1 (λj m=>?_),λx H=>by rw[y] at H;exact H⟩
  rw[h] at m;exact p j (Option.some.inj m)
 refine⟨λk A=>c k (a.Klt k A) (λj m=>(a.own k _ m).2 A),f,by rw[y];exact λ_ _ h=>h,by rw[y];exact λ_ _ h=>.inl h,by rw[y];exact λk x h=>Bj (a.lt k x h) q,
  λk b h=>?_,q,by rw[l];exact Bl.le_refl _,C,r,u,λi F B=>?_,by rw[l,C9];exact a.len,by rw[l,C9];exact a.abl⟩
 ·rcases z k b h with h | ⟨O,L⟩
  ·exact⟨Bj (a.own k b h).1 q,(a.own k b h).2⟩
  ·exact⟨L,λA=>by have:=a.Klt k A;omega⟩
 ·rw[EG] at B
  split at B
  ·rename_i e;subst e;cases B;exact v
  ·rename_i p;exact(a.obj i F B).ext s (λj m=>by obtain⟨N,e⟩:=m;cases e;exact p rfl)
def qz:Jo Tryz.prog 113 Tv:=by
 intro call hSc args σ r σ' hown h;refine⟨AUW,λn vs w G K E a=>?_⟩
 unfold Tv at h
 split at h
 ·rename_i id s
  split at h
  ·rename_i t e l I
   split at h
   ·rename_i hc;obtain⟨rfl,rfl,hlen⟩:=hc;cases h;obtain⟨v0,u,rfl,X,hu⟩:=Nv E;obtain⟨b,J,rfl⟩:=X.JB;obtain⟨M,rfl,rfl⟩:=hu.EC;obtain⟨A,U,p,v,hp,W,N,c⟩:=mg a J I;have Y:M.size=M.data.toList.length:=Lib.size_eq M;have Z:v.ownBlock≠some b:=λe=>(c b e).1 rfl
    have R:=(Ad.1 I).1;refine GH ((bD b w p v l M hp W N Z am).mono ?_)
    rintro e w' ⟨rfl,H,O,y,o,C,f,L,hos,D,T⟩
    let G':Gh:=⟨G.I,λk=>if H.ownBlock=some k then some (.obj id (some 1)) else G.ω k,G.bl⟩
    have hg':∀g,H.ownBlock=some g->g<w'.heap.size:=by
     intro g d;rcases y.2 with⟨rfl,_⟩ | ⟨g2,cap,cur,rfl,_,hh,_⟩
     ·cases d
     ·obtain rfl:g2=g:=Option.some.inj d;rcases Be g2 w'.heap.size with h' | h'
      ·exact h'
      ·rw[DN h'] at hh;cases hh
    have B:∀g,H.ownBlock=some g->g<w.heap.size->G.ω g=some (.obj id (some 1))/\∀x,¬G.I g x:=by
     intro g d R;rcases o with h | h
     ·rw[h] at d;exact(c g d).2
     ·rw[h] at d;cases d;omega
    refine⟨_,G',rfl,?_,?_⟩
    ·refine .tuple rfl λi q P=>?_
     match i with
     |0=>simp at P;subst P;exact .inl (.int _ _)
     |1=>simp at P;subst P;exact .inl .nili
     |i+2=>simp at P
    ·refine aW a R rfl rfl ?_ ?_ ?_ ?_ L hos D T ?_
     ·intro k Q m z;simp only[G'];by_cases F:H.ownBlock=some k
      ·rw[if_pos F];have:=B k F (a.own k Q m).1;rw[this.1] at m;exact absurd (Option.some.inj m).symm (z _)
      ·rw[if_neg F];exact m
     ·intro k Q m;simp only[G'] at m
      split at m
      ·rename_i F;by_cases S:k<w.heap.size
       ·rw[<-m];exact .inl (B k F S).1
       ·exact .inr ⟨am,hg' k F⟩
      ·exact .inl m
     ·intro k m z;refine f k m (λe=>?_) (λe=>?_)
      ·subst e;exact z _ A
      ·exact z _ (c k e.symm).2.1
     ·intro k j x m hI;have hkb:k≠b:=λe=>U x (e▸hI)
      have V:some k≠v.ownBlock:=λe=>(c k e.symm).2.2 x hI
      have:=f k (a.lt k x hI) hkb V;exact⟨cell_of_heap this,λ_=>this⟩
     ·refine⟨b,J,.inr (.inl ⟨125,5,l++M.data.toList,rfl,?_,U,.pointer (some ⟨b,0,none⟩),H,.inr rfl,O,?_,λg d=>⟨λe=>C (by rw[d,e]),if_pos d,λx hx=>?_⟩⟩)⟩
      ·show(if H.ownBlock=some b then _ else _)=_
       rw[if_neg C];exact A
      ·rw[Ae,BV,<-Y];exact y
      ·rcases o with h | h
       ·rw[h] at d;exact(c g d).2.2 x hx
       ·rw[h] at d;cases d;have:=a.lt _ _ hx;omega
   ·cases h
  ·cases h
 ·cases h
set_option maxHeartbeats 1000000 in
set_option maxRecDepth 100000 in
def ku(b:Nat)(w:World)(p:Value)(hbk:w.heap[b]?=some (.cells #[p,.slice none 0 0] 125 (0,0))):
  Calls Tryz.prog 115 #[.pointer (some ⟨b,0,none⟩)] w λe w'=>e=.returned (.string .empty)/\Below w.heap.size w w':=by
 have c1:w.drew.cell? ⟨b,1,none⟩=some (.slice none 0 0):=by
  have:w.drew.heap[b]?=some (.cells #[p,.slice none 0 0] 125 (0,0)):=hbk;simp[World.cell?,this]
 have hSD:(Builtin.unsafeSliceData_ #[123] 174 #[.slice none 0 0]).run Tryz.prog w.drew=.ok (.pointer none) w.drew:=Lib.run_unsafeSliceData_nil ..;have hUS:(Builtin.unsafeString_ #[174,3] 9 #[.pointer none,.int .i64 0]).run Tryz.prog w.drew=.ok (.string .empty) w.drew:=Lib.run_unsafeString_none ..;have hB:Below w.heap.size w w.drew:={ block:=λ_ _=>rfl,size:=Ai _,os:=rfl,tape:=rfl,output:=rfl }
 go_enter Tryz.func115,Tryz.ntmps115
 go_wp2
 go_region
 all_goals (go_wp2;go_ret;exact⟨rfl,hB⟩)
set_option maxHeartbeats 1000000 in
set_option maxRecDepth 100000 in
def gW(b g cap:Nat)(w:World)(p:Value)(hc:cap≠0)(hbk:w.heap[b]?=some (.cells #[p,.slice (some ⟨g,0,none⟩) 0 cap] 125 (0,0))):
  Calls Tryz.prog 115 #[.pointer (some ⟨b,0,none⟩)] w λe w'=>e=.returned (.string .empty)/\Below w.heap.size w w':=by
 have c1:w.drew.cell? ⟨b,1,none⟩=some (.slice (some ⟨g,0,none⟩) 0 cap):=by
  have:w.drew.heap[b]?=some (.cells #[p,.slice (some ⟨g,0,none⟩) 0 cap] 125 (0,0)):=hbk;simp[World.cell?,this]
 have hSD:(Builtin.unsafeSliceData_ #[123] 174 #[.slice (some ⟨g,0,none⟩) 0 cap]).run Tryz.prog w.drew=.ok (.pointer (some ⟨g,0,none⟩)) w.drew:=Lib.run_unsafeSliceData_row _ _ _ _ _ _ hc;have hUS:(Builtin.unsafeString_ #[174,3] 9 #[.pointer (some ⟨g,0,none⟩),.int .i64 0]).run Tryz.prog w.drew=.ok (.string .empty) w.drew:=Lib.run_unsafeString_none ..;have hB:Below w.heap.size w w.drew:={ block:=λ_ _=>rfl,size:=Ai _,os:=rfl,tape:=rfl,output:=rfl }
 go_enter Tryz.func115,Tryz.ntmps115
 go_wp2
 go_region
 all_goals (go_wp2;go_ret;exact⟨rfl,hB⟩)
set_option maxHeartbeats 1000000 in
set_option maxRecDepth 100000 in
def gX(b g:Nat)(w:World)(p:Value)(cur:Array Value)(hbk:w.heap[b]?=some (.cells #[p,.slice (some ⟨g,0,none⟩) 0 0] 125 (0,0)))(hg:w.heap[g]?=some (.cells cur 5 (0,0))):
  Calls Tryz.prog 115 #[.pointer (some ⟨b,0,none⟩)] w λe w'=>e=.returned (.string .empty)/\Below w.heap.size w w':=by
 have hlt:b<w.heap.size:=(BG.1 hbk).1
 have c1:w.drew.cell? ⟨b,1,none⟩=some (.slice (some ⟨g,0,none⟩) 0 0):=by
  have:w.drew.heap[b]?=some (.cells #[p,.slice (some ⟨g,0,none⟩) 0 0] 125 (0,0)):=hbk;simp[World.cell?,this]
 have c2:(w.alloc (.view ⟨g,0,none⟩ 5)).drew.cell? ⟨b,1,none⟩=some (.slice (some ⟨g,0,none⟩) 0 0):=by
  have:(w.alloc (.view ⟨g,0,none⟩ 5)).drew.heap[b]?=some (.cells #[p,.slice (some ⟨g,0,none⟩) 0 0] 125 (0,0)):=(heap_alloc_old' w _ b hlt).trans hbk;simp[World.cell?,this]
 have hSD:(Builtin.unsafeSliceData_ #[123] 174 #[.slice (some ⟨g,0,none⟩) 0 0]).run Tryz.prog w.drew=.ok (.pointer (some ⟨w.heap.size,0,none⟩)) (w.alloc (.view ⟨g,0,none⟩ 5)).drew:=
  Lib.run_unsafeSliceData_zero (P:=Tryz.prog) (w:=w.drew) #[123] 174 5 Tryz.underlying174 ⟨g,0,none⟩ 0 (5,cur.size) (by have hg':w.drew.heap[g]?=some (.cells cur 5 (0,0)):=hg;simp[World.shape?,hg'])
 have hUS:(Builtin.unsafeString_ #[174,3] 9 #[.pointer (some ⟨w.heap.size,0,none⟩),.int .i64 0]).run Tryz.prog (w.alloc (.view ⟨g,0,none⟩ 5)).drew=.ok (.string .empty) (w.alloc (.view ⟨g,0,none⟩ 5)).drew:=Lib.run_unsafeString_none ..
 have hB:Below w.heap.size w (w.alloc (.view ⟨g,0,none⟩ 5)).drew:=by
  have:=(Below.refl w.heap.size w).alloc (Ai _) (.view ⟨g,0,none⟩ 5);exact { block:=this.block,size:=this.size,os:=this.os,tape:=this.tape,output:=this.output }
 clear hg hbk
 go_enter Tryz.func115,Tryz.ntmps115
 go_wp2
 go_region
 all_goals (go_wp2;go_ret;exact⟨rfl,hB⟩)
def nN:Jo Tryz.prog 115 ZM:=by
 intro call hSc args σ r X T h;refine⟨AUV,λn vs w G K u a=>?_⟩
 unfold ZM at h
 split at h
 ·rename_i id
  split at h
  ·rename_i t e l D
   split at h
   ·rename_i S;obtain⟨rfl,rfl⟩:=S;cases h;obtain⟨v0,rfl,N⟩:=yD u;obtain⟨b,q,rfl⟩:=N.JB;obtain⟨V,hIb,p,v,hp,d,H,C⟩:=mg a q D;have z:=(Ad.1 D).1
    have o:Calls Tryz.prog 115 #[.pointer (some ⟨b,0,none⟩)] w (λe s=>e=.returned (.string .empty)/\Below w.heap.size w s)->CallsIn (FW none) n Tryz.prog 115 #[.pointer (some ⟨b,0,none⟩)] w λe s=>∃v G',e=.returned v/\BF G'.I G'.bl s v (.str [])/\Aft K G w (σ.set id [.dead]) G' s:=by
     intro S;refine GH (S.mono ?_)
     rintro e s ⟨rfl,E⟩
     have A:∀k,k<w.heap.size->s.heap[k]?=w.heap[k]?:=λk h=>E.block k h
     exact⟨_,G,rfl,Js [],aW a z rfl rfl (λk m h _=>h) (λk m h=>.inl h) (λk h _=>A k h) (λk j x Z L=>⟨cell_of_heap (A k (a.lt k x L)),λ_=>A k (a.lt k x L)⟩) E.size E.os E.tape E.output ⟨b,q,.inr (.inr (.inl rfl))⟩⟩
    rcases H.2 with⟨hv,Y⟩ | ⟨g,cap,J,rfl,_,U,P,O,R,i⟩
    ·obtain rfl:=Ak.1 Y;subst hv;exact o (ku b w p d)
    by_cases y:l=[]
    ·subst y;by_cases I:cap=0
     ·subst I;exact o (gX b g w p J d U)
     ·exact o (gW b g cap w p I d)
    ·obtain⟨W,B,M⟩:=C g rfl;refine GH ((Wo b g cap w p J l y d U P O R i).mono ?_)
     rintro e s ⟨rfl,rfl⟩
     have c:=RA w g l.length;refine⟨_,G,rfl,Js l,aW a z rfl rfl (λk m h _=>h) (λk m h=>.inl h) ?_ ?_ (by rw[c.size];exact Ai _) c.os c.tape c.output ⟨b,q,.inr (.inr (.inl rfl))⟩⟩
     ·intro k A Q;exact c.other k (λe=>by subst e;exact Q _ B)
     ·intro k j x A L;have F:k≠g:=λe=>by subst e;exact M x L
      exact⟨cell_of_heap (c.other k F),λ_=>c.other k F⟩
   ·cases h
  ·cases h
 ·cases h
set_option maxHeartbeats 1000000 in
set_option maxRecDepth 100000 in
def Wj(s:ByteArray)(c:Int)(w:World):Calls Tryz.prog 185 #[.string s,.int .u8 c] w λe w'=>e=.returned (.int .i64 (Lib.indexByte s.data.toList c.toNat.toUInt8))/\w'=w:=by
 go_enter Tryz.func185,Tryz.ntmps185
 go_wp2
 rw[run_callFunc_extern Tryz.func254 (by kernel_rfl) (by kernel_rfl) (by kernel_rfl) (e:=Extern.BytealgIndexByte.indexByte) (by kernel_rfl)]
 rw[Lib.run_indexByteString];simp only[Result.andThen];rw[Oper.upon_value]
 go_wp2
 go_ret
 exact⟨rfl,rfl⟩
set_option maxHeartbeats 1000000 in
set_option maxRecDepth 100000 in
def AUU:Ff Tryz.prog 185:=⟨Tryz.f185,Tryz.func185,by kernel_rfl,by kernel_rfl⟩
def ak:Jo Tryz.prog 185 OH:=by
 intro call hSc args σ r σ' hown h;refine⟨AUU,λn vs w G K hargs hpre=>?_⟩
 unfold OH at h
 split at h
 ·split at h
  ·cases h;obtain⟨v,u,rfl,hv,hu⟩:=Nv hargs;obtain⟨s,rfl,rfl⟩:=hv.EC;have:=hu.CJ;subst this;refine GH ((Wj s _ w).mono ?_)
   rintro e w' ⟨rfl,rfl⟩
   exact⟨_,G,rfl,.one (.inl (.int _ _)),Kl hpre (Below.refl _ _)⟩
  ·cases h
 ·cases h
end Go.Abs.Z
