/- A part of the proof: T5 A35 A36 A37 T6c A38 T6 PD P5 P6. -/
import Derived.Test.YtbkjmbhabkkoeaaGreatDoorKai
import Derived.Test.YtbkjmbhabkkoeaaGreatDoorKaj
import Derived.Test.YtbkjmbhabkkoeaaGreatDoorKak
import Derived.Test.YtbkjmbhabkkoeaaGreatDoorKal
import Derived.Test.YtbkjmbhabkkoeaaGreatDoorKam
import Derived.Test.YtbkjmbhabkkoeaaGreatDoorKag
import Derived.RangeFuncFrom
import Derived.RangeFuncLeaves
import Derived.Test.YtbkjmbhabkkoeaaGreatDoorKah
import Derived.Test.YtbkjmbhabkkoeaaGreatDoorProg
import Derived.KernelRfl
import Derived.Lib.Bytealg
import Derived.WalkKit
import Derived.Lib.Hide
import Derived.Outline
import Derived.RangeFuncNested
import Derived.RangeFuncBound
import Derived.RangeFuncCalls
import Derived.Shelf.Abstract
import Derived.Shelf.RegionOpen
import Derived.OwnWalkIn
import Derived.TacticsInMore
import Derived.LoopNIn
import Derived.LoopIn

set_option linter.unusedVariables false
set_option linter.unusedSimpArgs false
namespace Go.Abs.Z
noncomputable section
open Go.Proofs
def sN:List (FuncId×FI):=fo++(fe++(eZ++eY))
def Z8(l:List (FuncId×FI))(f:FuncId):Option Cy:=List.rec (motive:=fun _=>Option Cy) none (fun p _ ih=>cond (Nat.beq p.1 f) (some (cA p.1 p.2)) ih) l
def tab(f:FuncId):Option Cy:=cond (Nat.beq 166 f) (some wm) (Z8 sN f)
set_option maxRecDepth 100000 in
theorem Xf:∀(l:List (FuncId×FI)),(∀x∈l,chk x.1 x.2=true)→∀f af,Z8 l f=some af→ww f af
 |[],_,f,af,h=>by cases h
 |p::l,hl,f,af,h=>by
  have h':cond (Nat.beq p.1 f) (some (cA p.1 p.2)) (Z8 l f)=some af:=h;cases hb:Nat.beq p.1 f with
  |true=>
   rw[hb] at h';cases h';have:p.1=f:=AU hb;rw[←this];exact vF (hl p (BG ..))
  |false=>rw[hb] at h';exact Xf l (fun x hx=>hl x (Bw _ hx)) f af h'
set_option maxRecDepth 100000 in
theorem VW:sD Tryz.prog pur tab:=fun f af h=>by
 have h':cond (Nat.beq 166 f) (some wm) (Z8 sN f)=some af:=h;cases hb:Nat.beq 166 f with
 |true=>
  rw[hb] at h';cases h';rw[←AU hb];exact okS
 |false=>
  rw[hb] at h'
  exact Xf sN (Ao.1 (by
   show(fo++(fe++(eZ++eY))).all _=true;rw[Ff,Ff,Ff,AvT,AvS,bR,AvR];rfl)) f af h'
theorem mixed:Tryz.prog.follows .mixedOrders=true:=by kernel_rfl
end
end Go.Abs.Z

namespace Go.Abs
open Go.RowKit
mutual

def PV.EZ:PV→Bool
 |.mapv _ _=>false
 |.vptr v=>v.EZ
 |.slice _ _ es=>PV.Iz es
 |.agg cs=>PV.Iz cs
 |.aggr cs=>PV.Iz cs
 |.tuple vs=>PV.Iz vs
 |.func _ fs cs=>PV.Iz fs&&PV.Iz cs
 |.arrv _ _ es=>PV.Iz es
 |.mapo _ _ _ _ | .itr _ _ _=>false
 |_=>true
def PV.Iz:List PV→Bool
 |[]=>true
 |v::vs=>v.EZ&&PV.Iz vs
end
theorem Dy:∀{l:List PV},PV.Iz l=true→∀{i:Nat} {p:PV},l[i]?=some p→p.EZ=true
 |[],_,i,p,h=>by simp at h
 |v::vs,hn,i,p,h=>by
  rw[PV.Iz,Ak] at hn;cases i with
  |zero=>simp at h;subst h;exact hn.1
  |succ i=>exact Dy hn.2 (by simpa using h)
theorem Jy{v:PV}(hn:v.EZ=true){j:Nat}{p:PV}(h:v.cells[j]?=some p):p.EZ=true:=by
 cases v with
 |agg cs=>rw[PV.EZ] at hn;exact Dy hn h
 |aggr cs=>rw[PV.EZ] at hn;exact Dy hn h
 |_=>
  simp only[PV.cells] at h;cases j with
  |zero=>simp at h;subst h;exact hn
  |succ j=>simp at h
def QW(I:Imm)(B:Nat)(w:World):Imm:=fun b x=>I b x∧(b<B∨∃o,x=some o∧(w.cell? ⟨b,o,none⟩).isSome=true)
theorem Rep.Dl{I:Imm}{w:World}(B:Nat){v:Value}{p:PV}(h:Rep I w v p):p.EZ=true→Rep (QW I B w) w v p:=by
 induction h with
 |bool b=>intro _;exact .bool b
 |int k n=>intro _;exact .int k n
 |str s=>intro _;exact .str s
 |nilp=>intro _;exact .nilp
 |vptr cv h1 h2 _ ih=>
  intro hn;rw[PV.EZ] at hn;exact .vptr cv (fun j p h=>⟨h1 j p h,.inr ⟨_,rfl,by rw[h2 j p h];rfl⟩⟩) h2 (fun j p h=>ih j p h (Jy hn h))
 |nils=>intro _;exact .nils
 |empt=>intro _;exact .empt
 |slice cv h1 h2 h3 h4 h5 h6 _ ih=>
  intro hn;rw[PV.EZ] at hn;exact .slice cv h1 h2 h3 h4 (fun i e j p he hp=>⟨h5 i e j p he hp,.inr ⟨_,rfl,by rw[h6 i e j p he hp];rfl⟩⟩) h6 (fun i e j p he hp=>ih i e j p he hp (Jy (Dy hn he) hp))
 |nili=>intro _;exact .nili
 |nilm=>intro _;exact .nilm
 |mapv=>intro hn;simp[PV.EZ] at hn
 |nilf=>intro _;exact .nilf
 |func h1 h2 _ _ ih1 ih2=>
  intro hn;rw[PV.EZ,Ak] at hn;exact .func h1 h2 (fun i p h=>ih1 i p h (Dy hn.1 h)) (fun i p h=>ih2 i p h (Dy hn.2 h))
 |agg h _ ih=>
  intro hn;rw[PV.EZ] at hn;exact .agg h (fun i p h=>ih i p h (Dy hn h))
 |tuple h _ ih=>
  intro hn;rw[PV.EZ] at hn;exact .tuple h (fun i p h=>ih i p h (Dy hn h))
theorem GL.Dl{I:Imm}{bl:Bl}{w:World}(B:Nat){v:Value}{p:PV}(h:GL I bl w v p)(hn:p.EZ=true):GL (QW I B w) bl w v p:=by
 rcases h with h | h
 ·exact .inl (h.Dl B hn)
 ·exact .inr h
theorem PZ.Dl{I:Imm}{bl:Bl}{w:World}(B:Nat){v:Value}{p:PV}(h:PZ I bl w v p)(hn:p.EZ=true):PZ (QW I B w) bl w v p:=by
 rcases h with h | ⟨cs,ps,rfl,rfl,h1,h2⟩
 ·exact .inl (h.Dl B hn)
 ·rw[PV.EZ] at hn;exact .inr ⟨cs,ps,rfl,rfl,h1,fun i q hq=>(h2 i q hq).Dl B (Dy hn hq)⟩
theorem Bu.Dl{I:Imm}{bl:Bl}{w:World}(B:Nat){v:Value}{p:PV}(h:Bu I bl w v p)(hn:p.EZ=true):Bu (QW I B w) bl w v p:=by
 cases h with
 |one h=>exact .one (h.Dl B hn)
 |func h1 h2 hf hc=>
  rw[PV.EZ,Ak] at hn;exact .func h1 h2 (fun i p h=>(hf i p h).Dl B (Dy hn.1 h)) (fun i p h=>(hc i p h).Dl B (Dy hn.2 h))
 |tuple h hr=>
  rw[PV.EZ] at hn;exact .tuple h (fun i p h=>(hr i p h).Dl B (Dy hn h))
 |aggr h hr=>
  rw[PV.EZ] at hn;exact .aggr h (fun i p h=>(hr i p h).Dl B (Dy hn h))
def Gh.Dl(G:Gh)(B:Nat)(w:World):Gh:=⟨QW G.I B w,fun b=>match w.heap[b]? with | some (.cells _ _ _)=>G.ω b | _=>none,G.bl⟩
structure dY(B:Nat)(G:Gh)(w:World):Prop where
 I:∀b x,G.I b x→b<B∨∃o,x=some o∧(w.cell? ⟨b,o,none⟩).isSome=true
 ω:∀b tag,G.ω b=some tag→∃cs e f,w.heap[b]?=some (.cells cs e f)
theorem Ke(G:Gh)(B:Nat)(w:World):dY B (G.Dl B w) w:=by
 refine⟨fun b x h=>h.2,fun b tag h=>?_⟩
 simp only[Gh.Dl] at h
 split at h
 ·rename_i cs e f hh;exact⟨cs,e,f,hh⟩
 ·cases h
section
variable{P:Program}{pur:FuncId→Bool}{call:Caller}{fi:FI}{cx:Cx}{G:Gh}{a:Act}{w:World}{A A':Frm}{σ σ':Sto}
theorem Ll{B b:Nat}{cs:Array Value}{e:TypeId}{f:Nat×Nat}(h:w.heap[b]?=some (.cells cs e f)):(G.Dl B w).ω b=G.ω b:=by
 simp only[Gh.Dl,h]
theorem Eb.Dl(B:Nat){tag:Tag}{c:Value}{p:PV}(h:Eb G w tag c p):Eb (G.Dl B w) w tag c p:=by
 unfold Eb at *;split
 ·obtain⟨b,off,cap,cs,elem,e1,hω,h1,h2,h3,h4⟩:=h;exact⟨b,off,cap,cs,elem,e1,by rw[Ll h3];exact hω,fun hi=>h1 hi.1,fun o ho hi=>h2 o ho hi.1,h3,h4⟩
 ·trivial
theorem Fx.Dl(B:Nat){b:Nat}{tag:Option Nat→Tag}{cells:List PV}(h:Fx G w b tag cells)(hn:∀(j:Nat) (p:PV),cells[j]?=some p→p.EZ=true):Fx (G.Dl B w) w b tag cells:=by
 obtain⟨hω,h1,cs,elem,h2,h3,h4⟩:=h;refine⟨by rw[Ll h2];exact hω,fun x hx=>h1 x hx.1,cs,elem,h2,h3,fun j p hp=>?_⟩
 rcases h4 j p hp with⟨hr,ho⟩ | hs
 ·exact .inl ⟨hr.Dl B (hn j p hp),ho.Dl B⟩
 ·exact .inr hs
theorem BOk.Dl(B:Nat){b id:Nat}{t e:TypeId}{l:List UInt8}(h:BOk G w b id t e l):BOk (G.Dl B w) w b id t e l:=by
 obtain⟨h1,h2,p,v,hp,h3,h4,h5⟩:=h;refine⟨by rw[Ll h3];exact h1,fun x hx=>h2 x hx.1,p,v,hp,h3,h4,fun g hg=>?_⟩
 obtain⟨e1,e2,e3⟩:=h5 g hg;refine⟨e1,?_,fun x hx=>e3 x hx.1⟩
 rcases h4.2 with⟨h,_⟩ | ⟨g',cap,cur,hv,hb,hg',r⟩
 ·subst h;cases hg
 ·subst hv;cases hg;rw[Ll hg'];exact e2
theorem L9.Dl(B:Nat){id gen size:Nat}{es:List PV}(h:L9 G w id gen size es)(hn:∀(i:Nat) (e:PV),es[i]?=some e→e.EZ=true):L9 (G.Dl B w) w id gen size es:=by
 obtain⟨b,base,n,cs,elem,h1,h2,h3,h4,h5,h6,h7,h8,h9⟩:=h;exact⟨b,base,n,cs,elem,h1,h2,by rw[Ll h5];exact h3,fun x hx=>h4 x hx.1,h5,h6,h7,h8,fun i e he=>⟨(h9 i e he).1,fun j p hp=>((h9 i e he).2 j p hp).Dl B (Jy (hn i e he) hp)⟩⟩
theorem Gx.Dl(B:Nat){id:Nat}{cs:List PV}(h:Gx G w id cs)(hn:PV.Iz cs=true):Gx (G.Dl B w) w id cs:=by
 obtain⟨b,h1,h2⟩:=h;refine⟨b,h1,?_⟩
 rcases h2 with h2 | ⟨t,e,l,rfl,h2⟩ | h2 | ⟨gen,size,es,rfl,h2⟩ | ⟨d,z,ks,vs,rfl,h2⟩ | ⟨mid,since,seen,rfl,h2⟩
 rotate_right
 ·have h:=Dy hn (i:=0) rfl;rw[PV.EZ] at h;cases h
 rotate_right
 ·have h:=Dy hn (i:=0) rfl;rw[PV.EZ] at h;cases h
 ·exact .inl (h2.Dl B (fun j p hp=>Dy hn hp))
 ·exact .inr (.inl ⟨t,e,l,rfl,h2.Dl B⟩)
 ·exact .inr (.inr (.inl h2))
 ·refine .inr (.inr (.inr (.inl ⟨gen,size,es,rfl,h2.Dl B (fun i e he=>?_)⟩)))
  have h:=Dy hn (i:=0) rfl;rw[PV.EZ] at h;exact Dy h he
def Em(cx:Cx)(t:Nat)(v:PV):Prop:=v.free=true∧((cx.kd t).val=true∨cx.kd t=.box)
theorem DY.Dl(B:Nat){t:Nat}{v:PV}(hp:Em cx t v)(hn:v.EZ=true)(h:DY cx G a w t v):DY cx (G.Dl B w) a w t v:=by
 rcases hp.2 with hk | hk
 ·rw[BL hk hp.1] at h ⊢;exact⟨h.1.Dl B hn,h.2.Dl B⟩
 ·rw[Dz hk] at h ⊢;obtain⟨b,h1,h2⟩:=h;exact⟨b,h1,h2.Dl B (fun j p hp=>Jy hn hp)⟩
theorem DY.jF{cx':Cx}(hkd:cx'.kd=cx.kd){a':Act}{t:Nat}{v:PV}(hp:Em cx t v)(hat:at' a' t=at' a t)(h:DY cx G a w t v):DY cx' G a' w t v:=by
 rcases hp.2 with hk | hk
 ·rw[BL hk hp.1] at h;rw[BL (by rw[hkd];exact hk) hp.1,hat];exact h
 ·rw[Dz hk] at h;rw[Dz (by rw[hkd];exact hk),hat];exact h
def quiet(A:Frm)(σ:Sto):Bool:=A.all (fun v=>match v with | some p=>p.EZ | none=>true)&&σ.all PV.Iz
theorem bC(h:quiet A σ=true){t:Nat}{v:PV}(hg:A.get t=some v):v.EZ=true:=by
 unfold quiet at h;rw[Ak] at h;unfold Frm.get at hg
 split at hg
 ·rename_i u hu;have:=Ao.1 h.1 _ (AA hu);rw[hg] at this;exact this
 ·cases hg
theorem Inv.Dl(hi:Inv cx G a w A σ)(B:Nat)(hB:∀b x,cx.I0 b x→b<B)(hA:∀t v,A.get t=some v→Em cx t v)(hq:quiet A σ=true):Inv cx (G.Dl B w) a w A σ:=by
 have hb:=hi.base
 refine⟨hi.defers,hi.size,hi.room,⟨hb.keep,hb.same,fun b x h=>⟨hb.sub b x h,.inl (hB b x h)⟩,fun b x h=>hb.new b x h.1,fun b x h=>hb.lt b x h.1,fun b tag h=>?_,hb.Klt,hb.grow,hb.bl,hb.os,hb.tape,hb.output⟩,
  fun t v hv=>(hi.slot t v hv).Dl B (hA t v hv) (bC hq hv),fun id cs hc=>(hi.obj id cs hc).Dl B ?_,hi.len,hi.abl⟩
 ·simp only[Gh.Dl] at h
  split at h
  ·exact hb.own b tag h
  ·cases h
 ·unfold quiet at hq;rw[Ak] at hq;exact Ao.1 hq.2 _ (AA hc)
theorem VE{b o:Nat}(h:(w.cell? ⟨b,o,none⟩).isSome=true):∃cs e f,w.heap[b]?=some (.cells cs e f):=by
 unfold World.cell? at h;dsimp only at h
 split at h
 ·rename_i cs e f hh;exact⟨_,_,_,hh⟩
 ·simp at h
theorem Inv.grown(hi:Inv cx G a w A σ){B:Nat}(ht:dY B G w)(hK:∀b,cx.K b→b<B)(hBw:B≤w.heap.size){w':World}{row:Option Nat}(hg:w.grownBy w' row)
  (hrow:∀r,row=some r→B≤r∧∃o:Obj,w.heap[r]?=some o∧o.isCells=false):Inv cx G a w' A σ∧dY B G w'∧Same G.I w w':=by
 have hcells:∀b:Nat,(∃cs e f,w.heap[b]?=some (Obj.cells cs e f))→w'.heap[b]?=w.heap[b]?:=by
  rintro b ⟨cs,e,f,h⟩
  refine hg.block b (Bd.1 h).1 fun hr=>?_
  obtain⟨_,o,ho,hc⟩:=hrow b hr.symm;rw[h] at ho;cases ho;cases hc
 have hlow:∀b:Nat,b<B→w'.heap[b]?=w.heap[b]?:=fun b hb=>hg.block b (by omega) (fun hr=>by have:=(hrow b hr.symm).1;omega)
 have hblk:∀b x,G.I b x→w'.heap[b]?=w.heap[b]?:=by
  intro b x h;rcases ht.I b x h with hb | ⟨o,rfl,hc⟩
  ·exact hlow b hb
  ·exact hcells b (VE hc)
 have hsame:Same G.I w w':=⟨fun b o h=>cell_of_heap (hblk b _ h),fun b h=>hblk b _ h⟩
 have hext:Ext (fun _=>False) G G w w':=⟨fun _ _ h=>h,hsame,Bl.le_refl _,fun _ _ _ _=>rfl,fun b tag h _=>⟨h,hcells b (ht.ω b tag h),fun _ h=>h⟩⟩
 have hb:=hi.base
 have hbase:Base cx G w':=⟨fun b h=>(hlow b (hK b h)).trans (hb.keep b h),hb.same.trans hsame hb.sub,hb.sub,hb.new,fun b x h=>Bn (hb.lt b x h) hg.size,
  fun b tag h=>⟨Bn (hb.own b tag h).1 hg.size,(hb.own b tag h).2⟩,hb.Klt,BM hb.grow hg.size,hb.bl,hg.os.trans hb.os,hg.tape.trans hb.tape,hg.output.trans hb.output⟩
 refine⟨hi.step (fun _=>False) none undef hext hbase rfl (fun t p hp=>.inl ⟨hp,by simp,fun _ h=>h,fun _ _ _ _=>by simp,fun _ _=>⟨by simp,fun h=>h⟩⟩) (fun id cs hc=>.inl ⟨hc,fun _ h=>h⟩) hi.len hi.abl,⟨fun b x h=>?_,fun b tag h=>?_⟩,hsame⟩
 ·rcases ht.I b x h with hb | ⟨o,rfl,hc⟩
  ·exact .inl hb
  ·exact .inr ⟨o,rfl,by rw[cell_of_heap (hblk b _ h)];exact hc⟩
 ·rw[hcells b (ht.ω b tag h)];exact ht.ω b tag h
def FH(G:Gh)(b:Nat):Prop:=G.ω b≠none∨∃x,G.I b x
theorem JC{B b:Nat}(h:FH (G.Dl B w) b):FH G b:=by
 rcases h with h | ⟨x,h⟩
 ·refine .inl fun e=>h ?_
  simp only[Gh.Dl];split
  ·exact e
  ·rfl
 ·exact .inr ⟨x,h.1⟩
def Cx.inner(cx:Cx)(G:Gh)(w:World)(ds:List Deferred):Cx:=
 { cx with K:=fun b=>cx.K b∨(b<w.heap.size∧((∀cs e f,w.heap[b]?≠some (Obj.cells cs e f))∨¬FH G b)),I0:=G.I,w0:=w,bl0:=G.bl,ds:=ds }
theorem Inv.inner(hi:Inv cx G a w A σ){B:Nat}(ht:dY B G w)(ds:List Deferred){a':Act}(hd:a'.defers=ds)(hsz:a'.tmps.size=a.tmps.size)(hA:∀t v,A'.get t=some v→Em cx t v∧A.get t=some v∧at' a' t=at' a t)(hl:A'.length=A.length):
  Inv (cx.inner G w ds) G a' w A' σ:=by
 have hb:=hi.base
 refine⟨hd,hsz.trans hi.size,by rw[hl];exact hi.room,⟨fun _ _=>rfl,Same.refl _ _,fun _ _ h=>h,fun _ _ h=>.inl h,hb.lt,fun b tag h=>⟨(hb.own b tag h).1,?_⟩,⟨fun b h=>?_,fun b o h=>(hb.Klt.tab b o h).imp .inl fun⟨t,f,e⟩=>⟨t,f,(hb.keep b (hb.Klt.tab b o h).1).trans e⟩⟩,Be _,Bl.le_refl _,rfl,rfl,rfl⟩,
  fun t v hv=>(hi.slot t v (hA t v hv).2.1).jF rfl (hA t v hv).1 (hA t v hv).2.2,hi.obj,hi.len,hi.abl⟩
 ·rintro(h' | ⟨_,h' | h'⟩)
  ·exact(hb.own b tag h).2 h'
  ·obtain⟨cs,e,f,hh⟩:=ht.ω b tag h;exact h' cs e f hh
  ·exact h' (.inl (by rw[h];simp))
 ·rcases h with h | h
  ·exact Bn (hb.Klt b h) hb.grow
  ·exact h.1
theorem Zg(hb:Base cx G w){ds:List Deferred}{G':Gh}{w':World}(hb':Base (cx.inner G w ds) G' w'):Base cx G' w':=by
 refine⟨fun b h=>(hb'.keep b (.inl h)).trans (hb.keep b h),hb.same.trans hb'.same hb.sub,fun b x h=>hb'.sub b x (hb.sub b x h),fun b x h=>?_,hb'.lt,fun b tag h=>⟨(hb'.own b tag h).1,fun hk=>(hb'.own b tag h).2 (.inl hk)⟩,hb.Klt,BM hb.grow hb'.grow,hb.bl.trans hb'.bl,hb'.os.trans hb.os,hb'.tape.trans hb.tape,hb'.output.trans hb.output⟩
 rcases hb'.new b x h with h' | h'
 ·exact hb.new b x h'
 ·exact .inr fun hk=>h' (.inl hk)
theorem Inv.outer(hi:Inv cx G a w A σ){ds ds':List Deferred}{G':Gh}{a1 a2:Act}{w':World}{A1 A2:Frm}(hi':Inv (cx.inner G w ds) G' a1 w' A1 σ')(hd:a2.defers=ds')(hsz:a2.tmps.size=a1.tmps.size)
  (hA:∀t v,A2.get t=some v→Em cx t v∧A1.get t=some v∧at' a2 t=at' a1 t) (hl:A2.length=A1.length):Inv { cx with ds:=ds' } G' a2 w' A2 σ':=by
 have hb:=Zg hi.base hi'.base
 exact⟨hd,hsz.trans hi'.size,by rw[hl];exact hi'.room,⟨hb.keep,hb.same,hb.sub,hb.new,hb.lt,hb.own,hb.Klt,hb.grow,hb.bl,hb.os,hb.tape,hb.output⟩,
  fun t v hv=>(hi'.slot t v (hA t v hv).2.1).jF (cx:=cx.inner G w ds) rfl (hA t v hv).1 (hA t v hv).2.2,hi'.obj,hi'.len,hi'.abl⟩
theorem LH{ds:List Deferred}{G':Gh}{w':World}(hb':Base (cx.inner G w ds) G' w'):KeepsOthers w w':=by
 refine⟨hb'.grow,fun k o hk ho=>?_⟩
 refine(hb'.keep k (.inr ⟨(Bd.1 hk).1,.inl fun cs e f h=>?_⟩)).trans hk
 rw[hk] at h;cases h;cases ho
theorem RH{ds:List Deferred}{G':Gh}{w':World}(hb':Base (cx.inner G w ds) G' w'){b:Nat}(hb:b<w.heap.size)(hk:¬FH G b):w'.heap[b]?=w.heap[b]?:=
 hb'.keep b (.inr ⟨hb,.inr hk⟩)
theorem LG{ds:List Deferred}{G':Gh}{w':World}(hb':Base (cx.inner G w ds) G' w'){b:Nat}(hk:FH G' b):w.heap.size≤b∨FH G b:=by
 rcases Cc b w.heap.size with h | h
 ·refine .inr ?_
  rcases hk with hk | ⟨x,hk⟩
  ·cases ho:G'.ω b with
   |none=>exact absurd ho hk
   |some tag=>exact Classical.byContradiction fun hc=>(hb'.own b tag ho).2 (.inr ⟨h,.inr hc⟩)
  ·rcases hb'.new b x hk with h' | h'
   ·exact .inr ⟨x,h'⟩
   ·exact Classical.byContradiction fun hc=>h' (.inr ⟨h,.inr hc⟩)
 ·exact .inl h
theorem SQ(hb:Base cx G w){b:Nat}(hk:FH G b):b<w.heap.size:=by
 rcases hk with hk | ⟨x,hk⟩
 ·cases ho:G.ω b with
  |none=>exact absurd ho hk
  |some tag=>exact(hb.own b tag ho).1
 ·exact hb.lt b x hk
end
end Go.Abs

namespace Go.Abs
noncomputable section
open Go.RowKit
section
variable{P:Program}{pur:FuncId→Bool}{call:Caller}{fi:FI}{cx:Cx}{G:Gh}{a:Act}{w:World}{A A':Frm}{σ σ':Sto}
def Fv(L:List Bool)(A:Frm):Frm:=List.zipWith (fun b v=>if b then v.filter PV.free else none) L A
theorem Gm{L:List Bool}(h:A.length=L.length):(Fv L A).length=L.length:=by simp[Fv,h]
theorem I1{L:List Bool}{t:Nat}{p:PV}(h:(Fv L A).get t=some p):L.getD t false=true∧A.get t=some p∧p.free=true:=by
 unfold Fv Frm.get at h
 split at h
 ·rename_i v hv;subst h;rw[Cf] at hv
  split at hv
  ·rename_i b u hb hu;cases b with
   |true=>
    have h2:=Option.some.inj hv;rw[if_pos rfl] at h2;obtain⟨h3,h4⟩:=Option.filter_eq_some_iff.1 h2;subst h3;refine⟨by rw[Aj,hb];rfl,?_,h4⟩
    unfold Frm.get;rw[hu]
   |false=>simp at hv
  ·cases hv
 ·cases h
def Lx(p:PV):Bool:=p.flat&&!p.EZ&&p.free&&(match p with | .mapv _ _=>true | .vptr _=>true | _=>false)
def JY(L:List Bool)(A:Frm):Frm:=List.zipWith (fun b v=>if b then v.filter Lx else none) L A
def GZ(X B:Frm):Frm:=List.zipWith (fun x b=>match x with | some _=>none | none=>b) X B
def J5(X B:Frm):Frm:=List.zipWith (fun x b=>match x with | some v=>some v | none=>b) X B
theorem J2{X B:Frm}(h:X.length=B.length):(GZ X B).length=B.length:=by simp[GZ,h]
theorem OY{X B:Frm}(h:X.length=B.length):(J5 X B).length=B.length:=by simp[J5,h]
theorem df{L:List Bool}{t:Nat}{p:PV}(h:(JY L A).get t=some p):L.getD t false=true∧A.get t=some p∧Lx p=true:=by
 unfold JY Frm.get at h
 split at h
 ·rename_i v hv;subst h;rw[Cf] at hv
  split at hv
  ·rename_i b u hb hu;cases b with
   |true=>
    have h2:=Option.some.inj hv;rw[if_pos rfl] at h2;obtain⟨h3,h4⟩:=Option.filter_eq_some_iff.1 h2;subst h3;refine⟨by rw[Aj,hb];rfl,?_,h4⟩
    unfold Frm.get;rw[hu]
   |false=>simp at hv
  ·cases hv
 ·cases h
theorem GY{X B:Frm}{t:Nat}{p:PV}(h:(GZ X B).get t=some p):B.get t=some p:=by
 unfold GZ Frm.get at h
 split at h
 ·rename_i v hv;subst h;rw[Cf] at hv
  split at hv
  ·rename_i x u hb hu;cases x with
   |some y=>cases hv
   |none=>unfold Frm.get;rw[hu];exact Option.some.inj hv
  ·cases hv
 ·cases h
theorem Mx{X B:Frm}{t:Nat}{p:PV}(h:(J5 X B).get t=some p):X.get t=some p∨(GZ X B).get t=some p:=by
 unfold J5 Frm.get at h
 split at h
 ·rename_i v hv;subst h;rw[Cf] at hv
  split at hv
  ·rename_i x u hb hu;cases x with
   |some y=>exact .inl (by unfold Frm.get;rw[hb];exact Option.some.inj hv)
   |none=>exact .inr (by unfold Frm.get GZ;rw[Cf,hb,hu];exact Option.some.inj hv)
  ·cases hv
 ·cases h
theorem Inv.fill{X B:Frm}(hi:Inv cx G a w (GZ X B) σ)(hl:X.length=B.length)(hX:∀t v,X.get t=some v→DY cx G a w t v):Inv cx G a w (J5 X B) σ:=by
 refine⟨hi.defers,hi.size,?_,hi.base,fun t v hv=>?_,hi.obj,hi.len,hi.abl⟩
 ·rw[OY hl,←J2 hl];exact hi.room
 ·rcases Mx hv with h | h
  ·exact hX t v h
  ·exact hi.slot t v h
theorem Lu{p:PV}(h:Lx p=true):p.free=true∧p.flat=true:=by
 unfold Lx at h;simp only[Ak] at h;exact⟨h.1.2,h.1.1.1⟩
theorem YI{p:PV}(h:Lx p=true)(tag:Tag)(c:Value):Eb G w tag c p:=by
 unfold Lx at h;simp only[Ak] at h;have h2:=h.2
 split at h2
 ·trivial
 ·trivial
 ·cases h2
def Su(ds:List (Nat×Nat))(x:List PV)(A:Frm):Frm:=ds.foldl (fun A d=>A.set d.1 (x[d.2]?)) A
theorem Sq(x:List PV):∀(ds:List (Nat×Nat)) (A:Frm),(Su ds x A).length=A.length
 |[],A=>rfl
 |d::ds,A=>by
  show(Su ds x (A.set d.1 (x[d.2]?))).length=_;rw[Sq x ds,Bo]
theorem Sr(x:List PV){t:Nat}{p:PV}:∀(ds:List (Nat×Nat)) (A:Frm),(Su ds x A).get t=some p→(∃i,(t,i)∈ds∧x[i]?=some p)∨A.get t=some p
 |[],A,h=>.inr h
 |d::ds,A,h=>by
  rcases Sr x ds (A.set d.1 (x[d.2]?)) h with⟨i,h1,h2⟩ | h1
  ·exact .inl ⟨i,Bw _ h1,h2⟩
  ·rw[C8] at h1
   split at h1
   ·rename_i hc;exact .inl ⟨d.2,by rw[hc.1];exact BG ..,h1⟩
   ·exact .inr h1
def ofF(A:Frm):Nat→FF:=List.rec (motive:=fun _=>Nat→FF) (fun _=>[]) (fun v _ ih n=>Option.rec (motive:=fun _=>FF) (ih (n+1)) (fun p=>(n,some p)::ih (n+1)) v) A
def toF(ff:FF)(N:Nat):Frm:=(List.range N).map (Dm ff)
def Yp(pur:FuncId→Bool)(call:Caller)(m:Nat)(ac:Dc)(A:Frm)(σ:Sto):Option (Bt×Frm×Sto):=
 cond (Ei A.length ac) ((EI pur call m ac (ofF A 0) σ).map fun r=>(r.1,toF r.2.1 A.length,r.2.2)) none
theorem RL{p:PV}{t:Nat}:∀(A:Frm) (n:Nat),Dm (ofF A n) t=some p→n≤t∧A[t - n]?=some (some p)
 |[],n,h=>by cases h
 |v::A,n,h=>by
  cases v with
  |none=>
   have h':Dm (ofF A (n+1)) t=some p:=h;obtain⟨h1,h2⟩:=RL A (n+1) h';refine⟨by omega,?_⟩
   rw[show t - n=(t - (n+1))+1 from by omega]
   simpa using h2
  |some q=>
   have h':Dm ((n,some q)::ofF A (n+1)) t=some p:=h;rw[FV] at h';cases hb:Nat.beq n t with
   |true=>
    rw[hb] at h';have:=AU hb;subst this;have e:q=p:=by simpa using h'
    subst e;exact⟨Be _,by simp⟩
   |false=>
    rw[hb] at h';obtain⟨h1,h2⟩:=RL A (n+1) h';refine⟨by omega,?_⟩
    rw[show t - n=(t - (n+1))+1 from by omega]
    simpa using h2
theorem Mk{m:Nat}{ac:Dc}{e:Bt}(h:Yp pur call m ac A σ=some (e,A',σ')):∃A'',F4 pur call m ac A σ=some (e,A'',σ')∧A'.length=A''.length∧∀t v,A'.get t=some v→A''.get t=some v:=by
 unfold Yp at h;cases hok:Ei A.length ac with
 |false=>rw[hok] at h;cases h
 |true=>
  rw[hok] at h;obtain⟨⟨e1,ff,σ1⟩,hr,he⟩:=Ac.1 h;cases he
  have hrel:Rel A.length (ofF A 0) A:=by
   refine⟨rfl,fun t v hv=>?_⟩
   obtain⟨_,h2⟩:=RL A 0 hv;unfold Frm.get;rw[Nat.sub_zero] at h2;rw[h2]
  obtain⟨A2,h3,h4⟩:=O3 ac _ _ _ _ _ _ hok hrel hr;refine⟨A2,h3,by rw[h4.len];simp[toF],fun t v hv=>h4.get t v ?_⟩
  unfold Frm.get toF at hv;rw[Af] at hv
  split at hv
  ·rename_i u hu;obtain⟨s,hs,rfl⟩:=Ac.1 hu;have hs2:=(Ab.1 hs);obtain⟨h5,h6⟩:=hs2;rw[List.getElem_range] at h6;subst h6;exact hv
  ·cases hv
def UR(pur:FuncId→Bool)(call:Caller)(m:Nat)(aca ac:Dc)(La L:List Bool)(X:Frm)(ds:List (Nat×Nat))(x:List PV)(A:Frm)(σ:Sto):Option (Frm×Sto):=
 match Yp pur call m aca (Su ds x A) σ with
 |some (.normal,A1,σ1)=>if quiet (GZ X (Fv La A1)) σ1=true∧A1.length=La.length then(match Yp pur call m ac (J5 X (Fv La A1)) σ1 with
  |some (.normal,A',σ')=>if quiet (GZ X (Fv L A')) σ'=true∧A'.length=L.length then some (J5 X (Fv L A'),σ') else none
  |_=>none) else none
 |_=>none
def JZ(pur:FuncId→Bool)(call:Caller)(m:Nat)(aca ac:Dc)(La L:List Bool)(X:Frm)(ds:List (Nat×Nat)):List (List PV)→Frm→Sto→Option (Frm×Sto)
 |[],A,σ=>some (A,σ)
 |x::xs,A,σ=>match UR pur call m aca ac La L X ds x A σ with
  |some (A',σ')=>JZ pur call m aca ac La L X ds xs A' σ'
  |none=>none
theorem NS{m:Nat}{aca ac:Dc}{La L:List Bool}{X:Frm}{ds:List (Nat×Nat)}(ys:List (List PV)){r:Frm×Sto}:∀(xs:List (List PV)) (A:Frm) (σ:Sto),JZ pur call m aca ac La L X ds (xs++ys) A σ=some r→
  ∃A' σ',JZ pur call m aca ac La L X ds xs A σ=some (A',σ')∧JZ pur call m aca ac La L X ds ys A' σ'=some r
 |[],A,σ,h=>⟨A,σ,rfl,h⟩
 |y::xs,A,σ,h=>by
  simp only[JZ,CF] at h ⊢
  split at h
  ·exact NS ys xs _ _ h
  ·cases h
theorem Rz{m:Nat}{aca ac:Dc}{La L:List Bool}{X:Frm}{ds:List (Nat×Nat)}(x:List PV){A2:Frm}{σ2:Sto}:∀(xs:List (List PV)) (A:Frm) (σ:Sto) {A':Frm} {σ':Sto},JZ pur call m aca ac La L X ds xs A σ=some (A',σ')→UR pur call m aca ac La L X ds x A' σ'=some (A2,σ2)→
  JZ pur call m aca ac La L X ds (xs++[x]) A σ=some (A2,σ2)
 |[],A,σ,A',σ',h,h2=>by
  cases h;simp only[BK,JZ,h2]
 |y::ys,A,σ,A',σ',h,h2=>by
  simp only[JZ,CF] at h ⊢
  split at h
  ·exact Rz x ys _ _ h h2
  ·cases h
theorem Inv.eF(hi:Inv cx G a w A σ)(hA:∀t v,A.get t=some v→Em cx t v)(ds:List Deferred){a':Act}(ht:a'.tmps=a.tmps)(hd:a'.defers=ds):Inv { cx with ds:=ds } G a' w A σ:=by
 have hb:=hi.base
 exact⟨hd,by rw[ht];exact hi.size,hi.room,⟨hb.keep,hb.same,hb.sub,hb.new,hb.lt,hb.own,hb.Klt,hb.grow,hb.bl,hb.os,hb.tape,hb.output⟩,
  fun t v hv=>(hi.slot t v hv).jF (cx:=cx) rfl (hA t v hv) (by simp only[at',ht]),hi.obj,hi.len,hi.abl⟩
def mark(D:Nat):Deferred:={ target:=.collected D,args:=#[] }
def qI(P:Program)(gf:FuncId)(lb:Array Value)(xs:List (Array Value))(I:Imm)(w:World):Prop:=
 ∀(n l:Nat) (J:List (Array Value)→(Nat→Prop)→World→Prop) (W:World),Below w.heap.size w W→(∀O,AbidesFrom W.heap.size (fun s=>J s O))→
  (∀pre x post O W1,xs=pre++x::post→J pre O W1→YieldAt (FW none) n P l x W1 fun e W'=>e=.returned (.bool true)∧J (pre++[x]) (fun b=>O b∨(W1.heap.size≤b∧b<W'.heap.size)) W'∧Same I W1 W'∧W1.heap.size≤W'.heap.size∧
   ∀b cs t f,¬O b→W1.heap[b]?=some (Obj.cells cs t f)→W'.heap[b]?=some (Obj.cells cs t f))→J [] (fun b=>b<W.heap.size) W→
  CallsIn (FW none) n P gf (#[.func (.yield l) #[] #[]]++lb) W fun e W'=>(∃v,e=.returned v)∧∃O,J xs O W'
theorem Wx{n m:Nat}(hS:EW P call)(hx:Dp cx fi)(hmo:P.follows .mixedOrders=true){g:Operand}{ps:Array Tmp}{assign body:Code}{aca ac:Dc}(hca:comp P pur fi assign=some aca)(hcb:comp P pur fi body=some ac)
  {gf:FuncId} {lb:Array Value} (hg:a.eval g=.func (.func gf) #[] lb) (hent:He P gf) {vs:List (Array Value)} {xs:List (List PV)} (hit:qI P gf lb vs G.I w) (hps:∀x∈vs,x.size=ps.size)
  (hlv:vs.length=xs.length) (hpv:∀(j:Nat) (v:Array Value) (x:List PV),vs[j]?=some v→xs[j]?=some x→∀(i:Nat) (p:PV),x[i]?=some p→Rep G.I w (v.getD i undef) p∧p.free=true∧p.Ag=p)
  {La L:List Bool} {X:Frm} {ds:List (Nat×Nat)} (hi:Inv cx G a w A σ) (hB:∀b x,cx.I0 b x→b<w.heap.size) (hA:∀t v,A.get t=some v→Em cx t v∧L.getD t false=true) (hXl:X.length=L.length) (hXs:∀t v,X.get t=some v→L.getD t false=true∧(cx.kd t).val=true∧Lx v=true∧A.get t=some v) (hq:quiet (GZ X A) σ=true) (hlen:A.length=L.length) (hla:La.length=L.length)
  (hLk:∀t,L.getD t false=true→((cx.kd t).val=true∨cx.kd t=.box)∧Es t assign=true∧Es t body=true∧∀p∈ps,p≠t) (hLa:∀t,La.getD t false=true→(cx.kd t).val=true∨cx.kd t=.box)
  (hds:∀d∈ds,(cx.kd d.1).val=true∧∀(v:Array Value) (tm:Array Value),v.size=ps.size→tm.size=cx.nt→((ps.zip v).foldl (fun t (p,v)=>t.setIfInBounds p v) tm).getD d.1 undef=v.getD d.2 undef)
  {A2:Frm} {σ2:Sto} (hrun:JZ pur call m aca ac La L X ds xs (J5 X A) σ=some (A2,σ2))
  {Q:Exit→Act→World→Prop} (hdone:∀(D:Nat) (W:World),w.heap.size≤D→W.heap[D]?=some (.deferred (some []))→w.heap.size≤W.heap.size→
   (∃G',Inv { cx with ds:=mark D::a.defers } G' { a with defers:=mark D::a.defers } W A2 σ2∧dY w.heap.size G' W∧(∀t v,A2.get t=some v→Em cx t v∧L.getD t false=true))→Q .normal { a with defers:=mark D::a.defers } W) :
  (Code.rangeFunc g ps assign body).wpIn (FW none) n P Q a w:=by
 obtain⟨fn0,hfn0,hname,hbody0⟩:=hent;have hKB:∀b,cx.K b→b<w.heap.size:=fun b h=>Bn (hi.base.Klt b h) hi.base.grow
 have eg:∀(args:Array Value) (w:World),(callFunc gf args).run P w=.ok (.enter gf args) w:=fun args W=>by
  have h1:¬fn0.name = "runtime.NumGoroutine" := by simpa using hname
  have h2:¬fn0.body=none:=fun e=>by rw[e] at hbody0;cases hbody0
  simp[callFunc,hfn0,h1,h2]
 have hXok:∀{cx':Cx} {G':Gh} {a':Act} {W:World},cx'.kd=cx.kd→(∀b x,G.I b x→G'.I b x)→Same G.I w W→∀t v,X.get t=some v→at' a' t=at' a t→DY cx' G' a' W t v:=by
  intro cx' G' a' W hkd hsub hsm t v hv hat;obtain⟨x1,x2,x3,x4⟩:=hXs t v hv;obtain⟨f1,f2⟩:=Lu x3;have hr:=((BL x2 f1).1 (hi.slot t v x4)).1;rw[BL (by rw[hkd];exact x2) f1,hat]
  exact⟨.one (.inl ((hr.flat f2).mono hsub hsm)),YI x3 _ _⟩
 have hXp:∀{cx':Cx},cx'.kd=cx.kd→∀t v,X.get t=some v→Em cx' t v:=fun hkd t v hv=>⟨(Lu (hXs t v hv).2.2.1).1,.inl (by rw[hkd];exact(hXs t v hv).2.1)⟩
 have hXA:X.length=A.length:=hXl.trans hlen.symm
 let I:List (Array Value)→(Nat→Prop)→World→Prop:=fun pre O W=>w.heap.size≤W.heap.size∧∃A' σ',JZ pur call m aca ac La L X ds (xs.take pre.length) (J5 X A) σ=some (A',σ')∧(∀t v,A'.get t=some v→Em cx t v∧L.getD t false=true)∧A'.length=L.length∧
   ∃G',Inv { cx with ds:=[] } G' { a with defers:=[] } W A' σ'∧dY w.heap.size G' W∧(∀b x,G.I b x→G'.I b x)∧Same G.I w W∧∀b,FH G' b→O b
 have hI:∀(pre:List (Array Value)) (O:Nat→Prop) (W W':World) (row:Option Nat),I pre O W→W.grownBy W' row→(∀r,row=some r→w.heap.size≤r∧∃o:Obj,W.heap[r]?=some o∧o.isCells=false)→I pre O W':=by
  rintro pre O W W' row ⟨hsz,A',σ',hit,hA',hl',G',hi',ht',hsub,hsame,hO⟩ hgr hrow
  obtain⟨h2,h3,h4⟩:=hi'.grown ht' hKB hsz hgr hrow;exact⟨BM hsz hgr.size,A',σ',hit,hA',hl',G',h2,h3,hsub,hsame.trans h4 hsub,hO⟩
 have h0:I [] (fun b=>b<w.heap.size) w:=by
  have hp:∀t v,A.get t=some v→Em cx t v:=fun t v h=>(hA t v h).1
  have h2:=((hi.forget (A':=GZ X A) (J2 hXA) (fun t v h=>GY h)).eF (fun t v h=>hp t v (GY h)) [] (a':={ a with defers:=[] }) rfl rfl)
  have h3:=(h2.Dl w.heap.size hB (fun t v h=>hp t v (GY h)) hq).fill hXA (fun t v hv=>hXok (G':=G.Dl w.heap.size w) rfl (fun b x h=>⟨h,.inl (hi.base.lt b x h)⟩) (Same.refl _ _) t v hv rfl)
  exact⟨Be _,J5 X A,σ,rfl,fun t v hv=>(Mx hv).elim (fun h=>⟨hXp rfl t v h,(hXs t v h).1⟩) (fun h=>hA t v (GY h)),by rw[OY hXA,hlen],_,h3,Ke _ _ _,fun b x h=>⟨h,.inl (hi.base.lt b x h)⟩,Same.refl _ _,fun b hb=>SQ hi.base (JC hb)⟩
 refine wpIn_rangeFunc fun fn hfn=>?_
 obtain⟨rec,hrec⟩:∃rec:LoopState→Option Code→Loop,rec=fun st pe=>{ state:=st,pending:=pe,fn,tmps:=a.tmps,params:=ps,assign,body,defers:=w.heap.size }:=⟨_,rfl⟩
 obtain⟨W1,hW1⟩:∃W1,(w.alloc (.deferred (some []))).alloc (.loop (rec .ready none))=W1:=⟨_,rfl⟩
 have hL1:W1.heap[w.heap.size+1]?=some (.loop (rec .ready none)):=by
  rw[←hW1];have:=World.alloc_heap_new (w.alloc (.deferred (some []))) (.loop (rec .ready none));rwa [World.size_alloc] at this
 have hK1:W1.heap[w.heap.size]?=some (.deferred (some [])):=by
  rw[←hW1];exact(Below.heap_alloc _ _ _ (by simp)).trans (World.alloc_heap_new w _)
 have hg1:w.grownBy (w.alloc (.deferred (some []))) none:=World.grownBy_alloc w _ none;have hg2:(w.alloc (.deferred (some []))).grownBy W1 none:=by rw[←hW1];exact World.grownBy_alloc _ _ none
 have hI1':I [] (fun b=>b<w.heap.size) W1:=hI _ _ _ _ none (hI _ _ _ _ none h0 hg1 (fun r e=>by cases e)) hg2 (fun r e=>by cases e)
 have hb1:Below w.heap.size w W1:=by
  rw[←hW1];exact(((Below.refl w.heap.size w).alloc (Be _) _).alloc (by simp) _)
 have hsz1:W1.heap.size=w.heap.size+2:=by rw[←hW1];simp
 have hI1:I [] (fun b=>b<W1.heap.size) W1:=by
  obtain⟨hsz,A',σ',hit,hA',hl',G',hi',ht',hsub,hsame,hO⟩:=hI1';exact⟨hsz,A',σ',hit,hA',hl',G',hi',ht',hsub,hsame,fun b hb=>by have:=hO b hb;omega⟩
 refine⟨w.heap.size+1,[mark w.heap.size],W1,{ target:=.fn (.func gf) lb,args:=#[.func (.yield (w.heap.size+1)) #[] #[]] },W1,gf,
  #[.func (.yield (w.heap.size+1)) #[] #[]]++lb,W1,?_,?_,?_,?_,fun h=>(by cases h),?_⟩
 ·rw[←hW1,hrec];exact run_enterLoop_outer _ _ _ _ _
 ·simp only[resolve,hg];simp[go_sem]
 ·intro f' _;trivial
 ·simp[invoke,go_sem,eg]
 ·have hnc:∀{W W':World} {row:Option Nat},(∀r,row=some r→W1.heap.size≤r∧∃o:Obj,W.heap[r]?=some o∧o.isWalk=true)→(∀r,row=some r→w.heap.size≤r∧∃o:Obj,W.heap[r]?=some o∧o.isCells=false):=
   fun hr r e=>by obtain⟨hB',o,ho,hw⟩:=hr r e;exact⟨by omega,o,ho,Obj.not_cells_of_walk hw⟩
  refine(hit (n - 1) (w.heap.size+1) (fun pre O W=>I pre O W∧W.heap[w.heap.size+1]?=some (.loop (rec .ready none))∧W.heap[w.heap.size]?=some (.deferred (some []))) W1 hb1
   (fun O s X Y row hs hg' hr=>⟨hI s O X Y row hs.1 hg' (hnc (W':=Y) hr),(grownBy_keeps hg' (fun r e=>(hr r e).2) hs.2.1 rfl).trans hs.2.1,(grownBy_keeps hg' (fun r e=>(hr r e).2) hs.2.2 rfl).trans hs.2.2⟩) ?_ ⟨hI1,hL1,hK1⟩).mono ?_
  ·
   rintro pre v post O W hvs ⟨⟨hsz,A',σ',hitr,hA',hl',G',hi',ht',hsub,hsame,hO⟩,hl,hk⟩
   have hjv:vs[pre.length]?=some v:=by rw[hvs];simp
   have hjlt:pre.length<xs.length:=by rw[←hlv];exact(Ab.1 hjv).1
   obtain⟨x,hjx⟩:∃x,xs[pre.length]?=some x:=⟨_,Ad hjlt⟩
   have hsplit:xs=xs.take pre.length++x::xs.drop (pre.length+1):=by
    have:=List.take_append_drop pre.length xs;rw[BB hjlt] at this;have hx':xs[pre.length]=x:=(Ab.1 hjx).2;rw[hx'] at this;exact this.symm
   have htake:xs.take (pre++[v]).length=xs.take pre.length++[x]:=by
    rw[AV,List.length_singleton,List.take_add_one,hjx];rfl
   obtain⟨rr,hround⟩:∃rr,UR pur call m aca ac La L X ds x A' σ'=some rr:=by
    rw[hsplit] at hrun;obtain⟨B',τ',h1,h2⟩:=NS _ _ _ _ hrun;rw[hitr] at h1;cases h1;simp only[JZ] at h2
    split at h2
    ·rename_i h3;exact⟨_,h3⟩
    ·cases h2
   obtain⟨A4,σ4⟩:=rr;have hround':=hround;unfold UR at hround
   split at hround
   case h_2=>cases hround
   rename_i Aa σa hruna0;obtain⟨Aa',hruna,hla',hsa⟩:=Mk hruna0
   split at hround
   case isFalse=>cases hround
   rename_i hqa
   split at hround
   case h_2=>cases hround
   rename_i A3 σ3 hrunb0;obtain⟨A3',hrunb,hlb',hsb⟩:=Mk hrunb0
   split at hround
   case isFalse=>cases hround
   rename_i hqb;cases hround;have hvm:v∈vs:=AA hjv;have hy:=run_yield (P:=P) (args:=v) hl (by rw[hrec];exact hps v hvm)
   rw[hrec] at hy;obtain⟨tm,htm⟩:∃tm,(ps.zip v).foldl (fun t (p,v)=>t.setIfInBounds p v) a.tmps=tm:=⟨_,rfl⟩
   have htsz:tm.size=a.tmps.size:=by
    rw[←htm,←Ew];generalize (ps.zip v).toList=l;generalize a.tmps=t0
    induction l generalizing t0 with
    |nil=>rfl
    |cons d l ih=>rw[Cn,ih];simp
   have htat:∀t,(∀p∈ps,p≠t)→tm.getD t undef=a.tmps.getD t undef:=by
    intro t ht
    have hz:∀d∈(ps.zip v).toList,d.1≠t:=by
     intro d hd;have hd':(d.1,d.2)∈ps.toList.zip v.toList:=by simpa [Array.toList_zip] using hd
     exact ht _ (by have:=(List.of_mem_zip hd').1;simpa using this)
    rw[←htm,←Ew];generalize (ps.zip v).toList=l at hz;generalize a.tmps=t0
    induction l generalizing t0 with
    |nil=>rfl
    |cons d l ih=>
     rw[Cn,ih (fun d' hd'=>hz d' (Bw _ hd'))]
     have:=hz d (BG ..);simp only[Ah];rw[Da this]
   let cx':Cx:={ cx with ds:=[] }
   have hx':∀{H:Gh} {V:World},Dp (cx'.inner H V []) fi:=⟨hx.kd,hx.nt,hx.al⟩
   let a1:Act:={ tmps:=tm,defers:=[] }
   have hi1:=hi'.inner ht' [] (a':=a1) rfl htsz (A':=A') (fun t u hu=>⟨(hA' t u hu).1,hu,htat t (hLk t (hA' t u hu).2).2.2.2⟩) rfl
   have hi2:Inv (cx'.inner G' W []) G' a1 W (Su ds x A') σ':=by
    refine⟨hi1.defers,hi1.size,by rw[Sq];exact hi1.room,hi1.base,fun t u hu=>?_,hi1.obj,hi1.len,hi1.abl⟩
    rcases Sr _ _ _ hu with⟨i,h2,h3⟩ | h2
    ·obtain⟨e1,e2,e3⟩:=hpv _ v x hjv hjx i u h3;obtain⟨hdv,hdt⟩:=hds _ h2;rw[BL (cx:=cx'.inner G' W []) hdv e2]
     have hat:at' a1 t=v.getD i undef:=by
      have:=hdt v a.tmps (hps v hvm) hi.size;rw[htm] at this;exact this
     rw[hat];exact⟨.one (.inl (e1.mono hsub hsame)),Pi e3⟩
    ·exact hi1.slot t u h2
   refine⟨fn,tm,assign,body,by rw[←htm];exact hy,roundIn_of_wpIn hfn ?_⟩
   refine Gg (ro:=some (w.heap.size+1)) (cx:=cx'.inner G' W []) hS hx' hmo assign aca hca m _ _ _ _ _ hruna a1 W ⟨G',hi2⟩ _ (fun a2 w2 hs2 hat2=>?_)
   obtain⟨G2,hi3'⟩:=hs2;have hi3:=hi3'.forget hla' hsa;have hk2:=LH hi3.base;have hXa:X.length=(Fv La Aa).length:=by rw[Gm hqa.2,hXl,hla]
   have hA2:∀t u,(GZ X (Fv La Aa)).get t=some u→Em cx t u∧Aa.get t=some u∧at' a2 t=at' a2 t:=fun t u hu=>by
    obtain⟨e1,e2,e3⟩:=I1 (GY hu);exact⟨⟨e3,hLa t e1⟩,e2,rfl⟩
   have hi4:=(hi'.outer hi3 (ds':=[]) (a2:=a2) hi3.defers rfl (A2:=GZ X (Fv La Aa)) hA2 (by rw[J2 hXa,Gm hqa.2];exact hqa.2.symm)).Dl w.heap.size hB (fun t u hu=>(hA2 t u hu).1) hqa.1
   have ht4:=Ke G2 w.heap.size w2;have hsub4:∀b x,G.I b x→(G2.Dl w.heap.size w2).I b x:=fun b x h=>⟨hi3.base.sub _ _ (hsub _ _ h),.inl (hi.base.lt b x h)⟩
   have hss2:Same G.I W w2:=⟨fun b o h=>hi3.base.same.cell b o (hsub _ _ h),fun b h=>hi3.base.same.blk b (hsub _ _ h)⟩
   have hsz2:w.heap.size≤w2.heap.size:=BM hsz hk2.size;have hl2:=hk2.same _ _ hl rfl;have hd2:=hk2.same _ _ hk rfl;refine⟨_,run_beginRound hl2 (by rw[hrec]),?_⟩
   obtain⟨w3,hw3⟩:∃w3,w2.putObj (w.heap.size+1) (.loop { rec .ready none with state:=.busy })=w3:=⟨_,rfl⟩
   have hg3:w2.grownBy w3 (some (w.heap.size+1)):=by rw[←hw3];exact grownBy_putObj' _ _ _
   have hlt2:w.heap.size+1<w2.heap.size:=(Bd.1 hl2).1;have hl3:w3.heap[w.heap.size+1]?=some (.loop { rec .ready none with state:=.busy }):=by rw[←hw3];exact World.putObj_heap_same hlt2
   have hd3:w3.heap[w.heap.size]?=some (.deferred (some [])):=by rw[←hw3];exact(World.putObj_heap_other (by omega)).trans hd2
   obtain⟨hi5,ht5,hs5⟩:=hi4.grown ht4 hKB hsz2 hg3 (fun r e=>by cases e;exact⟨by omega,_,hl2,rfl⟩)
   have hsz3:w.heap.size≤w3.heap.size:=BM hsz2 hg3.size;have hss5:Same G.I w2 w3:=⟨fun b o h=>hs5.cell b o (hsub4 _ _ h),fun b h=>hs5.blk b (hsub4 _ _ h)⟩
   have hi5f:=hi5.fill hXa (fun t v hv=>hXok rfl hsub4 ((hsame.trans hss2 (fun _ _ h=>h)).trans hss5 (fun _ _ h=>h)) t v hv (by
    obtain⟨k1,k2,k3,k4⟩:=hLk t (hXs t v hv).1;exact(hat2 t k2).trans (htat t k4)))
   have hi6:=hi5f.inner ht5 [] (a':=a2) hi5.defers rfl (A':=J5 X (Fv La Aa)) (fun t u hu=>⟨(Mx hu).elim (fun h=>hXp rfl t u h) (fun h=>(hA2 t u h).1),hu,rfl⟩) rfl
   rw[hw3];refine Gg (ro:=some (w.heap.size+1)) (cx:=cx'.inner (G2.Dl w.heap.size w2) w3 []) hS hx' hmo body ac hcb m _ _ _ _ _ hrunb a2 w3 ⟨_,hi6⟩ _ (fun a4 w4 hs4 hat4=>?_)
   obtain⟨G4,hi7'⟩:=hs4;have hi7:=hi7'.forget hlb' hsb;have hk4:=LH hi7.base;have hXb:X.length=(Fv L A3).length:=by rw[Gm hqb.2,hXl]
   have hA4:∀t u,(GZ X (Fv L A3)).get t=some u→Em cx t u∧A3.get t=some u∧at' { a with defers:=[] } t=at' a4 t:=by
    intro t u hu;obtain⟨e1,e2,e3⟩:=I1 (GY hu);obtain⟨k1,k2,k3,k4⟩:=hLk t e1;refine⟨⟨e3,k1⟩,e2,?_⟩
    rw[hat4 t k3,hat2 t k2];exact(htat t k4).symm
   have hi8:=(hi5.outer hi7 (ds':=[]) (a2:={ a with defers:=[] }) rfl (by have h2:=hi7.size;have h3:=hi.size;show a.tmps.size=_;rw[h3,h2];rfl) (A2:=GZ X (Fv L A3)) hA4 (by rw[J2 hXb,Gm hqb.2];exact hqb.2.symm)).Dl w.heap.size hB (fun t u hu=>(hA4 t u hu).1) hqb.1
   have ht8:=Ke G4 w.heap.size w4;have hl4:=hk4.same _ _ hl3 rfl;have hd4:=hk4.same _ _ hd3 rfl;have hlt4:w.heap.size+1<w4.heap.size:=(Bd.1 hl4).1;have he4:=run_endRound (P:=P) none hl4;have hss4:Same G.I w3 w4:=⟨fun b o h=>hi7.base.same.cell b o (hsub4 _ _ h),fun b h=>hi7.base.same.blk b (hsub4 _ _ h)⟩
   obtain⟨w5,hw5⟩:∃w5,w4.putObj (w.heap.size+1) (.loop (rec .ready none))=w5:=⟨_,rfl⟩;have hg5:w4.grownBy w5 (some (w.heap.size+1)):=by rw[←hw5];exact grownBy_putObj' _ _ _
   obtain⟨hi9,ht9,hs9⟩:=hi8.grown ht8 hKB (BM hsz3 hk4.size) hg5 (fun r e=>by cases e;exact⟨by omega,_,hl4,rfl⟩)
   have hsub8:∀b x,G.I b x→(G4.Dl w.heap.size w4).I b x:=fun b x h=>⟨hi7.base.sub _ _ (hsub4 _ _ h),.inl (hi.base.lt b x h)⟩
   have hss9:Same G.I w4 w5:=⟨fun b o h=>hs9.cell b o (hsub8 _ _ h),fun b h=>hs9.blk b (hsub8 _ _ h)⟩
   have hall:Same G.I W w5:=((hss2.trans hss5 (fun _ _ h=>h)).trans hss4 (fun _ _ h=>h)).trans hss9 (fun _ _ h=>h)
   have hsW5:W.heap.size≤w5.heap.size:=BM (BM (BM hk2.size hg3.size) hk4.size) hg5.size;refine⟨_,w5,?_,rfl,⟨⟨BM (BM hsz3 hk4.size) hg5.size,J5 X (Fv L A3),σ4,?_,fun t u hu=>(Mx hu).elim (fun h=>⟨hXp rfl t u h,(hXs t u h).1⟩) (fun h=>⟨(hA4 t u h).1,(I1 (GY h)).1⟩),by rw[OY hXb,Gm hqb.2],_,hi9.fill hXb (fun t v hv=>hXok rfl hsub8 (hsame.trans hall (fun _ _ h=>h)) t v hv rfl),ht9,hsub8,hsame.trans hall (fun _ _ h=>h),fun b hb=>?_⟩,?_,?_⟩,hall,hsW5,fun b cs t f hnO hb=>?_⟩
   ·rw[←hw5];rw[hrec] at he4 ⊢;exact he4
   ·rw[htake];exact Rz _ _ _ _ hitr hround'
   ·
    have hlt:=SQ hi9.base hb;rcases LG hi7.base (JC hb) with h1 | h1
    ·exact .inr ⟨BM (BM hk2.size hg3.size) h1,hlt⟩
    ·rcases LG hi3.base (JC h1) with h2 | h2
     ·exact .inr ⟨h2,hlt⟩
     ·exact .inl (hO b h2)
   ·rw[←hw5];exact World.putObj_heap_same hlt4
   ·rw[←hw5];exact(World.putObj_heap_other (by omega)).trans hd4
   ·
    have hbl:b<W.heap.size:=(Bd.1 hb).1;have hnk:¬FH G' b:=fun h=>hnO (hO b h)
    have hne:w.heap.size+1≠b:=by rintro rfl;rw[hl] at hb;cases hb
    have e2:w2.heap[b]?=some (Obj.cells cs t f):=(RH hi3.base hbl hnk).trans hb;have hb2:b<w2.heap.size:=(Bd.1 e2).1;have e3:w3.heap[b]?=some (Obj.cells cs t f):=by rw[←hw3];exact(World.putObj_heap_other (by omega)).trans e2
    have hb3:b<w3.heap.size:=(Bd.1 e3).1
    have hnk2:¬FH (G2.Dl w.heap.size w2) b:=fun h=>by
     rcases LG hi3.base (JC h) with h | h
     ·omega
     ·exact hnk h
    have e4:w4.heap[b]?=some (Obj.cells cs t f):=(RH hi7.base hb3 hnk2).trans e3;rw[←hw5];exact(World.putObj_heap_other (by omega)).trans e4
  ·
   rintro e W2 ⟨⟨v,rfl⟩,O,hIx,hl,hk⟩
   have hlt:w.heap.size+1<W2.heap.size:=(Bd.1 hl).1;refine⟨none,_,by have:=run_endLoop (P:=P) hl (by rw[hrec];simp);rw[hrec] at this;exact this,?_⟩
   have hg9:W2.grownBy (W2.putObj (w.heap.size+1) (.loop { rec .ready none with state:=.exhausted })) (some (w.heap.size+1)):=grownBy_putObj' _ _ _
   obtain⟨hsz,A',σ',hitr,hA',hl',G',hi',ht',hsub,hsame,_⟩:=hI _ _ _ _ _ hIx hg9 (fun r e=>by cases e;exact⟨by omega,_,hl,rfl⟩)
   rw[hlv,List.take_length,hrun] at hitr;cases hitr;rw[hrec] at hi' ht' hsame hsz;refine hdone w.heap.size _ (Be _) ((World.putObj_heap_other (by omega)).trans hk) hsz ⟨G',hi'.eF (cx:={ cx with ds:=[] }) (fun t v h=>(hA' t v h).1) (mark w.heap.size::a.defers) (a':={ a with defers:=mark w.heap.size::a.defers }) rfl rfl,ht',hA'⟩
end
end
end Go.Abs

namespace Go.Abs
open Go.RowKit
def oV:List Code→Code→Code
 |[],c=>c
 |p::ps,c=>.seq p (oV ps c)
def SB(P:Program)(pur:FuncId→Bool)(fi:FI):List Code→Option (List Dc)
 |[]=>some []
 |c::cs=>match comp P pur fi c,SB P pur fi cs with
  |some x,some xs=>some (x::xs)
  |_,_=>none
noncomputable section
def pF(pur:FuncId→Bool)(call:Caller)(m:Nat):List Dc→Frm→Sto→Option (Bt×Frm×Sto)
 |[],A,σ=>some (.normal,A,σ)
 |c::cs,A,σ=>match Yp pur call m c A σ with
  |some (.normal,A',σ')=>pF pur call m cs A' σ'
  |r=>r
structure LFn where
 nargs:Nat
 ntmps:Nat
 extra:Nat
 pre:List Dc
 rg:Dc
 g:Nat
 aca:Dc
 ac:Dc
 post:Dc
 La:List Bool
 L:List Bool
 Lr:List Bool
 ds:List (Nat×Nat)
 nps:Nat
 res:List (Nat×Option Nat)
 Lv:List Bool
def Y7(f:LFn)(A:Frm)(σ:Sto):Option (PV×Sto):=(Fz A f.res).bind fun vs=>(Fu vs).map fun r=>(r,σ)
def rF(pur:FuncId→Bool)(call:Caller)(itr:FuncId→List PV→Option (List (List PV)))(m:Nat)(f:LFn)(A:Frm)(σ:Sto):Option (PV×Sto):=
 match A.get f.g with
 |some (.func gf [] caps)=>match itr gf caps with
  |some xs=>if quiet (GZ (JY f.Lv A) (Fv f.L A)) σ=true∧A.length=f.L.length∧f.Lv.length=f.L.length∧f.Lr.length=f.L.length∧caps.all PV.flat=true∧xs.all (fun x=>x.length==f.nps)=true then
   (match JZ pur call m f.aca f.ac f.La f.L (JY f.Lv A) f.ds xs (J5 (JY f.Lv A) (Fv f.L A)) σ with
   |some (A2,σ2)=>match Yp pur call m f.post A2 σ2 with
    |some (e,A3,σ3)=>if(e=.normal∨e=.ret)∧quiet (GZ (JY f.Lv A) (Fv f.Lr A3)) σ3=true∧A3.length=f.Lr.length then Y7 f (GZ (JY f.Lv A) (Fv f.Lr A3)) σ3 else none
    |none=>none
   |none=>none) else none
  |none=>none
 |_=>none
def TF(pur:FuncId→Bool)(itr:FuncId→List PV→Option (List (List PV)))(m:Nat)(f:LFn)(call:Caller)(args:List PV)(σ:Sto):Option (PV×Sto):=
 if args.length=f.nargs∧args.length≤f.ntmps then
  match pF pur call m f.pre (args.map some++List.replicate (f.ntmps+f.extra - args.length) none) σ with
  |some (.ret,A,σ')=>Y7 f A σ'
  |some (.normal,A,σ')=>match Yp pur call m f.rg A σ' with
   |some (.normal,A1,σ1)=>rF pur call itr m f A1 σ1
   |_=>none
  |_=>none
 else none
end
def mW(P:Program)(itr:FuncId→List PV→Option (List (List PV))):Prop:=
 ∀gf caps xs,itr gf caps=some xs→He P gf∧∀(I:Imm) (w:World) (cs:Array Value),(∀b x,I b x→b<w.heap.size)→cs.size=caps.length→(∀(i:Nat) (p:PV),caps[i]?=some p→Rep I w (cs.getD i undef) p)→
  ∃vs:List (Array Value),qI P gf cs vs I w∧vs.length=xs.length∧∀(j:Nat) (v:Array Value) (x:List PV),vs[j]?=some v→xs[j]?=some x→v.size=x.length∧∀(i:Nat) (p:PV),x[i]?=some p→Rep I w (v.getD i undef) p∧p.free=true∧p.Ag=p
section
variable{P:Program}{pur:FuncId→Bool}{call:Caller}{fi:FI}{cx:Cx}{G:Gh}{a:Act}{w:World}{A A':Frm}{σ σ':Sto}
theorem Y9{c:Code}{cs:List Code}{acs:List Dc}(h:SB P pur fi (c::cs)=some acs):∃x xs,acs=x::xs∧comp P pur fi c=some x∧SB P pur fi cs=some xs:=by
 simp only[SB] at h
 split at h
 ·rename_i x xs h1 h2;cases h;exact⟨x,xs,rfl,h1,h2⟩
 ·cases h
theorem OC{n m:Nat}(hS:EW P call)(hx:Dp cx fi)(hmo:P.follows .mixedOrders=true):∀(cs:List Code) (acs:List Dc),SB P pur fi cs=some acs→∀(A:Frm) (σ:Sto) (e:Bt) (A':Frm) (σ':Sto),pF pur call m acs A σ=some (e,A',σ')→
  ∀(a:Act) (w:World),Sim cx a w A σ→∀(rest:Code) (Q:Exit→Act→World→Prop),(∀a' w',Sim cx a' w' A' σ'→(e=.normal→rest.wpIn (FW none) n P Q a' w')∧(e≠.normal→Q e.ex a' w'))→(oV cs rest).wpIn (FW none) n P Q a w
 |[],acs,hc,A,σ,e,A',σ',h,a,w,hs,rest,Q,hq=>by
  cases hc;cases h;exact(hq a w hs).1 rfl
 |c::cs,acs,hc,A,σ,e,A',σ',h,a,w,hs,rest,Q,hq=>by
  obtain⟨x,xs,rfl,h1,h2⟩:=Y9 hc;simp only[pF] at h;refine wpIn_seq ?_
  split at h
  ·rename_i A1 σ1 hr;obtain⟨A1',hr',hl,hsub⟩:=Mk hr;refine Gg (ro:=none) hS hx hmo c x h1 m _ _ _ _ _ hr' a w hs _ (fun a' w' hs' _=>?_)
   obtain⟨G',hi'⟩:=hs';exact OC hS hx hmo cs xs h2 A1 σ1 e A' σ' h a' w' ⟨G',hi'.forget hl hsub⟩ rest Q hq
  ·rename_i hn;obtain⟨A1',hr',hl,hsub⟩:=Mk h;refine Gg (ro:=none) hS hx hmo c x h1 m _ _ _ _ _ hr' a w hs _ (fun a' w' hs' _=>?_)
   obtain⟨G',hi'⟩:=hs';have:=hq a' w' ⟨G',hi'.forget hl hsub⟩;cases e with
   |normal=>exact absurd h (hn _ _)
   |exit id=>exact this.2 (by simp)
   |ret=>exact this.2 (by simp)
def okL(fi:FI)(L:List Bool):Bool:=(List.range L.length).all fun t=>!(L.getD t false)||(fi.kind t).K4||decide (fi.kind t=.box)
theorem Qk{L:List Bool}(h:okL fi L=true){t:Nat}(ht:L.getD t false=true):(fi.kind t).val=true∨fi.kind t=.box:=by
 have hlt:t<L.length:=by
  rcases Cc t L.length with h' | h'
  ·exact h'
  ·rw[Aj,AC h'] at ht;cases ht
 have:=Ao.1 h t (Bg.2 hlt);rw[ht] at this;simp only[D7,Eh,Df,decide_eq_true_eq] at this;rcases this with h1 | h1
 ·exact .inl (H8 h1)
 ·exact .inr h1
def bR(L:List Bool)(ps:Array Tmp)(assign body:Code):Bool:=(List.range L.length).all fun t=>!(L.getD t false)||(Es t assign&&Es t body&&ps.all (fun p=>p != t))
theorem jB{L:List Bool}{ps:Array Tmp}{assign body:Code}(h:bR L ps assign body=true){t:Nat}(ht:L.getD t false=true):Es t assign=true∧Es t body=true∧∀p∈ps,p≠t:=by
 have hlt:t<L.length:=by
  rcases Cc t L.length with h' | h'
  ·exact h'
  ·rw[Aj,AC h'] at ht;cases ht
 have:=Ao.1 h t (Bg.2 hlt);rw[ht] at this;simp only[D7,Eh,Ak] at this;refine⟨this.1.1,this.1.2,fun p hp=>?_⟩
 have h2:=(Array.all_eq_true_iff_forall_mem.1 this.2) p hp;simpa using h2
theorem dh{L:List Bool}{A:Frm}{t:Nat}{p:PV}(h:L.getD t false=true)(hg:A.get t=some p)(hf:p.free=true):(Fv L A).get t=some p:=by
 unfold Frm.get at hg
 split at hg
 ·rename_i v hv;subst hg
  have hb:L[t]?=some true:=by
   rw[Aj] at h;cases hx:L[t]? with
   |none=>rw[hx] at h;cases h
   |some b=>rw[hx] at h;rw[show b=true from h]
  unfold Fv Frm.get;rw[Cf,hb,hv];simp[Option.filter,hf]
 ·cases hg
theorem xE{f:FuncId}{fn:Func}{lf:LFn}{m:Nat}{itr:FuncId→List PV→Option (List (List PV))}(hitr:mW P itr)(hmo:P.follows .mixedOrders=true)(hfn:P.funcs[f]?=some fn)(hname:(fn.name == "runtime.NumGoroutine")=false)
  (hok:fi.okB=true) (hnt:fi.nt=fn.ntmps) (hna:lf.ntmps=fn.ntmps) (hex:lf.extra=fi.ps.length) {pre:List Code} {rg assign body post:Code} {bid gt:Nat} {ps:Array Tmp}
  (hbody:fn.body=some (oV pre (.seq (.seq rg (.block bid (.rangeFunc (.tmp gt) ps assign body))) post))) (hgt:lf.g=gt) (hnp:lf.nps=ps.size)
  (hcp:SB P pur fi pre=some lf.pre) (hcr:comp P pur fi rg=some lf.rg) (hca:comp P pur fi assign=some lf.aca) (hcb:comp P pur fi body=some lf.ac) (hct:comp P pur fi post=some lf.post)
  (hrs:Hm P fi fn.results.toList=some lf.res) (hvals:(List.range lf.nargs).all (fun t=>(fi.kind t).K4)=true) (hgk:(fi.kind gt).K4=true)
  (hLa:okL fi lf.La=true) (hL:okL fi lf.L=true) (hLr:okL fi lf.Lr=true) (hL2:bR lf.L ps assign body=true) (hll:lf.La.length=lf.L.length) (hLv:∀t,lf.Lv.getD t false=true→lf.L.getD t false=true∧(fi.kind t).val=true)
  (hds:∀d∈lf.ds,(fi.kind d.1).val=true∧∀(v:Array Value) (tm:Array Value),v.size=ps.size→tm.size=fi.nt→((ps.zip v).foldl (fun t (p,v)=>t.setIfInBounds p v) tm).getD d.1 undef=v.getD d.2 undef) :
  FQ P f (TF pur itr m lf):=by
 intro call hS args σ r σ' hown h;have hent:He P f:=⟨fn,hfn,hname,by rw[hbody];rfl⟩
 refine⟨hent,fun n vs w G K hargs hpre=>?_⟩
 unfold TF at h
 split at h
 case isFalse=>cases h
 rename_i hlen;obtain⟨hl1,hl2⟩:=hlen;have hval:∀t,t<args.length→(fi.kind t).val=true:=fun t ht=>H8 (Ao.1 hvals t (Bg.2 (by omega)))
 have hinit:=RF hok hpre hargs hown (by omega) hval fi.ps.length
 have hvs:vs.size=args.length:=by simpa using hargs.1
 have hcx:=vz hok K G w;rw[hna,←hnt,hex] at h;refine callsIn_of_wp_marks hfn hbody trivial ?_
 rw[←hnt]
 have fin0:∀(e:Bt) (A1:Frm) (a':Act) (w':World),(e=.normal∨e=.ret)→Sim (WZ fi hok K G w) a' w' A1 σ'→Y7 lf A1 σ'=some (r,σ')→
   bodyPostM (FW none) n P fn (fun e w'=>∃v G',e=.returned v∧Bu G'.I G'.bl w' v r∧Aft K G w σ' G' w') e.ex a' w':=by
  intro e A1 a' w' he hs hres;obtain⟨G',hi'⟩:=hs;unfold Y7 at hres;obtain⟨ps',hps,hres⟩:=AO.1 hres;obtain⟨r',hr',e1⟩:=Ac.1 hres;cases e1;obtain⟨v,hv,hrep⟩:=Kk (P:=P) hi' hcx hrs hps hr';have hb:=hi'.base;have haft:Aft K G w σ' G' w':=⟨hb.keep,hb.same,hb.sub,hb.new,hb.lt,hb.own,hb.grow,hb.bl,hb.os,hb.tape,hb.output,hi'.obj,hi'.len,hi'.abl⟩;have hd:a'.defers=[]:=hi'.defers
  have hfin:LeavesInM (FW none) n P fn a'.tmps (fun e w'=>∃v G',e=.returned v∧Bu G'.I G'.bl w' v r∧Aft K G w σ' G' w') a'.defers .returning w':=by
   rw[hd];exact⟨v,hv,v,G',rfl,hrep,haft⟩
  rcases he with rfl | rfl
  ·exact hfin
  ·exact hfin
 split at h
 ·
  rename_i A1 σ1 hrun
  have hσ:σ1=σ':=by
   unfold Y7 at h;obtain⟨_,_,h⟩:=AO.1 h;obtain⟨_,_,e⟩:=Ac.1 h;cases e;rfl
  subst hσ;exact OC hS hcx hmo pre lf.pre hcp _ σ _ A1 σ1 hrun _ w ⟨G,hinit⟩ _ _ (fun a' w' hs=>⟨fun e=>(by cases e),fun _=>fin0 .ret A1 a' w' (.inr rfl) hs h⟩)
 ·rename_i A1 σ1 hrun
  split at h
  case h_2=>cases h
  rename_i A2 σ2 hrg;refine OC hS hcx hmo pre lf.pre hcp _ σ _ A1 σ1 hrun _ w ⟨G,hinit⟩ _ _ (fun a' w' hs=>⟨fun _=>?_,fun e=>absurd rfl e⟩)
  refine wpIn_seq (wpIn_seq ?_)
  obtain⟨A2',hrg',hlg,hsg⟩:=Mk hrg;refine Gg (ro:=none) hS hcx hmo rg lf.rg hcr m _ _ _ _ _ hrg' a' w' hs _ (fun a2 w2 hs2 _=>?_)
  obtain⟨G2,hi2'⟩:=hs2;have hi2:=hi2'.forget hlg hsg;show(Code.block bid (Code.rangeFunc (.tmp gt) ps assign body)).wpIn (FW none) n P _ a2 w2;refine wpIn_block ?_
  unfold rF at h;rw[hgt] at h
  split at h
  case h_2=>cases h
  rename_i gf caps hget
  split at h
  case h_2=>cases h
  rename_i xs hxs
  split at h
  case isFalse=>cases h
  rename_i hcc;obtain⟨hq,hlA,hlv1,hlr1,hcaps,hxl⟩:=hcc
  split at h
  case h_2=>cases h
  rename_i A3 σ3 hiter
  split at h
  case h_2=>cases h
  rename_i e4 A4 σ4 hpost
  split at h
  case isFalse=>cases h
  rename_i hend;obtain⟨he4,hq4,hl4⟩:=hend;have hgv:((WZ fi hok K G w).kd gt).val=true:=H8 hgk;have hrepg:=((BL hgv rfl).1 (hi2.slot gt _ hget)).1;obtain⟨fs,cs,hat,hf1,hf2,hf3,hf4⟩:=hrepg.J3;have hfs:fs=#[]:=Array.eq_empty_of_size_eq_zero hf1;subst hfs;obtain⟨hge,hg⟩:=hitr gf caps xs hxs;obtain⟨vls,hito,hlv,hpv⟩:=hg G2.I w2 cs hi2.base.lt hf2 (fun i p hp=>Bu.flat (.one (hf4 i p hp)) (Ao.1 hcaps p (AA hp)))
  have hA0:∀t v,(Fv lf.L A2).get t=some v→Em (WZ fi hok K G w) t v∧lf.L.getD t false=true:=fun t v hv=>by
   obtain⟨e1,e2,e3⟩:=I1 hv;exact⟨⟨e3,Qk hL e1⟩,e1⟩
  have hi3:=hi2.forget (A':=Fv lf.L A2) (by rw[Gm hlA,hlA]) (fun t v hv=>(I1 hv).2.1)
  have hXl:(JY lf.Lv A2).length=lf.L.length:=by simp[JY,hlv1,hlA]
  have hXs:∀t v,(JY lf.Lv A2).get t=some v→lf.L.getD t false=true∧((WZ fi hok K G w).kd t).val=true∧Lx v=true∧(Fv lf.L A2).get t=some v:=fun t v hv=>by
   obtain⟨x1,x2,x3⟩:=df hv;obtain⟨y1,y2⟩:=hLv t x1;exact⟨y1,y2,x3,dh y1 x2 (Lu x3).1⟩
  have hI0:∀b x,(WZ fi hok K G w).I0 b x→b<w2.heap.size:=fun b x hb=>Bn (hpre.lt b x hb) hi2.base.grow
  refine Wx (pur:=pur) (call:=call) (m:=m) hS hcx hmo hca hcb (a:=a2) (g:=.tmp gt) (by exact hat) hge hito (fun v hv=>?_) hlv (fun j v x h1 h2=>(hpv j v x h1 h2).2) hi3 hI0 hA0 hXl hXs hq (by rw[Gm hlA]) hll
   (fun t ht=>⟨Qk hL ht,jB hL2 ht⟩) (fun t ht=>Qk hLa ht) hds hiter (fun D W hD hdef hBW hex=>?_)
  ·obtain⟨j,hj⟩:=Bb.1 hv;have hjl:j<xs.length:=by rw[←hlv];exact(Ab.1 hj).1
   rw[(hpv j v _ hj (Ad hjl)).1];have:=Ao.1 hxl _ (AQ hjl);rw[←hnp];simpa using this
  ·obtain⟨G3,hi4,ht4,hA3⟩:=hex;have hd2:a2.defers=[]:=hi2.defers;rw[hd2] at hi4 ⊢
   let cxm:Cx:={ WZ fi hok K G w with ds:=[mark D] }
   have hi5:Inv (cxm.inner G3 W [mark D]) G3 { a2 with defers:=[mark D] } W A3 σ3:=hi4.inner ht4 [mark D] rfl rfl (fun t v hv=>⟨(hA3 t v hv).1,hv,rfl⟩) rfl
   obtain⟨A4',hpost',hlp,hsp⟩:=Mk hpost;show post.wpIn (FW none) n P _ { a2 with defers:=[mark D] } W
   refine Gg (ro:=none) (cx:=cxm.inner G3 W [mark D]) hS ⟨hcx.kd,hcx.nt,hcx.al⟩ hmo post lf.post hct m _ _ _ _ _ hpost' _ W ⟨G3,hi5⟩ _ (fun a4 w4 hs4 _=>?_)
   obtain⟨G4,hi6'⟩:=hs4;have hi6:=hi6'.forget hlp hsp;have hk4:=LH hi6.base;have hdef4:=hk4.same _ _ hdef rfl;have hd4:a4.defers=[mark D]:=hi6.defers;have hXr:(JY lf.Lv A2).length=(Fv lf.Lr A4).length:=by rw[Gm hl4,hXl,hlr1]
   have hA4:∀t v,(GZ (JY lf.Lv A2) (Fv lf.Lr A4)).get t=some v→Em cxm t v∧A4.get t=some v∧at' { a4 with defers:=[] } t=at' a4 t:=fun t v hv=>by
    obtain⟨e1,e2,e3⟩:=I1 (GY hv);exact⟨⟨e3,Qk hLr e1⟩,e2,rfl⟩
   have hi7:=(hi4.outer (cx:=cxm) hi6 (ds':=[]) (a2:={ a4 with defers:=[] }) rfl rfl (A2:=GZ (JY lf.Lv A2) (Fv lf.Lr A4)) hA4 (by rw[J2 hXr,Gm hl4];exact hl4.symm)).Dl w2.heap.size hI0 (fun t v hv=>(hA4 t v hv).1) hq4
   have ht7:=Ke G4 w2.heap.size w4;obtain⟨w5,hw5⟩:∃w5,w4.putObj D (.deferred none)=w5:=⟨_,rfl⟩;have hg5:w4.grownBy w5 (some D):=by rw[←hw5];exact grownBy_putObj' _ _ _
   have hKB:∀b,K b→b<w2.heap.size:=fun b hb=>Bn (hpre.Klt b hb) hi2.base.grow
   obtain⟨hi8,_,_⟩:=hi7.grown ht7 hKB (BM hBW hk4.size) hg5 (fun r e=>by cases e;exact⟨hD,_,hdef4,rfl⟩)
   have hσ:σ4=σ':=by
    unfold Y7 at h;obtain⟨_,_,h⟩:=AO.1 h;obtain⟨_,_,e⟩:=Ac.1 h;cases e;rfl
   subst hσ;unfold Y7 at h;obtain⟨ps',hps,hres⟩:=AO.1 h;obtain⟨r',hr',e1⟩:=Ac.1 hres;cases e1;obtain⟨v,hv,hrep⟩:=Kk (P:=P) hi8 ⟨hcx.kd,hcx.nt,hcx.al⟩ hrs hps hr';have hb:=hi8.base;have haft:Aft K G w σ4 _ w5:=⟨hb.keep,hb.same,hb.sub,hb.new,hb.lt,hb.own,hb.grow,hb.bl,hb.os,hb.tape,hb.output,hi8.obj,hi8.len,hi8.abl⟩
   have hfin:LeavesInM (FW none) n P fn a4.tmps (fun e w'=>∃v G',e=.returned v∧Bu G'.I G'.bl w' v r∧Aft K G w σ4 G' w') a4.defers .returning w4:=by
    rw[hd4];refine⟨by simp,.inl ⟨D,w5,rfl,by rw[←hw5];exact run_takeDeferred hdef4,?_⟩⟩
    exact⟨v,hv,v,_,rfl,hrep,haft⟩
   rcases he4 with rfl | rfl
   ·exact hfin
   ·exact hfin
 ·cases h
end
end Go.Abs

namespace Go.Abs.Z
def ae:LFn:=⟨1,10,0,[.region [⟨none,some 1,.p .bx,[.slot 0],[],[]⟩,⟨none,some 2,.p .mv,[.val (.int .i64 0)],[],[]⟩],.region [⟨none,some 3,.p (.zl (.int .i64 0)),[],[],[]⟩,⟨none,none,.p (.stl 0 1),[.slot 3,.val (.int .i64 0)],[3],[]⟩]],.region [⟨none,some 4,.r (.ld 5 true),[.slot 1],[],[]⟩,⟨none,some 5,.c 167,[.slot 4],[],[]⟩],5,.skip,.block 1 (.region [⟨none,some 7,.p (.ldl 0 1 false),[.slot 3],[],[]⟩,⟨none,some 8,.p (.bin .add 0),[.slot 7,.val (.int .i64 1)],[],[]⟩,⟨none,none,.p (.stl 0 1),[.slot 3,.slot 8],[3],[]⟩]),.seq (.region [⟨none,some 9,.p (.ldl 0 1 false),[.slot 3],[],[]⟩,⟨none,some 2,.p .mv,[.slot 9],[],[]⟩]) .ret,[true,true,true,true,true,true,true,true,true,true],[true,true,true,true,true,true,false,false,false,true],[true,true,true,true,true,true,true,true,true,true],[(6,0)],1,[(2,none)],[true,true,true,false,true,true,false,false,false,true]⟩
def ah:LFn:=⟨1,49,0,[.region [⟨none,some 1,.p .bx,[.slot 0],[],[]⟩,⟨none,some 2,.p .mv,[.val (.bool false)],[],[]⟩],.region [⟨none,some 8,.c 166,[],[],[]⟩,⟨none,some 3,.p (.zi 1),[],[],[]⟩,⟨none,none,.p (.sti 1),[.slot 3,.slot 8],[3],[]⟩],.region [⟨none,some 4,.p (.zl (.bool false)),[],[],[]⟩,⟨none,none,.p (.stl 0 1),[.slot 4,.val (.bool true)],[4],[]⟩]],.region [⟨none,some 9,.r (.ld 5 true),[.slot 1],[],[]⟩,⟨none,some 10,.c 167,[.slot 9],[],[]⟩],10,.region [⟨none,some 5,.p (.zi 5),[],[],[]⟩,⟨none,none,.p (.sti 5),[.slot 5,.slot 11],[5],[]⟩],.block 1 (.seq (.region [⟨none,some 13,.r (.ld 1 false),[.slot 3],[],[]⟩,⟨none,some 14,.p (.fa 0 1 false),[.slot 5],[],[]⟩,⟨none,some 15,.r (.ld 1 false),[.slot 14],[],[]⟩,⟨none,some 16,.p (.look (.agg [.nilf,.nils,.nilf,.int .i64 0]) true true),[.slot 13,.slot 15],[],[]⟩,⟨none,some 12,.p .mv,[.slot 16],[],[]⟩,⟨none,some 17,.p (.ext 0),[.slot 12],[],[]⟩,⟨none,some 18,.p (.ext 1),[.slot 12],[],[]⟩,⟨none,some 6,.p (.zi 4),[],[],[]⟩,⟨none,none,.p (.sti 4),[.slot 6,.slot 17],[6],[]⟩,⟨none,some 7,.p .mv,[.slot 18],[],[]⟩]) (.seq (.region [⟨none,some 19,.p (.ldl 0 1 false),[.slot 4],[],[]⟩,⟨none,some 20,.p .mv,[.slot 19],[],[]⟩,⟨some (20,true),some 21,.p .mv,[.slot 7],[],[]⟩,⟨none,some 22,.p .pick,[.slot 20,.slot 21,.val (.bool false)],[],[]⟩,⟨none,some 23,.p .mv,[.slot 22],[],[]⟩,⟨some (23,true),some 24,.r (.ld 4 true),[.slot 6],[],[]⟩,⟨some (23,true),some 25,.r (.ld 5 true),[.slot 5],[],[]⟩,⟨some (23,true),some 26,.c 168,[.slot 24,.slot 25],[],[]⟩,⟨none,some 27,.p .pick,[.slot 23,.slot 26,.val (.bool false)],[],[]⟩,⟨none,none,.p (.stl 0 1),[.slot 4,.slot 27],[4],[]⟩]) (.seq (.region [⟨none,some 28,.p (.fa 0 1 false),[.slot 5],[],[]⟩,⟨none,some 29,.r (.ld 1 false),[.slot 28],[],[]⟩,⟨none,some 30,.p (.bin .eql 0),[.slot 29,.val (.int .i64 4)],[],[]⟩,⟨none,some 31,.p .mv,[.slot 30],[],[]⟩,⟨some (31,true),some 32,.p (.ldl 0 1 false),[.slot 4],[],[]⟩,⟨none,some 33,.p .pick,[.slot 31,.slot 32,.val (.bool false)],[],[]⟩]) (.cond (.slot 33) (.region [⟨none,some 34,.p (.fa 4 1 false),[.slot 5],[],[]⟩,⟨none,some 35,.r (.ld 1 false),[.slot 34],[],[]⟩,⟨none,some 36,.p (.idx 5),[.slot 35,.val (.int .i64 0)],[],[]⟩,⟨none,some 37,.p (.fa 1 1 false),[.slot 36],[],[]⟩,⟨none,some 38,.r (.ld 1 false),[.slot 37],[],[]⟩,⟨none,some 39,.p (.bin .eql 0),[.slot 38,.val (.str [105,110,116])],[],[]⟩,⟨none,some 40,.p .mv,[.slot 39],[],[]⟩,⟨some (40,false),some 41,.p (.fa 4 1 false),[.slot 5],[],[]⟩,⟨some (40,false),some 42,.r (.ld 1 false),[.slot 41],[],[]⟩,⟨some (40,false),some 43,.p (.idx 5),[.slot 42,.val (.int .i64 0)],[],[]⟩,⟨some (40,false),some 44,.p (.fa 1 1 false),[.slot 43],[],[]⟩,⟨some (40,false),some 45,.r (.ld 1 false),[.slot 44],[],[]⟩,⟨some (40,false),some 46,.p (.bin .eql 0),[.slot 45,.val (.str [98,111,111,108])],[],[]⟩,⟨none,some 47,.p .pick,[.slot 40,.val (.bool true),.slot 46],[],[]⟩,⟨none,none,.p (.stl 0 1),[.slot 4,.slot 47],[4],[]⟩]) .skip)))),.seq (.region [⟨none,some 48,.p (.ldl 0 1 false),[.slot 4],[],[]⟩,⟨none,some 2,.p .mv,[.slot 48],[],[]⟩]) .ret,[true,true,true,true,true,true,true,true,true,true,true,true,true,true,true,true,true,true,true,true,true,true,true,true,true,true,true,true,true,true,true,true,true,true,true,true,true,true,true,true,true,true,true,true,true,true,true,true,true],[true,true,true,true,true,false,false,false,true,true,true,false,false,false,false,false,false,false,false,false,false,false,false,false,false,false,false,false,false,false,false,false,false,false,false,false,false,false,false,false,false,false,false,false,false,false,false,false,true],[true,true,true,true,true,true,true,true,true,true,true,true,true,true,true,true,true,true,true,true,true,true,true,true,true,true,true,true,true,true,true,true,true,true,true,true,true,true,true,true,true,true,true,true,true,true,true,true,true],[(11,0)],1,[(2,none)],[true,true,true,true,false,false,false,false,true,true,true,false,false,false,false,false,false,false,false,false,false,false,false,false,false,false,false,false,false,false,false,false,false,false,false,false,false,false,false,false,false,false,false,false,false,false,false,false,true]⟩
end Go.Abs.Z

namespace Go.Abs
open Go.RowKit
structure Split where
 rg:Code
 bid:Nat
 g:Nat
 ps:Array Tmp
 assign:Code
 body:Code
 post:Code
def QE:Code→Option (List Code×Split)
 |.seq (.seq rg (.block bid (.rangeFunc (.tmp g) ps assign body))) post=>some ([],⟨rg,bid,g,ps,assign,body,post⟩)
 |.seq a b=>(QE b).map fun r=>(a::r.1,r.2)
 |_=>none
theorem aY:∀(c:Code) (pre:List Code) (s:Split),QE c=some (pre,s)→c=oV pre (.seq (.seq s.rg (.block s.bid (.rangeFunc (.tmp s.g) s.ps s.assign s.body))) s.post):=by
 intro c
 induction c with
 |seq a b iha ihb=>
  intro pre s h;unfold QE at h
  split at h
  ·rename_i rg bid g ps assign body post he;cases he;cases h;rfl
  ·rename_i x y hn he;cases he;obtain⟨⟨l,s'⟩,h1,h2⟩:=Ac.1 h;cases h2;rw[ihb _ _ h1];rfl
  ·cases h
 |_=>intro pre s h;simp[QE] at h
def NI(fi:FI)(N:Nat):List Bool:=(List.range N).map fun t=>(fi.kind t).K4||decide (fi.kind t=.box)
def H7(fi:FI)(N:Nat)(ps:Array Tmp)(assign body:Code):List Bool:=
 (List.range N).map fun t=>((fi.kind t).K4||decide (fi.kind t=.box))&&(Es t assign&&Es t body&&ps.all (fun p=>p != t))
def Qw(fi:FI)(N:Nat)(ps:Array Tmp)(assign body:Code):List Bool:=
 (List.range N).map fun t=>(fi.kind t).K4&&(Es t assign&&Es t body&&ps.all (fun p=>p != t))
def nodupB:List Nat→Bool
 |[]=>true
 |x::xs=>!xs.contains x&&nodupB xs
def dD:Nat→List Nat→List (Nat×Nat)
 |_,[]=>[]
 |i,p::ps=>(p,i)::dD (i+1) ps
def VC(P:Program)(pur:FuncId→Bool)(fi:FI)(fn:Func):Option LFn:=
 match fn.body with
 |some c=>match QE c with
  |some (pre,s)=>match SB P pur fi pre,comp P pur fi s.rg,comp P pur fi s.assign,comp P pur fi s.body,comp P pur fi s.post,Hm P fi fn.results.toList with
   |some pre',some rg',some aca,some ac,some post',some rs=>
    if fi.nt=fn.ntmps∧fi.okB=true∧(List.range (fn.params.size+fn.nfree)).all (fun t=>(fi.kind t).K4)=true∧(fi.kind s.g).K4=true∧s.ps.toList.all (fun p=>decide (p<fi.nt)&&(fi.kind p).K4)=true∧nodupB s.ps.toList=true then
     some { nargs:=fn.params.size+fn.nfree,ntmps:=fn.ntmps,extra:=fi.ps.length,pre:=pre',rg:=rg',g:=s.g,aca:=aca,ac:=ac,post:=post',La:=NI fi (fn.ntmps+fi.ps.length),L:=H7 fi (fn.ntmps+fi.ps.length) s.ps s.assign s.body,Lr:=NI fi (fn.ntmps+fi.ps.length),ds:=dD 0 s.ps.toList,nps:=s.ps.size,res:=rs,Lv:=Qw fi (fn.ntmps+fi.ps.length) s.ps s.assign s.body }
    else none
   |_,_,_,_,_,_=>none
  |none=>none
 |none=>none
section
variable{P:Program}{pur:FuncId→Bool}{fi:FI}
theorem Hr{N:Nat}{f:Nat→Bool}{t:Nat}(h:((List.range N).map f).getD t false=true):f t=true:=by
 rw[Aj,Af] at h;cases hx:(List.range N)[t]? with
 |none=>rw[hx] at h;cases h
 |some u=>
  rw[hx] at h;obtain⟨h1,h2⟩:=Ab.1 hx;rw[List.getElem_range] at h2;subst h2;exact h
theorem Pj(N:Nat):okL fi (NI fi N)=true:=by
 unfold okL;rw[Ao];intro t _;cases h:(NI fi N).getD t false with
 |false=>rfl
 |true=>
  have:=Hr h;simp only[D7,Eh];exact this
theorem jA(N:Nat)(ps:Array Tmp)(assign body:Code):okL fi (H7 fi N ps assign body)=true:=by
 unfold okL;rw[Ao];intro t _;cases h:(H7 fi N ps assign body).getD t false with
 |false=>rfl
 |true=>
  have:=Hr h;simp only[D7,Eh];rw[Ak] at this;exact this.1
theorem bQ(N:Nat)(ps:Array Tmp)(assign body:Code):bR (H7 fi N ps assign body) ps assign body=true:=by
 unfold bR;rw[Ao];intro t _;cases h:(H7 fi N ps assign body).getD t false with
 |false=>rfl
 |true=>
  have:=Hr h;simp only[D7,Eh];rw[Ak] at this;exact this.2
theorem XG{N:Nat}{f:Nat→Bool}{t:Nat}(h:t<N)(hf:f t=true):((List.range N).map f).getD t false=true:=by
 rw[Aj,Af,Ck h];exact hf
theorem kX{N:Nat}{ps:Array Tmp}{assign body:Code}{t:Nat}(h:(Qw fi N ps assign body).getD t false=true):(H7 fi N ps assign body).getD t false=true∧(fi.kind t).val=true:=by
 have hlt:t<N:=by
  rcases Cc t N with h' | h'
  ·exact h'
  ·rw[Aj,AC (by simpa [Qw] using h')] at h;cases h
 have h1:=Hr h;rw[Ak] at h1;exact⟨XG hlt (by rw[h1.1,h1.2];rfl),H8 h1.1⟩
theorem Ps{t:Nat}:∀(l:List (Nat×Value)) (tm:Array Value),(∀d∈l,d.1≠t)→(l.foldl (fun t d=>t.setIfInBounds d.1 d.2) tm).getD t undef=tm.getD t undef
 |[],tm,_=>rfl
 |d::l,tm,h=>by
  rw[Cn,Ps l _ (fun d' hd=>h d' (Bw _ hd))]
  have:=h d (BG ..);simp only[Ah];rw[Da this]
theorem RY{t:Nat}{i:Nat}:∀(ps:List Nat) (v:List Value) (k:Nat) (tm:Array Value),nodupB ps=true→v.length=ps.length→t<tm.size→(t,i)∈dD k ps→((ps.zip v).foldl (fun t d=>t.setIfInBounds d.1 d.2) tm).getD t undef=v.getD (i - k) undef∧k≤i
 |[],v,k,tm,_,_,_,hm=>by cases hm
 |p::ps,[],k,tm,_,hl,_,_=>by cases hl
 |p::ps,x::v,k,tm,hn,hl,ht,hm=>by
  rw[nodupB,Ak] at hn;simp only[dD,Av,Prod.mk.injEq] at hm;rw[List.zip_cons_cons,Cn];rcases hm with⟨rfl,rfl⟩ | hm
  ·rw[Ps]
   ·simp[ht]
   ·intro d hd e;have hd':(d.1,d.2)∈ps.zip v:=hd;have h2:=(List.of_mem_zip hd').1;rw[e] at h2;have h1:=hn.1;simp[h2] at h1
  ·obtain⟨h1,h2⟩:=RY ps v (k+1) (tm.setIfInBounds p x) hn.2 (by simpa using hl) (by simpa using ht) hm
   refine⟨?_,by omega⟩
   rw[h1,show i - k=(i - (k+1))+1 from by omega]
   simp
theorem XU{t i:Nat}:∀{ps:List Nat} {k:Nat},(t,i)∈dD k ps→t∈ps
 |p::ps,k,h=>by
  simp only[dD,Av,Prod.mk.injEq] at h;rcases h with⟨rfl,_⟩ | h
  ·exact BG ..
  ·exact Bw _ (XU h)
theorem ME{f:FuncId}{fn:Func}{lf:LFn}{m:Nat}{itr:FuncId→List PV→Option (List (List PV))}(hitr:mW P itr)(hmo:P.follows .mixedOrders=true)(hfn:P.funcs[f]?=some fn)(hname:(fn.name == "runtime.NumGoroutine")=false)
  (h:VC P pur fi fn=some lf):FQ P f (TF pur itr m lf):=by
 unfold VC at h
 split at h
 case h_2=>cases h
 rename_i c hbody
 split at h
 case h_2=>cases h
 rename_i pre s hs
 split at h
 case h_2=>cases h
 rename_i pre' rg' aca ac post' rs h1 h2 h3 h4 h5 h6
 split at h
 case isFalse=>cases h
 rename_i hcc;obtain⟨c1,c2,c3,c4,c5,c6⟩:=hcc;cases h;have hc:=aY c pre s hs;subst hc;refine xE (fi:=fi) hitr hmo hfn hname c2 c1 rfl rfl hbody rfl rfl h1 h2 h3 h4 h5 h6 c3 c4 (Pj _) (jA _ _ _ _) (Pj _) (bQ _ _ _ _) (by simp[NI,H7]) (fun t ht=>kX ht) ?_
 rintro⟨t,i⟩ hd
 have hmem:=XU hd;have h7:=Ao.1 c5 t hmem;simp only[Ak,decide_eq_true_eq] at h7;refine⟨H8 h7.2,fun v tm hv htm=>?_⟩
 have:=(RY (t:=t) (i:=i) s.ps.toList v.toList 0 tm c6 (by simpa using hv) (by rw[htm];exact h7.1) hd).1
 rw[←Ew,Array.toList_zip];show((s.ps.toList.zip v.toList).foldl (fun t d=>t.setIfInBounds d.1 d.2) tm).getD t undef=_
 rw[this];simp[Aj,Ah]
end
end Go.Abs

namespace Go.Abs.Z
open Go.Proofs
theorem lX:VC Tryz.prog pur AqY Tryz.f145=some ae:=by kernel_rfl
theorem lY:VC Tryz.prog pur AxF Tryz.f122=some ah:=by kernel_rfl
end Go.Abs.Z

namespace Go.Abs.Z
mutual

def Je:Nat→PV→Option (List PV)
 |0,_=>none
 |n+1,v=>match v with
  |.agg [.int .i64 _,.str _,.int .i64 _,.int .i64 _,x]=>match x with
   |.nils=>some [v]
   |.slice _ 5 ks=>(H6 n ks).map fun l=>v::l
   |_=>none
  |_=>none
def H6:Nat→List PV→Option (List PV)
 |0,_=>none
 |n+1,vs=>match vs with
  |[]=>some []
  |v::vs=>match Je n v,H6 n vs with
   |some l,some r=>some (l++r)
   |_,_=>none
end
def small(l:List PV):Bool:=decide (l.length≤1000000000)
def itr(gf:FuncId)(caps:List PV):Option (List (List PV)):=
 if gf=216 then match caps with
  |[.vptr v]=>match Je 1000000 v with
   |some l=>if small l then some (l.map fun x=>[x.Ag]) else none
   |none=>none
  |_=>none
 else none
end Go.Abs.Z

namespace Go.Abs.Z
open Go.Proofs Go.RowKit Go.Shelf
set_option linter.unusedVariables false
attribute [local go_sem] Oper.semAt_some
def F9(k:Int)(t:ByteArray)(a e:Int)(kv:Value):Value:=.agg #[.int .i64 k,.string t,.int .i64 a,.int .i64 e,kv]
def cellAt(w:World)(b o:Nat):Value:=(w.cell? ⟨b,o,none⟩).getD undef
def nodeAt(w:World)(b o:Nat):Value:=.agg #[cellAt w b o,cellAt w b (o+1),cellAt w b (o+2),cellAt w b (o+3),cellAt w b (o+4)]
mutual

def MX(w:World):Nat→PV→Value→List Value
 |0,_,_=>[]
 |n+1,v,u=>match v with
  |.agg [.int .i64 _,.str _,.int .i64 _,.int .i64 _,x]=>match x with
   |.slice _ 5 ks=>match u with
    |.agg cs=>match cs.getD 4 undef with
     |.slice (some a) _ _=>u::Jt w n ks a.block a.off
     |_=>[u]
    |_=>[u]
   |_=>[u]
  |_=>[u]
def Jt(w:World):Nat→List PV→Nat→Nat→List Value
 |0,_,_,_=>[]
 |n+1,vs,b,o=>match vs with
  |[]=>[]
  |v::vs=>MX w n v (nodeAt w b o)++Jt w n vs b (o+5)
end
theorem GX{n:Nat}{v:PV}{l:List PV}(h:Je (n+1) v=some l):∃k t a e x,v=.agg [.int .i64 k,.str t,.int .i64 a,.int .i64 e,x]∧((x=.nils∧l=[v])∨∃o ks r,x=.slice o 5 ks∧H6 n ks=some r∧l=v::r):=by
 simp only[Je] at h
 split at h
 ·rename_i k t a e x;refine⟨k,t,a,e,x,rfl,?_⟩
  split at h
  ·cases h;exact .inl ⟨rfl,rfl⟩
  ·rename_i o ks;obtain⟨r,h1,h2⟩:=Ac.1 h;exact .inr ⟨o,ks,r,rfl,h1,h2.symm⟩
  ·cases h
 ·cases h
theorem Lt{n:Nat}{v:PV}{vs l:List PV}(h:H6 (n+1) (v::vs)=some l):∃l1 l2,Je n v=some l1∧H6 n vs=some l2∧l=l1++l2:=by
 simp only[H6] at h
 split at h
 ·rename_i a b h1 h2;cases h;exact⟨a,b,h1,h2,rfl⟩
 ·cases h
theorem Pm{I:Imm}{w:World}{v:Value}{k a e:Int}{t:List UInt8}{x:PV}(h:Rep I w v (.agg [.int .i64 k,.str t,.int .i64 a,.int .i64 e,x])):∃(s:ByteArray) (kv:Value),s.data.toList=t∧v=F9 k s a e kv∧Rep I w kv x:=by
 cases h with
 |agg hl hr=>
  rename_i cs;have h0:=hr 0 _ rfl;have h1:=hr 1 _ rfl;have h2:=hr 2 _ rfl;have h3:=hr 3 _ rfl;have h4:=hr 4 _ rfl
  match cs,hl,h0,h1,h2,h3,h4 with
  |⟨[a,b,c,d,e]⟩,_,h0,h1,h2,h3,h4=>
   have e0:=(Bu.one (bl:=Bl.nil) (.inl h0)).Db;obtain⟨s,e1,hs⟩:=(Bu.one (bl:=Bl.nil) (.inl h1)).Gz;have e2:=(Bu.one (bl:=Bl.nil) (.inl h2)).Db;have e3:=(Bu.one (bl:=Bl.nil) (.inl h3)).Db;simp[Array.getD] at e0 e1 e2 e3 h4;subst e0 e1 e2 e3;exact⟨s,e,hs,rfl,h4⟩
theorem kW{I:Imm}{w:World}{a:Addr}{len cap:Nat}{o:Bool}{ks:List PV}(h:Rep I w (.slice (some a) len cap) (.slice o 5 ks)){j:Nat}{k st en:Int}{t:List UInt8}{x:PV}(hj:ks[j]?=some (.agg [.int .i64 k,.str t,.int .i64 st,.int .i64 en,x])):
  len=ks.length∧a.spot=none∧∃(s:ByteArray) (kv:Value),s.data.toList=t∧(∀i,i<5→I a.block (some (a.off+j * 5+i)))∧w.cell? ⟨a.block,a.off+j * 5+0,none⟩=some (.int .i64 k)∧w.cell? ⟨a.block,a.off+j * 5+1,none⟩=some (.string s)∧
   w.cell? ⟨a.block,a.off+j * 5+2,none⟩=some (.int .i64 st)∧w.cell? ⟨a.block,a.off+j * 5+3,none⟩=some (.int .i64 en)∧w.cell? ⟨a.block,a.off+j * 5+4,none⟩=some kv∧Rep I w kv x∧nodeAt w a.block (a.off+j * 5)=F9 k s st en kv:=by
 cases h with
 |slice cv h1 h2 h3 h4 h5 h6 h7=>
  have g0:=h7 j _ 0 (.int .i64 k) hj rfl;have g1:=h7 j _ 1 (.str t) hj rfl;have g2:=h7 j _ 2 (.int .i64 st) hj rfl;have g3:=h7 j _ 3 (.int .i64 en) hj rfl;have g4:=h7 j _ 4 x hj rfl;have c0:=h6 j _ 0 (.int .i64 k) hj rfl;have c1:=h6 j _ 1 (.str t) hj rfl;have c2:=h6 j _ 2 (.int .i64 st) hj rfl;have c3:=h6 j _ 3 (.int .i64 en) hj rfl;have c4:=h6 j _ 4 x hj rfl;have e0:=(Bu.one (bl:=Bl.nil) (.inl g0)).Db;obtain⟨s,e1,hs⟩:=(Bu.one (bl:=Bl.nil) (.inl g1)).Gz;have e2:=(Bu.one (bl:=Bl.nil) (.inl g2)).Db;have e3:=(Bu.one (bl:=Bl.nil) (.inl g3)).Db;rw[e0] at c0;rw[e1] at c1;rw[e2] at c2;rw[e3] at c3;refine⟨h1,h3 (fun e=>by rw[e] at hj;simp at hj),s,cv j 4,hs,fun i hi=>?_,c0,c1,c2,c3,c4,g4,?_⟩
  ·have hl:(PV.agg [.int .i64 k,.str t,.int .i64 st,.int .i64 en,x]).cells.length=5:=rfl;exact h5 j _ i _ hj (Ad (by rw[hl];exact hi))
  ·simp only[Nat.add_zero] at c0;simp[nodeAt,cellAt,F9,c0,c1,c2,c3,c4]
theorem bv{F:Fence}(hd:F.depth=none)(k:Nat):F.room k:=fun d h=>by rw[hd] at h;cases h
theorem aU{F:Fence}(hd:F.depth=none){m:Nat}(m':Nat){P:Program}{l:Nat}{args:Array Value}{W:World}{R:Ending→World→Prop}(h:YieldAt F m P l args W R):YieldAt F m' P l args W R:=by
 obtain⟨fn,tmps,assign,body,hy,hR⟩:=h;exact⟨fn,tmps,assign,body,hy,hR.1,fun c cs _=>hR.2 c cs (bv hd _)⟩
def Kp(O:Nat→Prop)(W:World)(O':Nat→Prop)(W':World):Prop:=
 W.heap.size≤W'.heap.size∧∀b,b<W.heap.size→¬O b→¬O' b∧∀cs t f,W.heap[b]?=some (Obj.cells cs t f)→W'.heap[b]?=some (Obj.cells cs t f)
theorem Kp.refl(O:Nat→Prop)(W:World):Kp O W O W:=⟨Be _,fun b _ h=>⟨h,fun _ _ _ h=>h⟩⟩
theorem Kp.trans{O O' O'':Nat→Prop}{W W' W'':World}(h:Kp O W O' W')(k:Kp O' W' O'' W''):Kp O W O'' W'':=
 ⟨BM h.1 k.1,fun b hb hO=>by
  obtain⟨h1,h2⟩:=h.2 b hb hO;obtain⟨k1,k2⟩:=k.2 b (Bn hb h.1) h1;exact⟨k1,fun cs t f hc=>k2 cs t f (h2 cs t f hc)⟩⟩
theorem Kp.alloc(O:Nat→Prop)(W:World)(o:Obj):Kp O W O (W.alloc o):=
 ⟨by rw[World.size_alloc];omega,fun b hb hO=>⟨hO,fun cs t f h=>by rw[heap_alloc_old' _ _ _ hb];exact h⟩⟩
structure Stg(I:Imm)(w0:World)(S:List (Array Value)→(Nat→Prop)→World→Prop):Prop where
 below:∀s O W W',S s O W→Below W.heap.size W W'→S s O W'
 same:∀s O W,S s O W→Same I w0 W
 bd:∀s O W,S s O W→∀b,O b→b<W.heap.size
theorem Stg.alloc{I:Imm}{w0:World}{S:List (Array Value)→(Nat→Prop)→World→Prop}(h:Stg I w0 S)(s:List (Array Value))(O:Nat→Prop)(W:World)(o:Obj)(hs:S s O W):S s O (W.alloc o):=
 h.below _ _ _ _ hs ((Below.refl W.heap.size W).alloc (Be _) o)
def YOk(F:Fence)(P:Program)(l:Nat)(xs:List (Array Value))(S:List (Array Value)→(Nat→Prop)→World→Prop):Prop:=
 ∀m pre x post O W1,xs=pre++x::post→S pre O W1→YieldAt F m P l x W1 fun e W'=>e=.returned (.bool true)∧∃O',S (pre++[x]) O' W'∧Kp O W1 O' W'
def X8(S:List (Array Value)→(Nat→Prop)→World→Prop)(xs post:List (Array Value))(O:Nat→Prop)(W:World)(W':World):Prop:=
 ∃pre' O',xs=pre'++post∧S pre' O' W'∧Kp O W O' W'
theorem X8.pre{S:List (Array Value)→(Nat→Prop)→World→Prop}{xs post:List (Array Value)}{O O0:Nat→Prop}{W W0 W':World}(h:X8 S xs post O W W')(hk:Kp O0 W0 O W):X8 S xs post O0 W0 W':=by
 obtain⟨p,O',h1,h2,h3⟩:=h;exact⟨p,O',h1,h2,hk.trans h3⟩
set_option maxRecDepth 100000 in
set_option maxHeartbeats 2000000 in
theorem eO(F:Fence)(hd:F.depth=none)(h238:F.fn 217)(hro:F.round=none)(l:Nat)(I:Imm)(w0:World)(xs:List (Array Value))(S:List (Array Value)→(Nat→Prop)→World→Prop)(hS:Stg I w0 S)(hY:YOk F Tryz.prog l xs S):
  ∀(N:Nat) (T:PV) (L:List PV),Je N T=some L→∀(n:Nat) (v:Value) (pre post:List (Array Value)) (O:Nat→Prop) (W:World),Rep I w0 v T→xs=pre++((MX w0 N T v).map fun u=>#[u])++post→xs.length≤9000000000→S pre O W→
   CallsIn F n Tryz.prog 217 #[v,.func (.yield l) #[] #[]] W fun e W'=>e=.returned (.bool true)∧X8 S xs post O W W':=by
 intro N
 induction N using Nat.strongRecOn with
 |ind N ih=>
 intro T L hL n v pre post O W hrep hxs hx62 hSt;have hdd:∀k:Nat,(F.depth.isSome=true→1≤k):=fun k h=>by rw[hd] at h;cases h
 cases N with
 |zero=>simp[Je] at hL
 |succ N=>
 obtain⟨k,t,st,en,x,rfl,hx⟩:=GX hL;obtain⟨s,kv,rfl,rfl,hkr⟩:=Pm hrep
 obtain⟨vr,hvr⟩:∃vr,MX w0 (N+1) (.agg [.int .i64 k,.str s.data.toList,.int .i64 st,.int .i64 en,x]) (F9 k s st en kv)=F9 k s st en kv::vr:=by
  simp only[MX]
  repeat' split
  all_goals exact⟨_,rfl⟩
 rw[hvr,AR] at hxs;have hSt2:=hS.alloc _ _ _ (.cells #[.int .i64 k,.string s,.int .i64 st,.int .i64 en,kv] 47) hSt;obtain⟨fn,tmps,assign,body,hy,hR⟩:=hY (n - 1) pre #[F9 k s st en kv] (vr.map (fun u=>#[u])++post) O (W.alloc (.cells #[.int .i64 k,.string s,.int .i64 st,.int .i64 en,kv] 47)) (by rw[hxs];simp) hSt2
 dsimp only[F9] at hy;have hnO:¬O W.heap.size:=fun h=>by have:=hS.bd _ _ _ hSt _ h;omega
 have hR':=RoundIn.mono hR (R':=fun e W2=>e=.returned (.bool true)∧W2.cell? ⟨W.heap.size,4,none⟩=some kv∧Hid (∃O',S (pre++[#[F9 k s st en kv]]) O' W2∧Kp O W O' W2)) (by
  rintro e W2 ⟨rfl,O',h1,h2⟩
  refine⟨rfl,?_,O',h1,(Kp.alloc O W _).trans h2⟩
  have:=(h2.2 W.heap.size (by rw[World.size_alloc];omega) hnO).2 _ _ _ (heap_alloc_new' W _)
  simp[World.cell?,this])
 clear hR;rcases hx with⟨rfl,_⟩ | ⟨o,ks,r,rfl,hks,_⟩
 ·
  have hkv:kv=.slice none 0 0:=(Bu.one (bl:=Bl.nil) (.inl hkr)).FR;subst hkv
  have hvr0:vr=[]:=by
   simp only[MX] at hvr;exact(List.cons.inj hvr).2.symm
  subst hvr0;have HX:=Lib.hid hxs;clear hxs;refine callsIn_of_wp Tryz.func217 rfl h238 ?_ hro
  simp only[Tryz.ntmps217,CL,BI,De,Nat.reduceAdd,Nat.reduceSub,Array.replicate_succ,Array.replicate_zero,List.push_toArray,List.append_toArray,BK,CF,F9]
  gi_wp2_with ((try refine⟨hdd _,?_⟩);refine hR'.mono ?_;clear hR';rintro e W2 ⟨rfl,hc4,HJ2⟩)
  ·gi_loopw [14] (fun i wr=>i=.int .i64 0∧wr=W2) (fun _ _=>0)
   case atStart=>exact⟨rfl,rfl⟩
   case round=>
    obtain⟨rfl,rfl⟩:=hrel
    gi_wp2
    go_ret
    obtain⟨O',h1,h2⟩:=HJ2.out;exact⟨rfl,_,O',by rw[HX.out];simp,h1,h2⟩
 ·obtain⟨a,len,cap,rfl⟩:∃a len cap,kv=.slice (some a) len cap:=by
   obtain⟨a,len,cap,cv,e,_⟩:=(Bu.one (bl:=Bl.nil) (.inl hkr)).Gl;exact⟨a,len,cap,e⟩
  have hlen:len=ks.length:=by cases hkr with | slice cv h1 h2 h3 h4 h5 h6 h7=>exact h1
  have hvr0:vr=Jt w0 N ks a.block a.off:=by
   simp only[MX,F9] at hvr;exact(List.cons.inj hvr).2.symm
  subst hvr0;obtain⟨ab,ao,asp⟩:=a;have HX:=Lib.hid hxs;clear hxs;have HK:=Lib.hid hkr;clear hkr;have HREP:=Lib.hid hrep;clear hrep;have HIH:=Lib.hid ih;clear ih;have HY:=Lib.hid hY;clear hY;have HKS:=Lib.hid hks;clear hks;have HLEN:=Lib.hid hlen;clear hlen;have HS:=Lib.hid hS;clear hS;have HS1:=Lib.hid hSt;clear hSt;have HS2:=Lib.hid hSt2;clear hSt2;have HL:=Lib.hid hL;clear hL;have H62:=Lib.hid hx62;clear hx62;clear hvr hnO
  have hlen62:len<9000000000:=by
   have h1:=congrArg List.length HX.out
   have h2:∀(N:Nat) (ks r:List PV) (b o:Nat),H6 N ks=some r→ks.length≤(Jt w0 N ks b o).length:=by
    intro N
    induction N with
    |zero=>intro ks r b o h;simp[H6] at h
    |succ N ih2=>
     intro ks r b o h;cases ks with
     |nil=>simp
     |cons e ks=>
      obtain⟨l1,l2,e1,e2,_⟩:=Lt h;cases N with
      |zero=>simp[Je] at e1
      |succ N=>
       have h3:=ih2 ks l2 b (o+5) e2
       have h4:1≤(MX w0 (N+1) e (nodeAt w0 b o)).length:=by
        simp only[MX]
        repeat' split
        all_goals simp
       have h5:Jt w0 (N+1+1) (e::ks) b o=MX w0 (N+1) e (nodeAt w0 b o)++Jt w0 (N+1) ks b (o+5):=rfl;rw[h5];simp only[AV,BI];omega
   have h3:=h2 N ks r ab ao HKS.out;simp only[AV,BI,Am] at h1;have:=H62.out;have:=HLEN.out;omega
  refine callsIn_of_wp Tryz.func217 rfl h238 ?_ hro
  simp only[Tryz.ntmps217,CL,BI,De,Nat.reduceAdd,Nat.reduceSub,Array.replicate_succ,Array.replicate_zero,List.push_toArray,List.append_toArray,BK,CF,F9]
  gi_wp2_with ((try refine⟨hdd _,?_⟩);refine hR'.mono ?_;clear hR';rintro e W2 ⟨rfl,hc4,HJ2⟩)
  gi_loopw [14] (fun i wr=>∃(j:Nat),i=.int .i64 j∧j≤len∧Hid (∃(pre':List (Array Value)) (O':Nat→Prop) (m:Nat) (r':List PV),m≤N∧H6 m (ks.drop j)=some r'∧xs=pre'++((Jt w0 m (ks.drop j) ab (ao+j * 5)).map fun u=>#[u])++post∧S pre' O' wr∧Kp O W O' wr)) (fun i _=>len - (intOf i).toNat)
  case atStart=>
   obtain⟨O',h1,h2⟩:=HJ2.out;exact⟨0,rfl,Fs _,Lib.hid ⟨_,O',N,r,Be _,HKS.out,by rw[HX.out];simp,h1,h2⟩⟩
  case round=>
   obtain⟨j,rfl,hjl,HJ⟩:=hrel;by_cases hlt:j<len
   ·obtain⟨pre',O',m,r',hm,hr',hx',hs',hk'⟩:=HJ.out;have hjk:j<ks.length:=by have:=HLEN.out;omega
    have hdr:ks.drop j=ks[j]::ks.drop (j+1):=BB hjk;rw[hdr] at hr' hx';cases m with
    |zero=>simp[H6] at hr'
    |succ m=>
    obtain⟨l1,l2,e1,e2,_⟩:=Lt hr';cases m with
    |zero=>simp[Je] at e1
    |succ m=>
    obtain⟨k',t',st',en',x',hk1,_⟩:=GX e1;have hkj:ks[j]?=some (.agg [.int .i64 k',.str t',.int .i64 st',.int .i64 en',x']):=by rw[Ad hjk,hk1]
    obtain⟨hl5,hsp,s',kv',hs1,hI',d0,d1,d2,d3,d4,hkr',hnode⟩:=kW HK.out hkj;clear hl5;dsimp only at hsp hI' d0 d1 d2 d3 d4 hnode;subst hsp
    obtain⟨ka,kn,kc,rfl⟩:∃ka kn kc,kv'=.slice ka kn kc:=by
     obtain⟨_,_,_,_,_,e4,h4⟩:=GX e1;rw[hk1] at e4;cases e4;rcases h4 with⟨rfl,_⟩ | ⟨_,_,_,rfl,_⟩
     ·cases hkr';exact⟨_,_,_,rfl⟩
     ·cases hkr';exact⟨_,_,_,rfl⟩
    have hsm:=HS.out.same _ _ _ hs'
    have hcell:∀i v,i<5→w0.cell? ⟨ab,ao+j * 5+i,Option.none⟩=some v→wr.cell? ⟨ab,ao+j * 5+i,Option.none⟩=some v:=fun i v hi hv=>by
     rw[hsm.cell _ _ (hI' i hi)];exact hv
    have c0:wr.cell? ⟨ab,ao+j * 5,Option.none⟩=some (.int .i64 k'):=hcell 0 _ (by decide) d0
    have c1:=hcell 1 _ (by decide) d1
    have c2:=hcell 2 _ (by decide) d2
    have c3:=hcell 3 _ (by decide) d3
    have c4:=hcell 4 _ (by decide) d4
    have hrepk:Rep I w0 (F9 k' s' st' en' (.slice ka kn kc)) ks[j]:=by
     rw[hk1,←hs1];refine .agg rfl fun i p hp=>?_
     match i with
     |0=>simp at hp;subst hp;exact .int _ _
     |1=>simp at hp;subst hp;exact .str _
     |2=>simp at hp;subst hp;exact .int _ _
     |3=>simp at hp;subst hp;exact .int _ _
     |4=>simp at hp;subst hp;exact hkr'
     |i+5=>simp at hp
    have hvs:Jt w0 (m+1+1) (ks[j]::ks.drop (j+1)) ab (ao+j * 5)=MX w0 (m+1) ks[j] (F9 k' s' st' en' (.slice ka kn kc))++Jt w0 (m+1) (ks.drop (j+1)) ab (ao+(j+1) * 5):=by
     rw[←hnode,show ao+(j+1) * 5=ao+j * 5+5 from by omega];rfl
    rw[hvs] at hx'
    have hcall:=HIH.out (m+1) (by omega) ks[j] l1 e1 (n - 1) (F9 k' s' st' en' (.slice ka kn kc)) pre' ((Jt w0 (m+1) (ks.drop (j+1)) ab (ao+(j+1) * 5)).map (fun u=>#[u])++post) O' (wr.alloc (.cells #[.int .i64 k',.string s',.int .i64 st',.int .i64 en',.slice ka kn kc] 47))
     hrepk (by rw[hx'];simp) H62.out (HS.out.alloc _ _ _ _ hs')
    have hcall':=hcall.mono (R':=fun e W3=>e=.returned (.bool true)∧Hid (X8 S xs ((Jt w0 (m+1) (ks.drop (j+1)) ab (ao+(j+1) * 5)).map (fun u=>#[u])++post) O W W3)) (by
     rintro e W3 ⟨rfl,h⟩
     exact⟨rfl,(h.pre (Kp.alloc O' wr _)).pre hk'⟩)
    clear hcall;have HN:=Lib.hid (show m+1≤N by omega)
    have HE2:=Lib.hid e2;clear d0 d1 d2 d3 d4 hcell hsm hrepk hvs hx' hr' e1 e2 hkr' hI' hnode hkj hk1 hs' hk' hm hdr hs1;dsimp only[F9] at hcall'
    gi_wp2_with ((try refine⟨hdd _,?_⟩);gi_at_call 217;refine hcall'.mono ?_;clear hcall';rintro e W3 ⟨rfl,HY3⟩)
    obtain⟨pre2,O2,hp2,hs2,hk2⟩:=HY3.out
    go_roundw
    case rel=>exact⟨j+1,by go_num,by omega,Lib.hid ⟨pre2,O2,m+1,l2,HN.out,HE2.out,by rw[hp2];simp,hs2,hk2⟩⟩
    case measure=>simp[intOf];omega
   ·gi_wp2
    go_ret
    obtain⟨pre',O',m,r',hm,hr',hx',hs',hk'⟩:=HJ.out;have hj:ks.drop j=[]:=Cv (by have:=HLEN.out;omega)
    rw[hj] at hx';have hv0:Jt w0 m [] ab (ao+j * 5)=[]:=by cases m<;>rfl
    rw[hv0] at hx';exact⟨rfl,pre',O',by rw[hx'];simp,hs',hk'⟩
end Go.Abs.Z

namespace Go.Abs.Z
open Go.Proofs Go.RowKit Go.Shelf
set_option linter.unusedVariables false
attribute [local go_sem] Oper.semAt_some
theorem qc{gf:FuncId}{lb:Array Value}{xs:List (Array Value)}{I:Imm}{w:World}(hI:∀b x,I b x→b<w.heap.size)
  (h:∀(F:Fence),F.depth=none→(∀f,F.fn f)→F.round=none→∀(n l:Nat) (S:List (Array Value)→(Nat→Prop)→World→Prop),Stg I w S→YOk F Tryz.prog l xs S→∀W,Below w.heap.size w W→S [] (fun b=>b<W.heap.size) W→
   CallsIn F n Tryz.prog gf (#[.func (.yield l) #[] #[]]++lb) W fun e W'=>(∃v,e=.returned v)∧∃O,S xs O W'):qI Tryz.prog gf lb xs I w:=by
 intro n l J W hb hJ hY h0
 let S:List (Array Value)→(Nat→Prop)→World→Prop:=fun s O W'=>J s O W'∧Same I w W'∧(∀b,O b→b<W'.heap.size)∧w.heap.size≤W'.heap.size
 have hsame:Same I w W:=⟨fun b o h=>cell_of_heap (hb.block b (hI b _ h)),fun b h=>hb.block b (hI b _ h)⟩
 refine(h (FW none) rfl (fun _=>trivial) rfl n l S ⟨?_,fun _ _ _ h=>h.2.1,fun _ _ _ h=>h.2.2.1⟩ ?_ W hb ⟨h0,hsame,fun b h=>h,hb.size⟩).mono ?_
 ·rintro s O W1 W2 ⟨h1,h2,h3,h4⟩ hbl
  refine⟨hJ O s W1 W2 none h1 ⟨hbl.os,hbl.tape,hbl.output,hbl.size,fun k hk _=>hbl.block k hk⟩ (fun r e=>by cases e),h2.trans ⟨fun b p hb=>?_,fun b hb=>?_⟩ (fun _ _ h=>h),fun b hb=>Bn (h3 b hb) hbl.size,BM h4 hbl.size⟩
  ·exact cell_of_heap (hbl.block b (Bn (hI b _ hb) h4))
  ·exact hbl.block b (Bn (hI b _ hb) h4)
 ·rintro m pre x post O W1 hx ⟨h1,h2,h3,h4⟩
  obtain⟨fn,tmps,assign,body,hy,hR⟩:=hY pre x post O W1 hx h1;refine aU rfl m ⟨fn,tmps,assign,body,hy,RoundIn.mono hR ?_⟩
  rintro e W' ⟨rfl,k1,k2,k3,k4⟩
  refine⟨rfl,_,⟨k1,h2.trans k2 (fun _ _ h=>h),fun b hb=>?_,BM h4 k3⟩,k3,fun b hb hO=>⟨fun hc=>?_,fun cs t f hc=>k4 b cs t f hO hc⟩⟩
  ·rcases hb with hb | hb
   ·have:=h3 b hb;omega
   ·exact hb.2
  ·rcases hc with hc | hc
   ·exact hO hc
   ·omega
 ·rintro e W' ⟨hv,O,hS⟩
  exact⟨hv,O,hS.1⟩
set_option maxRecDepth 100000 in
set_option maxHeartbeats 1000000 in
theorem bY(F:Fence)(hd:F.depth=none)(hfn:∀f,F.fn f)(hro:F.round=none)(n l:Nat)(I:Imm)(w0:World)(bx off:Nat)(k:Int)(s:ByteArray)(st en:Int)(kv:Value)(N:Nat)(T:PV)(L:List PV)(hL:Je N T=some L)
  (hrep:Rep I w0 (F9 k s st en kv) T) (h62:((MX w0 N T (F9 k s st en kv)).map fun u=>(#[u]:Array Value)).length≤9000000000) (S:List (Array Value)→(Nat→Prop)→World→Prop) (hS:Stg I w0 S)
  (hY:YOk F Tryz.prog l ((MX w0 N T (F9 k s st en kv)).map fun u=>#[u]) S) (W:World) (h0:S [] (fun b=>b<W.heap.size) W)
  (c0:W.cell? ⟨bx,off,none⟩=some (.int .i64 k)) (c1:W.cell? ⟨bx,off+1,none⟩=some (.string s)) (c2:W.cell? ⟨bx,off+2,none⟩=some (.int .i64 st)) (c3:W.cell? ⟨bx,off+3,none⟩=some (.int .i64 en)) (c4:W.cell? ⟨bx,off+4,none⟩=some kv) :
  CallsIn F n Tryz.prog 216 #[.func (.yield l) #[] #[],.pointer (some ⟨bx,off,none⟩)] W fun e W'=>(∃v,e=.returned v)∧∃O,S ((MX w0 N T (F9 k s st en kv)).map fun u=>#[u]) O W':=by
 have hdd:∀k:Nat,(F.depth.isSome=true→1≤k):=fun k h=>by rw[hd] at h;cases h
 have h238:F.fn 217:=hfn 217;have hp:=eO F hd h238 hro l I w0 _ S hS hY N T L hL (n - 1) (F9 k s st en kv) [] [] _ W hrep (by simp) h62 h0
 generalize ((MX w0 N T (F9 k s st en kv)).map fun u=>(#[u]:Array Value))=xs at hp hY h62
 have hp':=hp.mono (R':=fun e W1=>e=.returned (.bool true)∧Hid (∃O,S xs O W1)) (by
  rintro e W1 ⟨rfl,pre',O',h1,h2,_⟩
  rw[BD] at h1;subst h1;exact⟨rfl,O',h2⟩)
 clear hp hY hrep hL h62 h0 hS;dsimp only[F9] at hp';have h237:F.fn 216:=hfn 216;refine callsIn_of_wp Tryz.func216 rfl h237 ?_ hro
 simp only[Tryz.ntmps216,CL,BI,De,Nat.reduceAdd,Nat.reduceSub,Array.replicate_succ,Array.replicate_zero,List.push_toArray,List.append_toArray,BK,CF]
 gi_wp2_with ((try refine⟨hdd _,?_⟩);gi_at_call 217;refine hp'.mono ?_;clear hp';rintro e W1 ⟨rfl,HJ1⟩)
 go_end0
 exact⟨⟨_,rfl⟩,HJ1.out⟩
end Go.Abs.Z
