/- A part of the proof: T5 A35 A36 A37 T6c A38 T6 PD P1 P2. -/
import Derived.Test.YtapgnmhobbgmiaaGreatDoorKah
import Derived.Test.YtapgnmhobbgmiaaGreatDoorKai
import Derived.Test.YtapgnmhobbgmiaaGreatDoorKaj
import Derived.Test.YtapgnmhobbgmiaaGreatDoorKak
import Derived.Test.YtapgnmhobbgmiaaGreatDoorKal
import Derived.Test.YtapgnmhobbgmiaaGreatDoorKag
import Derived.RangeFuncFrom
import Derived.RangeFuncLeaves
import Derived.Test.YtapgnmhobbgmiaaGreatDoorProg
import Derived.KernelRfl
import Derived.Lib.Bytealg
import Derived.WalkKit
import Derived.Lib.Builder
import Derived.Lib.UnsafeStr
import Derived.Lib.AppendStr
import Derived.Laws.Externs
import Derived.RegionTactic
import Derived.Lib.Hide

set_option linter.unusedVariables false
set_option linter.unusedSimpArgs false
namespace Go.Abs.Z
noncomputable section
open Go.Proofs
def AzC:List (FuncId×FI):=nM++(nL++(nK++nJ))
def jw(l:List (FuncId×FI))(f:FuncId):Option Bb:=List.rec (motive:=fun _=>Option Bb) none (fun p _ ih=>cond (Nat.beq p.1 f) (some (cA p.1 p.2)) ih) l
def tab(f:FuncId):Option Bb:=cond (Nat.beq 149 f) (some AQN) (jw AzC f)
set_option maxRecDepth 100000 in
theorem bO:∀(l:List (FuncId×FI)),(∀x∈l,chk x.1 x.2=true)→∀f af,jw l f=some af→yT f af
 |[],_,f,af,h=>by cases h
 |p::l,hl,f,af,h=>by
  have h':cond (Nat.beq p.1 f) (some (cA p.1 p.2)) (jw l f)=some af:=h;cases hb:Nat.beq p.1 f with
  |true=>
   rw[hb] at h';cases h';have:p.1=f:=BP hb;rw[←this];exact AQH (hl p (AR ..))
  |false=>rw[hb] at h';exact bO l (fun x hx=>hl x (AA _ hx)) f af h'
set_option maxRecDepth 100000 in
theorem nI:AxS Tryz.prog pur tab:=fun f af h=>by
 have h':cond (Nat.beq 149 f) (some AQN) (jw AzC f)=some af:=h;cases hb:Nat.beq 149 f with
 |true=>
  rw[hb] at h';cases h';rw[←BP hb];exact okS
 |false=>
  rw[hb] at h'
  exact bO AzC (Av.1 (by
   show(nM++(nL++(nK++nJ))).all _=true;rw[FM,FM,FM,Bk4,Bk3,lm,Bk1];rfl)) f af h'
theorem mixed:Tryz.prog.follows .mixedOrders=true:=by kernel_rfl
end
end Go.Abs.Z

namespace Go.Abs
open Go.RowKit
mutual

def PV.CE:PV→Bool
 |.mapv _ _=>false
 |.vptr v=>v.CE
 |.slice _ _ es=>PV.CP es
 |.agg cs=>PV.CP cs
 |.aggr cs=>PV.CP cs
 |.tuple vs=>PV.CP vs
 |.func _ fs cs=>PV.CP fs&&PV.CP cs
 |.arrv _ _ es=>PV.CP es
 |.mapo _ _ _ _=>false
 |_=>true
def PV.CP:List PV→Bool
 |[]=>true
 |v::vs=>v.CE&&PV.CP vs
end
theorem Eb:∀{l:List PV},PV.CP l=true→∀{i:Nat} {p:PV},l[i]?=some p→p.CE=true
 |[],_,i,p,h=>by simp at h
 |v::vs,hn,i,p,h=>by
  rw[PV.CP,Ai] at hn;cases i with
  |zero=>simp at h;subst h;exact hn.1
  |succ i=>exact Eb hn.2 (by simpa using h)
theorem KF{v:PV}(hn:v.CE=true){j:Nat}{p:PV}(h:v.cells[j]?=some p):p.CE=true:=by
 cases v with
 |agg cs=>rw[PV.CE] at hn;exact Eb hn h
 |aggr cs=>rw[PV.CE] at hn;exact Eb hn h
 |_=>
  simp only[PV.cells] at h;cases j with
  |zero=>simp at h;subst h;exact hn
  |succ j=>simp at h
def Yz(I:Imm)(B:Nat)(w:World):Imm:=fun b x=>I b x∧(b<B∨∃o,x=some o∧(w.cell? ⟨b,o,none⟩).isSome=true)
theorem Rep.DK{I:Imm}{w:World}(B:Nat){v:Value}{p:PV}(h:Rep I w v p):p.CE=true→Rep (Yz I B w) w v p:=by
 induction h with
 |bool b=>intro _;exact .bool b
 |int k n=>intro _;exact .int k n
 |str s=>intro _;exact .str s
 |nilp=>intro _;exact .nilp
 |vptr cv h1 h2 _ ih=>
  intro hn;rw[PV.CE] at hn;exact .vptr cv (fun j p h=>⟨h1 j p h,.inr ⟨_,rfl,by rw[h2 j p h];rfl⟩⟩) h2 (fun j p h=>ih j p h (KF hn h))
 |nils=>intro _;exact .nils
 |empt=>intro _;exact .empt
 |slice cv h1 h2 h3 h4 h5 h6 _ ih=>
  intro hn;rw[PV.CE] at hn;exact .slice cv h1 h2 h3 h4 (fun i e j p he hp=>⟨h5 i e j p he hp,.inr ⟨_,rfl,by rw[h6 i e j p he hp];rfl⟩⟩) h6 (fun i e j p he hp=>ih i e j p he hp (KF (Eb hn he) hp))
 |nili=>intro _;exact .nili
 |nilm=>intro _;exact .nilm
 |mapv=>intro hn;simp[PV.CE] at hn
 |nilf=>intro _;exact .nilf
 |func h1 h2 _ _ ih1 ih2=>
  intro hn;rw[PV.CE,Ai] at hn;exact .func h1 h2 (fun i p h=>ih1 i p h (Eb hn.1 h)) (fun i p h=>ih2 i p h (Eb hn.2 h))
 |agg h _ ih=>
  intro hn;rw[PV.CE] at hn;exact .agg h (fun i p h=>ih i p h (Eb hn h))
 |tuple h _ ih=>
  intro hn;rw[PV.CE] at hn;exact .tuple h (fun i p h=>ih i p h (Eb hn h))
theorem JD.DK{I:Imm}{bl:Bl}{w:World}(B:Nat){v:Value}{p:PV}(h:JD I bl w v p)(hn:p.CE=true):JD (Yz I B w) bl w v p:=by
 rcases h with h | h
 ·exact .inl (h.DK B hn)
 ·exact .inr h
theorem Bz.DK{I:Imm}{bl:Bl}{w:World}(B:Nat){v:Value}{p:PV}(h:Bz I bl w v p)(hn:p.CE=true):Bz (Yz I B w) bl w v p:=by
 cases h with
 |one h=>exact .one (h.DK B hn)
 |func h1 h2 hf hc=>
  rw[PV.CE,Ai] at hn;exact .func h1 h2 (fun i p h=>(hf i p h).DK B (Eb hn.1 h)) (fun i p h=>(hc i p h).DK B (Eb hn.2 h))
 |tuple h hr=>
  rw[PV.CE] at hn;exact .tuple h (fun i p h=>(hr i p h).DK B (Eb hn h))
 |aggr h hr=>
  rw[PV.CE] at hn;exact .aggr h (fun i p h=>(hr i p h).DK B (Eb hn h))
def Gh.DK(G:Gh)(B:Nat)(w:World):Gh:=⟨Yz G.I B w,fun b=>match w.heap[b]? with | some (.cells _ _ _)=>G.ω b | _=>none,G.bl⟩
structure mM(B:Nat)(G:Gh)(w:World):Prop where
 I:∀b x,G.I b x→b<B∨∃o,x=some o∧(w.cell? ⟨b,o,none⟩).isSome=true
 ω:∀b tag,G.ω b=some tag→∃cs e f,w.heap[b]?=some (.cells cs e f)
theorem Lu(G:Gh)(B:Nat)(w:World):mM B (G.DK B w) w:=by
 refine⟨fun b x h=>h.2,fun b tag h=>?_⟩
 simp only[Gh.DK] at h
 split at h
 ·rename_i cs e f hh;exact⟨cs,e,f,hh⟩
 ·cases h
section
variable{P:Program}{pur:FuncId→Bool}{call:Caller}{fi:FI}{cx:Cx}{G:Gh}{a:Act}{w:World}{A A':Frm}{σ σ':Sto}
theorem MF{B b:Nat}{cs:Array Value}{e:TypeId}{f:Nat×Nat}(h:w.heap[b]?=some (.cells cs e f)):(G.DK B w).ω b=G.ω b:=by
 simp only[Gh.DK,h]
theorem Eo.DK(B:Nat){tag:Tag}{c:Value}{p:PV}(h:Eo G w tag c p):Eo (G.DK B w) w tag c p:=by
 unfold Eo at *;split
 ·obtain⟨b,off,cap,cs,elem,e1,hω,h1,h2,h3,h4⟩:=h;exact⟨b,off,cap,cs,elem,e1,by rw[MF h3];exact hω,fun hi=>h1 hi.1,fun o ho hi=>h2 o ho hi.1,h3,h4⟩
 ·trivial
theorem F5.DK(B:Nat){b:Nat}{tag:Option Nat→Tag}{cells:List PV}(h:F5 G w b tag cells)(hn:∀(j:Nat) (p:PV),cells[j]?=some p→p.CE=true):F5 (G.DK B w) w b tag cells:=by
 obtain⟨hω,h1,cs,elem,h2,h3,h4⟩:=h;refine⟨by rw[MF h2];exact hω,fun x hx=>h1 x hx.1,cs,elem,h2,h3,fun j p hp=>?_⟩
 rcases h4 j p hp with⟨hr,ho⟩ | hs
 ·exact .inl ⟨hr.DK B (hn j p hp),ho.DK B⟩
 ·exact .inr hs
theorem BOk.DK(B:Nat){b id:Nat}{t e:TypeId}{l:List UInt8}(h:BOk G w b id t e l):BOk (G.DK B w) w b id t e l:=by
 obtain⟨h1,h2,p,v,hp,h3,h4,h5⟩:=h;refine⟨by rw[MF h3];exact h1,fun x hx=>h2 x hx.1,p,v,hp,h3,h4,fun g hg=>?_⟩
 obtain⟨e1,e2,e3⟩:=h5 g hg;refine⟨e1,?_,fun x hx=>e3 x hx.1⟩
 rcases h4.2 with⟨h,_⟩ | ⟨g',cap,cur,hv,hb,hg',r⟩
 ·subst h;cases hg
 ·subst hv;cases hg;rw[MF hg'];exact e2
theorem Re.DK(B:Nat){id gen size:Nat}{es:List PV}(h:Re G w id gen size es)(hn:∀(i:Nat) (e:PV),es[i]?=some e→e.CE=true):Re (G.DK B w) w id gen size es:=by
 obtain⟨b,base,n,cs,elem,h1,h2,h3,h4,h5,h6,h7,h8,h9⟩:=h;exact⟨b,base,n,cs,elem,h1,h2,by rw[MF h5];exact h3,fun x hx=>h4 x hx.1,h5,h6,h7,h8,fun i e he=>⟨(h9 i e he).1,fun j p hp=>((h9 i e he).2 j p hp).DK B (KF (hn i e he) hp)⟩⟩
theorem I9.DK(B:Nat){id:Nat}{cs:List PV}(h:I9 G w id cs)(hn:PV.CP cs=true):I9 (G.DK B w) w id cs:=by
 obtain⟨b,h1,h2⟩:=h;refine⟨b,h1,?_⟩
 rcases h2 with h2 | ⟨t,e,l,rfl,h2⟩ | h2 | ⟨gen,size,es,rfl,h2⟩ | ⟨d,z,ks,vs,rfl,h2⟩
 rotate_right
 ·have h:=Eb hn (i:=0) rfl;rw[PV.CE] at h;cases h
 ·exact .inl (h2.DK B (fun j p hp=>Eb hn hp))
 ·exact .inr (.inl ⟨t,e,l,rfl,h2.DK B⟩)
 ·exact .inr (.inr (.inl h2))
 ·refine .inr (.inr (.inr (.inl ⟨gen,size,es,rfl,h2.DK B (fun i e he=>?_)⟩)))
  have h:=Eb hn (i:=0) rfl;rw[PV.CE] at h;exact Eb h he
def EE(cx:Cx)(t:Nat)(v:PV):Prop:=v.free=true∧((cx.kd t).val=true∨cx.kd t=.box)
theorem Eg.DK(B:Nat){t:Nat}{v:PV}(hp:EE cx t v)(hn:v.CE=true)(h:Eg cx G a w t v):Eg cx (G.DK B w) a w t v:=by
 rcases hp.2 with hk | hk
 ·rw[BZ hk hp.1] at h ⊢;exact⟨h.1.DK B hn,h.2.DK B⟩
 ·rw[DR hk] at h ⊢;obtain⟨b,h1,h2⟩:=h;exact⟨b,h1,h2.DK B (fun j p hp=>KF hn hp)⟩
theorem Eg.qJ{cx':Cx}(hkd:cx'.kd=cx.kd){a':Act}{t:Nat}{v:PV}(hp:EE cx t v)(hat:at' a' t=at' a t)(h:Eg cx G a w t v):Eg cx' G a' w t v:=by
 rcases hp.2 with hk | hk
 ·rw[BZ hk hp.1] at h;rw[BZ (by rw[hkd];exact hk) hp.1,hat];exact h
 ·rw[DR hk] at h;rw[DR (by rw[hkd];exact hk),hat];exact h
def quiet(A:Frm)(σ:Sto):Bool:=A.all (fun v=>match v with | some p=>p.CE | none=>true)&&σ.all PV.CP
theorem kP(h:quiet A σ=true){t:Nat}{v:PV}(hg:A.get t=some v):v.CE=true:=by
 unfold quiet at h;rw[Ai] at h;unfold Frm.get at hg
 split at hg
 ·rename_i u hu;have:=Av.1 h.1 _ (Au hu);rw[hg] at this;exact this
 ·cases hg
theorem Inv.DK(hi:Inv cx G a w A σ)(B:Nat)(hB:∀b x,cx.I0 b x→b<B)(hA:∀t v,A.get t=some v→EE cx t v)(hq:quiet A σ=true):Inv cx (G.DK B w) a w A σ:=by
 have hb:=hi.base
 refine⟨hi.defers,hi.size,hi.room,⟨hb.keep,hb.same,fun b x h=>⟨hb.sub b x h,.inl (hB b x h)⟩,fun b x h=>hb.new b x h.1,fun b x h=>hb.lt b x h.1,fun b tag h=>?_,hb.Klt,hb.grow,hb.bl,hb.os,hb.tape,hb.output⟩,
  fun t v hv=>(hi.slot t v hv).DK B (hA t v hv) (kP hq hv),fun id cs hc=>(hi.obj id cs hc).DK B ?_,hi.len,hi.abl⟩
 ·simp only[Gh.DK] at h
  split at h
  ·exact hb.own b tag h
  ·cases h
 ·unfold quiet at hq;rw[Ai] at hq;exact Av.1 hq.2 _ (Au hc)
theorem Y4{b o:Nat}(h:(w.cell? ⟨b,o,none⟩).isSome=true):∃cs e f,w.heap[b]?=some (.cells cs e f):=by
 unfold World.cell? at h;dsimp only at h
 split at h
 ·rename_i cs e f hh;exact⟨_,_,_,hh⟩
 ·simp at h
theorem Inv.grown(hi:Inv cx G a w A σ){B:Nat}(ht:mM B G w)(hK:∀b,cx.K b→b<B)(hBw:B≤w.heap.size){w':World}{row:Option Nat}(hg:w.grownBy w' row)
  (hrow:∀r,row=some r→B≤r∧∃o:Obj,w.heap[r]?=some o∧o.isCells=false):Inv cx G a w' A σ∧mM B G w'∧Same G.I w w':=by
 have hcells:∀b:Nat,(∃cs e f,w.heap[b]?=some (Obj.cells cs e f))→w'.heap[b]?=w.heap[b]?:=by
  rintro b ⟨cs,e,f,h⟩
  refine hg.block b (Br.1 h).1 fun hr=>?_
  obtain⟨_,o,ho,hc⟩:=hrow b hr.symm;rw[h] at ho;cases ho;cases hc
 have hlow:∀b:Nat,b<B→w'.heap[b]?=w.heap[b]?:=fun b hb=>hg.block b (by omega) (fun hr=>by have:=(hrow b hr.symm).1;omega)
 have hblk:∀b x,G.I b x→w'.heap[b]?=w.heap[b]?:=by
  intro b x h;rcases ht.I b x h with hb | ⟨o,rfl,hc⟩
  ·exact hlow b hb
  ·exact hcells b (Y4 hc)
 have hsame:Same G.I w w':=⟨fun b o h=>cell_of_heap (hblk b _ h),fun b h=>hblk b _ h⟩
 have hext:Ext (fun _=>False) G G w w':=⟨fun _ _ h=>h,hsame,Bl.le_refl _,fun _ _ _ _=>rfl,fun b tag h _=>⟨h,hcells b (ht.ω b tag h),fun _ h=>h⟩⟩
 have hb:=hi.base
 have hbase:Base cx G w':=⟨fun b h=>(hlow b (hK b h)).trans (hb.keep b h),hb.same.trans hsame hb.sub,hb.sub,hb.new,fun b x h=>Bi (hb.lt b x h) hg.size,
  fun b tag h=>⟨Bi (hb.own b tag h).1 hg.size,(hb.own b tag h).2⟩,hb.Klt,Bf hb.grow hg.size,hb.bl,hg.os.trans hb.os,hg.tape.trans hb.tape,hg.output.trans hb.output⟩
 refine⟨hi.step (fun _=>False) none undef hext hbase rfl (fun t p hp=>.inl ⟨hp,by simp,fun _ h=>h,fun _ _ _ _=>by simp,fun _ _=>⟨by simp,fun h=>h⟩⟩) (fun id cs hc=>.inl ⟨hc,fun _ h=>h⟩) hi.len hi.abl,⟨fun b x h=>?_,fun b tag h=>?_⟩,hsame⟩
 ·rcases ht.I b x h with hb | ⟨o,rfl,hc⟩
  ·exact .inl hb
  ·exact .inr ⟨o,rfl,by rw[cell_of_heap (hblk b _ h)];exact hc⟩
 ·rw[hcells b (ht.ω b tag h)];exact ht.ω b tag h
def Od(G:Gh)(b:Nat):Prop:=G.ω b≠none∨∃x,G.I b x
theorem KI{B b:Nat}(h:Od (G.DK B w) b):Od G b:=by
 rcases h with h | ⟨x,h⟩
 ·refine .inl fun e=>h ?_
  simp only[Gh.DK];split
  ·exact e
  ·rfl
 ·exact .inr ⟨x,h.1⟩
def Cx.inner(cx:Cx)(G:Gh)(w:World)(ds:List Deferred):Cx:=
 { cx with K:=fun b=>cx.K b∨(b<w.heap.size∧((∀cs e f,w.heap[b]?≠some (Obj.cells cs e f))∨¬Od G b)),I0:=G.I,w0:=w,bl0:=G.bl,ds:=ds }
theorem Inv.inner(hi:Inv cx G a w A σ){B:Nat}(ht:mM B G w)(ds:List Deferred){a':Act}(hd:a'.defers=ds)(hsz:a'.tmps.size=a.tmps.size)(hA:∀t v,A'.get t=some v→EE cx t v∧A.get t=some v∧at' a' t=at' a t)(hl:A'.length=A.length):
  Inv (cx.inner G w ds) G a' w A' σ:=by
 have hb:=hi.base
 refine⟨hd,hsz.trans hi.size,by rw[hl];exact hi.room,⟨fun _ _=>rfl,Same.refl _ _,fun _ _ h=>h,fun _ _ h=>.inl h,hb.lt,fun b tag h=>⟨(hb.own b tag h).1,?_⟩,⟨fun b h=>?_,fun b o h=>(hb.Klt.tab b o h).imp .inl fun⟨t,f,e⟩=>⟨t,f,(hb.keep b (hb.Klt.tab b o h).1).trans e⟩⟩,Ag _,Bl.le_refl _,rfl,rfl,rfl⟩,
  fun t v hv=>(hi.slot t v (hA t v hv).2.1).qJ rfl (hA t v hv).1 (hA t v hv).2.2,hi.obj,hi.len,hi.abl⟩
 ·rintro(h' | ⟨_,h' | h'⟩)
  ·exact(hb.own b tag h).2 h'
  ·obtain⟨cs,e,f,hh⟩:=ht.ω b tag h;exact h' cs e f hh
  ·exact h' (.inl (by rw[h];simp))
 ·rcases h with h | h
  ·exact Bi (hb.Klt b h) hb.grow
  ·exact h.1
theorem gZ(hb:Base cx G w){ds:List Deferred}{G':Gh}{w':World}(hb':Base (cx.inner G w ds) G' w'):Base cx G' w':=by
 refine⟨fun b h=>(hb'.keep b (.inl h)).trans (hb.keep b h),hb.same.trans hb'.same hb.sub,fun b x h=>hb'.sub b x (hb.sub b x h),fun b x h=>?_,hb'.lt,fun b tag h=>⟨(hb'.own b tag h).1,fun hk=>(hb'.own b tag h).2 (.inl hk)⟩,hb.Klt,Bf hb.grow hb'.grow,hb.bl.trans hb'.bl,hb'.os.trans hb.os,hb'.tape.trans hb.tape,hb'.output.trans hb.output⟩
 rcases hb'.new b x h with h' | h'
 ·exact hb.new b x h'
 ·exact .inr fun hk=>h' (.inl hk)
theorem Inv.outer(hi:Inv cx G a w A σ){ds ds':List Deferred}{G':Gh}{a1 a2:Act}{w':World}{A1 A2:Frm}(hi':Inv (cx.inner G w ds) G' a1 w' A1 σ')(hd:a2.defers=ds')(hsz:a2.tmps.size=a1.tmps.size)
  (hA:∀t v,A2.get t=some v→EE cx t v∧A1.get t=some v∧at' a2 t=at' a1 t) (hl:A2.length=A1.length):Inv { cx with ds:=ds' } G' a2 w' A2 σ':=by
 have hb:=gZ hi.base hi'.base
 exact⟨hd,hsz.trans hi'.size,by rw[hl];exact hi'.room,⟨hb.keep,hb.same,hb.sub,hb.new,hb.lt,hb.own,hb.Klt,hb.grow,hb.bl,hb.os,hb.tape,hb.output⟩,
  fun t v hv=>(hi'.slot t v (hA t v hv).2.1).qJ (cx:=cx.inner G w ds) rfl (hA t v hv).1 (hA t v hv).2.2,hi'.obj,hi'.len,hi'.abl⟩
theorem MS{ds:List Deferred}{G':Gh}{w':World}(hb':Base (cx.inner G w ds) G' w'):KeepsOthers w w':=by
 refine⟨hb'.grow,fun k o hk ho=>?_⟩
 refine(hb'.keep k (.inr ⟨(Br.1 hk).1,.inl fun cs e f h=>?_⟩)).trans hk
 rw[hk] at h;cases h;cases ho
theorem TI{ds:List Deferred}{G':Gh}{w':World}(hb':Base (cx.inner G w ds) G' w'){b:Nat}(hb:b<w.heap.size)(hk:¬Od G b):w'.heap[b]?=w.heap[b]?:=
 hb'.keep b (.inr ⟨hb,.inr hk⟩)
theorem MR{ds:List Deferred}{G':Gh}{w':World}(hb':Base (cx.inner G w ds) G' w'){b:Nat}(hk:Od G' b):w.heap.size≤b∨Od G b:=by
 rcases Bc b w.heap.size with h | h
 ·refine .inr ?_
  rcases hk with hk | ⟨x,hk⟩
  ·cases ho:G'.ω b with
   |none=>exact absurd ho hk
   |some tag=>exact Classical.byContradiction fun hc=>(hb'.own b tag ho).2 (.inr ⟨h,.inr hc⟩)
  ·rcases hb'.new b x hk with h' | h'
   ·exact .inr ⟨x,h'⟩
   ·exact Classical.byContradiction fun hc=>h' (.inr ⟨h,.inr hc⟩)
 ·exact .inl h
theorem Ut(hb:Base cx G w){b:Nat}(hk:Od G b):b<w.heap.size:=by
 rcases hk with hk | ⟨x,hk⟩
 ·cases ho:G.ω b with
  |none=>exact absurd ho hk
  |some tag=>exact(hb.own b tag ho).1
 ·exact hb.lt b x hk
end
end Go.Abs

namespace Go.Abs
noncomputable section
open Go.RowKit
section
variable{P:Program}{pur:FuncId→Bool}{call:Caller}{fi:FI}{cx:Cx}{G:Gh}{a:Act}{w:World}{A A':Frm}{σ σ':Sto}
def C9(L:List Bool)(A:Frm):Frm:=List.zipWith (fun b v=>if b then v.filter PV.free else none) L A
theorem Hg{L:List Bool}(h:A.length=L.length):(C9 L A).length=L.length:=by simp[C9,h]
theorem JP{L:List Bool}{t:Nat}{p:PV}(h:(C9 L A).get t=some p):L.getD t false=true∧A.get t=some p∧p.free=true:=by
 unfold C9 Frm.get at h
 split at h
 ·rename_i v hv;subst h;rw[C8] at hv
  split at hv
  ·rename_i b u hb hu;cases b with
   |true=>
    have h2:=Option.some.inj hv;rw[if_pos rfl] at h2;obtain⟨h3,h4⟩:=Option.filter_eq_some_iff.1 h2;subst h3;refine⟨by rw[AC,hb];rfl,?_,h4⟩
    unfold Frm.get;rw[hu]
   |false=>simp at hv
  ·cases hv
 ·cases h
def FQ(p:PV):Bool:=p.flat&&!p.CE&&p.free&&(match p with | .mapv _ _=>true | .vptr _=>true | _=>false)
def IU(L:List Bool)(A:Frm):Frm:=List.zipWith (fun b v=>if b then v.filter FQ else none) L A
def Ec(X B:Frm):Frm:=List.zipWith (fun x b=>match x with | some _=>none | none=>b) X B
def IZ(X B:Frm):Frm:=List.zipWith (fun x b=>match x with | some v=>some v | none=>b) X B
theorem Lf{X B:Frm}(h:X.length=B.length):(Ec X B).length=B.length:=by simp[Ec,h]
theorem Qy{X B:Frm}(h:X.length=B.length):(IZ X B).length=B.length:=by simp[IZ,h]
theorem lF{L:List Bool}{t:Nat}{p:PV}(h:(IU L A).get t=some p):L.getD t false=true∧A.get t=some p∧FQ p=true:=by
 unfold IU Frm.get at h
 split at h
 ·rename_i v hv;subst h;rw[C8] at hv
  split at hv
  ·rename_i b u hb hu;cases b with
   |true=>
    have h2:=Option.some.inj hv;rw[if_pos rfl] at h2;obtain⟨h3,h4⟩:=Option.filter_eq_some_iff.1 h2;subst h3;refine⟨by rw[AC,hb];rfl,?_,h4⟩
    unfold Frm.get;rw[hu]
   |false=>simp at hv
  ·cases hv
 ·cases h
theorem IE{X B:Frm}{t:Nat}{p:PV}(h:(Ec X B).get t=some p):B.get t=some p:=by
 unfold Ec Frm.get at h
 split at h
 ·rename_i v hv;subst h;rw[C8] at hv
  split at hv
  ·rename_i x u hb hu;cases x with
   |some y=>cases hv
   |none=>unfold Frm.get;rw[hu];exact Option.some.inj hv
  ·cases hv
 ·cases h
theorem Nq{X B:Frm}{t:Nat}{p:PV}(h:(IZ X B).get t=some p):X.get t=some p∨(Ec X B).get t=some p:=by
 unfold IZ Frm.get at h
 split at h
 ·rename_i v hv;subst h;rw[C8] at hv
  split at hv
  ·rename_i x u hb hu;cases x with
   |some y=>exact .inl (by unfold Frm.get;rw[hb];exact Option.some.inj hv)
   |none=>exact .inr (by unfold Frm.get Ec;rw[C8,hb,hu];exact Option.some.inj hv)
  ·cases hv
 ·cases h
theorem Inv.fill{X B:Frm}(hi:Inv cx G a w (Ec X B) σ)(hl:X.length=B.length)(hX:∀t v,X.get t=some v→Eg cx G a w t v):Inv cx G a w (IZ X B) σ:=by
 refine⟨hi.defers,hi.size,?_,hi.base,fun t v hv=>?_,hi.obj,hi.len,hi.abl⟩
 ·rw[Qy hl,←Lf hl];exact hi.room
 ·rcases Nq hv with h | h
  ·exact hX t v h
  ·exact hi.slot t v h
theorem MK{p:PV}(h:FQ p=true):p.free=true∧p.flat=true:=by
 unfold FQ at h;simp only[Ai] at h;exact⟨h.1.2,h.1.1.1⟩
theorem fV{p:PV}(h:FQ p=true)(tag:Tag)(c:Value):Eo G w tag c p:=by
 unfold FQ at h;simp only[Ai] at h;have h2:=h.2
 split at h2
 ·trivial
 ·trivial
 ·cases h2
def OL(ds:List (Nat×Nat))(x:List PV)(A:Frm):Frm:=ds.foldl (fun A d=>A.set d.1 (x[d.2]?)) A
theorem Ud(x:List PV):∀(ds:List (Nat×Nat)) (A:Frm),(OL ds x A).length=A.length
 |[],A=>rfl
 |d::ds,A=>by
  show(OL ds x (A.set d.1 (x[d.2]?))).length=_;rw[Ud x ds,CV]
theorem Ue(x:List PV){t:Nat}{p:PV}:∀(ds:List (Nat×Nat)) (A:Frm),(OL ds x A).get t=some p→(∃i,(t,i)∈ds∧x[i]?=some p)∨A.get t=some p
 |[],A,h=>.inr h
 |d::ds,A,h=>by
  rcases Ue x ds (A.set d.1 (x[d.2]?)) h with⟨i,h1,h2⟩ | h1
  ·exact .inl ⟨i,AA _ h1,h2⟩
  ·rw[Dk] at h1
   split at h1
   ·rename_i hc;exact .inl ⟨d.2,by rw[hc.1];exact AR ..,h1⟩
   ·exact .inr h1
def ofF(A:Frm):Nat→FF:=List.rec (motive:=fun _=>Nat→FF) (fun _=>[]) (fun v _ ih n=>Option.rec (motive:=fun _=>FF) (ih (n+1)) (fun p=>(n,some p)::ih (n+1)) v) A
def toF(ff:FF)(N:Nat):Frm:=(List.range N).map (EK ff)
def UL(pur:FuncId→Bool)(call:Caller)(m:Nat)(ac:Db)(A:Frm)(σ:Sto):Option (Cu×Frm×Sto):=
 cond (GG A.length ac) ((Fv pur call m ac (ofF A 0) σ).map fun r=>(r.1,toF r.2.1 A.length,r.2.2)) none
theorem TM{p:PV}{t:Nat}:∀(A:Frm) (n:Nat),EK (ofF A n) t=some p→n≤t∧A[t - n]?=some (some p)
 |[],n,h=>by cases h
 |v::A,n,h=>by
  cases v with
  |none=>
   have h':EK (ofF A (n+1)) t=some p:=h;obtain⟨h1,h2⟩:=TM A (n+1) h';refine⟨by omega,?_⟩
   rw[show t - n=(t - (n+1))+1 from by omega]
   simpa using h2
  |some q=>
   have h':EK ((n,some q)::ofF A (n+1)) t=some p:=h;rw[Lg] at h';cases hb:Nat.beq n t with
   |true=>
    rw[hb] at h';have:=BP hb;subst this;have e:q=p:=by simpa using h'
    subst e;exact⟨Ag _,by simp⟩
   |false=>
    rw[hb] at h';obtain⟨h1,h2⟩:=TM A (n+1) h';refine⟨by omega,?_⟩
    rw[show t - n=(t - (n+1))+1 from by omega]
    simpa using h2
theorem Nf{m:Nat}{ac:Db}{e:Cu}(h:UL pur call m ac A σ=some (e,A',σ')):∃A'',Hl pur call m ac A σ=some (e,A'',σ')∧A'.length=A''.length∧∀t v,A'.get t=some v→A''.get t=some v:=by
 unfold UL at h;cases hok:GG A.length ac with
 |false=>rw[hok] at h;cases h
 |true=>
  rw[hok] at h;obtain⟨⟨e1,ff,σ1⟩,hr,he⟩:=Ac.1 h;cases he
  have hrel:Rel A.length (ofF A 0) A:=by
   refine⟨rfl,fun t v hv=>?_⟩
   obtain⟨_,h2⟩:=TM A 0 hv;unfold Frm.get;rw[Nat.sub_zero] at h2;rw[h2]
  obtain⟨A2,h3,h4⟩:=Wu ac _ _ _ _ _ _ hok hrel hr;refine⟨A2,h3,by rw[h4.len];simp[toF],fun t v hv=>h4.get t v ?_⟩
  unfold Frm.get toF at hv;rw[Am] at hv
  split at hv
  ·rename_i u hu;obtain⟨s,hs,rfl⟩:=Ac.1 hu;have hs2:=(Ad.1 hs);obtain⟨h5,h6⟩:=hs2;rw[List.getElem_range] at h6;subst h6;exact hv
  ·cases hv
def KS(pur:FuncId→Bool)(call:Caller)(m:Nat)(aca ac:Db)(La L:List Bool)(X:Frm)(ds:List (Nat×Nat))(x:List PV)(A:Frm)(σ:Sto):Option (Frm×Sto):=
 match UL pur call m aca (OL ds x A) σ with
 |some (.normal,A1,σ1)=>if quiet (Ec X (C9 La A1)) σ1=true∧A1.length=La.length then(match UL pur call m ac (IZ X (C9 La A1)) σ1 with
  |some (.normal,A',σ')=>if quiet (Ec X (C9 L A')) σ'=true∧A'.length=L.length then some (IZ X (C9 L A'),σ') else none
  |_=>none) else none
 |_=>none
def Ia(pur:FuncId→Bool)(call:Caller)(m:Nat)(aca ac:Db)(La L:List Bool)(X:Frm)(ds:List (Nat×Nat)):List (List PV)→Frm→Sto→Option (Frm×Sto)
 |[],A,σ=>some (A,σ)
 |x::xs,A,σ=>match KS pur call m aca ac La L X ds x A σ with
  |some (A',σ')=>Ia pur call m aca ac La L X ds xs A' σ'
  |none=>none
theorem PE{m:Nat}{aca ac:Db}{La L:List Bool}{X:Frm}{ds:List (Nat×Nat)}(ys:List (List PV)){r:Frm×Sto}:∀(xs:List (List PV)) (A:Frm) (σ:Sto),Ia pur call m aca ac La L X ds (xs++ys) A σ=some r→
  ∃A' σ',Ia pur call m aca ac La L X ds xs A σ=some (A',σ')∧Ia pur call m aca ac La L X ds ys A' σ'=some r
 |[],A,σ,h=>⟨A,σ,rfl,h⟩
 |y::xs,A,σ,h=>by
  simp only[Ia,BI] at h ⊢
  split at h
  ·exact PE ys xs _ _ h
  ·cases h
theorem TC{m:Nat}{aca ac:Db}{La L:List Bool}{X:Frm}{ds:List (Nat×Nat)}(x:List PV){A2:Frm}{σ2:Sto}:∀(xs:List (List PV)) (A:Frm) (σ:Sto) {A':Frm} {σ':Sto},Ia pur call m aca ac La L X ds xs A σ=some (A',σ')→KS pur call m aca ac La L X ds x A' σ'=some (A2,σ2)→
  Ia pur call m aca ac La L X ds (xs++[x]) A σ=some (A2,σ2)
 |[],A,σ,A',σ',h,h2=>by
  cases h;simp only[Bj,Ia,h2]
 |y::ys,A,σ,A',σ',h,h2=>by
  simp only[Ia,BI] at h ⊢
  split at h
  ·exact TC x ys _ _ h h2
  ·cases h
theorem Inv.mY(hi:Inv cx G a w A σ)(hA:∀t v,A.get t=some v→EE cx t v)(ds:List Deferred){a':Act}(ht:a'.tmps=a.tmps)(hd:a'.defers=ds):Inv { cx with ds:=ds } G a' w A σ:=by
 have hb:=hi.base
 exact⟨hd,by rw[ht];exact hi.size,hi.room,⟨hb.keep,hb.same,hb.sub,hb.new,hb.lt,hb.own,hb.Klt,hb.grow,hb.bl,hb.os,hb.tape,hb.output⟩,
  fun t v hv=>(hi.slot t v hv).qJ (cx:=cx) rfl (hA t v hv) (by simp only[at',ht]),hi.obj,hi.len,hi.abl⟩
def mark(D:Nat):Deferred:={ target:=.collected D,args:=#[] }
def uE(P:Program)(gf:FuncId)(lb:Array Value)(xs:List (Array Value))(I:Imm)(w:World):Prop:=
 ∀(n l:Nat) (J:List (Array Value)→(Nat→Prop)→World→Prop) (W:World),Below w.heap.size w W→(∀O,AbidesFrom W.heap.size (fun s=>J s O))→
  (∀pre x post O W1,xs=pre++x::post→J pre O W1→YieldAt (FW none) n P l x W1 fun e W'=>e=.returned (.bool true)∧J (pre++[x]) (fun b=>O b∨(W1.heap.size≤b∧b<W'.heap.size)) W'∧Same I W1 W'∧W1.heap.size≤W'.heap.size∧
   ∀b cs t f,¬O b→W1.heap[b]?=some (Obj.cells cs t f)→W'.heap[b]?=some (Obj.cells cs t f))→J [] (fun b=>b<W.heap.size) W→
  CallsIn (FW none) n P gf (#[.func (.yield l) #[] #[]]++lb) W fun e W'=>(∃v,e=.returned v)∧∃O,J xs O W'
theorem ZV{n m:Nat}(hS:Ig P call)(hx:Ho cx fi)(hmo:P.follows .mixedOrders=true){g:Operand}{ps:Array Tmp}{assign body:Code}{aca ac:Db}(hca:comp P pur fi assign=some aca)(hcb:comp P pur fi body=some ac)
  {gf:FuncId} {lb:Array Value} (hg:a.eval g=.func (.func gf) #[] lb) (hent:FE P gf) {vs:List (Array Value)} {xs:List (List PV)} (hit:uE P gf lb vs G.I w) (hps:∀x∈vs,x.size=ps.size)
  (hlv:vs.length=xs.length) (hpv:∀(j:Nat) (v:Array Value) (x:List PV),vs[j]?=some v→xs[j]?=some x→∀(i:Nat) (p:PV),x[i]?=some p→Rep G.I w (v.getD i undef) p∧p.free=true∧p.Ae=p)
  {La L:List Bool} {X:Frm} {ds:List (Nat×Nat)} (hi:Inv cx G a w A σ) (hB:∀b x,cx.I0 b x→b<w.heap.size) (hA:∀t v,A.get t=some v→EE cx t v∧L.getD t false=true) (hXl:X.length=L.length) (hXs:∀t v,X.get t=some v→L.getD t false=true∧(cx.kd t).val=true∧FQ v=true∧A.get t=some v) (hq:quiet (Ec X A) σ=true) (hlen:A.length=L.length) (hla:La.length=L.length)
  (hLk:∀t,L.getD t false=true→((cx.kd t).val=true∨cx.kd t=.box)∧EF t assign=true∧EF t body=true∧∀p∈ps,p≠t) (hLa:∀t,La.getD t false=true→(cx.kd t).val=true∨cx.kd t=.box)
  (hds:∀d∈ds,(cx.kd d.1).val=true∧∀(v:Array Value) (tm:Array Value),v.size=ps.size→tm.size=cx.nt→((ps.zip v).foldl (fun t (p,v)=>t.setIfInBounds p v) tm).getD d.1 undef=v.getD d.2 undef)
  {A2:Frm} {σ2:Sto} (hrun:Ia pur call m aca ac La L X ds xs (IZ X A) σ=some (A2,σ2))
  {Q:Exit→Act→World→Prop} (hdone:∀(D:Nat) (W:World),w.heap.size≤D→W.heap[D]?=some (.deferred (some []))→w.heap.size≤W.heap.size→
   (∃G',Inv { cx with ds:=mark D::a.defers } G' { a with defers:=mark D::a.defers } W A2 σ2∧mM w.heap.size G' W∧(∀t v,A2.get t=some v→EE cx t v∧L.getD t false=true))→Q .normal { a with defers:=mark D::a.defers } W) :
  (Code.rangeFunc g ps assign body).wpIn (FW none) n P Q a w:=by
 obtain⟨fn0,hfn0,hname,hbody0⟩:=hent;have hKB:∀b,cx.K b→b<w.heap.size:=fun b h=>Bi (hi.base.Klt b h) hi.base.grow
 have eg:∀(args:Array Value) (w:World),(callFunc gf args).run P w=.ok (.enter gf args) w:=fun args W=>by
  have h1:¬fn0.name = "runtime.NumGoroutine" := by simpa using hname
  have h2:¬fn0.body=none:=fun e=>by rw[e] at hbody0;cases hbody0
  simp[callFunc,hfn0,h1,h2]
 have hXok:∀{cx':Cx} {G':Gh} {a':Act} {W:World},cx'.kd=cx.kd→(∀b x,G.I b x→G'.I b x)→Same G.I w W→∀t v,X.get t=some v→at' a' t=at' a t→Eg cx' G' a' W t v:=by
  intro cx' G' a' W hkd hsub hsm t v hv hat;obtain⟨x1,x2,x3,x4⟩:=hXs t v hv;obtain⟨f1,f2⟩:=MK x3;have hr:=((BZ x2 f1).1 (hi.slot t v x4)).1;rw[BZ (by rw[hkd];exact x2) f1,hat]
  exact⟨.one (.inl ((hr.flat f2).mono hsub hsm)),fV x3 _ _⟩
 have hXp:∀{cx':Cx},cx'.kd=cx.kd→∀t v,X.get t=some v→EE cx' t v:=fun hkd t v hv=>⟨(MK (hXs t v hv).2.2.1).1,.inl (by rw[hkd];exact(hXs t v hv).2.1)⟩
 have hXA:X.length=A.length:=hXl.trans hlen.symm
 let I:List (Array Value)→(Nat→Prop)→World→Prop:=fun pre O W=>w.heap.size≤W.heap.size∧∃A' σ',Ia pur call m aca ac La L X ds (xs.take pre.length) (IZ X A) σ=some (A',σ')∧(∀t v,A'.get t=some v→EE cx t v∧L.getD t false=true)∧A'.length=L.length∧
   ∃G',Inv { cx with ds:=[] } G' { a with defers:=[] } W A' σ'∧mM w.heap.size G' W∧(∀b x,G.I b x→G'.I b x)∧Same G.I w W∧∀b,Od G' b→O b
 have hI:∀(pre:List (Array Value)) (O:Nat→Prop) (W W':World) (row:Option Nat),I pre O W→W.grownBy W' row→(∀r,row=some r→w.heap.size≤r∧∃o:Obj,W.heap[r]?=some o∧o.isCells=false)→I pre O W':=by
  rintro pre O W W' row ⟨hsz,A',σ',hit,hA',hl',G',hi',ht',hsub,hsame,hO⟩ hgr hrow
  obtain⟨h2,h3,h4⟩:=hi'.grown ht' hKB hsz hgr hrow;exact⟨Bf hsz hgr.size,A',σ',hit,hA',hl',G',h2,h3,hsub,hsame.trans h4 hsub,hO⟩
 have h0:I [] (fun b=>b<w.heap.size) w:=by
  have hp:∀t v,A.get t=some v→EE cx t v:=fun t v h=>(hA t v h).1
  have h2:=((hi.forget (A':=Ec X A) (Lf hXA) (fun t v h=>IE h)).mY (fun t v h=>hp t v (IE h)) [] (a':={ a with defers:=[] }) rfl rfl)
  have h3:=(h2.DK w.heap.size hB (fun t v h=>hp t v (IE h)) hq).fill hXA (fun t v hv=>hXok (G':=G.DK w.heap.size w) rfl (fun b x h=>⟨h,.inl (hi.base.lt b x h)⟩) (Same.refl _ _) t v hv rfl)
  exact⟨Ag _,IZ X A,σ,rfl,fun t v hv=>(Nq hv).elim (fun h=>⟨hXp rfl t v h,(hXs t v h).1⟩) (fun h=>hA t v (IE h)),by rw[Qy hXA,hlen],_,h3,Lu _ _ _,fun b x h=>⟨h,.inl (hi.base.lt b x h)⟩,Same.refl _ _,fun b hb=>Ut hi.base (KI hb)⟩
 refine wpIn_rangeFunc fun fn hfn=>?_
 obtain⟨rec,hrec⟩:∃rec:LoopState→Option Code→Loop,rec=fun st pe=>{ state:=st,pending:=pe,fn,tmps:=a.tmps,params:=ps,assign,body,defers:=w.heap.size }:=⟨_,rfl⟩
 obtain⟨W1,hW1⟩:∃W1,(w.alloc (.deferred (some []))).alloc (.loop (rec .ready none))=W1:=⟨_,rfl⟩
 have hL1:W1.heap[w.heap.size+1]?=some (.loop (rec .ready none)):=by
  rw[←hW1];have:=World.alloc_heap_new (w.alloc (.deferred (some []))) (.loop (rec .ready none));rwa [World.size_alloc] at this
 have hK1:W1.heap[w.heap.size]?=some (.deferred (some [])):=by
  rw[←hW1];exact(Below.heap_alloc _ _ _ (by simp)).trans (World.alloc_heap_new w _)
 have hg1:w.grownBy (w.alloc (.deferred (some []))) none:=World.grownBy_alloc w _ none;have hg2:(w.alloc (.deferred (some []))).grownBy W1 none:=by rw[←hW1];exact World.grownBy_alloc _ _ none
 have hI1':I [] (fun b=>b<w.heap.size) W1:=hI _ _ _ _ none (hI _ _ _ _ none h0 hg1 (fun r e=>by cases e)) hg2 (fun r e=>by cases e)
 have hb1:Below w.heap.size w W1:=by
  rw[←hW1];exact(((Below.refl w.heap.size w).alloc (Ag _) _).alloc (by simp) _)
 have hsz1:W1.heap.size=w.heap.size+2:=by rw[←hW1];simp
 have hI1:I [] (fun b=>b<W1.heap.size) W1:=by
  obtain⟨hsz,A',σ',hit,hA',hl',G',hi',ht',hsub,hsame,hO⟩:=hI1';exact⟨hsz,A',σ',hit,hA',hl',G',hi',ht',hsub,hsame,fun b hb=>by have:=hO b hb;omega⟩
 refine⟨w.heap.size+1,[mark w.heap.size],W1,{ target:=.fn (.func gf) lb,args:=#[.func (.yield (w.heap.size+1)) #[] #[]] },W1,gf,
  #[.func (.yield (w.heap.size+1)) #[] #[]]++lb,W1,?_,?_,?_,?_,fun h=>(by cases h),?_⟩
 ·rw[←hW1,hrec];exact run_enterLoop_outer _ _ _ _ _
 ·simp only[resolve,hg];simp[go_sem]
 ·intro f' _;trivial
 ·simp[invoke,go_sem,eg]
 ·have hnc:∀{W W':World} {row:Option Nat},(∀r,row=some r→W1.heap.size≤r∧∃o:Obj,W.heap[r]?=some o∧o.isWalk=true)→(∀r,row=some r→w.heap.size≤r∧∃o:Obj,W.heap[r]?=some o∧o.isCells=false):=
   fun hr r e=>by obtain⟨hB',o,ho,hw⟩:=hr r e;exact⟨by omega,o,ho,Obj.not_cells_of_walk hw⟩
  refine(hit (n - 1) (w.heap.size+1) (fun pre O W=>I pre O W∧W.heap[w.heap.size+1]?=some (.loop (rec .ready none))∧W.heap[w.heap.size]?=some (.deferred (some []))) W1 hb1
   (fun O s X Y row hs hg' hr=>⟨hI s O X Y row hs.1 hg' (hnc (W':=Y) hr),(grownBy_keeps hg' (fun r e=>(hr r e).2) hs.2.1 rfl).trans hs.2.1,(grownBy_keeps hg' (fun r e=>(hr r e).2) hs.2.2 rfl).trans hs.2.2⟩) ?_ ⟨hI1,hL1,hK1⟩).mono ?_
  ·
   rintro pre v post O W hvs ⟨⟨hsz,A',σ',hitr,hA',hl',G',hi',ht',hsub,hsame,hO⟩,hl,hk⟩
   have hjv:vs[pre.length]?=some v:=by rw[hvs];simp
   have hjlt:pre.length<xs.length:=by rw[←hlv];exact(Ad.1 hjv).1
   obtain⟨x,hjx⟩:∃x,xs[pre.length]?=some x:=⟨_,Ah hjlt⟩
   have hsplit:xs=xs.take pre.length++x::xs.drop (pre.length+1):=by
    have:=BK pre.length xs;rw[Cq hjlt] at this;have hx':xs[pre.length]=x:=(Ad.1 hjx).2;rw[hx'] at this;exact this.symm
   have htake:xs.take (pre++[v]).length=xs.take pre.length++[x]:=by
    rw[Af,DV,List.take_add_one,hjx];rfl
   obtain⟨rr,hround⟩:∃rr,KS pur call m aca ac La L X ds x A' σ'=some rr:=by
    rw[hsplit] at hrun;obtain⟨B',τ',h1,h2⟩:=PE _ _ _ _ hrun;rw[hitr] at h1;cases h1;simp only[Ia] at h2
    split at h2
    ·rename_i h3;exact⟨_,h3⟩
    ·cases h2
   obtain⟨A4,σ4⟩:=rr;have hround':=hround;unfold KS at hround
   split at hround
   case h_2=>cases hround
   rename_i Aa σa hruna0;obtain⟨Aa',hruna,hla',hsa⟩:=Nf hruna0
   split at hround
   case isFalse=>cases hround
   rename_i hqa
   split at hround
   case h_2=>cases hround
   rename_i A3 σ3 hrunb0;obtain⟨A3',hrunb,hlb',hsb⟩:=Nf hrunb0
   split at hround
   case isFalse=>cases hround
   rename_i hqb;cases hround;have hvm:v∈vs:=Au hjv;have hy:=run_yield (P:=P) (args:=v) hl (by rw[hrec];exact hps v hvm)
   rw[hrec] at hy;obtain⟨tm,htm⟩:∃tm,(ps.zip v).foldl (fun t (p,v)=>t.setIfInBounds p v) a.tmps=tm:=⟨_,rfl⟩
   have htsz:tm.size=a.tmps.size:=by
    rw[←htm,←EH];generalize (ps.zip v).toList=l;generalize a.tmps=t0
    induction l generalizing t0 with
    |nil=>rfl
    |cons d l ih=>rw[EM,ih];simp
   have htat:∀t,(∀p∈ps,p≠t)→tm.getD t undef=a.tmps.getD t undef:=by
    intro t ht
    have hz:∀d∈(ps.zip v).toList,d.1≠t:=by
     intro d hd;have hd':(d.1,d.2)∈ps.toList.zip v.toList:=by simpa [Array.toList_zip] using hd
     exact ht _ (by have:=(List.of_mem_zip hd').1;simpa using this)
    rw[←htm,←EH];generalize (ps.zip v).toList=l at hz;generalize a.tmps=t0
    induction l generalizing t0 with
    |nil=>rfl
    |cons d l ih=>
     rw[EM,ih (fun d' hd'=>hz d' (AA _ hd'))]
     have:=hz d (AR ..);simp only[Aj];rw[De this]
   let cx':Cx:={ cx with ds:=[] }
   have hx':∀{H:Gh} {V:World},Ho (cx'.inner H V []) fi:=⟨hx.kd,hx.nt,hx.al⟩
   let a1:Act:={ tmps:=tm,defers:=[] }
   have hi1:=hi'.inner ht' [] (a':=a1) rfl htsz (A':=A') (fun t u hu=>⟨(hA' t u hu).1,hu,htat t (hLk t (hA' t u hu).2).2.2.2⟩) rfl
   have hi2:Inv (cx'.inner G' W []) G' a1 W (OL ds x A') σ':=by
    refine⟨hi1.defers,hi1.size,by rw[Ud];exact hi1.room,hi1.base,fun t u hu=>?_,hi1.obj,hi1.len,hi1.abl⟩
    rcases Ue _ _ _ hu with⟨i,h2,h3⟩ | h2
    ·obtain⟨e1,e2,e3⟩:=hpv _ v x hjv hjx i u h3;obtain⟨hdv,hdt⟩:=hds _ h2;rw[BZ (cx:=cx'.inner G' W []) hdv e2]
     have hat:at' a1 t=v.getD i undef:=by
      have:=hdt v a.tmps (hps v hvm) hi.size;rw[htm] at this;exact this
     rw[hat];exact⟨.one (.inl (e1.mono hsub hsame)),QX e3⟩
    ·exact hi1.slot t u h2
   refine⟨fn,tm,assign,body,by rw[←htm];exact hy,roundIn_of_wpIn hfn ?_⟩
   refine Ir (ro:=some (w.heap.size+1)) (cx:=cx'.inner G' W []) hS hx' hmo assign aca hca m _ _ _ _ _ hruna a1 W ⟨G',hi2⟩ _ (fun a2 w2 hs2 hat2=>?_)
   obtain⟨G2,hi3'⟩:=hs2;have hi3:=hi3'.forget hla' hsa;have hk2:=MS hi3.base;have hXa:X.length=(C9 La Aa).length:=by rw[Hg hqa.2,hXl,hla]
   have hA2:∀t u,(Ec X (C9 La Aa)).get t=some u→EE cx t u∧Aa.get t=some u∧at' a2 t=at' a2 t:=fun t u hu=>by
    obtain⟨e1,e2,e3⟩:=JP (IE hu);exact⟨⟨e3,hLa t e1⟩,e2,rfl⟩
   have hi4:=(hi'.outer hi3 (ds':=[]) (a2:=a2) hi3.defers rfl (A2:=Ec X (C9 La Aa)) hA2 (by rw[Lf hXa,Hg hqa.2];exact hqa.2.symm)).DK w.heap.size hB (fun t u hu=>(hA2 t u hu).1) hqa.1
   have ht4:=Lu G2 w.heap.size w2;have hsub4:∀b x,G.I b x→(G2.DK w.heap.size w2).I b x:=fun b x h=>⟨hi3.base.sub _ _ (hsub _ _ h),.inl (hi.base.lt b x h)⟩
   have hss2:Same G.I W w2:=⟨fun b o h=>hi3.base.same.cell b o (hsub _ _ h),fun b h=>hi3.base.same.blk b (hsub _ _ h)⟩
   have hsz2:w.heap.size≤w2.heap.size:=Bf hsz hk2.size;have hl2:=hk2.same _ _ hl rfl;have hd2:=hk2.same _ _ hk rfl;refine⟨_,run_beginRound hl2 (by rw[hrec]),?_⟩
   obtain⟨w3,hw3⟩:∃w3,w2.putObj (w.heap.size+1) (.loop { rec .ready none with state:=.busy })=w3:=⟨_,rfl⟩
   have hg3:w2.grownBy w3 (some (w.heap.size+1)):=by rw[←hw3];exact grownBy_putObj' _ _ _
   have hlt2:w.heap.size+1<w2.heap.size:=(Br.1 hl2).1;have hl3:w3.heap[w.heap.size+1]?=some (.loop { rec .ready none with state:=.busy }):=by rw[←hw3];exact World.putObj_heap_same hlt2
   have hd3:w3.heap[w.heap.size]?=some (.deferred (some [])):=by rw[←hw3];exact(World.putObj_heap_other (by omega)).trans hd2
   obtain⟨hi5,ht5,hs5⟩:=hi4.grown ht4 hKB hsz2 hg3 (fun r e=>by cases e;exact⟨by omega,_,hl2,rfl⟩)
   have hsz3:w.heap.size≤w3.heap.size:=Bf hsz2 hg3.size;have hss5:Same G.I w2 w3:=⟨fun b o h=>hs5.cell b o (hsub4 _ _ h),fun b h=>hs5.blk b (hsub4 _ _ h)⟩
   have hi5f:=hi5.fill hXa (fun t v hv=>hXok rfl hsub4 ((hsame.trans hss2 (fun _ _ h=>h)).trans hss5 (fun _ _ h=>h)) t v hv (by
    obtain⟨k1,k2,k3,k4⟩:=hLk t (hXs t v hv).1;exact(hat2 t k2).trans (htat t k4)))
   have hi6:=hi5f.inner ht5 [] (a':=a2) hi5.defers rfl (A':=IZ X (C9 La Aa)) (fun t u hu=>⟨(Nq hu).elim (fun h=>hXp rfl t u h) (fun h=>(hA2 t u h).1),hu,rfl⟩) rfl
   rw[hw3];refine Ir (ro:=some (w.heap.size+1)) (cx:=cx'.inner (G2.DK w.heap.size w2) w3 []) hS hx' hmo body ac hcb m _ _ _ _ _ hrunb a2 w3 ⟨_,hi6⟩ _ (fun a4 w4 hs4 hat4=>?_)
   obtain⟨G4,hi7'⟩:=hs4;have hi7:=hi7'.forget hlb' hsb;have hk4:=MS hi7.base;have hXb:X.length=(C9 L A3).length:=by rw[Hg hqb.2,hXl]
   have hA4:∀t u,(Ec X (C9 L A3)).get t=some u→EE cx t u∧A3.get t=some u∧at' { a with defers:=[] } t=at' a4 t:=by
    intro t u hu;obtain⟨e1,e2,e3⟩:=JP (IE hu);obtain⟨k1,k2,k3,k4⟩:=hLk t e1;refine⟨⟨e3,k1⟩,e2,?_⟩
    rw[hat4 t k3,hat2 t k2];exact(htat t k4).symm
   have hi8:=(hi5.outer hi7 (ds':=[]) (a2:={ a with defers:=[] }) rfl (by have h2:=hi7.size;have h3:=hi.size;show a.tmps.size=_;rw[h3,h2];rfl) (A2:=Ec X (C9 L A3)) hA4 (by rw[Lf hXb,Hg hqb.2];exact hqb.2.symm)).DK w.heap.size hB (fun t u hu=>(hA4 t u hu).1) hqb.1
   have ht8:=Lu G4 w.heap.size w4;have hl4:=hk4.same _ _ hl3 rfl;have hd4:=hk4.same _ _ hd3 rfl;have hlt4:w.heap.size+1<w4.heap.size:=(Br.1 hl4).1;have he4:=run_endRound (P:=P) none hl4;have hss4:Same G.I w3 w4:=⟨fun b o h=>hi7.base.same.cell b o (hsub4 _ _ h),fun b h=>hi7.base.same.blk b (hsub4 _ _ h)⟩
   obtain⟨w5,hw5⟩:∃w5,w4.putObj (w.heap.size+1) (.loop (rec .ready none))=w5:=⟨_,rfl⟩;have hg5:w4.grownBy w5 (some (w.heap.size+1)):=by rw[←hw5];exact grownBy_putObj' _ _ _
   obtain⟨hi9,ht9,hs9⟩:=hi8.grown ht8 hKB (Bf hsz3 hk4.size) hg5 (fun r e=>by cases e;exact⟨by omega,_,hl4,rfl⟩)
   have hsub8:∀b x,G.I b x→(G4.DK w.heap.size w4).I b x:=fun b x h=>⟨hi7.base.sub _ _ (hsub4 _ _ h),.inl (hi.base.lt b x h)⟩
   have hss9:Same G.I w4 w5:=⟨fun b o h=>hs9.cell b o (hsub8 _ _ h),fun b h=>hs9.blk b (hsub8 _ _ h)⟩
   have hall:Same G.I W w5:=((hss2.trans hss5 (fun _ _ h=>h)).trans hss4 (fun _ _ h=>h)).trans hss9 (fun _ _ h=>h)
   have hsW5:W.heap.size≤w5.heap.size:=Bf (Bf (Bf hk2.size hg3.size) hk4.size) hg5.size;refine⟨_,w5,?_,rfl,⟨⟨Bf (Bf hsz3 hk4.size) hg5.size,IZ X (C9 L A3),σ4,?_,fun t u hu=>(Nq hu).elim (fun h=>⟨hXp rfl t u h,(hXs t u h).1⟩) (fun h=>⟨(hA4 t u h).1,(JP (IE h)).1⟩),by rw[Qy hXb,Hg hqb.2],_,hi9.fill hXb (fun t v hv=>hXok rfl hsub8 (hsame.trans hall (fun _ _ h=>h)) t v hv rfl),ht9,hsub8,hsame.trans hall (fun _ _ h=>h),fun b hb=>?_⟩,?_,?_⟩,hall,hsW5,fun b cs t f hnO hb=>?_⟩
   ·rw[←hw5];rw[hrec] at he4 ⊢;exact he4
   ·rw[htake];exact TC _ _ _ _ hitr hround'
   ·
    have hlt:=Ut hi9.base hb;rcases MR hi7.base (KI hb) with h1 | h1
    ·exact .inr ⟨Bf (Bf hk2.size hg3.size) h1,hlt⟩
    ·rcases MR hi3.base (KI h1) with h2 | h2
     ·exact .inr ⟨h2,hlt⟩
     ·exact .inl (hO b h2)
   ·rw[←hw5];exact World.putObj_heap_same hlt4
   ·rw[←hw5];exact(World.putObj_heap_other (by omega)).trans hd4
   ·
    have hbl:b<W.heap.size:=(Br.1 hb).1;have hnk:¬Od G' b:=fun h=>hnO (hO b h)
    have hne:w.heap.size+1≠b:=by rintro rfl;rw[hl] at hb;cases hb
    have e2:w2.heap[b]?=some (Obj.cells cs t f):=(TI hi3.base hbl hnk).trans hb;have hb2:b<w2.heap.size:=(Br.1 e2).1;have e3:w3.heap[b]?=some (Obj.cells cs t f):=by rw[←hw3];exact(World.putObj_heap_other (by omega)).trans e2
    have hb3:b<w3.heap.size:=(Br.1 e3).1
    have hnk2:¬Od (G2.DK w.heap.size w2) b:=fun h=>by
     rcases MR hi3.base (KI h) with h | h
     ·omega
     ·exact hnk h
    have e4:w4.heap[b]?=some (Obj.cells cs t f):=(TI hi7.base hb3 hnk2).trans e3;rw[←hw5];exact(World.putObj_heap_other (by omega)).trans e4
  ·
   rintro e W2 ⟨⟨v,rfl⟩,O,hIx,hl,hk⟩
   have hlt:w.heap.size+1<W2.heap.size:=(Br.1 hl).1;refine⟨none,_,by have:=run_endLoop (P:=P) hl (by rw[hrec];simp);rw[hrec] at this;exact this,?_⟩
   have hg9:W2.grownBy (W2.putObj (w.heap.size+1) (.loop { rec .ready none with state:=.exhausted })) (some (w.heap.size+1)):=grownBy_putObj' _ _ _
   obtain⟨hsz,A',σ',hitr,hA',hl',G',hi',ht',hsub,hsame,_⟩:=hI _ _ _ _ _ hIx hg9 (fun r e=>by cases e;exact⟨by omega,_,hl,rfl⟩)
   rw[hlv,List.take_length,hrun] at hitr;cases hitr;rw[hrec] at hi' ht' hsame hsz;refine hdone w.heap.size _ (Ag _) ((World.putObj_heap_other (by omega)).trans hk) hsz ⟨G',hi'.mY (cx:={ cx with ds:=[] }) (fun t v h=>(hA' t v h).1) (mark w.heap.size::a.defers) (a':={ a with defers:=mark w.heap.size::a.defers }) rfl rfl,ht',hA'⟩
end
end
end Go.Abs

namespace Go.Abs
open Go.RowKit
def ww:List Code→Code→Code
 |[],c=>c
 |p::ps,c=>.seq p (ww ps c)
def Uj(P:Program)(pur:FuncId→Bool)(fi:FI):List Code→Option (List Db)
 |[]=>some []
 |c::cs=>match comp P pur fi c,Uj P pur fi cs with
  |some x,some xs=>some (x::xs)
  |_,_=>none
noncomputable section
def Qn(pur:FuncId→Bool)(call:Caller)(m:Nat):List Db→Frm→Sto→Option (Cu×Frm×Sto)
 |[],A,σ=>some (.normal,A,σ)
 |c::cs,A,σ=>match UL pur call m c A σ with
  |some (.normal,A',σ')=>Qn pur call m cs A' σ'
  |r=>r
structure LFn where
 nargs:Nat
 ntmps:Nat
 extra:Nat
 pre:List Db
 rg:Db
 g:Nat
 aca:Db
 ac:Db
 post:Db
 La:List Bool
 L:List Bool
 Lr:List Bool
 ds:List (Nat×Nat)
 nps:Nat
 res:List (Nat×Option Nat)
 Lv:List Bool
def YY(f:LFn)(A:Frm)(σ:Sto):Option (PV×Sto):=(F7 A f.res).bind fun vs=>(DL vs).map fun r=>(r,σ)
def jv(pur:FuncId→Bool)(call:Caller)(itr:FuncId→List PV→Option (List (List PV)))(m:Nat)(f:LFn)(A:Frm)(σ:Sto):Option (PV×Sto):=
 match A.get f.g with
 |some (.func gf [] caps)=>match itr gf caps with
  |some xs=>if quiet (Ec (IU f.Lv A) (C9 f.L A)) σ=true∧A.length=f.L.length∧f.Lv.length=f.L.length∧f.Lr.length=f.L.length∧caps.all PV.flat=true∧xs.all (fun x=>x.length==f.nps)=true then
   (match Ia pur call m f.aca f.ac f.La f.L (IU f.Lv A) f.ds xs (IZ (IU f.Lv A) (C9 f.L A)) σ with
   |some (A2,σ2)=>match UL pur call m f.post A2 σ2 with
    |some (e,A3,σ3)=>if(e=.normal∨e=.ret)∧quiet (Ec (IU f.Lv A) (C9 f.Lr A3)) σ3=true∧A3.length=f.Lr.length then YY f (Ec (IU f.Lv A) (C9 f.Lr A3)) σ3 else none
    |none=>none
   |none=>none) else none
  |none=>none
 |_=>none
def Mx(pur:FuncId→Bool)(itr:FuncId→List PV→Option (List (List PV)))(m:Nat)(f:LFn)(call:Caller)(args:List PV)(σ:Sto):Option (PV×Sto):=
 if args.length=f.nargs∧args.length≤f.ntmps then
  match Qn pur call m f.pre (args.map some++List.replicate (f.ntmps+f.extra - args.length) none) σ with
  |some (.ret,A,σ')=>YY f A σ'
  |some (.normal,A,σ')=>match UL pur call m f.rg A σ' with
   |some (.normal,A1,σ1)=>jv pur call itr m f A1 σ1
   |_=>none
  |_=>none
 else none
end
def uC(P:Program)(itr:FuncId→List PV→Option (List (List PV))):Prop:=
 ∀gf caps xs,itr gf caps=some xs→FE P gf∧∀(I:Imm) (w:World) (cs:Array Value),(∀b x,I b x→b<w.heap.size)→cs.size=caps.length→(∀(i:Nat) (p:PV),caps[i]?=some p→Rep I w (cs.getD i undef) p)→
  ∃vs:List (Array Value),uE P gf cs vs I w∧vs.length=xs.length∧∀(j:Nat) (v:Array Value) (x:List PV),vs[j]?=some v→xs[j]?=some x→v.size=x.length∧∀(i:Nat) (p:PV),x[i]?=some p→Rep I w (v.getD i undef) p∧p.free=true∧p.Ae=p
section
variable{P:Program}{pur:FuncId→Bool}{call:Caller}{fi:FI}{cx:Cx}{G:Gh}{a:Act}{w:World}{A A':Frm}{σ σ':Sto}
theorem gT{c:Code}{cs:List Code}{acs:List Db}(h:Uj P pur fi (c::cs)=some acs):∃x xs,acs=x::xs∧comp P pur fi c=some x∧Uj P pur fi cs=some xs:=by
 simp only[Uj] at h
 split at h
 ·rename_i x xs h1 h2;cases h;exact⟨x,xs,rfl,h1,h2⟩
 ·cases h
theorem Qm{n m:Nat}(hS:Ig P call)(hx:Ho cx fi)(hmo:P.follows .mixedOrders=true):∀(cs:List Code) (acs:List Db),Uj P pur fi cs=some acs→∀(A:Frm) (σ:Sto) (e:Cu) (A':Frm) (σ':Sto),Qn pur call m acs A σ=some (e,A',σ')→
  ∀(a:Act) (w:World),Sim cx a w A σ→∀(rest:Code) (Q:Exit→Act→World→Prop),(∀a' w',Sim cx a' w' A' σ'→(e=.normal→rest.wpIn (FW none) n P Q a' w')∧(e≠.normal→Q e.ex a' w'))→(ww cs rest).wpIn (FW none) n P Q a w
 |[],acs,hc,A,σ,e,A',σ',h,a,w,hs,rest,Q,hq=>by
  cases hc;cases h;exact(hq a w hs).1 rfl
 |c::cs,acs,hc,A,σ,e,A',σ',h,a,w,hs,rest,Q,hq=>by
  obtain⟨x,xs,rfl,h1,h2⟩:=gT hc;simp only[Qn] at h;refine wpIn_seq ?_
  split at h
  ·rename_i A1 σ1 hr;obtain⟨A1',hr',hl,hsub⟩:=Nf hr;refine Ir (ro:=none) hS hx hmo c x h1 m _ _ _ _ _ hr' a w hs _ (fun a' w' hs' _=>?_)
   obtain⟨G',hi'⟩:=hs';exact Qm hS hx hmo cs xs h2 A1 σ1 e A' σ' h a' w' ⟨G',hi'.forget hl hsub⟩ rest Q hq
  ·rename_i hn;obtain⟨A1',hr',hl,hsub⟩:=Nf h;refine Ir (ro:=none) hS hx hmo c x h1 m _ _ _ _ _ hr' a w hs _ (fun a' w' hs' _=>?_)
   obtain⟨G',hi'⟩:=hs';have:=hq a' w' ⟨G',hi'.forget hl hsub⟩;cases e with
   |normal=>exact absurd h (hn _ _)
   |exit id=>exact this.2 (by simp)
   |ret=>exact this.2 (by simp)
def okL(fi:FI)(L:List Bool):Bool:=(List.range L.length).all fun t=>!(L.getD t false)||(fi.kind t).Ma||decide (fi.kind t=.box)
theorem RH{L:List Bool}(h:okL fi L=true){t:Nat}(ht:L.getD t false=true):(fi.kind t).val=true∨fi.kind t=.box:=by
 have hlt:t<L.length:=by
  rcases Bc t L.length with h' | h'
  ·exact h'
  ·rw[AC,BD h'] at ht;cases ht
 have:=Av.1 h t (CU.2 hlt);rw[ht] at this;simp only[DY,Cg,CW,decide_eq_true_eq] at this;rcases this with h1 | h1
 ·exact .inl (JQ h1)
 ·exact .inr h1
def lm(L:List Bool)(ps:Array Tmp)(assign body:Code):Bool:=(List.range L.length).all fun t=>!(L.getD t false)||(EF t assign&&EF t body&&ps.all (fun p=>p != t))
theorem qE{L:List Bool}{ps:Array Tmp}{assign body:Code}(h:lm L ps assign body=true){t:Nat}(ht:L.getD t false=true):EF t assign=true∧EF t body=true∧∀p∈ps,p≠t:=by
 have hlt:t<L.length:=by
  rcases Bc t L.length with h' | h'
  ·exact h'
  ·rw[AC,BD h'] at ht;cases ht
 have:=Av.1 h t (CU.2 hlt);rw[ht] at this;simp only[DY,Cg,Ai] at this;refine⟨this.1.1,this.1.2,fun p hp=>?_⟩
 have h2:=(Array.all_eq_true_iff_forall_mem.1 this.2) p hp;simpa using h2
theorem lG{L:List Bool}{A:Frm}{t:Nat}{p:PV}(h:L.getD t false=true)(hg:A.get t=some p)(hf:p.free=true):(C9 L A).get t=some p:=by
 unfold Frm.get at hg
 split at hg
 ·rename_i v hv;subst hg
  have hb:L[t]?=some true:=by
   rw[AC] at h;cases hx:L[t]? with
   |none=>rw[hx] at h;cases h
   |some b=>rw[hx] at h;rw[show b=true from h]
  unfold C9 Frm.get;rw[C8,hb,hv];simp[Option.filter,hf]
 ·cases hg
theorem AWP{f:FuncId}{fn:Func}{lf:LFn}{m:Nat}{itr:FuncId→List PV→Option (List (List PV))}(hitr:uC P itr)(hmo:P.follows .mixedOrders=true)(hfn:P.funcs[f]?=some fn)(hname:(fn.name == "runtime.NumGoroutine")=false)
  (hok:fi.okB=true) (hnt:fi.nt=fn.ntmps) (hna:lf.ntmps=fn.ntmps) (hex:lf.extra=fi.ps.length) {pre:List Code} {rg assign body post:Code} {bid gt:Nat} {ps:Array Tmp}
  (hbody:fn.body=some (ww pre (.seq (.seq rg (.block bid (.rangeFunc (.tmp gt) ps assign body))) post))) (hgt:lf.g=gt) (hnp:lf.nps=ps.size)
  (hcp:Uj P pur fi pre=some lf.pre) (hcr:comp P pur fi rg=some lf.rg) (hca:comp P pur fi assign=some lf.aca) (hcb:comp P pur fi body=some lf.ac) (hct:comp P pur fi post=some lf.post)
  (hrs:IR P fi fn.results.toList=some lf.res) (hvals:(List.range lf.nargs).all (fun t=>(fi.kind t).Ma)=true) (hgk:(fi.kind gt).Ma=true)
  (hLa:okL fi lf.La=true) (hL:okL fi lf.L=true) (hLr:okL fi lf.Lr=true) (hL2:lm lf.L ps assign body=true) (hll:lf.La.length=lf.L.length) (hLv:∀t,lf.Lv.getD t false=true→lf.L.getD t false=true∧(fi.kind t).val=true)
  (hds:∀d∈lf.ds,(fi.kind d.1).val=true∧∀(v:Array Value) (tm:Array Value),v.size=ps.size→tm.size=fi.nt→((ps.zip v).foldl (fun t (p,v)=>t.setIfInBounds p v) tm).getD d.1 undef=v.getD d.2 undef) :
  JE P f (Mx pur itr m lf):=by
 intro call hS args σ r σ' hown h;have hent:FE P f:=⟨fn,hfn,hname,by rw[hbody];rfl⟩
 refine⟨hent,fun n vs w G K hargs hpre=>?_⟩
 unfold Mx at h
 split at h
 case isFalse=>cases h
 rename_i hlen;obtain⟨hl1,hl2⟩:=hlen;have hval:∀t,t<args.length→(fi.kind t).val=true:=fun t ht=>JQ (Av.1 hvals t (CU.2 (by omega)))
 have hinit:=cu hok hpre hargs hown (by omega) hval fi.ps.length
 have hvs:vs.size=args.length:=by simpa using hargs.1
 have hcx:=Bx5 hok K G w;rw[hna,←hnt,hex] at h;refine callsIn_of_wp_marks hfn hbody trivial ?_
 rw[←hnt]
 have fin0:∀(e:Cu) (A1:Frm) (a':Act) (w':World),(e=.normal∨e=.ret)→Sim (bJ fi hok K G w) a' w' A1 σ'→YY lf A1 σ'=some (r,σ')→
   bodyPostM (FW none) n P fn (fun e w'=>∃v G',e=.returned v∧Bz G'.I G'.bl w' v r∧Aft K G w σ' G' w') e.ex a' w':=by
  intro e A1 a' w' he hs hres;obtain⟨G',hi'⟩:=hs;unfold YY at hres;obtain⟨ps',hps,hres⟩:=AL.1 hres;obtain⟨r',hr',e1⟩:=Ac.1 hres;cases e1;obtain⟨v,hv,hrep⟩:=Ot (P:=P) hi' hcx hrs hps hr';have hb:=hi'.base;have haft:Aft K G w σ' G' w':=⟨hb.keep,hb.same,hb.sub,hb.new,hb.lt,hb.own,hb.grow,hb.bl,hb.os,hb.tape,hb.output,hi'.obj,hi'.len,hi'.abl⟩;have hd:a'.defers=[]:=hi'.defers
  have hfin:LeavesInM (FW none) n P fn a'.tmps (fun e w'=>∃v G',e=.returned v∧Bz G'.I G'.bl w' v r∧Aft K G w σ' G' w') a'.defers .returning w':=by
   rw[hd];exact⟨v,hv,v,G',rfl,hrep,haft⟩
  rcases he with rfl | rfl
  ·exact hfin
  ·exact hfin
 split at h
 ·
  rename_i A1 σ1 hrun
  have hσ:σ1=σ':=by
   unfold YY at h;obtain⟨_,_,h⟩:=AL.1 h;obtain⟨_,_,e⟩:=Ac.1 h;cases e;rfl
  subst hσ;exact Qm hS hcx hmo pre lf.pre hcp _ σ _ A1 σ1 hrun _ w ⟨G,hinit⟩ _ _ (fun a' w' hs=>⟨fun e=>(by cases e),fun _=>fin0 .ret A1 a' w' (.inr rfl) hs h⟩)
 ·rename_i A1 σ1 hrun
  split at h
  case h_2=>cases h
  rename_i A2 σ2 hrg;refine Qm hS hcx hmo pre lf.pre hcp _ σ _ A1 σ1 hrun _ w ⟨G,hinit⟩ _ _ (fun a' w' hs=>⟨fun _=>?_,fun e=>absurd rfl e⟩)
  refine wpIn_seq (wpIn_seq ?_)
  obtain⟨A2',hrg',hlg,hsg⟩:=Nf hrg;refine Ir (ro:=none) hS hcx hmo rg lf.rg hcr m _ _ _ _ _ hrg' a' w' hs _ (fun a2 w2 hs2 _=>?_)
  obtain⟨G2,hi2'⟩:=hs2;have hi2:=hi2'.forget hlg hsg;show(Code.block bid (Code.rangeFunc (.tmp gt) ps assign body)).wpIn (FW none) n P _ a2 w2;refine wpIn_block ?_
  unfold jv at h;rw[hgt] at h
  split at h
  case h_2=>cases h
  rename_i gf caps hget
  split at h
  case h_2=>cases h
  rename_i xs hxs
  split at h
  case isFalse=>cases h
  rename_i hcc;obtain⟨hq,hlA,hlv1,hlr1,hcaps,hxl⟩:=hcc
  split at h
  case h_2=>cases h
  rename_i A3 σ3 hiter
  split at h
  case h_2=>cases h
  rename_i e4 A4 σ4 hpost
  split at h
  case isFalse=>cases h
  rename_i hend;obtain⟨he4,hq4,hl4⟩:=hend;have hgv:((bJ fi hok K G w).kd gt).val=true:=JQ hgk;have hrepg:=((BZ hgv rfl).1 (hi2.slot gt _ hget)).1;obtain⟨fs,cs,hat,hf1,hf2,hf3,hf4⟩:=hrepg.Lh;have hfs:fs=#[]:=Array.eq_empty_of_size_eq_zero hf1;subst hfs;obtain⟨hge,hg⟩:=hitr gf caps xs hxs;obtain⟨vls,hito,hlv,hpv⟩:=hg G2.I w2 cs hi2.base.lt hf2 (fun i p hp=>Bz.flat (.one (hf4 i p hp)) (Av.1 hcaps p (Au hp)))
  have hA0:∀t v,(C9 lf.L A2).get t=some v→EE (bJ fi hok K G w) t v∧lf.L.getD t false=true:=fun t v hv=>by
   obtain⟨e1,e2,e3⟩:=JP hv;exact⟨⟨e3,RH hL e1⟩,e1⟩
  have hi3:=hi2.forget (A':=C9 lf.L A2) (by rw[Hg hlA,hlA]) (fun t v hv=>(JP hv).2.1)
  have hXl:(IU lf.Lv A2).length=lf.L.length:=by simp[IU,hlv1,hlA]
  have hXs:∀t v,(IU lf.Lv A2).get t=some v→lf.L.getD t false=true∧((bJ fi hok K G w).kd t).val=true∧FQ v=true∧(C9 lf.L A2).get t=some v:=fun t v hv=>by
   obtain⟨x1,x2,x3⟩:=lF hv;obtain⟨y1,y2⟩:=hLv t x1;exact⟨y1,y2,x3,lG y1 x2 (MK x3).1⟩
  have hI0:∀b x,(bJ fi hok K G w).I0 b x→b<w2.heap.size:=fun b x hb=>Bi (hpre.lt b x hb) hi2.base.grow
  refine ZV (pur:=pur) (call:=call) (m:=m) hS hcx hmo hca hcb (a:=a2) (g:=.tmp gt) (by exact hat) hge hito (fun v hv=>?_) hlv (fun j v x h1 h2=>(hpv j v x h1 h2).2) hi3 hI0 hA0 hXl hXs hq (by rw[Hg hlA]) hll
   (fun t ht=>⟨RH hL ht,qE hL2 ht⟩) (fun t ht=>RH hLa ht) hds hiter (fun D W hD hdef hBW hex=>?_)
  ·obtain⟨j,hj⟩:=BL.1 hv;have hjl:j<xs.length:=by rw[←hlv];exact(Ad.1 hj).1
   rw[(hpv j v _ hj (Ah hjl)).1];have:=Av.1 hxl _ (Ci hjl);rw[←hnp];simpa using this
  ·obtain⟨G3,hi4,ht4,hA3⟩:=hex;have hd2:a2.defers=[]:=hi2.defers;rw[hd2] at hi4 ⊢
   let cxm:Cx:={ bJ fi hok K G w with ds:=[mark D] }
   have hi5:Inv (cxm.inner G3 W [mark D]) G3 { a2 with defers:=[mark D] } W A3 σ3:=hi4.inner ht4 [mark D] rfl rfl (fun t v hv=>⟨(hA3 t v hv).1,hv,rfl⟩) rfl
   obtain⟨A4',hpost',hlp,hsp⟩:=Nf hpost;show post.wpIn (FW none) n P _ { a2 with defers:=[mark D] } W
   refine Ir (ro:=none) (cx:=cxm.inner G3 W [mark D]) hS ⟨hcx.kd,hcx.nt,hcx.al⟩ hmo post lf.post hct m _ _ _ _ _ hpost' _ W ⟨G3,hi5⟩ _ (fun a4 w4 hs4 _=>?_)
   obtain⟨G4,hi6'⟩:=hs4;have hi6:=hi6'.forget hlp hsp;have hk4:=MS hi6.base;have hdef4:=hk4.same _ _ hdef rfl;have hd4:a4.defers=[mark D]:=hi6.defers;have hXr:(IU lf.Lv A2).length=(C9 lf.Lr A4).length:=by rw[Hg hl4,hXl,hlr1]
   have hA4:∀t v,(Ec (IU lf.Lv A2) (C9 lf.Lr A4)).get t=some v→EE cxm t v∧A4.get t=some v∧at' { a4 with defers:=[] } t=at' a4 t:=fun t v hv=>by
    obtain⟨e1,e2,e3⟩:=JP (IE hv);exact⟨⟨e3,RH hLr e1⟩,e2,rfl⟩
   have hi7:=(hi4.outer (cx:=cxm) hi6 (ds':=[]) (a2:={ a4 with defers:=[] }) rfl rfl (A2:=Ec (IU lf.Lv A2) (C9 lf.Lr A4)) hA4 (by rw[Lf hXr,Hg hl4];exact hl4.symm)).DK w2.heap.size hI0 (fun t v hv=>(hA4 t v hv).1) hq4
   have ht7:=Lu G4 w2.heap.size w4;obtain⟨w5,hw5⟩:∃w5,w4.putObj D (.deferred none)=w5:=⟨_,rfl⟩;have hg5:w4.grownBy w5 (some D):=by rw[←hw5];exact grownBy_putObj' _ _ _
   have hKB:∀b,K b→b<w2.heap.size:=fun b hb=>Bi (hpre.Klt b hb) hi2.base.grow
   obtain⟨hi8,_,_⟩:=hi7.grown ht7 hKB (Bf hBW hk4.size) hg5 (fun r e=>by cases e;exact⟨hD,_,hdef4,rfl⟩)
   have hσ:σ4=σ':=by
    unfold YY at h;obtain⟨_,_,h⟩:=AL.1 h;obtain⟨_,_,e⟩:=Ac.1 h;cases e;rfl
   subst hσ;unfold YY at h;obtain⟨ps',hps,hres⟩:=AL.1 h;obtain⟨r',hr',e1⟩:=Ac.1 hres;cases e1;obtain⟨v,hv,hrep⟩:=Ot (P:=P) hi8 ⟨hcx.kd,hcx.nt,hcx.al⟩ hrs hps hr';have hb:=hi8.base;have haft:Aft K G w σ4 _ w5:=⟨hb.keep,hb.same,hb.sub,hb.new,hb.lt,hb.own,hb.grow,hb.bl,hb.os,hb.tape,hb.output,hi8.obj,hi8.len,hi8.abl⟩
   have hfin:LeavesInM (FW none) n P fn a4.tmps (fun e w'=>∃v G',e=.returned v∧Bz G'.I G'.bl w' v r∧Aft K G w σ4 G' w') a4.defers .returning w4:=by
    rw[hd4];refine⟨by simp,.inl ⟨D,w5,rfl,by rw[←hw5];exact run_takeDeferred hdef4,?_⟩⟩
    exact⟨v,hv,v,_,rfl,hrep,haft⟩
   rcases he4 with rfl | rfl
   ·exact hfin
   ·exact hfin
 ·cases h
end
end Go.Abs

namespace Go.Abs.Z
open Go.Abs.T
def lf27:LFn:=⟨2,35,0,[R [o 2 (.p .bx) [s 0],o 3 (.p .bx) [s 1],v 4 (S [])],R [o 5 (.w (.alB 101 5)) []],R [o 9 (f 4) [s 3],o 10 L1 [s 9],o 6 (.w (.alO [.nils])) [],u (.w (.st 1)) [s 6,s 10]],R [o 11 (.p (.mkf 70 0)) [s 6,s 5,s 2],o 7 (.w (.alO [.nilf])) [],u (.w (.st 1)) [s 7,s 11]]],R [o 12 (.r (.ld 8 true)) [s 2],o 13 L5 [s 3],o 14 (c 24) [s 12,s 13]],14,R [o 8 (.p (.zi 4)) [],h (.p (.sti 4)) [s 8,s 15] [8]],B 1 (q (R [o 16 L1 [s 7],o 17 (f 2) [s 8],o 18 L1 [s 17],o 19 (.w .calld) [s 16,s 18]]) (R [o 20 (f 0) [s 2],o 21 L1 [s 20],o 22 (f 1) [s 8],o 23 L1 [s 22],o 24 (f 3) [s 8],o 25 L1 [s 24],o 26 (.p (.ssl true true)) [s 21,s 23,s 25],o 27 (w 71) [s 5,s 26]])),q (R [o 28 L1 [s 7],o 29 (f 0) [s 2],o 30 L1 [s 29],o 31 (.p (.len true)) [s 30],o 32 (y .add) [s 31,i 1],o 33 (.w .calld) [s 28,s 32]]) (q (R [o 34 (w 72) [s 5],m 4 34]) .ret),t (t (t (t (t (t (t (t (t (t (t (t (t (t (t (t (t (t (t (t (t (t (t (t (t (t (t (t (t (t (t (t (t (t (t [])))))))))))))))))))))))))))))))))),t (t (t (t (t (t (t (t (f1 (t (t (t (t (t (t (f8 (f4 (f1 (t (t (t (t (t (t (t [])))))))))))))))))))))))),t (t (t (t (t (t (t (t (t (t (t (t (t (t (t (t (t (t (t (t (t (t (t (t (t (t (t (t (t (t (t (t (t (t (t [])))))))))))))))))))))))))))))))))),[(15,0)],1,[(4,none)],t (t (t (t (t (t (t (t (f1 (t (t (t (t (t (t (f8 (f4 (f1 (t (t (t (t (t (t (t []))))))))))))))))))))))))⟩
def lf61:LFn:=⟨1,10,0,[R [o 1 (.p .bx) [s 0],v 2 (I 0)],R [o 3 (.p (.zl (I 0))) [],h (.p (.stl 0 1)) [s 3,i 0] [3]]],R [o 4 L5 [s 1],o 5 (c 120) [s 4]],5,.skip,B 1 (R [o 7 (.p (.ldl 0 1 false)) [s 3],o 8 (y .add) [s 7,i 1],h (.p (.stl 0 1)) [s 3,s 8] [3]]),q (R [o 9 (.p (.ldl 0 1 false)) [s 3],m 2 9]) .ret,t (t (t (t (t (t (t (t (t (t []))))))))),t (t (t (t (t (t (f2 (f1 (t [])))))))),t (t (t (t (t (t (t (t (t (t []))))))))),[(6,0)],1,[(2,none)],t (t (t (f1 (t (t (f2 (f1 (t []))))))))⟩
def lf62:LFn:=⟨2,13,0,[R [o 2 (.p .bxl) [s 0],v 4 .nils]],R [m 6 1],6,R [o 5 (.p (.zi 4)) [],h (.p (.sti 4)) [s 5,s 7] [5]],B 1 (R [o 8 (.p (.ldl 0 1 false)) [s 2],o 9 (.r (.ld 4 true)) [s 5],o 10 (.p (.bsl 4)) [s 9],o 11 (.w (.Gf 4)) [s 8,s 10],h (.p (.stl 0 1)) [s 2,s 11] [2]]),q (R [o 12 (.p (.ldl 0 1 false)) [s 2],m 4 12]) .ret,t (t (t (t (t (t (t (t (t (t (t (t (t [])))))))))))),t (t (t (t (t (f1 (t (f4 (f1 (t []))))))))),t (t (t (t (t (t (t (t (t (t (t (t (t [])))))))))))),[(7,0)],1,[(4,none)],t (t (f1 (t (t (f1 (t (f4 (f1 (t [])))))))))⟩
def zk:LFn:=⟨1,49,0,[R [o 1 (.p .bx) [s 0],v 2 (.bool false)],R [o 8 (c 149) [],o 3 (.p (.zi 1)) [],h (.p (.sti 1)) [s 3,s 8] [3]],R [o 4 (.p (.zl (.bool false))) [],h (.p (.stl 0 1)) [s 4,b true] [4]]],R [o 9 L5 [s 1],o 10 (c 120) [s 9]],10,R [o 5 (.p (.zi 5)) [],h (.p (.sti 5)) [s 5,s 11] [5]],B 1 (q (R [o 13 L1 [s 3],o 14 (f 0) [s 5],o 15 L1 [s 14],o 16 (.p (.look (.agg [.nilf,.nils,.nilf,I 0]) true true)) [s 13,s 15],m 12 16,o 17 (.p (.ext 0)) [s 12],o 18 (.p (.ext 1)) [s 12],o 6 (.p (.zi 4)) [],h (.p (.sti 4)) [s 6,s 17] [6],m 7 18]) (q (R [o 19 (.p (.ldl 0 1 false)) [s 4],m 20 19,n 20 true 21 7,o 22 pk [s 20,s 21,b false],m 23 22,g 23 true 24 (.r (.ld 4 true)) [s 6],g 23 true 25 L5 [s 5],g 23 true 26 (c 150) [s 24,s 25],o 27 pk [s 23,s 26,b false],h (.p (.stl 0 1)) [s 4,s 27] [4]]) (q (R [o 28 (f 0) [s 5],o 29 L1 [s 28],o 30 (y .eql) [s 29,i 4],m 31 30,g 31 true 32 (.p (.ldl 0 1 false)) [s 4],o 33 pk [s 31,s 32,b false]]) (C 33 (R [o 34 (f 4) [s 5],o 35 L1 [s 34],o 36 (.p (.idx 5)) [s 35,i 0],o 37 (f 1) [s 36],o 38 L1 [s 37],o 39 (y .eql) [s 38,.val (S [105,110,116])],m 40 39,g 40 false 41 (f 4) [s 5],g 40 false 42 L1 [s 41],g 40 false 43 (.p (.idx 5)) [s 42,i 0],g 40 false 44 (f 1) [s 43],g 40 false 45 L1 [s 44],g 40 false 46 (y .eql) [s 45,.val (S [98,111,111,108])],o 47 pk [s 40,b true,s 46],h (.p (.stl 0 1)) [s 4,s 47] [4]]) .skip)))),q (R [o 48 (.p (.ldl 0 1 false)) [s 4],m 2 48]) .ret,t (t (t (t (t (t (t (t (t (t (t (t (t (t (t (t (t (t (t (t (t (t (t (t (t (t (t (t (t (t (t (t (t (t (t (t (t (t (t (t (t (t (t (t (t (t (t (t (t [])))))))))))))))))))))))))))))))))))))))))))))))),t (t (t (t (t (f2 (f1 (t (t (t (f32 (f4 (f1 (t []))))))))))))),t (t (t (t (t (t (t (t (t (t (t (t (t (t (t (t (t (t (t (t (t (t (t (t (t (t (t (t (t (t (t (t (t (t (t (t (t (t (t (t (t (t (t (t (t (t (t (t (t [])))))))))))))))))))))))))))))))))))))))))))))))),[(11,0)],1,[(2,none)],t (t (t (t (f4 (t (t (t (f32 (f4 (f1 (t [])))))))))))⟩
end Go.Abs.Z

namespace Go.Abs
open Go.RowKit
structure Split where
 rg:Code
 bid:Nat
 g:Nat
 ps:Array Tmp
 assign:Code
 body:Code
 post:Code
def Sm:Code→Option (List Code×Split)
 |.seq (.seq rg (.block bid (.rangeFunc (.tmp g) ps assign body))) post=>some ([],⟨rg,bid,g,ps,assign,body,post⟩)
 |.seq a b=>(Sm b).map fun r=>(a::r.1,r.2)
 |_=>none
theorem kC:∀(c:Code) (pre:List Code) (s:Split),Sm c=some (pre,s)→c=ww pre (.seq (.seq s.rg (.block s.bid (.rangeFunc (.tmp s.g) s.ps s.assign s.body))) s.post):=by
 intro c
 induction c with
 |seq a b iha ihb=>
  intro pre s h;unfold Sm at h
  split at h
  ·rename_i rg bid g ps assign body post he;cases he;cases h;rfl
  ·rename_i x y hn he;cases he;obtain⟨⟨l,s'⟩,h1,h2⟩:=Ac.1 h;cases h2;rw[ihb _ _ h1];rfl
  ·cases h
 |_=>intro pre s h;simp[Sm] at h
def Ph(fi:FI)(N:Nat):List Bool:=(List.range N).map fun t=>(fi.kind t).Ma||decide (fi.kind t=.box)
def Jg(fi:FI)(N:Nat)(ps:Array Tmp)(assign body:Code):List Bool:=
 (List.range N).map fun t=>((fi.kind t).Ma||decide (fi.kind t=.box))&&(EF t assign&&EF t body&&ps.all (fun p=>p != t))
def RV(fi:FI)(N:Nat)(ps:Array Tmp)(assign body:Code):List Bool:=
 (List.range N).map fun t=>(fi.kind t).Ma&&(EF t assign&&EF t body&&ps.all (fun p=>p != t))
def nodupB:List Nat→Bool
 |[]=>true
 |x::xs=>!xs.contains x&&nodupB xs
def lX:Nat→List Nat→List (Nat×Nat)
 |_,[]=>[]
 |i,p::ps=>(p,i)::lX (i+1) ps
def QE(P:Program)(pur:FuncId→Bool)(fi:FI)(fn:Func):Option LFn:=
 match fn.body with
 |some c=>match Sm c with
  |some (pre,s)=>match Uj P pur fi pre,comp P pur fi s.rg,comp P pur fi s.assign,comp P pur fi s.body,comp P pur fi s.post,IR P fi fn.results.toList with
   |some pre',some rg',some aca,some ac,some post',some rs=>
    if fi.nt=fn.ntmps∧fi.okB=true∧(List.range (fn.params.size+fn.nfree)).all (fun t=>(fi.kind t).Ma)=true∧(fi.kind s.g).Ma=true∧s.ps.toList.all (fun p=>decide (p<fi.nt)&&(fi.kind p).Ma)=true∧nodupB s.ps.toList=true then
     some { nargs:=fn.params.size+fn.nfree,ntmps:=fn.ntmps,extra:=fi.ps.length,pre:=pre',rg:=rg',g:=s.g,aca:=aca,ac:=ac,post:=post',La:=Ph fi (fn.ntmps+fi.ps.length),L:=Jg fi (fn.ntmps+fi.ps.length) s.ps s.assign s.body,Lr:=Ph fi (fn.ntmps+fi.ps.length),ds:=lX 0 s.ps.toList,nps:=s.ps.size,res:=rs,Lv:=RV fi (fn.ntmps+fi.ps.length) s.ps s.assign s.body }
    else none
   |_,_,_,_,_,_=>none
  |none=>none
 |none=>none
section
variable{P:Program}{pur:FuncId→Bool}{fi:FI}
theorem IX{N:Nat}{f:Nat→Bool}{t:Nat}(h:((List.range N).map f).getD t false=true):f t=true:=by
 rw[AC,Am] at h;cases hx:(List.range N)[t]? with
 |none=>rw[hx] at h;cases h
 |some u=>
  rw[hx] at h;obtain⟨h1,h2⟩:=Ad.1 hx;rw[List.getElem_range] at h2;subst h2;exact h
theorem QY(N:Nat):okL fi (Ph fi N)=true:=by
 unfold okL;rw[Av];intro t _;cases h:(Ph fi N).getD t false with
 |false=>rfl
 |true=>
  have:=IX h;simp only[DY,Cg];exact this
theorem qD(N:Nat)(ps:Array Tmp)(assign body:Code):okL fi (Jg fi N ps assign body)=true:=by
 unfold okL;rw[Av];intro t _;cases h:(Jg fi N ps assign body).getD t false with
 |false=>rfl
 |true=>
  have:=IX h;simp only[DY,Cg];rw[Ai] at this;exact this.1
theorem ll(N:Nat)(ps:Array Tmp)(assign body:Code):lm (Jg fi N ps assign body) ps assign body=true:=by
 unfold lm;rw[Av];intro t _;cases h:(Jg fi N ps assign body).getD t false with
 |false=>rfl
 |true=>
  have:=IX h;simp only[DY,Cg];rw[Ai] at this;exact this.2
theorem cZ{N:Nat}{f:Nat→Bool}{t:Nat}(h:t<N)(hf:f t=true):((List.range N).map f).getD t false=true:=by
 rw[AC,Am,Fp h];exact hf
theorem rJ{N:Nat}{ps:Array Tmp}{assign body:Code}{t:Nat}(h:(RV fi N ps assign body).getD t false=true):(Jg fi N ps assign body).getD t false=true∧(fi.kind t).val=true:=by
 have hlt:t<N:=by
  rcases Bc t N with h' | h'
  ·exact h'
  ·rw[AC,BD (by simpa [RV] using h')] at h;cases h
 have h1:=IX h;rw[Ai] at h1;exact⟨cZ hlt (by rw[h1.1,h1.2];rfl),JQ h1.1⟩
theorem Q5{t:Nat}:∀(l:List (Nat×Value)) (tm:Array Value),(∀d∈l,d.1≠t)→(l.foldl (fun t d=>t.setIfInBounds d.1 d.2) tm).getD t undef=tm.getD t undef
 |[],tm,_=>rfl
 |d::l,tm,h=>by
  rw[EM,Q5 l _ (fun d' hd=>h d' (AA _ hd))]
  have:=h d (AR ..);simp only[Aj];rw[De this]
theorem TR{t:Nat}{i:Nat}:∀(ps:List Nat) (v:List Value) (k:Nat) (tm:Array Value),nodupB ps=true→v.length=ps.length→t<tm.size→(t,i)∈lX k ps→((ps.zip v).foldl (fun t d=>t.setIfInBounds d.1 d.2) tm).getD t undef=v.getD (i - k) undef∧k≤i
 |[],v,k,tm,_,_,_,hm=>by cases hm
 |p::ps,[],k,tm,_,hl,_,_=>by cases hl
 |p::ps,x::v,k,tm,hn,hl,ht,hm=>by
  rw[nodupB,Ai] at hn;simp only[lX,AY,Prod.mk.injEq] at hm;rw[List.zip_cons_cons,EM];rcases hm with⟨rfl,rfl⟩ | hm
  ·rw[Q5]
   ·simp[ht]
   ·intro d hd e;have hd':(d.1,d.2)∈ps.zip v:=hd;have h2:=(List.of_mem_zip hd').1;rw[e] at h2;have h1:=hn.1;simp[h2] at h1
  ·obtain⟨h1,h2⟩:=TR ps v (k+1) (tm.setIfInBounds p x) hn.2 (by simpa using hl) (by simpa using ht) hm
   refine⟨?_,by omega⟩
   rw[h1,show i - k=(i - (k+1))+1 from by omega]
   simp
theorem dG{t i:Nat}:∀{ps:List Nat} {k:Nat},(t,i)∈lX k ps→t∈ps
 |p::ps,k,h=>by
  simp only[lX,AY,Prod.mk.injEq] at h;rcases h with⟨rfl,_⟩ | h
  ·exact AR ..
  ·exact AA _ (dG h)
theorem Nv{f:FuncId}{fn:Func}{lf:LFn}{m:Nat}{itr:FuncId→List PV→Option (List (List PV))}(hitr:uC P itr)(hmo:P.follows .mixedOrders=true)(hfn:P.funcs[f]?=some fn)(hname:(fn.name == "runtime.NumGoroutine")=false)
  (h:QE P pur fi fn=some lf):JE P f (Mx pur itr m lf):=by
 unfold QE at h
 split at h
 case h_2=>cases h
 rename_i c hbody
 split at h
 case h_2=>cases h
 rename_i pre s hs
 split at h
 case h_2=>cases h
 rename_i pre' rg' aca ac post' rs h1 h2 h3 h4 h5 h6
 split at h
 case isFalse=>cases h
 rename_i hcc;obtain⟨c1,c2,c3,c4,c5,c6⟩:=hcc;cases h;have hc:=kC c pre s hs;subst hc;refine AWP (fi:=fi) hitr hmo hfn hname c2 c1 rfl rfl hbody rfl rfl h1 h2 h3 h4 h5 h6 c3 c4 (QY _) (qD _ _ _ _) (QY _) (ll _ _ _ _) (by simp[Ph,Jg]) (fun t ht=>rJ ht) ?_
 rintro⟨t,i⟩ hd
 have hmem:=dG hd;have h7:=Av.1 c5 t hmem;simp only[Ai,decide_eq_true_eq] at h7;refine⟨JQ h7.2,fun v tm hv htm=>?_⟩
 have:=(TR (t:=t) (i:=i) s.ps.toList v.toList 0 tm c6 (by simpa using hv) (by rw[htm];exact h7.1) hd).1
 rw[←EH,Array.toList_zip];show((s.ps.toList.zip v.toList).foldl (fun t d=>t.setIfInBounds d.1 d.2) tm).getD t undef=_
 rw[this];simp[AC,Aj]
end
end Go.Abs

namespace Go.Abs.Z
open Go.Proofs
theorem Bx8:QE Tryz.prog pur BkW Tryz.f27=some lf27:=by kernel_rfl
theorem Bx7:QE Tryz.prog pur BkG Tryz.f61=some lf61:=by kernel_rfl
theorem Bx6:QE Tryz.prog pur BkF Tryz.f62=some lf62:=by kernel_rfl
theorem AQG:QE Tryz.prog pur BqI Tryz.f114=some zk:=by kernel_rfl
end Go.Abs.Z

namespace Go.Abs.Z
def YB:OT:=fun _ xs σ=>match xs with
 |[.ref id 0,.str s]=>match σ[id]? with
  |some [.bld t e l]=>if t=101∧e=5∧l.length+s.length≤4294967296 then some (.tuple [.int .i64 s.length,.nili],σ.set id [.bld t e (l++s)]) else none
  |_=>none
 |_=>none
def YC:OT:=fun _ xs σ=>match xs with
 |[.ref id 0]=>match σ[id]? with
  |some [.bld t e l]=>if t=101∧e=5 then some (.str l,σ.set id [.dead]) else none
  |_=>none
 |_=>none
def Ox:OT:=fun _ xs σ=>match xs with
 |[.str s,.int .u8 c]=>if 0≤c∧c<256 then some (.int .i64 (Lib.indexByte s c.toNat.toUInt8),σ) else none
 |_=>none
def Mc:PV→Bool
 |.slice _ _ _ | .nils=>true
 |_=>false
mutual

def I8:Nat→PV→Option (List PV)
 |0,_=>none
 |n+1,v=>match v with
  |.agg [.int .i64 _,.str _,.int .i64 _,.int .i64 _,x]=>match x with
   |.nils=>some [v]
   |.slice _ 5 ks=>(Hu n ks).map fun l=>v::l
   |_=>none
  |_=>none
def Hu:Nat→List PV→Option (List PV)
 |0,_=>none
 |n+1,vs=>match vs with
  |[]=>some []
  |v::vs=>match I8 n v,Hu n vs with
   |some l,some r=>some (l++r)
   |_,_=>none
end
def inP(t n:PV):Option Bool:=match t,n with
 |.agg [.int .i64 k,.int .i64 _,.int .i64 a,.int .i64 e],.agg [.int .i64 _,.str _,.int .i64 st,.int .i64 en,x]=>if Mc x then some (k != 5&&(decide (st≤a)&&decide (e≤en))) else none
 |_,_=>none
def Zg(t:PV):List PV→Option Bool
 |[]=>some false
 |k::ks=>match inP t k with
  |some true=>some true
  |some false=>Zg t ks
  |none=>none
def qa(t n:PV)(kd:Int)(ks:List PV):Option Bool:=match inP t n,t with
 |some b,.agg (.int .i64 k::_)=>if b||(k==5&&kd==2) then(Zg t ks).map (! ·) else some false
 |_,_=>none
def QW(n:PV)(kd:Int)(ks:List PV):List PV→Option (List PV)
 |[]=>some []
 |t::ts=>match qa t n kd ks,QW n kd ks ts with
  |some true,some l=>some (t::l)
  |some false,some l=>some l
  |_,_=>none
def TG:PV→Bool
 |.agg [.int .i64 _,.str _,.int .i64 _,.int .i64 _,x]=>Mc x
 |_=>false
def small(l:List PV):Bool:=decide (l.length≤1000000000)
def Ty:PV→Option (List PV)
 |.nils=>some []
 |.slice _ 5 ks=>some ks
 |_=>none
def itr(gf:FuncId)(caps:List PV):Option (List (List PV)):=
 if gf=169 then match caps with
  |[.vptr v]=>match I8 1000000 v with
   |some l=>if small l then some (l.map fun x=>[x.Ae]) else none
   |none=>none
  |_=>none
 else if gf=63 then match caps with
  |[.vptr (.agg [.str _,.int .i64 _,.str _,.int .i64 _,.int .i64 _,k0,.slice _ 4 toks,.bool _]),.vptr (.agg [.int .i64 kd,.str tx,.int .i64 st,.int .i64 en,kp])]=>
   if Mc k0 then match Ty kp with
    |some ks=>match QW (.agg [.int .i64 kd,.str tx,.int .i64 st,.int .i64 en,kp]) kd ks toks with
     |some l=>if small toks&&(small ks&&ks.all TG) then some (l.map fun x=>[x.Ae]) else none
     |none=>none
    |none=>none
   else none
  |_=>none
 else none
end Go.Abs.Z

namespace Go.Abs.Z
open Go.Proofs Go.RowKit
theorem lS{G:Gh}{K:Nat→Prop}{w w':World}{σ:Sto}(hpre:Pre K G w σ)(hb:Below w.heap.size w w'):Ext (fun _=>False) G G w w':=
 ⟨fun _ _ h=>h,⟨fun b o h=>cell_of_heap (hb.block b (hpre.lt b _ h)),fun b h=>hb.block b (hpre.lt b _ h)⟩,Bl.le_refl _,fun id hid hX g=>rfl,fun b tag h _=>⟨h,hb.block b (hpre.own b tag h).1,fun _ h=>h⟩⟩
theorem NB{G:Gh}{K:Nat→Prop}{w w':World}{σ:Sto}(hpre:Pre K G w σ)(hb:Below w.heap.size w w'):Aft K G w σ G w':=by
 have he:=lS hpre hb
 exact⟨fun b h=>hb.block b (hpre.Klt b h),he.same,fun _ _ h=>h,fun _ _ h=>.inl h,fun b x h=>Bi (hpre.lt b x h) hb.size,
  fun b tag h=>⟨Bi (hpre.own b tag h).1 hb.size,(hpre.own b tag h).2⟩,hb.size,Bl.le_refl _,hb.os,hb.tape,hb.output,fun id cs h=>(hpre.obj id cs h).ext he (fun _ h=>h),hpre.len,hpre.abl⟩
theorem Iu{f:FuncId}{vs:Array Value}{w:World}{n:Nat}{R:Ending→World→Prop}(h:Calls Tryz.prog f vs w R):CallsIn (FW none) n Tryz.prog f vs w R:=callsIn_wide.2 h
theorem PW{I:Imm}{bl:Bl}{w:World}{vs:Array Value}{p q:PV}(h:FU I bl w vs.toList [p,q]):∃v u,vs=#[v,u]∧Bz I bl w v p∧Bz I bl w u q:=by
 obtain⟨v,h1,h2⟩:=h.2 0 p rfl;obtain⟨u,h3,h4⟩:=h.2 1 q rfl;have hl:=h.1
 match vs,hl,h1,h3 with
 |⟨[a,b]⟩,_,h1,h3=>
  simp at h1 h3;subst h1 h3;exact⟨a,b,rfl,h2,h4⟩
theorem K9{I:Imm}{bl:Bl}{w:World}(l:List UInt8):Bz I bl w (.string ⟨l.toArray⟩) (.str l):=by
 have:=Rep.str (I:=I) (w:=w) ⟨l.toArray⟩;exact .one (.inl (by simpa using this))
end Go.Abs.Z

namespace Go.Abs.Z
open Go.Proofs Go.RowKit
set_option linter.unusedVariables false
theorem iO:(Tryz.prog.info? 101).map (·.size)=some 2:=by kernel_rfl
theorem xR:liesAt Tryz.prog Tryz.prog.depth 101 (2 / Tryz.prog.cellsOf 101) 0 101 1=true:=by kernel_rfl
theorem info5:(Tryz.prog.info? 5).map (fun i=>(i.zero,i.size,i.bytes))=some (some (.int .u8 0),1,1):=by kernel_rfl
theorem cells5:Tryz.prog.cellsOf 5=1:=by kernel_rfl
set_option maxHeartbeats 1000000 in
set_option maxRecDepth 100000 in
theorem Uh(b:Nat)(w:World)(h0:w.cell? ⟨b,0,none⟩=some (.pointer (some ⟨b,0,none⟩))):
  Calls Tryz.prog 124 #[.pointer (some ⟨b,0,none⟩)] w fun e w'=>e=.returned (.tuple #[])∧w'=w:=by
 obtain⟨j,hj,_⟩:=Ac.1 iO
 go_enter Tryz.func124,Tryz.ntmps124
 go_wp2
 rw[Lib.run_neq_ptr_same w _ Tryz.underlying98 hj]
 go_wp2
 go_end0
 exact⟨rfl,rfl⟩
set_option maxHeartbeats 1000000 in
set_option maxRecDepth 100000 in
theorem Rl(b:Nat)(w:World)(h0:w.cell? ⟨b,0,none⟩=some (.pointer none))(hsh:w.shape? b=some (101,2))(hfz:w.frozen? ⟨b,0,none⟩=false):
  Calls Tryz.prog 124 #[.pointer (some ⟨b,0,none⟩)] w fun e w'=>e=.returned (.tuple #[])∧w'=w.setCell ⟨b,0,none⟩ (.pointer (some ⟨b,0,none⟩)):=by
 obtain⟨j,hj,hjs⟩:=Ac.1 iO
 go_enter Tryz.func124,Tryz.ntmps124
 go_wp2
 rw[Lib.run_to_unsafe w ⟨b,0,none⟩ Tryz.underlying98 Tryz.underlying188 hj (by rw[hjs];decide) hsh (Nat.zero_lt_succ 1)]
 simp only[Result.andThen];rw[Oper.upon_value]
 go_wp2
 rw[run_callFunc_extern Tryz.func176 (by kernel_rfl) (by kernel_rfl) (by kernel_rfl) (e:=Extern.AbiNoEscape.same) (by kernel_rfl)]
 rw[Lib.run_noEscape];simp only[Result.andThen];rw[Oper.upon_value]
 go_wp2
 rw[Lib.run_from_unsafe w ⟨b,0,none⟩ Tryz.underlying188 Tryz.underlying98 hj hsh xR];simp only[Result.andThen];rw[Oper.upon_value]
 go_wp2
 go_end0
 exact⟨rfl,rfl⟩
theorem mG{w:World}{v:Value}{l:List UInt8}(hown:w.ownsRow 0 5 1 v l.length (l.map fun c=>Value.int .u8 c.toNat))(s:ByteArray)(hb:l.length+s.size≤4294967296):
  ∃v' w',(∀ty,(Builtin.append_ #[99,9] ty #[v,.string s]).run Tryz.prog w=.ok v' w')∧w'.ownsRow 0 5 1 v' (l.length+s.size) ((l.map fun c=>Value.int .u8 c.toNat)++Lib.strCells s)∧
   w.grownBy w' v.ownBlock∧(v'.ownBlock=v.ownBlock∨v'.ownBlock=some w.heap.size):=by
 obtain⟨i0,hi,hz0,hz1,hz2⟩:=info_parts info5
 have key:∀ty,∃v' w',(Builtin.append_ #[99,9] ty #[v,.string s]).run Tryz.prog w=.ok v' w'∧w'.ownsRow 0 5 1 v' (l.length+s.size) ((l.map fun c=>Value.int .u8 c.toNat)++Lib.strCells s)∧
   w.grownBy w' v.ownBlock∧(v'.ownBlock=v.ownBlock∨v'.ownBlock=some w.heap.size):=by
  intro ty;obtain⟨v',w',hr,h2,h3,h4⟩:=Lib.run_append_own_string (P:=Tryz.prog) w 0 99 9 ty 5 i0 Tryz.underlying99 Tryz.underlying9 hi hz0 hz1 hz2 v l.length _ hown s (by unfold maxLen;omega) (by omega) (CR _)
  refine⟨v',w',hr,h2,h3,?_⟩
  have hsz:s.size=s.data.toList.length:=Lib.size_eq s
  obtain⟨news,hsrc,_⟩:=Si (P:=Tryz.prog) (G:=⟨fun _ _=>False,fun _=>none,Bl.nil⟩) (w:=w) (size:=1) (by decide) (xT:=9) (.inr Tryz.underlying9) (bl:=Bl.nil) (v:=.string s) (x:=.str s.data.toList) (.one (.inl (.str s)))
   (xs:=s.data.toList.map fun b=>.int .u8 b.toNat) rfl (by rw[Av];intro p hp;obtain⟨_,_,rfl⟩:=EG.1 hp;rfl)
  rw[Aq,←hsz] at hsrc;have hs1:=hsrc;rw[←hz1] at hs1;rcases hown.2 with⟨rfl,hn0⟩ | ⟨g,cap,cur,rfl,_,hg,hnc,hcm,hcs,htake⟩
  ·by_cases hs0:s.size=0
   ·have:=h4.2 ⟨rfl,hs0⟩;rw[this];exact .inl rfl
   ·have hgr:=run_append_grow_src w 99 9 ty 5 i0 (.int .u8 0) Tryz.underlying99 hi hz0 none 0 0 [] (run_firstCells_none _ _ _ _ _) (.string s) s.size news hs1 (by omega) (by omega)
     (by rw[hz2];have:=nextslicecap_le (need:=0+s.size) (old:=0) (by omega);omega)
    rw[hgr] at hr;cases hr;exact .inr rfl
  ·by_cases hroom:l.length+s.size≤cap
   ·have hlen:news.length=s.size:=by rw[hsrc.newsLen];omega
    have hro:=run_append_room_src w 99 9 ty 5 i0 Tryz.underlying99 hi g 0 l.length cap (.string s) s.size news hs1 hroom
     (by intro j hj;rw[hz1];simp only[World.cell?,hg];simp;omega)
     (by intro j hj;simp[World.frozen?,hg])
    rw[hro] at hr;cases hr;exact .inl rfl
   ·have hgr:=run_append_grow_src w 99 9 ty 5 i0 (.int .u8 0) Tryz.underlying99 hi hz0 (some ⟨g,0,none⟩) l.length cap (l.map fun c=>Value.int .u8 c.toNat)
     (by
      rw[hz1];refine run_firstCells_some w.drew 1 l.length ⟨g,0,none⟩ _ _ _ (by simp) ?_
      intro j x hx;have hjl:j<l.length:=by have:=(Ad.1 hx).1;simpa using this
      rw[Fh,Bq];show w.cell? ⟨g,j,none⟩=some x;simp only[World.cell?,hg];rw[←htake,FR,Cb,if_pos hjl,Ay] at hx;exact hx) (.string s) s.size news hs1 (by omega) (by omega)
     (by rw[hz2];have:=nextslicecap_le (need:=l.length+s.size) (old:=cap) (by omega);omega)
    rw[hgr] at hr;cases hr;exact .inr rfl
 obtain⟨v',w',hr,h2,h3,h4⟩:=key 0;exact⟨v',w',fun ty=>hr,h2,h3,h4⟩
theorem oK{w:World}{b:Nat}{p v x:Value}{t:TypeId}(h:w.heap[b]?=some (.cells #[p,v] t (0,0))):(w.setCell ⟨b,0,none⟩ x).heap[b]?=some (.cells #[x,v] t (0,0)):=by
 simp only[World.setCell,Cz,if_true,h];rfl
theorem oJ{w:World}{b:Nat}{p v x:Value}{t:TypeId}(h:w.heap[b]?=some (.cells #[p,v] t (0,0))):(w.setCell ⟨b,1,none⟩ x).heap[b]?=some (.cells #[p,x] t (0,0)):=by
 simp only[World.setCell,Cz,if_true,h];rfl
theorem Hf(w:World)(b o:Nat)(x:Value):Ih b w (w.setCell ⟨b,o,none⟩ x):=
 ⟨fun k hk=>Below.heap_setCell _ _ _ _ hk,by simp[World.setCell],rfl,rfl,rfl⟩
theorem Vt(b:Nat)(w:World)(p v:Value)(hp:p=.pointer none∨p=.pointer (some ⟨b,0,none⟩))(hbk:w.heap[b]?=some (.cells #[p,v] 101 (0,0))):
  Calls Tryz.prog 124 #[.pointer (some ⟨b,0,none⟩)] w fun e w'=>e=.returned (.tuple #[])∧(w'.heap[b]?=some (.cells #[.pointer (some ⟨b,0,none⟩),v] 101 (0,0))∧Ih b w w'):=by
 have hc:w.cell? ⟨b,0,none⟩=some p:=by simp[World.cell?,hbk]
 rcases hp with rfl | rfl
 ·refine(Rl b w hc (by simp[World.shape?,hbk]) (by simp[World.frozen?,hbk])).mono ?_
  rintro e w' ⟨rfl,rfl⟩
  exact⟨rfl,oK hbk,Hf ..⟩
 ·refine(Uh b w hc).mono ?_
  rintro e w' ⟨rfl,rfl⟩
  exact⟨rfl,hbk,⟨fun _ _=>rfl,rfl,rfl,rfl,rfl⟩⟩
theorem NV{w w':World}{b:Nat}{v:Value}{n:Nat}{xs:List Value}(hob:Ih b w w')(hne:v.ownBlock≠some b)(h:w.ownsRow 0 5 1 v n xs):w'.ownsRow 0 5 1 v n xs:=by
 refine⟨h.1,?_⟩
 rcases h.2 with h | ⟨g,cap,cur,rfl,hb,hg,r⟩
 ·exact .inl h
 ·exact .inr ⟨g,cap,cur,rfl,hb,by rw[hob.other g (fun e=>hne (by rw[e];rfl))];exact hg,r⟩
theorem wpList_append_run{P:Program}{w:World}{ops:Array Oper}{rest:List Oper}{o:Oper}{a:Act}{Q:Exit→Act→World→Prop}(hgd:o.guard=none)(sl x:Operand)(t u:TypeId)
  (ho:o.op=.call { callee:=.builtin .append,args:=#[sl,x],argTypes:=#[t,u] }) {v y v':Value} {w':World} (hs:a.eval sl=v) (hx:a.eval x=y)
  (hr:∀ty,(Builtin.append_ #[t,u] ty #[v,y]).run P w=.ok v' w') (h:wpList P ops Q rest (a.put o.dst v') w'):wpList P ops Q (o::rest) a w:=by
 refine wpList_plain hgd fun K hK=>?_
 unfold Oper.wp execOp;simp only[ho,resolve,invoke,builtin,Sem.run_bind,Sem.run_pure,Result.andThen_ok,List.map_toArray,Bv,Du,hs,hx,hr];exact hK _ _ h
def BxC(w:World)(b:Nat)(v:Value)(n:Nat)(xs:List Value)(e:Ending)(r:Value)(w':World):Prop:=
 e=.returned r∧∃v',w'.heap[b]?=some (.cells #[.pointer (some ⟨b,0,none⟩),v'] 101 (0,0))∧w'.ownsRow 0 5 1 v' n xs∧(v'.ownBlock=v.ownBlock∨v'.ownBlock=some w.heap.size)∧v'.ownBlock≠some b∧
  (∀k,k<w.heap.size→k≠b→some k≠v.ownBlock→w'.heap[k]?=w.heap[k]?)∧w.heap.size≤w'.heap.size∧w'.os=w.os∧w'.tape=w.tape∧w'.output=w.output
set_option maxHeartbeats 2000000 in
set_option maxRecDepth 100000 in
theorem Zr(b:Nat)(w:World)(p v:Value)(l:List UInt8)(s:ByteArray)(hp:p=.pointer none∨p=.pointer (some ⟨b,0,none⟩))(hbk:w.heap[b]?=some (.cells #[p,v] 101 (0,0)))
  (hown:w.ownsRow 0 5 1 v l.length (l.map fun c=>Value.int .u8 c.toNat)) (hne:v.ownBlock≠some b) (hlen:l.length+s.size≤4294967296) :
  Calls Tryz.prog 71 #[.pointer (some ⟨b,0,none⟩),.string s] w fun e w'=>BxC w b v (l.length+s.size) ((l.map fun c=>Value.int .u8 c.toNat)++Lib.strCells s) e (.tuple #[.int .i64 s.size,.nilIface]) w':=by
 go_enter Tryz.func71,Tryz.ntmps71
 go_wp2_with (go_at_call 124;refine(Vt b w p v hp hbk).mono ?_)
 rintro e w1 ⟨rfl,hb1,hob⟩
 obtain⟨v',w2,happ,hown2,hgrow,hblk⟩:=mG (NV hob hne hown) s hlen
 have hlt:b<w1.heap.size:=by
  rcases Bc b w1.heap.size with h' | h'
  ·exact h'
  ·simp[Di h'] at hb1
 have hb2:w2.heap[b]?=some (.cells #[.pointer (some ⟨b,0,none⟩),v] 101 (0,0)):=by
  rw[hgrow.block b hlt (fun e=>hne e.symm)];exact hb1
 have c1:w1.cell? ⟨b,1,none⟩=some v:=by simp[World.cell?,hb1]
 have d1:w2.cell? ⟨b,1,none⟩=some v:=by simp[World.cell?,hb2]
 have f1:w2.frozen? ⟨b,1,none⟩=false:=by simp[World.frozen?,hb2]
 obtain⟨ao,n',cap,rfl⟩:∃ao n' cap,v'=.slice ao n' cap:=by
  rcases hown2.2 with⟨hv,_⟩ | ⟨g,cap,cur,hv,_⟩
  ·exact⟨_,_,_,hv⟩
  ·exact⟨_,_,_,hv⟩
 have HB2:=Lib.hid hb2;clear hb2;have HOB:=Lib.hid hob;clear hob;have HB1:=Lib.hid hb1;clear hb1;have HBK:=Lib.hid hbk;clear hbk;have HG:=Lib.hid hgrow;clear hgrow;have HBL:=Lib.hid hblk;clear hblk;have HN:=Lib.hid hne;clear hne;have HP:=Lib.hid hp;clear hp;have HA:=Lib.hid happ;clear happ
 go_wp2_with (at_builtin;refine wpList_append_run rfl _ _ 99 9 rfl rfl rfl HA.out ?_)
 go_ret2
 have hsz:w1.heap.size=w.heap.size:=HOB.out.size
 have hne2:(Value.slice ao n' cap).ownBlock≠some b:=by
  rcases HBL.out with h | h
  ·rw[h];exact HN.out
  ·rw[h];intro e;have:=Option.some.inj e;omega
 refine⟨rfl,.slice ao n' cap,oJ HB2.out,NV (Hf w2 b 1 _) hne2 hown2,?_,hne2,fun k hk hkb hkv=>?_,?_,?_,?_,?_⟩
 ·rcases HBL.out with h | h
  ·exact .inl h
  ·right;rw[h,hsz]
 ·rw[(Hf w2 b 1 _).other k hkb,HG.out.block k (by omega) hkv,HOB.out.other k hkb]
 ·have:=HG.out.size;show w.heap.size≤(w2.setCell ⟨b,1,none⟩ _).heap.size;rw[(Hf w2 b 1 _).size];omega
 ·show w2.os=_;rw[HG.out.os,HOB.out.os]
 ·show w2.tape=_;rw[HG.out.tape,HOB.out.tape]
 ·show w2.output=_;rw[HG.out.output,HOB.out.output]
theorem Rj(w:World)(g n:Nat):Ih g w (w.drew.freeze ⟨g,0,none⟩ n):=by
 refine⟨fun k hk=>?_,?_,?_,?_,?_⟩
 ·simp only[World.freeze];split
  ·rfl
  ·simp only[Cz];rw[if_neg (fun e=>hk e.symm)];rfl
 all_goals (simp only[World.freeze];split<;>first | rfl | (rw[Array.size_modify];rfl))
set_option maxHeartbeats 1000000 in
set_option maxRecDepth 100000 in
theorem Vu(b g cap:Nat)(w:World)(p:Value)(cur:Array Value)(l:List UInt8)(h0:l≠[])(hbk:w.heap[b]?=some (.cells #[p,.slice (some ⟨g,0,none⟩) l.length cap] 101 (0,0)))(hg:w.heap[g]?=some (.cells cur 5 (0,0)))
  (hnc:l.length≤cap) (hcm:cap≤maxLen) (hcs:cur.size=cap * 1) (htake:cur.toList.take (l.length * 1)=l.map fun c=>Value.int .u8 c.toNat) :
  Calls Tryz.prog 72 #[.pointer (some ⟨b,0,none⟩)] w fun e w'=>e=.returned (.string ⟨l.toArray⟩)∧w'=w.drew.freeze ⟨g,0,none⟩ l.length:=by
 have hl0:l.length≠0:=by simpa using h0
 have c1:w.drew.cell? ⟨b,1,none⟩=some (.slice (some ⟨g,0,none⟩) l.length cap):=by
  have:w.drew.heap[b]?=some (.cells #[p,.slice (some ⟨g,0,none⟩) l.length cap] 101 (0,0)):=hbk;simp[World.cell?,this]
 have hSD:(Builtin.unsafeSliceData_ #[99] 148 #[.slice (some ⟨g,0,none⟩) l.length cap]).run Tryz.prog w.drew=.ok (.pointer (some ⟨g,0,none⟩)) w.drew:=
  Lib.run_unsafeSliceData_row _ _ _ _ _ _ (by omega)
 have hUS:(Builtin.unsafeString_ #[148,3] 9 #[.pointer (some ⟨g,0,none⟩),.int .i64 l.length]).run Tryz.prog w.drew=.ok (.string ⟨l.toArray⟩) (w.drew.freeze ⟨g,0,none⟩ l.length):=by
  refine Lib.run_unsafeString_row w.drew 148 3 9 5 Tryz.underlying148 cells5 g cur.size (by have hg':w.drew.heap[g]?=some (.cells cur 5 (0,0)):=hg;simp[World.shape?,hg']) l h0 (by omega) (by unfold maxLen at hcm;omega) ?_
  intro j x hx;rw[Fh,Bq];show w.cell? ⟨g,j,none⟩=_;have hj:j<l.length:=(Ad.1 hx).1;have:(l.map fun c=>Value.int .u8 c.toNat)[j]?=some (.int .u8 x.toNat):=by rw[Am,hx];rfl
  rw[←htake,FR,Cb,if_pos hj,Ay] at this;simp[World.cell?,hg,this]
 clear htake hg
 go_enter Tryz.func72,Tryz.ntmps72
 go_wp2
 go_region
 all_goals (go_wp2;go_ret;exact⟨rfl,rfl⟩)
end Go.Abs.Z
