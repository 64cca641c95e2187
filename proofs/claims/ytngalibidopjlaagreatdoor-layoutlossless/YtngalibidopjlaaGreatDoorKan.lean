/- A part of the proof: T5 A35 A36 A37 T6c A38 T6 PD P1 P2. -/
import Derived.Test.YtngalibidopjlaaGreatDoorKai
import Derived.Test.YtngalibidopjlaaGreatDoorKaj
import Derived.Test.YtngalibidopjlaaGreatDoorKak
import Derived.Test.YtngalibidopjlaaGreatDoorKal
import Derived.Test.YtngalibidopjlaaGreatDoorKam
import Derived.Test.YtngalibidopjlaaGreatDoorKag
import Derived.RangeFuncFrom
import Derived.RangeFuncLeaves
import Derived.Test.YtngalibidopjlaaGreatDoorKah
import Derived.Test.YtngalibidopjlaaGreatDoorProg
import Derived.KernelRfl
import Derived.Lib.Bytealg
import Derived.WalkKit
import Derived.Lib.Builder
import Derived.Lib.UnsafeStr
import Derived.Lib.AppendStr
import Derived.Laws.Externs
import Derived.RegionTactic
import Derived.Lib.Hide

set_option linter.unusedVariables false
set_option linter.unusedSimpArgs false
namespace Go.Abs.Z
open Go.Proofs
def tabL:List (FuncId×FI):=tabL0++(tabL1++(tabL2++tabL3))
noncomputable def lookK(l:List (FuncId×FI))(f:FuncId):Option AFunc:=List.rec (motive:=fun _=>Option AFunc) none (fun p _ ih=>cond (Nat.beq p.1 f) (some (cA p.1 p.2)) ih) l
noncomputable def tab(f:FuncId):Option AFunc:=cond (Nat.beq 174 f) (some a174) (lookK tabL f)
set_option maxRecDepth 100000 in
theorem lookK_ok:∀(l:List (FuncId×FI)),(∀x∈l,chk x.1 x.2=true)→∀f af,lookK l f=some af→FnOk f af
 |[],_,f,af,h=>by cases h
 |p::l,hl,f,af,h=>by
  have h':cond (Nat.beq p.1 f) (some (cA p.1 p.2)) (lookK l f)=some af:=h;cases hb:Nat.beq p.1 f with
  |true=>
   rw[hb] at h';cases h';have:p.1=f:=Nat.eq_of_beq_eq_true hb;rw[←this];exact chk_ok (hl p (List.mem_cons_self ..))
  |false=>rw[hb] at h';exact lookK_ok l (fun x hx=>hl x (List.mem_cons_of_mem _ hx)) f af h'
set_option maxRecDepth 100000 in
theorem tabOk:TabOk Tryz.prog pur tab:=fun f af h=>by
 have h':cond (Nat.beq 174 f) (some a174) (lookK tabL f)=some af:=h;cases hb:Nat.beq 174 f with
 |true=>
  rw[hb] at h';cases h';rw[←Nat.eq_of_beq_eq_true hb];exact ok174
 |false=>
  rw[hb] at h'
  exact lookK_ok tabL (List.all_eq_true.1 (by
   show(tabL0++(tabL1++(tabL2++tabL3))).all _=true;rw[List.all_append,List.all_append,List.all_append,okL0,okL1,okL2,okL3];rfl)) f af h'
theorem mixed:Tryz.prog.follows .mixedOrders=true:=by kernel_rfl
end Go.Abs.Z

namespace Go.Abs
open Go.RowKit
mutual

def PV.noMap:PV→Bool
 |.mapv _ _=>false
 |.vptr v=>v.noMap
 |.slice _ _ es=>PV.AqI es
 |.agg cs=>PV.AqI cs
 |.aggr cs=>PV.AqI cs
 |.tuple vs=>PV.AqI vs
 |.func _ fs cs=>PV.AqI fs&&PV.AqI cs
 |.arrv _ _ es=>PV.AqI es
 |.mapo _ _ _ _=>false
 |_=>true
def PV.AqI:List PV→Bool
 |[]=>true
 |v::vs=>v.noMap&&PV.AqI vs
end
theorem AqS:∀{l:List PV},PV.AqI l=true→∀{i:Nat} {p:PV},l[i]?=some p→p.noMap=true
 |[],_,i,p,h=>by simp at h
 |v::vs,hn,i,p,h=>by
  rw[PV.AqI,Bool.and_eq_true] at hn;cases i with
  |zero=>simp at h;subst h;exact hn.1
  |succ i=>exact AqS hn.2 (by simpa using h)
theorem AkA{v:PV}(hn:v.noMap=true){j:Nat}{p:PV}(h:v.cells[j]?=some p):p.noMap=true:=by
 cases v with
 |agg cs=>rw[PV.noMap] at hn;exact AqS hn h
 |aggr cs=>rw[PV.noMap] at hn;exact AqS hn h
 |_=>
  simp only[PV.cells] at h;cases j with
  |zero=>simp at h;subst h;exact hn
  |succ j=>simp at h
def pruneI(I:Imm)(B:Nat)(w:World):Imm:=fun b x=>I b x∧(b<B∨∃o,x=some o∧(w.cell? ⟨b,o,none⟩).isSome=true)
theorem Rep.prune{I:Imm}{w:World}(B:Nat){v:Value}{p:PV}(h:Rep I w v p):p.noMap=true→Rep (pruneI I B w) w v p:=by
 induction h with
 |bool b=>intro _;exact .bool b
 |int k n=>intro _;exact .int k n
 |str s=>intro _;exact .str s
 |nilp=>intro _;exact .nilp
 |vptr cv h1 h2 _ ih=>
  intro hn;rw[PV.noMap] at hn;exact .vptr cv (fun j p h=>⟨h1 j p h,.inr ⟨_,rfl,by rw[h2 j p h];rfl⟩⟩) h2 (fun j p h=>ih j p h (AkA hn h))
 |nils=>intro _;exact .nils
 |empt=>intro _;exact .empt
 |slice cv h1 h2 h3 h4 h5 h6 _ ih=>
  intro hn;rw[PV.noMap] at hn;exact .slice cv h1 h2 h3 h4 (fun i e j p he hp=>⟨h5 i e j p he hp,.inr ⟨_,rfl,by rw[h6 i e j p he hp];rfl⟩⟩) h6 (fun i e j p he hp=>ih i e j p he hp (AkA (AqS hn he) hp))
 |nili=>intro _;exact .nili
 |nilm=>intro _;exact .nilm
 |mapv=>intro hn;simp[PV.noMap] at hn
 |nilf=>intro _;exact .nilf
 |func h1 h2 _ _ ih1 ih2=>
  intro hn;rw[PV.noMap,Bool.and_eq_true] at hn;exact .func h1 h2 (fun i p h=>ih1 i p h (AqS hn.1 h)) (fun i p h=>ih2 i p h (AqS hn.2 h))
 |agg h _ ih=>
  intro hn;rw[PV.noMap] at hn;exact .agg h (fun i p h=>ih i p h (AqS hn h))
 |tuple h _ ih=>
  intro hn;rw[PV.noMap] at hn;exact .tuple h (fun i p h=>ih i p h (AqS hn h))
theorem Rep1.prune{I:Imm}{bl:Bl}{w:World}(B:Nat){v:Value}{p:PV}(h:Rep1 I bl w v p)(hn:p.noMap=true):Rep1 (pruneI I B w) bl w v p:=by
 rcases h with h | h
 ·exact .inl (h.prune B hn)
 ·exact .inr h
theorem RepT.prune{I:Imm}{bl:Bl}{w:World}(B:Nat){v:Value}{p:PV}(h:RepT I bl w v p)(hn:p.noMap=true):RepT (pruneI I B w) bl w v p:=by
 cases h with
 |one h=>exact .one (h.prune B hn)
 |func h1 h2 hf hc=>
  rw[PV.noMap,Bool.and_eq_true] at hn;exact .func h1 h2 (fun i p h=>(hf i p h).prune B (AqS hn.1 h)) (fun i p h=>(hc i p h).prune B (AqS hn.2 h))
 |tuple h hr=>
  rw[PV.noMap] at hn;exact .tuple h (fun i p h=>(hr i p h).prune B (AqS hn h))
 |aggr h hr=>
  rw[PV.noMap] at hn;exact .aggr h (fun i p h=>(hr i p h).prune B (AqS hn h))
def Gh.prune(G:Gh)(B:Nat)(w:World):Gh:=⟨pruneI G.I B w,fun b=>match w.heap[b]? with | some (.cells _ _ _)=>G.ω b | _=>none,G.bl⟩
structure Tame(B:Nat)(G:Gh)(w:World):Prop where
 I:∀b x,G.I b x→b<B∨∃o,x=some o∧(w.cell? ⟨b,o,none⟩).isSome=true
 ω:∀b tag,G.ω b=some tag→∃cs e f,w.heap[b]?=some (.cells cs e f)
theorem Av7(G:Gh)(B:Nat)(w:World):Tame B (G.prune B w) w:=by
 refine⟨fun b x h=>h.2,fun b tag h=>?_⟩
 simp only[Gh.prune] at h
 split at h
 ·rename_i cs e f hh;exact⟨cs,e,f,hh⟩
 ·cases h
section
variable{P:Program}{pur:FuncId→Bool}{call:Caller}{fi:FI}{cx:Cx}{G:Gh}{a:Act}{w:World}{A A':Frm}{σ σ':Sto}
theorem AwH{B b:Nat}{cs:Array Value}{e:TypeId}{f:Nat×Nat}(h:w.heap[b]?=some (.cells cs e f)):(G.prune B w).ω b=G.ω b:=by
 simp only[Gh.prune,h]
theorem OwnOk.prune(B:Nat){tag:Tag}{c:Value}{p:PV}(h:OwnOk G w tag c p):OwnOk (G.prune B w) w tag c p:=by
 unfold OwnOk at *;split
 ·obtain⟨b,off,cap,cs,elem,e1,hω,h1,h2,h3,h4⟩:=h;exact⟨b,off,cap,cs,elem,e1,by rw[AwH h3];exact hω,fun hi=>h1 hi.1,fun o ho hi=>h2 o ho hi.1,h3,h4⟩
 ·trivial
theorem AxR.prune(B:Nat){b:Nat}{tag:Option Nat→Tag}{cells:List PV}(h:AxR G w b tag cells)(hn:∀(j:Nat) (p:PV),cells[j]?=some p→p.noMap=true):AxR (G.prune B w) w b tag cells:=by
 obtain⟨hω,h1,cs,elem,h2,h3,h4⟩:=h;refine⟨by rw[AwH h2];exact hω,fun x hx=>h1 x hx.1,cs,elem,h2,h3,fun j p hp=>?_⟩
 rcases h4 j p hp with⟨hr,ho⟩ | hs
 ·exact .inl ⟨hr.prune B (hn j p hp),ho.prune B⟩
 ·exact .inr hs
theorem BOk.prune(B:Nat){b id:Nat}{t e:TypeId}{l:List UInt8}(h:BOk G w b id t e l):BOk (G.prune B w) w b id t e l:=by
 obtain⟨h1,h2,p,v,hp,h3,h4,h5⟩:=h;refine⟨by rw[AwH h3];exact h1,fun x hx=>h2 x hx.1,p,v,hp,h3,h4,fun g hg=>?_⟩
 obtain⟨e1,e2,e3⟩:=h5 g hg;refine⟨e1,?_,fun x hx=>e3 x hx.1⟩
 rcases h4.2 with⟨h,_⟩ | ⟨g',cap,cur,hv,hb,hg',r⟩
 ·subst h;cases hg
 ·subst hv;cases hg;rw[AwH hg'];exact e2
theorem ArrOk.prune(B:Nat){id gen size:Nat}{es:List PV}(h:ArrOk G w id gen size es)(hn:∀(i:Nat) (e:PV),es[i]?=some e→e.noMap=true):ArrOk (G.prune B w) w id gen size es:=by
 obtain⟨b,base,n,cs,elem,h1,h2,h3,h4,h5,h6,h7,h8,h9⟩:=h;exact⟨b,base,n,cs,elem,h1,h2,by rw[AwH h5];exact h3,fun x hx=>h4 x hx.1,h5,h6,h7,h8,fun i e he=>⟨(h9 i e he).1,fun j p hp=>((h9 i e he).2 j p hp).prune B (AkA (hn i e he) hp)⟩⟩
theorem ObjOk.prune(B:Nat){id:Nat}{cs:List PV}(h:ObjOk G w id cs)(hn:PV.AqI cs=true):ObjOk (G.prune B w) w id cs:=by
 obtain⟨b,h1,h2⟩:=h;refine⟨b,h1,?_⟩
 rcases h2 with h2 | ⟨t,e,l,rfl,h2⟩ | h2 | ⟨gen,size,es,rfl,h2⟩ | ⟨d,z,ks,vs,rfl,h2⟩
 rotate_right
 ·have h:=AqS hn (i:=0) rfl;rw[PV.noMap] at h;cases h
 ·exact .inl (h2.prune B (fun j p hp=>AqS hn hp))
 ·exact .inr (.inl ⟨t,e,l,rfl,h2.prune B⟩)
 ·exact .inr (.inr (.inl h2))
 ·refine .inr (.inr (.inr (.inl ⟨gen,size,es,rfl,h2.prune B (fun i e he=>?_)⟩)))
  have h:=AqS hn (i:=0) rfl;rw[PV.noMap] at h;exact AqS h he
def AqX(cx:Cx)(t:Nat)(v:PV):Prop:=v.free=true∧((cx.kd t).val=true∨cx.kd t=.box)
theorem AqW.prune(B:Nat){t:Nat}{v:PV}(hp:AqX cx t v)(hn:v.noMap=true)(h:AqW cx G a w t v):AqW cx (G.prune B w) a w t v:=by
 rcases hp.2 with hk | hk
 ·rw[Aq9 hk hp.1] at h ⊢;exact⟨h.1.prune B hn,h.2.prune B⟩
 ·rw[AqM hk] at h ⊢;obtain⟨b,h1,h2⟩:=h;exact⟨b,h1,h2.prune B (fun j p hp=>AkA hn hp)⟩
theorem AqW.of_at{cx':Cx}(hkd:cx'.kd=cx.kd){a':Act}{t:Nat}{v:PV}(hp:AqX cx t v)(hat:at' a' t=at' a t)(h:AqW cx G a w t v):AqW cx' G a' w t v:=by
 rcases hp.2 with hk | hk
 ·rw[Aq9 hk hp.1] at h;rw[Aq9 (by rw[hkd];exact hk) hp.1,hat];exact h
 ·rw[AqM hk] at h;rw[AqM (by rw[hkd];exact hk),hat];exact h
def quiet(A:Frm)(σ:Sto):Bool:=A.all (fun v=>match v with | some p=>p.noMap | none=>true)&&σ.all PV.AqI
theorem quiet_get(h:quiet A σ=true){t:Nat}{v:PV}(hg:A.get t=some v):v.noMap=true:=by
 unfold quiet at h;rw[Bool.and_eq_true] at h;unfold Frm.get at hg
 split at hg
 ·rename_i u hu;have:=List.all_eq_true.1 h.1 _ (List.mem_of_getElem? hu);rw[hg] at this;exact this
 ·cases hg
theorem Inv.prune(hi:Inv cx G a w A σ)(B:Nat)(hB:∀b x,cx.I0 b x→b<B)(hA:∀t v,A.get t=some v→AqX cx t v)(hq:quiet A σ=true):Inv cx (G.prune B w) a w A σ:=by
 have hb:=hi.base
 refine⟨hi.defers,hi.size,hi.room,⟨hb.keep,hb.same,fun b x h=>⟨hb.sub b x h,.inl (hB b x h)⟩,fun b x h=>hb.new b x h.1,fun b x h=>hb.lt b x h.1,fun b tag h=>?_,hb.Klt,hb.grow,hb.bl,hb.os,hb.tape,hb.output⟩,
  fun t v hv=>(hi.slot t v hv).prune B (hA t v hv) (quiet_get hq hv),fun id cs hc=>(hi.obj id cs hc).prune B ?_,hi.len,hi.abl⟩
 ·simp only[Gh.prune] at h
  split at h
  ·exact hb.own b tag h
  ·cases h
 ·unfold quiet at hq;rw[Bool.and_eq_true] at hq;exact List.all_eq_true.1 hq.2 _ (List.mem_of_getElem? hc)
theorem cell_isCells{b o:Nat}(h:(w.cell? ⟨b,o,none⟩).isSome=true):∃cs e f,w.heap[b]?=some (.cells cs e f):=by
 unfold World.cell? at h;dsimp only at h
 split at h
 ·rename_i cs e f hh;exact⟨_,_,_,hh⟩
 ·simp at h
theorem Inv.grown(hi:Inv cx G a w A σ){B:Nat}(ht:Tame B G w)(hK:∀b,cx.K b→b<B)(hBw:B≤w.heap.size){w':World}{row:Option Nat}(hg:w.grownBy w' row)
  (hrow:∀r,row=some r→B≤r∧∃o:Obj,w.heap[r]?=some o∧o.isCells=false):Inv cx G a w' A σ∧Tame B G w'∧Same G.I w w':=by
 have hcells:∀b:Nat,(∃cs e f,w.heap[b]?=some (Obj.cells cs e f))→w'.heap[b]?=w.heap[b]?:=by
  rintro b ⟨cs,e,f,h⟩
  refine hg.block b (Array.getElem?_eq_some_iff.1 h).1 fun hr=>?_
  obtain⟨_,o,ho,hc⟩:=hrow b hr.symm;rw[h] at ho;cases ho;cases hc
 have hlow:∀b:Nat,b<B→w'.heap[b]?=w.heap[b]?:=fun b hb=>hg.block b (by omega) (fun hr=>by have:=(hrow b hr.symm).1;omega)
 have hblk:∀b x,G.I b x→w'.heap[b]?=w.heap[b]?:=by
  intro b x h;rcases ht.I b x h with hb | ⟨o,rfl,hc⟩
  ·exact hlow b hb
  ·exact hcells b (cell_isCells hc)
 have hsame:Same G.I w w':=⟨fun b o h=>cell_of_heap (hblk b _ h),fun b h=>hblk b _ h⟩
 have hext:Ext (fun _=>False) G G w w':=⟨fun _ _ h=>h,hsame,Bl.le_refl _,fun _ _ _ _=>rfl,fun b tag h _=>⟨h,hcells b (ht.ω b tag h),fun _ h=>h⟩⟩
 have hb:=hi.base
 have hbase:Base cx G w':=⟨fun b h=>(hlow b (hK b h)).trans (hb.keep b h),hb.same.trans hsame hb.sub,hb.sub,hb.new,fun b x h=>Nat.lt_of_lt_of_le (hb.lt b x h) hg.size,
  fun b tag h=>⟨Nat.lt_of_lt_of_le (hb.own b tag h).1 hg.size,(hb.own b tag h).2⟩,hb.Klt,Nat.le_trans hb.grow hg.size,hb.bl,hg.os.trans hb.os,hg.tape.trans hb.tape,hg.output.trans hb.output⟩
 refine⟨hi.step (fun _=>False) none undef hext hbase rfl (fun t p hp=>.inl ⟨hp,by simp,fun _ h=>h,fun _ _ _ _=>by simp,fun _ _=>⟨by simp,fun h=>h⟩⟩) (fun id cs hc=>.inl ⟨hc,fun _ h=>h⟩) hi.len hi.abl,⟨fun b x h=>?_,fun b tag h=>?_⟩,hsame⟩
 ·rcases ht.I b x h with hb | ⟨o,rfl,hc⟩
  ·exact .inl hb
  ·exact .inr ⟨o,rfl,by rw[cell_of_heap (hblk b _ h)];exact hc⟩
 ·rw[hcells b (ht.ω b tag h)];exact ht.ω b tag h
def Known(G:Gh)(b:Nat):Prop:=G.ω b≠none∨∃x,G.I b x
theorem AkC{B b:Nat}(h:Known (G.prune B w) b):Known G b:=by
 rcases h with h | ⟨x,h⟩
 ·refine .inl fun e=>h ?_
  simp only[Gh.prune];split
  ·exact e
  ·rfl
 ·exact .inr ⟨x,h.1⟩
def Cx.inner(cx:Cx)(G:Gh)(w:World)(ds:List Deferred):Cx:=
 { cx with K:=fun b=>cx.K b∨(b<w.heap.size∧((∀cs e f,w.heap[b]?≠some (Obj.cells cs e f))∨¬Known G b)),I0:=G.I,w0:=w,bl0:=G.bl,ds:=ds }
theorem Inv.inner(hi:Inv cx G a w A σ){B:Nat}(ht:Tame B G w)(ds:List Deferred){a':Act}(hd:a'.defers=ds)(hsz:a'.tmps.size=a.tmps.size)(hA:∀t v,A'.get t=some v→AqX cx t v∧A.get t=some v∧at' a' t=at' a t)(hl:A'.length=A.length):
  Inv (cx.inner G w ds) G a' w A' σ:=by
 have hb:=hi.base
 refine⟨hd,hsz.trans hi.size,by rw[hl];exact hi.room,⟨fun _ _=>rfl,Same.refl _ _,fun _ _ h=>h,fun _ _ h=>.inl h,hb.lt,fun b tag h=>⟨(hb.own b tag h).1,?_⟩,⟨fun b h=>?_,fun b o h=>(hb.Klt.tab b o h).imp .inl fun⟨t,f,e⟩=>⟨t,f,(hb.keep b (hb.Klt.tab b o h).1).trans e⟩⟩,Nat.le_refl _,Bl.le_refl _,rfl,rfl,rfl⟩,
  fun t v hv=>(hi.slot t v (hA t v hv).2.1).of_at rfl (hA t v hv).1 (hA t v hv).2.2,hi.obj,hi.len,hi.abl⟩
 ·rintro(h' | ⟨_,h' | h'⟩)
  ·exact(hb.own b tag h).2 h'
  ·obtain⟨cs,e,f,hh⟩:=ht.ω b tag h;exact h' cs e f hh
  ·exact h' (.inl (by rw[h];simp))
 ·rcases h with h | h
  ·exact Nat.lt_of_lt_of_le (hb.Klt b h) hb.grow
  ·exact h.1
theorem base_outer(hb:Base cx G w){ds:List Deferred}{G':Gh}{w':World}(hb':Base (cx.inner G w ds) G' w'):Base cx G' w':=by
 refine⟨fun b h=>(hb'.keep b (.inl h)).trans (hb.keep b h),hb.same.trans hb'.same hb.sub,fun b x h=>hb'.sub b x (hb.sub b x h),fun b x h=>?_,hb'.lt,fun b tag h=>⟨(hb'.own b tag h).1,fun hk=>(hb'.own b tag h).2 (.inl hk)⟩,hb.Klt,Nat.le_trans hb.grow hb'.grow,hb.bl.trans hb'.bl,hb'.os.trans hb.os,hb'.tape.trans hb.tape,hb'.output.trans hb.output⟩
 rcases hb'.new b x h with h' | h'
 ·exact hb.new b x h'
 ·exact .inr fun hk=>h' (.inl hk)
theorem Inv.outer(hi:Inv cx G a w A σ){ds ds':List Deferred}{G':Gh}{a1 a2:Act}{w':World}{A1 A2:Frm}(hi':Inv (cx.inner G w ds) G' a1 w' A1 σ')(hd:a2.defers=ds')(hsz:a2.tmps.size=a1.tmps.size)
  (hA:∀t v,A2.get t=some v→AqX cx t v∧A1.get t=some v∧at' a2 t=at' a1 t) (hl:A2.length=A1.length):Inv { cx with ds:=ds' } G' a2 w' A2 σ':=by
 have hb:=base_outer hi.base hi'.base
 exact⟨hd,hsz.trans hi'.size,by rw[hl];exact hi'.room,⟨hb.keep,hb.same,hb.sub,hb.new,hb.lt,hb.own,hb.Klt,hb.grow,hb.bl,hb.os,hb.tape,hb.output⟩,
  fun t v hv=>(hi'.slot t v (hA t v hv).2.1).of_at (cx:=cx.inner G w ds) rfl (hA t v hv).1 (hA t v hv).2.2,hi'.obj,hi'.len,hi'.abl⟩
theorem AvY{ds:List Deferred}{G':Gh}{w':World}(hb':Base (cx.inner G w ds) G' w'):KeepsOthers w w':=by
 refine⟨hb'.grow,fun k o hk ho=>?_⟩
 refine(hb'.keep k (.inr ⟨(Array.getElem?_eq_some_iff.1 hk).1,.inl fun cs e f h=>?_⟩)).trans hk
 rw[hk] at h;cases h;cases ho
theorem inner_kept{ds:List Deferred}{G':Gh}{w':World}(hb':Base (cx.inner G w ds) G' w'){b:Nat}(hb:b<w.heap.size)(hk:¬Known G b):w'.heap[b]?=w.heap[b]?:=
 hb'.keep b (.inr ⟨hb,.inr hk⟩)
theorem AvX{ds:List Deferred}{G':Gh}{w':World}(hb':Base (cx.inner G w ds) G' w'){b:Nat}(hk:Known G' b):w.heap.size≤b∨Known G b:=by
 rcases Nat.lt_or_ge b w.heap.size with h | h
 ·refine .inr ?_
  rcases hk with hk | ⟨x,hk⟩
  ·cases ho:G'.ω b with
   |none=>exact absurd ho hk
   |some tag=>exact Classical.byContradiction fun hc=>(hb'.own b tag ho).2 (.inr ⟨h,.inr hc⟩)
  ·rcases hb'.new b x hk with h' | h'
   ·exact .inr ⟨x,h'⟩
   ·exact Classical.byContradiction fun hc=>h' (.inr ⟨h,.inr hc⟩)
 ·exact .inl h
theorem base_known(hb:Base cx G w){b:Nat}(hk:Known G b):b<w.heap.size:=by
 rcases hk with hk | ⟨x,hk⟩
 ·cases ho:G.ω b with
  |none=>exact absurd ho hk
  |some tag=>exact(hb.own b tag ho).1
 ·exact hb.lt b x hk
end
end Go.Abs

namespace Go.Abs
open Go.RowKit
section
variable{P:Program}{pur:FuncId→Bool}{call:Caller}{fi:FI}{cx:Cx}{G:Gh}{a:Act}{w:World}{A A':Frm}{σ σ':Sto}
def keepF(L:List Bool)(A:Frm):Frm:=List.zipWith (fun b v=>if b then v.filter PV.free else none) L A
theorem Az5{L:List Bool}(h:A.length=L.length):(keepF L A).length=L.length:=by simp[keepF,h]
theorem AjZ{L:List Bool}{t:Nat}{p:PV}(h:(keepF L A).get t=some p):L.getD t false=true∧A.get t=some p∧p.free=true:=by
 unfold keepF Frm.get at h
 split at h
 ·rename_i v hv;subst h;rw[List.getElem?_zipWith] at hv
  split at hv
  ·rename_i b u hb hu;cases b with
   |true=>
    have h2:=Option.some.inj hv;rw[if_pos rfl] at h2;obtain⟨h3,h4⟩:=Option.filter_eq_some_iff.1 h2;subst h3;refine⟨by rw[List.getD_eq_getElem?_getD,hb];rfl,?_,h4⟩
    unfold Frm.get;rw[hu]
   |false=>simp at hv
  ·cases hv
 ·cases h
def AxU(p:PV):Bool:=p.flat&&!p.noMap&&p.free&&(match p with | .mapv _ _=>true | .vptr _=>true | _=>false)
def keepX(L:List Bool)(A:Frm):Frm:=List.zipWith (fun b v=>if b then v.filter AxU else none) L A
def hideF(X B:Frm):Frm:=List.zipWith (fun x b=>match x with | some _=>none | none=>b) X B
def fillF(X B:Frm):Frm:=List.zipWith (fun x b=>match x with | some v=>some v | none=>b) X B
theorem AkZ{X B:Frm}(h:X.length=B.length):(hideF X B).length=B.length:=by simp[hideF,h]
theorem AZU{X B:Frm}(h:X.length=B.length):(fillF X B).length=B.length:=by simp[fillF,h]
theorem keepX_get{L:List Bool}{t:Nat}{p:PV}(h:(keepX L A).get t=some p):L.getD t false=true∧A.get t=some p∧AxU p=true:=by
 unfold keepX Frm.get at h
 split at h
 ·rename_i v hv;subst h;rw[List.getElem?_zipWith] at hv
  split at hv
  ·rename_i b u hb hu;cases b with
   |true=>
    have h2:=Option.some.inj hv;rw[if_pos rfl] at h2;obtain⟨h3,h4⟩:=Option.filter_eq_some_iff.1 h2;subst h3;refine⟨by rw[List.getD_eq_getElem?_getD,hb];rfl,?_,h4⟩
    unfold Frm.get;rw[hu]
   |false=>simp at hv
  ·cases hv
 ·cases h
theorem AzQ{X B:Frm}{t:Nat}{p:PV}(h:(hideF X B).get t=some p):B.get t=some p:=by
 unfold hideF Frm.get at h
 split at h
 ·rename_i v hv;subst h;rw[List.getElem?_zipWith] at hv
  split at hv
  ·rename_i x u hb hu;cases x with
   |some y=>cases hv
   |none=>unfold Frm.get;rw[hu];exact Option.some.inj hv
  ·cases hv
 ·cases h
theorem AwV{X B:Frm}{t:Nat}{p:PV}(h:(fillF X B).get t=some p):X.get t=some p∨(hideF X B).get t=some p:=by
 unfold fillF Frm.get at h
 split at h
 ·rename_i v hv;subst h;rw[List.getElem?_zipWith] at hv
  split at hv
  ·rename_i x u hb hu;cases x with
   |some y=>exact .inl (by unfold Frm.get;rw[hb];exact Option.some.inj hv)
   |none=>exact .inr (by unfold Frm.get hideF;rw[List.getElem?_zipWith,hb,hu];exact Option.some.inj hv)
  ·cases hv
 ·cases h
theorem Inv.fill{X B:Frm}(hi:Inv cx G a w (hideF X B) σ)(hl:X.length=B.length)(hX:∀t v,X.get t=some v→AqW cx G a w t v):Inv cx G a w (fillF X B) σ:=by
 refine⟨hi.defers,hi.size,?_,hi.base,fun t v hv=>?_,hi.obj,hi.len,hi.abl⟩
 ·rw[AZU hl,←AkZ hl];exact hi.room
 ·rcases AwV hv with h | h
  ·exact hX t v h
  ·exact hi.slot t v h
theorem AvW{p:PV}(h:AxU p=true):p.free=true∧p.flat=true:=by
 unfold AxU at h;simp only[Bool.and_eq_true] at h;exact⟨h.1.2,h.1.1.1⟩
theorem mapish_own{p:PV}(h:AxU p=true)(tag:Tag)(c:Value):OwnOk G w tag c p:=by
 unfold AxU at h;simp only[Bool.and_eq_true] at h;have h2:=h.2
 split at h2
 ·trivial
 ·trivial
 ·cases h2
def AZY(ds:List (Nat×Nat))(x:List PV)(A:Frm):Frm:=ds.foldl (fun A d=>A.set d.1 (x[d.2]?)) A
theorem enterL_len(x:List PV):∀(ds:List (Nat×Nat)) (A:Frm),(AZY ds x A).length=A.length
 |[],A=>rfl
 |d::ds,A=>by
  show(AZY ds x (A.set d.1 (x[d.2]?))).length=_;rw[enterL_len x ds,List.length_set]
theorem enterL_get(x:List PV){t:Nat}{p:PV}:∀(ds:List (Nat×Nat)) (A:Frm),(AZY ds x A).get t=some p→(∃i,(t,i)∈ds∧x[i]?=some p)∨A.get t=some p
 |[],A,h=>.inr h
 |d::ds,A,h=>by
  rcases enterL_get x ds (A.set d.1 (x[d.2]?)) h with⟨i,h1,h2⟩ | h1
  ·exact .inl ⟨i,List.mem_cons_of_mem _ h1,h2⟩
  ·rw[AqL] at h1
   split at h1
   ·rename_i hc;exact .inl ⟨d.2,by rw[hc.1];exact List.mem_cons_self ..,h1⟩
   ·exact .inr h1
noncomputable def ofF(A:Frm):Nat→FF:=List.rec (motive:=fun _=>Nat→FF) (fun _=>[]) (fun v _ ih n=>Option.rec (motive:=fun _=>FF) (ih (n+1)) (fun p=>(n,some p)::ih (n+1)) v) A
noncomputable def toF(ff:FF)(N:Nat):Frm:=(List.range N).map (getK ff)
noncomputable def runF(pur:FuncId→Bool)(call:Caller)(m:Nat)(ac:ACode)(A:Frm)(σ:Sto):Option (AExit×Frm×Sto):=
 cond (Az9 A.length ac) ((arunK pur call m ac (ofF A 0) σ).map fun r=>(r.1,toF r.2.1 A.length,r.2.2)) none
theorem getK_ofF{p:PV}{t:Nat}:∀(A:Frm) (n:Nat),getK (ofF A n) t=some p→n≤t∧A[t - n]?=some (some p)
 |[],n,h=>by cases h
 |v::A,n,h=>by
  cases v with
  |none=>
   have h':getK (ofF A (n+1)) t=some p:=h;obtain⟨h1,h2⟩:=getK_ofF A (n+1) h';refine⟨by omega,?_⟩
   rw[show t - n=(t - (n+1))+1 from by omega]
   simpa using h2
  |some q=>
   have h':getK ((n,some q)::ofF A (n+1)) t=some p:=h;rw[Av0] at h';cases hb:Nat.beq n t with
   |true=>
    rw[hb] at h';have:=Nat.eq_of_beq_eq_true hb;subst this;have e:q=p:=by simpa using h'
    subst e;exact⟨Nat.le_refl _,by simp⟩
   |false=>
    rw[hb] at h';obtain⟨h1,h2⟩:=getK_ofF A (n+1) h';refine⟨by omega,?_⟩
    rw[show t - n=(t - (n+1))+1 from by omega]
    simpa using h2
theorem AQG{m:Nat}{ac:ACode}{e:AExit}(h:runF pur call m ac A σ=some (e,A',σ')):∃A'',arun pur call m ac A σ=some (e,A'',σ')∧A'.length=A''.length∧∀t v,A'.get t=some v→A''.get t=some v:=by
 unfold runF at h;cases hok:Az9 A.length ac with
 |false=>rw[hok] at h;cases h
 |true=>
  rw[hok] at h;obtain⟨⟨e1,ff,σ1⟩,hr,he⟩:=Option.map_eq_some_iff.1 h;cases he
  have hrel:Rel A.length (ofF A 0) A:=by
   refine⟨rfl,fun t v hv=>?_⟩
   obtain⟨_,h2⟩:=getK_ofF A 0 hv;unfold Frm.get;rw[Nat.sub_zero] at h2;rw[h2]
  obtain⟨A2,h3,h4⟩:=arunK_sim ac _ _ _ _ _ _ hok hrel hr;refine⟨A2,h3,by rw[h4.len];simp[toF],fun t v hv=>h4.get t v ?_⟩
  unfold Frm.get toF at hv;rw[List.getElem?_map] at hv
  split at hv
  ·rename_i u hu;obtain⟨s,hs,rfl⟩:=Option.map_eq_some_iff.1 hu;have hs2:=(List.getElem?_eq_some_iff.1 hs)
   obtain⟨h5,h6⟩:=hs2;rw[List.getElem_range] at h6;subst h6;exact hv
  ·cases hv
noncomputable def AvN(pur:FuncId→Bool)(call:Caller)(m:Nat)(aca ac:ACode)(La L:List Bool)(X:Frm)(ds:List (Nat×Nat))(x:List PV)(A:Frm)(σ:Sto):Option (Frm×Sto):=
 match runF pur call m aca (AZY ds x A) σ with
 |some (.normal,A1,σ1)=>if quiet (hideF X (keepF La A1)) σ1=true∧A1.length=La.length then(match runF pur call m ac (fillF X (keepF La A1)) σ1 with
  |some (.normal,A',σ')=>if quiet (hideF X (keepF L A')) σ'=true∧A'.length=L.length then some (fillF X (keepF L A'),σ') else none
  |_=>none) else none
 |_=>none
noncomputable def iterL(pur:FuncId→Bool)(call:Caller)(m:Nat)(aca ac:ACode)(La L:List Bool)(X:Frm)(ds:List (Nat×Nat)):List (List PV)→Frm→Sto→Option (Frm×Sto)
 |[],A,σ=>some (A,σ)
 |x::xs,A,σ=>match AvN pur call m aca ac La L X ds x A σ with
  |some (A',σ')=>iterL pur call m aca ac La L X ds xs A' σ'
  |none=>none
theorem AX5{m:Nat}{aca ac:ACode}{La L:List Bool}{X:Frm}{ds:List (Nat×Nat)}(ys:List (List PV)){r:Frm×Sto}:∀(xs:List (List PV)) (A:Frm) (σ:Sto),iterL pur call m aca ac La L X ds (xs++ys) A σ=some r→
  ∃A' σ',iterL pur call m aca ac La L X ds xs A σ=some (A',σ')∧iterL pur call m aca ac La L X ds ys A' σ'=some r
 |[],A,σ,h=>⟨A,σ,rfl,h⟩
 |y::xs,A,σ,h=>by
  simp only[iterL,List.cons_append] at h ⊢
  split at h
  ·exact AX5 ys xs _ _ h
  ·cases h
theorem AK2{m:Nat}{aca ac:ACode}{La L:List Bool}{X:Frm}{ds:List (Nat×Nat)}(x:List PV){A2:Frm}{σ2:Sto}:∀(xs:List (List PV)) (A:Frm) (σ:Sto) {A':Frm} {σ':Sto},iterL pur call m aca ac La L X ds xs A σ=some (A',σ')→AvN pur call m aca ac La L X ds x A' σ'=some (A2,σ2)→
  iterL pur call m aca ac La L X ds (xs++[x]) A σ=some (A2,σ2)
 |[],A,σ,A',σ',h,h2=>by
  cases h;simp only[List.nil_append,iterL,h2]
 |y::ys,A,σ,A',σ',h,h2=>by
  simp only[iterL,List.cons_append] at h ⊢
  split at h
  ·exact AK2 x ys _ _ h h2
  ·cases h
theorem Inv.withDs(hi:Inv cx G a w A σ)(hA:∀t v,A.get t=some v→AqX cx t v)(ds:List Deferred){a':Act}(ht:a'.tmps=a.tmps)(hd:a'.defers=ds):Inv { cx with ds:=ds } G a' w A σ:=by
 have hb:=hi.base
 exact⟨hd,by rw[ht];exact hi.size,hi.room,⟨hb.keep,hb.same,hb.sub,hb.new,hb.lt,hb.own,hb.Klt,hb.grow,hb.bl,hb.os,hb.tape,hb.output⟩,
  fun t v hv=>(hi.slot t v hv).of_at (cx:=cx) rfl (hA t v hv) (by simp only[at',ht]),hi.obj,hi.len,hi.abl⟩
def mark(D:Nat):Deferred:={ target:=.collected D,args:=#[] }
def ItOk(P:Program)(gf:FuncId)(lb:Array Value)(xs:List (Array Value))(I:Imm)(w:World):Prop:=
 ∀(n l:Nat) (J:List (Array Value)→(Nat→Prop)→World→Prop) (W:World),Below w.heap.size w W→(∀O,AbidesFrom W.heap.size (fun s=>J s O))→
  (∀pre x post O W1,xs=pre++x::post→J pre O W1→YieldAt (FW none) n P l x W1 fun e W'=>e=.returned (.bool true)∧J (pre++[x]) (fun b=>O b∨(W1.heap.size≤b∧b<W'.heap.size)) W'∧Same I W1 W'∧W1.heap.size≤W'.heap.size∧
   ∀b cs t f,¬O b→W1.heap[b]?=some (Obj.cells cs t f)→W'.heap[b]?=some (Obj.cells cs t f))→J [] (fun b=>b<W.heap.size) W→
  CallsIn (FW none) n P gf (#[.func (.yield l) #[] #[]]++lb) W fun e W'=>(∃v,e=.returned v)∧∃O,J xs O W'
theorem range_sound{n m:Nat}(hS:Sound P call)(hx:CxOk cx fi)(hmo:P.follows .mixedOrders=true){g:Operand}{ps:Array Tmp}{assign body:Code}{aca ac:ACode}(hca:comp P pur fi assign=some aca)(hcb:comp P pur fi body=some ac)
  {gf:FuncId} {lb:Array Value} (hg:a.eval g=.func (.func gf) #[] lb) (hent:Ax9 P gf) {vs:List (Array Value)} {xs:List (List PV)} (hit:ItOk P gf lb vs G.I w) (hps:∀x∈vs,x.size=ps.size)
  (hlv:vs.length=xs.length) (hpv:∀(j:Nat) (v:Array Value) (x:List PV),vs[j]?=some v→xs[j]?=some x→∀(i:Nat) (p:PV),x[i]?=some p→Rep G.I w (v.getD i undef) p∧p.free=true∧p.Aq0=p)
  {La L:List Bool} {X:Frm} {ds:List (Nat×Nat)} (hi:Inv cx G a w A σ) (hB:∀b x,cx.I0 b x→b<w.heap.size) (hA:∀t v,A.get t=some v→AqX cx t v∧L.getD t false=true) (hXl:X.length=L.length) (hXs:∀t v,X.get t=some v→L.getD t false=true∧(cx.kd t).val=true∧AxU v=true∧A.get t=some v) (hq:quiet (hideF X A) σ=true) (hlen:A.length=L.length) (hla:La.length=L.length)
  (hLk:∀t,L.getD t false=true→((cx.kd t).val=true∨cx.kd t=.box)∧Ax1 t assign=true∧Ax1 t body=true∧∀p∈ps,p≠t) (hLa:∀t,La.getD t false=true→(cx.kd t).val=true∨cx.kd t=.box)
  (hds:∀d∈ds,(cx.kd d.1).val=true∧∀(v:Array Value) (tm:Array Value),v.size=ps.size→tm.size=cx.nt→((ps.zip v).foldl (fun t (p,v)=>t.setIfInBounds p v) tm).getD d.1 undef=v.getD d.2 undef)
  {A2:Frm} {σ2:Sto} (hrun:iterL pur call m aca ac La L X ds xs (fillF X A) σ=some (A2,σ2))
  {Q:Exit→Act→World→Prop} (hdone:∀(D:Nat) (W:World),w.heap.size≤D→W.heap[D]?=some (.deferred (some []))→w.heap.size≤W.heap.size→
   (∃G',Inv { cx with ds:=mark D::a.defers } G' { a with defers:=mark D::a.defers } W A2 σ2∧Tame w.heap.size G' W∧(∀t v,A2.get t=some v→AqX cx t v∧L.getD t false=true))→Q .normal { a with defers:=mark D::a.defers } W) :
  (Code.rangeFunc g ps assign body).wpIn (FW none) n P Q a w:=by
 obtain⟨fn0,hfn0,hname,hbody0⟩:=hent;have hKB:∀b,cx.K b→b<w.heap.size:=fun b h=>Nat.lt_of_lt_of_le (hi.base.Klt b h) hi.base.grow
 have eg:∀(args:Array Value) (w:World),(callFunc gf args).run P w=.ok (.enter gf args) w:=fun args W=>by
  have h1:¬fn0.name = "runtime.NumGoroutine" := by simpa using hname
  have h2:¬fn0.body=none:=fun e=>by rw[e] at hbody0;cases hbody0
  simp[callFunc,hfn0,h1,h2]
 have hXok:∀{cx':Cx} {G':Gh} {a':Act} {W:World},cx'.kd=cx.kd→(∀b x,G.I b x→G'.I b x)→Same G.I w W→∀t v,X.get t=some v→at' a' t=at' a t→AqW cx' G' a' W t v:=by
  intro cx' G' a' W hkd hsub hsm t v hv hat;obtain⟨x1,x2,x3,x4⟩:=hXs t v hv;obtain⟨f1,f2⟩:=AvW x3;have hr:=((Aq9 x2 f1).1 (hi.slot t v x4)).1;rw[Aq9 (by rw[hkd];exact x2) f1,hat]
  exact⟨.one (.inl ((hr.flat f2).mono hsub hsm)),mapish_own x3 _ _⟩
 have hXp:∀{cx':Cx},cx'.kd=cx.kd→∀t v,X.get t=some v→AqX cx' t v:=fun hkd t v hv=>⟨(AvW (hXs t v hv).2.2.1).1,.inl (by rw[hkd];exact(hXs t v hv).2.1)⟩
 have hXA:X.length=A.length:=hXl.trans hlen.symm
 let I:List (Array Value)→(Nat→Prop)→World→Prop:=fun pre O W=>w.heap.size≤W.heap.size∧∃A' σ',iterL pur call m aca ac La L X ds (xs.take pre.length) (fillF X A) σ=some (A',σ')∧(∀t v,A'.get t=some v→AqX cx t v∧L.getD t false=true)∧A'.length=L.length∧
   ∃G',Inv { cx with ds:=[] } G' { a with defers:=[] } W A' σ'∧Tame w.heap.size G' W∧(∀b x,G.I b x→G'.I b x)∧Same G.I w W∧∀b,Known G' b→O b
 have hI:∀(pre:List (Array Value)) (O:Nat→Prop) (W W':World) (row:Option Nat),I pre O W→W.grownBy W' row→(∀r,row=some r→w.heap.size≤r∧∃o:Obj,W.heap[r]?=some o∧o.isCells=false)→I pre O W':=by
  rintro pre O W W' row ⟨hsz,A',σ',hit,hA',hl',G',hi',ht',hsub,hsame,hO⟩ hgr hrow
  obtain⟨h2,h3,h4⟩:=hi'.grown ht' hKB hsz hgr hrow;exact⟨Nat.le_trans hsz hgr.size,A',σ',hit,hA',hl',G',h2,h3,hsub,hsame.trans h4 hsub,hO⟩
 have h0:I [] (fun b=>b<w.heap.size) w:=by
  have hp:∀t v,A.get t=some v→AqX cx t v:=fun t v h=>(hA t v h).1
  have h2:=((hi.forget (A':=hideF X A) (AkZ hXA) (fun t v h=>AzQ h)).withDs (fun t v h=>hp t v (AzQ h)) [] (a':={ a with defers:=[] }) rfl rfl)
  have h3:=(h2.prune w.heap.size hB (fun t v h=>hp t v (AzQ h)) hq).fill hXA (fun t v hv=>hXok (G':=G.prune w.heap.size w) rfl (fun b x h=>⟨h,.inl (hi.base.lt b x h)⟩) (Same.refl _ _) t v hv rfl)
  exact⟨Nat.le_refl _,fillF X A,σ,rfl,fun t v hv=>(AwV hv).elim (fun h=>⟨hXp rfl t v h,(hXs t v h).1⟩) (fun h=>hA t v (AzQ h)),by rw[AZU hXA,hlen],_,h3,Av7 _ _ _,fun b x h=>⟨h,.inl (hi.base.lt b x h)⟩,Same.refl _ _,fun b hb=>base_known hi.base (AkC hb)⟩
 refine wpIn_rangeFunc fun fn hfn=>?_
 obtain⟨rec,hrec⟩:∃rec:LoopState→Option Code→Loop,rec=fun st pe=>{ state:=st,pending:=pe,fn,tmps:=a.tmps,params:=ps,assign,body,defers:=w.heap.size }:=⟨_,rfl⟩
 obtain⟨W1,hW1⟩:∃W1,(w.alloc (.deferred (some []))).alloc (.loop (rec .ready none))=W1:=⟨_,rfl⟩
 have hL1:W1.heap[w.heap.size+1]?=some (.loop (rec .ready none)):=by
  rw[←hW1];have:=World.alloc_heap_new (w.alloc (.deferred (some []))) (.loop (rec .ready none));rwa [World.size_alloc] at this
 have hK1:W1.heap[w.heap.size]?=some (.deferred (some [])):=by
  rw[←hW1];exact(Below.heap_alloc _ _ _ (by simp)).trans (World.alloc_heap_new w _)
 have hg1:w.grownBy (w.alloc (.deferred (some []))) none:=World.grownBy_alloc w _ none;have hg2:(w.alloc (.deferred (some []))).grownBy W1 none:=by rw[←hW1];exact World.grownBy_alloc _ _ none
 have hI1':I [] (fun b=>b<w.heap.size) W1:=hI _ _ _ _ none (hI _ _ _ _ none h0 hg1 (fun r e=>by cases e)) hg2 (fun r e=>by cases e)
 have hb1:Below w.heap.size w W1:=by
  rw[←hW1];exact(((Below.refl w.heap.size w).alloc (Nat.le_refl _) _).alloc (by simp) _)
 have hsz1:W1.heap.size=w.heap.size+2:=by rw[←hW1];simp
 have hI1:I [] (fun b=>b<W1.heap.size) W1:=by
  obtain⟨hsz,A',σ',hit,hA',hl',G',hi',ht',hsub,hsame,hO⟩:=hI1';exact⟨hsz,A',σ',hit,hA',hl',G',hi',ht',hsub,hsame,fun b hb=>by have:=hO b hb;omega⟩
 refine⟨w.heap.size+1,[mark w.heap.size],W1,{ target:=.fn (.func gf) lb,args:=#[.func (.yield (w.heap.size+1)) #[] #[]] },W1,gf,
  #[.func (.yield (w.heap.size+1)) #[] #[]]++lb,W1,?_,?_,?_,?_,fun h=>(by cases h),?_⟩
 ·rw[←hW1,hrec];exact run_enterLoop_outer _ _ _ _ _
 ·simp only[resolve,hg];simp[go_sem]
 ·intro f' _;trivial
 ·simp[invoke,go_sem,eg]
 ·have hnc:∀{W W':World} {row:Option Nat},(∀r,row=some r→W1.heap.size≤r∧∃o:Obj,W.heap[r]?=some o∧o.isWalk=true)→(∀r,row=some r→w.heap.size≤r∧∃o:Obj,W.heap[r]?=some o∧o.isCells=false):=
   fun hr r e=>by obtain⟨hB',o,ho,hw⟩:=hr r e;exact⟨by omega,o,ho,Obj.not_cells_of_walk hw⟩
  refine(hit (n - 1) (w.heap.size+1) (fun pre O W=>I pre O W∧W.heap[w.heap.size+1]?=some (.loop (rec .ready none))∧W.heap[w.heap.size]?=some (.deferred (some []))) W1 hb1
   (fun O s X Y row hs hg' hr=>⟨hI s O X Y row hs.1 hg' (hnc (W':=Y) hr),(grownBy_keeps hg' (fun r e=>(hr r e).2) hs.2.1 rfl).trans hs.2.1,(grownBy_keeps hg' (fun r e=>(hr r e).2) hs.2.2 rfl).trans hs.2.2⟩) ?_ ⟨hI1,hL1,hK1⟩).mono ?_
  ·
   rintro pre v post O W hvs ⟨⟨hsz,A',σ',hitr,hA',hl',G',hi',ht',hsub,hsame,hO⟩,hl,hk⟩
   have hjv:vs[pre.length]?=some v:=by rw[hvs];simp
   have hjlt:pre.length<xs.length:=by rw[←hlv];exact(List.getElem?_eq_some_iff.1 hjv).1
   obtain⟨x,hjx⟩:∃x,xs[pre.length]?=some x:=⟨_,List.getElem?_eq_getElem hjlt⟩
   have hsplit:xs=xs.take pre.length++x::xs.drop (pre.length+1):=by
    have:=List.take_append_drop pre.length xs;rw[List.drop_eq_getElem_cons hjlt] at this;have hx':xs[pre.length]=x:=(List.getElem?_eq_some_iff.1 hjx).2
    rw[hx'] at this;exact this.symm
   have htake:xs.take (pre++[v]).length=xs.take pre.length++[x]:=by
    rw[List.length_append,List.length_singleton,List.take_add_one,hjx];rfl
   obtain⟨rr,hround⟩:∃rr,AvN pur call m aca ac La L X ds x A' σ'=some rr:=by
    rw[hsplit] at hrun;obtain⟨B',τ',h1,h2⟩:=AX5 _ _ _ _ hrun;rw[hitr] at h1;cases h1;simp only[iterL] at h2
    split at h2
    ·rename_i h3;exact⟨_,h3⟩
    ·cases h2
   obtain⟨A4,σ4⟩:=rr;have hround':=hround;unfold AvN at hround
   split at hround
   case h_2=>cases hround
   rename_i Aa σa hruna0;obtain⟨Aa',hruna,hla',hsa⟩:=AQG hruna0
   split at hround
   case isFalse=>cases hround
   rename_i hqa
   split at hround
   case h_2=>cases hround
   rename_i A3 σ3 hrunb0;obtain⟨A3',hrunb,hlb',hsb⟩:=AQG hrunb0
   split at hround
   case isFalse=>cases hround
   rename_i hqb;cases hround;have hvm:v∈vs:=List.mem_of_getElem? hjv;have hy:=run_yield (P:=P) (args:=v) hl (by rw[hrec];exact hps v hvm)
   rw[hrec] at hy;obtain⟨tm,htm⟩:∃tm,(ps.zip v).foldl (fun t (p,v)=>t.setIfInBounds p v) a.tmps=tm:=⟨_,rfl⟩
   have htsz:tm.size=a.tmps.size:=by
    rw[←htm,←Array.foldl_toList];generalize (ps.zip v).toList=l;generalize a.tmps=t0
    induction l generalizing t0 with
    |nil=>rfl
    |cons d l ih=>rw[List.foldl_cons,ih];simp
   have htat:∀t,(∀p∈ps,p≠t)→tm.getD t undef=a.tmps.getD t undef:=by
    intro t ht
    have hz:∀d∈(ps.zip v).toList,d.1≠t:=by
     intro d hd;have hd':(d.1,d.2)∈ps.toList.zip v.toList:=by simpa [Array.toList_zip] using hd
     exact ht _ (by have:=(List.of_mem_zip hd').1;simpa using this)
    rw[←htm,←Array.foldl_toList];generalize (ps.zip v).toList=l at hz;generalize a.tmps=t0
    induction l generalizing t0 with
    |nil=>rfl
    |cons d l ih=>
     rw[List.foldl_cons,ih (fun d' hd'=>hz d' (List.mem_cons_of_mem _ hd'))]
     have:=hz d (List.mem_cons_self ..);simp only[Array.getD_eq_getD_getElem?];rw[Array.getElem?_setIfInBounds_ne this]
   let cx':Cx:={ cx with ds:=[] }
   have hx':∀{H:Gh} {V:World},CxOk (cx'.inner H V []) fi:=⟨hx.kd,hx.nt,hx.al⟩
   let a1:Act:={ tmps:=tm,defers:=[] }
   have hi1:=hi'.inner ht' [] (a':=a1) rfl htsz (A':=A') (fun t u hu=>⟨(hA' t u hu).1,hu,htat t (hLk t (hA' t u hu).2).2.2.2⟩) rfl
   have hi2:Inv (cx'.inner G' W []) G' a1 W (AZY ds x A') σ':=by
    refine⟨hi1.defers,hi1.size,by rw[enterL_len];exact hi1.room,hi1.base,fun t u hu=>?_,hi1.obj,hi1.len,hi1.abl⟩
    rcases enterL_get _ _ _ hu with⟨i,h2,h3⟩ | h2
    ·obtain⟨e1,e2,e3⟩:=hpv _ v x hjv hjx i u h3;obtain⟨hdv,hdt⟩:=hds _ h2;rw[Aq9 (cx:=cx'.inner G' W []) hdv e2]
     have hat:at' a1 t=v.getD i undef:=by
      have:=hdt v a.tmps (hps v hvm) hi.size;rw[htm] at this;exact this
     rw[hat];exact⟨.one (.inl (e1.mono hsub hsame)),AZA e3⟩
    ·exact hi1.slot t u h2
   refine⟨fn,tm,assign,body,by rw[←htm];exact hy,roundIn_of_wpIn hfn ?_⟩
   refine AzG (ro:=some (w.heap.size+1)) (cx:=cx'.inner G' W []) hS hx' hmo assign aca hca m _ _ _ _ _ hruna a1 W ⟨G',hi2⟩ _ (fun a2 w2 hs2 hat2=>?_)
   obtain⟨G2,hi3'⟩:=hs2;have hi3:=hi3'.forget hla' hsa;have hk2:=AvY hi3.base;have hXa:X.length=(keepF La Aa).length:=by rw[Az5 hqa.2,hXl,hla]
   have hA2:∀t u,(hideF X (keepF La Aa)).get t=some u→AqX cx t u∧Aa.get t=some u∧at' a2 t=at' a2 t:=fun t u hu=>by
    obtain⟨e1,e2,e3⟩:=AjZ (AzQ hu);exact⟨⟨e3,hLa t e1⟩,e2,rfl⟩
   have hi4:=(hi'.outer hi3 (ds':=[]) (a2:=a2) hi3.defers rfl (A2:=hideF X (keepF La Aa)) hA2 (by rw[AkZ hXa,Az5 hqa.2];exact hqa.2.symm)).prune w.heap.size hB (fun t u hu=>(hA2 t u hu).1) hqa.1
   have ht4:=Av7 G2 w.heap.size w2;have hsub4:∀b x,G.I b x→(G2.prune w.heap.size w2).I b x:=fun b x h=>⟨hi3.base.sub _ _ (hsub _ _ h),.inl (hi.base.lt b x h)⟩
   have hss2:Same G.I W w2:=⟨fun b o h=>hi3.base.same.cell b o (hsub _ _ h),fun b h=>hi3.base.same.blk b (hsub _ _ h)⟩
   have hsz2:w.heap.size≤w2.heap.size:=Nat.le_trans hsz hk2.size;have hl2:=hk2.same _ _ hl rfl;have hd2:=hk2.same _ _ hk rfl;refine⟨_,run_beginRound hl2 (by rw[hrec]),?_⟩
   obtain⟨w3,hw3⟩:∃w3,w2.putObj (w.heap.size+1) (.loop { rec .ready none with state:=.busy })=w3:=⟨_,rfl⟩
   have hg3:w2.grownBy w3 (some (w.heap.size+1)):=by rw[←hw3];exact grownBy_putObj' _ _ _
   have hlt2:w.heap.size+1<w2.heap.size:=(Array.getElem?_eq_some_iff.1 hl2).1
   have hl3:w3.heap[w.heap.size+1]?=some (.loop { rec .ready none with state:=.busy }):=by rw[←hw3];exact World.putObj_heap_same hlt2
   have hd3:w3.heap[w.heap.size]?=some (.deferred (some [])):=by rw[←hw3];exact(World.putObj_heap_other (by omega)).trans hd2
   obtain⟨hi5,ht5,hs5⟩:=hi4.grown ht4 hKB hsz2 hg3 (fun r e=>by cases e;exact⟨by omega,_,hl2,rfl⟩)
   have hsz3:w.heap.size≤w3.heap.size:=Nat.le_trans hsz2 hg3.size;have hss5:Same G.I w2 w3:=⟨fun b o h=>hs5.cell b o (hsub4 _ _ h),fun b h=>hs5.blk b (hsub4 _ _ h)⟩
   have hi5f:=hi5.fill hXa (fun t v hv=>hXok rfl hsub4 ((hsame.trans hss2 (fun _ _ h=>h)).trans hss5 (fun _ _ h=>h)) t v hv (by
    obtain⟨k1,k2,k3,k4⟩:=hLk t (hXs t v hv).1;exact(hat2 t k2).trans (htat t k4)))
   have hi6:=hi5f.inner ht5 [] (a':=a2) hi5.defers rfl (A':=fillF X (keepF La Aa)) (fun t u hu=>⟨(AwV hu).elim (fun h=>hXp rfl t u h) (fun h=>(hA2 t u h).1),hu,rfl⟩) rfl
   rw[hw3];refine AzG (ro:=some (w.heap.size+1)) (cx:=cx'.inner (G2.prune w.heap.size w2) w3 []) hS hx' hmo body ac hcb m _ _ _ _ _ hrunb a2 w3 ⟨_,hi6⟩ _ (fun a4 w4 hs4 hat4=>?_)
   obtain⟨G4,hi7'⟩:=hs4;have hi7:=hi7'.forget hlb' hsb;have hk4:=AvY hi7.base;have hXb:X.length=(keepF L A3).length:=by rw[Az5 hqb.2,hXl]
   have hA4:∀t u,(hideF X (keepF L A3)).get t=some u→AqX cx t u∧A3.get t=some u∧at' { a with defers:=[] } t=at' a4 t:=by
    intro t u hu;obtain⟨e1,e2,e3⟩:=AjZ (AzQ hu);obtain⟨k1,k2,k3,k4⟩:=hLk t e1;refine⟨⟨e3,k1⟩,e2,?_⟩
    rw[hat4 t k3,hat2 t k2];exact(htat t k4).symm
   have hi8:=(hi5.outer hi7 (ds':=[]) (a2:={ a with defers:=[] }) rfl (by have h2:=hi7.size;have h3:=hi.size;show a.tmps.size=_;rw[h3,h2];rfl) (A2:=hideF X (keepF L A3)) hA4 (by rw[AkZ hXb,Az5 hqb.2];exact hqb.2.symm)).prune w.heap.size hB (fun t u hu=>(hA4 t u hu).1) hqb.1
   have ht8:=Av7 G4 w.heap.size w4;have hl4:=hk4.same _ _ hl3 rfl;have hd4:=hk4.same _ _ hd3 rfl;have hlt4:w.heap.size+1<w4.heap.size:=(Array.getElem?_eq_some_iff.1 hl4).1
   have he4:=run_endRound (P:=P) none hl4;have hss4:Same G.I w3 w4:=⟨fun b o h=>hi7.base.same.cell b o (hsub4 _ _ h),fun b h=>hi7.base.same.blk b (hsub4 _ _ h)⟩
   obtain⟨w5,hw5⟩:∃w5,w4.putObj (w.heap.size+1) (.loop (rec .ready none))=w5:=⟨_,rfl⟩;have hg5:w4.grownBy w5 (some (w.heap.size+1)):=by rw[←hw5];exact grownBy_putObj' _ _ _
   obtain⟨hi9,ht9,hs9⟩:=hi8.grown ht8 hKB (Nat.le_trans hsz3 hk4.size) hg5 (fun r e=>by cases e;exact⟨by omega,_,hl4,rfl⟩)
   have hsub8:∀b x,G.I b x→(G4.prune w.heap.size w4).I b x:=fun b x h=>⟨hi7.base.sub _ _ (hsub4 _ _ h),.inl (hi.base.lt b x h)⟩
   have hss9:Same G.I w4 w5:=⟨fun b o h=>hs9.cell b o (hsub8 _ _ h),fun b h=>hs9.blk b (hsub8 _ _ h)⟩
   have hall:Same G.I W w5:=((hss2.trans hss5 (fun _ _ h=>h)).trans hss4 (fun _ _ h=>h)).trans hss9 (fun _ _ h=>h)
   have hsW5:W.heap.size≤w5.heap.size:=Nat.le_trans (Nat.le_trans (Nat.le_trans hk2.size hg3.size) hk4.size) hg5.size;refine⟨_,w5,?_,rfl,⟨⟨Nat.le_trans (Nat.le_trans hsz3 hk4.size) hg5.size,fillF X (keepF L A3),σ4,?_,fun t u hu=>(AwV hu).elim (fun h=>⟨hXp rfl t u h,(hXs t u h).1⟩) (fun h=>⟨(hA4 t u h).1,(AjZ (AzQ h)).1⟩),by rw[AZU hXb,Az5 hqb.2],_,hi9.fill hXb (fun t v hv=>hXok rfl hsub8 (hsame.trans hall (fun _ _ h=>h)) t v hv rfl),ht9,hsub8,hsame.trans hall (fun _ _ h=>h),fun b hb=>?_⟩,?_,?_⟩,hall,hsW5,fun b cs t f hnO hb=>?_⟩
   ·rw[←hw5];rw[hrec] at he4 ⊢;exact he4
   ·rw[htake];exact AK2 _ _ _ _ hitr hround'
   ·
    have hlt:=base_known hi9.base hb;rcases AvX hi7.base (AkC hb) with h1 | h1
    ·exact .inr ⟨Nat.le_trans (Nat.le_trans hk2.size hg3.size) h1,hlt⟩
    ·rcases AvX hi3.base (AkC h1) with h2 | h2
     ·exact .inr ⟨h2,hlt⟩
     ·exact .inl (hO b h2)
   ·rw[←hw5];exact World.putObj_heap_same hlt4
   ·rw[←hw5];exact(World.putObj_heap_other (by omega)).trans hd4
   ·
    have hbl:b<W.heap.size:=(Array.getElem?_eq_some_iff.1 hb).1
    have hnk:¬Known G' b:=fun h=>hnO (hO b h)
    have hne:w.heap.size+1≠b:=by rintro rfl;rw[hl] at hb;cases hb
    have e2:w2.heap[b]?=some (Obj.cells cs t f):=(inner_kept hi3.base hbl hnk).trans hb;have hb2:b<w2.heap.size:=(Array.getElem?_eq_some_iff.1 e2).1
    have e3:w3.heap[b]?=some (Obj.cells cs t f):=by rw[←hw3];exact(World.putObj_heap_other (by omega)).trans e2
    have hb3:b<w3.heap.size:=(Array.getElem?_eq_some_iff.1 e3).1
    have hnk2:¬Known (G2.prune w.heap.size w2) b:=fun h=>by
     rcases AvX hi3.base (AkC h) with h | h
     ·omega
     ·exact hnk h
    have e4:w4.heap[b]?=some (Obj.cells cs t f):=(inner_kept hi7.base hb3 hnk2).trans e3;rw[←hw5];exact(World.putObj_heap_other (by omega)).trans e4
  ·
   rintro e W2 ⟨⟨v,rfl⟩,O,hIx,hl,hk⟩
   have hlt:w.heap.size+1<W2.heap.size:=(Array.getElem?_eq_some_iff.1 hl).1
   refine⟨none,_,by have:=run_endLoop (P:=P) hl (by rw[hrec];simp);rw[hrec] at this;exact this,?_⟩
   have hg9:W2.grownBy (W2.putObj (w.heap.size+1) (.loop { rec .ready none with state:=.exhausted })) (some (w.heap.size+1)):=grownBy_putObj' _ _ _
   obtain⟨hsz,A',σ',hitr,hA',hl',G',hi',ht',hsub,hsame,_⟩:=hI _ _ _ _ _ hIx hg9 (fun r e=>by cases e;exact⟨by omega,_,hl,rfl⟩)
   rw[hlv,List.take_length,hrun] at hitr;cases hitr;rw[hrec] at hi' ht' hsame hsz;refine hdone w.heap.size _ (Nat.le_refl _) ((World.putObj_heap_other (by omega)).trans hk) hsz ⟨G',(hi'.withDs (cx:={ cx with ds:=[] }) (fun t v h=>(hA' t v h).1) (mark w.heap.size::a.defers) (a':={ a with defers:=mark w.heap.size::a.defers }) rfl rfl),ht',hA'⟩
end
end Go.Abs

namespace Go.Abs
open Go.RowKit
def seqs:List Code→Code→Code
 |[],c=>c
 |p::ps,c=>.seq p (seqs ps c)
def comps(P:Program)(pur:FuncId→Bool)(fi:FI):List Code→Option (List ACode)
 |[]=>some []
 |c::cs=>match comp P pur fi c,comps P pur fi cs with
  |some x,some xs=>some (x::xs)
  |_,_=>none
noncomputable section
def preF(pur:FuncId→Bool)(call:Caller)(m:Nat):List ACode→Frm→Sto→Option (AExit×Frm×Sto)
 |[],A,σ=>some (.normal,A,σ)
 |c::cs,A,σ=>match runF pur call m c A σ with
  |some (.normal,A',σ')=>preF pur call m cs A' σ'
  |r=>r
structure LFn where
 nargs:Nat
 ntmps:Nat
 extra:Nat
 pre:List ACode
 rg:ACode
 g:Nat
 aca:ACode
 ac:ACode
 post:ACode
 La:List Bool
 L:List Bool
 Lr:List Bool
 ds:List (Nat×Nat)
 nps:Nat
 res:List (Nat×Option Nat)
 Lv:List Bool
def endF(f:LFn)(A:Frm)(σ:Sto):Option (PV×Sto):=(AxE A f.res).bind fun vs=>(packR vs).map fun r=>(r,σ)
def loopF(pur:FuncId→Bool)(call:Caller)(itr:FuncId→List PV→Option (List (List PV)))(m:Nat)(f:LFn)(A:Frm)(σ:Sto):Option (PV×Sto):=
 match A.get f.g with
 |some (.func gf [] caps)=>match itr gf caps with
  |some xs=>if quiet (hideF (keepX f.Lv A) (keepF f.L A)) σ=true∧A.length=f.L.length∧f.Lv.length=f.L.length∧f.Lr.length=f.L.length∧caps.all PV.flat=true∧xs.all (fun x=>x.length==f.nps)=true then
   (match iterL pur call m f.aca f.ac f.La f.L (keepX f.Lv A) f.ds xs (fillF (keepX f.Lv A) (keepF f.L A)) σ with
   |some (A2,σ2)=>match runF pur call m f.post A2 σ2 with
    |some (e,A3,σ3)=>if(e=.normal∨e=.ret)∧quiet (hideF (keepX f.Lv A) (keepF f.Lr A3)) σ3=true∧A3.length=f.Lr.length then endF f (hideF (keepX f.Lv A) (keepF f.Lr A3)) σ3 else none
    |none=>none
   |none=>none) else none
  |none=>none
 |_=>none
def runLF(pur:FuncId→Bool)(itr:FuncId→List PV→Option (List (List PV)))(m:Nat)(f:LFn)(call:Caller)(args:List PV)(σ:Sto):Option (PV×Sto):=
 if args.length=f.nargs∧args.length≤f.ntmps then
  match preF pur call m f.pre (args.map some++List.replicate (f.ntmps+f.extra - args.length) none) σ with
  |some (.ret,A,σ')=>endF f A σ'
  |some (.normal,A,σ')=>match runF pur call m f.rg A σ' with
   |some (.normal,A1,σ1)=>loopF pur call itr m f A1 σ1
   |_=>none
  |_=>none
 else none
end
def ItrOk(P:Program)(itr:FuncId→List PV→Option (List (List PV))):Prop:=
 ∀gf caps xs,itr gf caps=some xs→Ax9 P gf∧∀(I:Imm) (w:World) (cs:Array Value),(∀b x,I b x→b<w.heap.size)→cs.size=caps.length→(∀(i:Nat) (p:PV),caps[i]?=some p→Rep I w (cs.getD i undef) p)→
  ∃vs:List (Array Value),ItOk P gf cs vs I w∧vs.length=xs.length∧∀(j:Nat) (v:Array Value) (x:List PV),vs[j]?=some v→xs[j]?=some x→v.size=x.length∧∀(i:Nat) (p:PV),x[i]?=some p→Rep I w (v.getD i undef) p∧p.free=true∧p.Aq0=p
section
variable{P:Program}{pur:FuncId→Bool}{call:Caller}{fi:FI}{cx:Cx}{G:Gh}{a:Act}{w:World}{A A':Frm}{σ σ':Sto}
theorem comps_cons{c:Code}{cs:List Code}{acs:List ACode}(h:comps P pur fi (c::cs)=some acs):∃x xs,acs=x::xs∧comp P pur fi c=some x∧comps P pur fi cs=some xs:=by
 simp only[comps] at h
 split at h
 ·rename_i x xs h1 h2;cases h;exact⟨x,xs,rfl,h1,h2⟩
 ·cases h
theorem AZ8{n m:Nat}(hS:Sound P call)(hx:CxOk cx fi)(hmo:P.follows .mixedOrders=true):∀(cs:List Code) (acs:List ACode),comps P pur fi cs=some acs→∀(A:Frm) (σ:Sto) (e:AExit) (A':Frm) (σ':Sto),preF pur call m acs A σ=some (e,A',σ')→
  ∀(a:Act) (w:World),Sim cx a w A σ→∀(rest:Code) (Q:Exit→Act→World→Prop),(∀a' w',Sim cx a' w' A' σ'→(e=.normal→rest.wpIn (FW none) n P Q a' w')∧(e≠.normal→Q e.ex a' w'))→(seqs cs rest).wpIn (FW none) n P Q a w
 |[],acs,hc,A,σ,e,A',σ',h,a,w,hs,rest,Q,hq=>by
  cases hc;cases h;exact(hq a w hs).1 rfl
 |c::cs,acs,hc,A,σ,e,A',σ',h,a,w,hs,rest,Q,hq=>by
  obtain⟨x,xs,rfl,h1,h2⟩:=comps_cons hc;simp only[preF] at h;refine wpIn_seq ?_
  split at h
  ·rename_i A1 σ1 hr;obtain⟨A1',hr',hl,hsub⟩:=AQG hr;refine AzG (ro:=none) hS hx hmo c x h1 m _ _ _ _ _ hr' a w hs _ (fun a' w' hs' _=>?_)
   obtain⟨G',hi'⟩:=hs';exact AZ8 hS hx hmo cs xs h2 A1 σ1 e A' σ' h a' w' ⟨G',hi'.forget hl hsub⟩ rest Q hq
  ·rename_i hn;obtain⟨A1',hr',hl,hsub⟩:=AQG h;refine AzG (ro:=none) hS hx hmo c x h1 m _ _ _ _ _ hr' a w hs _ (fun a' w' hs' _=>?_)
   obtain⟨G',hi'⟩:=hs';have:=hq a' w' ⟨G',hi'.forget hl hsub⟩;cases e with
   |normal=>exact absurd h (hn _ _)
   |exit id=>exact this.2 (by simp)
   |ret=>exact this.2 (by simp)
def okL(fi:FI)(L:List Bool):Bool:=(List.range L.length).all fun t=>!(L.getD t false)||(fi.kind t).isVal||decide (fi.kind t=.box)
theorem okL_get{L:List Bool}(h:okL fi L=true){t:Nat}(ht:L.getD t false=true):(fi.kind t).val=true∨fi.kind t=.box:=by
 have hlt:t<L.length:=by
  rcases Nat.lt_or_ge t L.length with h' | h'
  ·exact h'
  ·rw[List.getD_eq_getElem?_getD,List.getElem?_eq_none h'] at ht;cases ht
 have:=List.all_eq_true.1 h t (List.mem_range.2 hlt);rw[ht] at this;simp only[Bool.not_true,Bool.false_or,Bool.or_eq_true,decide_eq_true_eq] at this;rcases this with h1 | h1
 ·exact .inl (Ak0 h1)
 ·exact .inr h1
def okL2(L:List Bool)(ps:Array Tmp)(assign body:Code):Bool:=(List.range L.length).all fun t=>!(L.getD t false)||(Ax1 t assign&&Ax1 t body&&ps.all (fun p=>p != t))
theorem okL2_get{L:List Bool}{ps:Array Tmp}{assign body:Code}(h:okL2 L ps assign body=true){t:Nat}(ht:L.getD t false=true):Ax1 t assign=true∧Ax1 t body=true∧∀p∈ps,p≠t:=by
 have hlt:t<L.length:=by
  rcases Nat.lt_or_ge t L.length with h' | h'
  ·exact h'
  ·rw[List.getD_eq_getElem?_getD,List.getElem?_eq_none h'] at ht;cases ht
 have:=List.all_eq_true.1 h t (List.mem_range.2 hlt);rw[ht] at this;simp only[Bool.not_true,Bool.false_or,Bool.and_eq_true] at this;refine⟨this.1.1,this.1.2,fun p hp=>?_⟩
 have h2:=(Array.all_eq_true_iff_forall_mem.1 this.2) p hp;simpa using h2
theorem keepF_put{L:List Bool}{A:Frm}{t:Nat}{p:PV}(h:L.getD t false=true)(hg:A.get t=some p)(hf:p.free=true):(keepF L A).get t=some p:=by
 unfold Frm.get at hg
 split at hg
 ·rename_i v hv;subst hg
  have hb:L[t]?=some true:=by
   rw[List.getD_eq_getElem?_getD] at h
   cases hx:L[t]? with
   |none=>rw[hx] at h;cases h
   |some b=>rw[hx] at h;rw[show b=true from h]
  unfold keepF Frm.get;rw[List.getElem?_zipWith,hb,hv]
  simp[Option.filter,hf]
 ·cases hg
theorem lf_ok{f:FuncId}{fn:Func}{lf:LFn}{m:Nat}{itr:FuncId→List PV→Option (List (List PV))}(hitr:ItrOk P itr)(hmo:P.follows .mixedOrders=true)(hfn:P.funcs[f]?=some fn)(hname:(fn.name == "runtime.NumGoroutine")=false)
  (hok:fi.okB=true) (hnt:fi.nt=fn.ntmps) (hna:lf.ntmps=fn.ntmps) (hex:lf.extra=fi.ps.length) {pre:List Code} {rg assign body post:Code} {bid gt:Nat} {ps:Array Tmp}
  (hbody:fn.body=some (seqs pre (.seq (.seq rg (.block bid (.rangeFunc (.tmp gt) ps assign body))) post))) (hgt:lf.g=gt) (hnp:lf.nps=ps.size)
  (hcp:comps P pur fi pre=some lf.pre) (hcr:comp P pur fi rg=some lf.rg) (hca:comp P pur fi assign=some lf.aca) (hcb:comp P pur fi body=some lf.ac) (hct:comp P pur fi post=some lf.post)
  (hrs:Aj1 P fi fn.results.toList=some lf.res) (hvals:(List.range lf.nargs).all (fun t=>(fi.kind t).isVal)=true) (hgk:(fi.kind gt).isVal=true)
  (hLa:okL fi lf.La=true) (hL:okL fi lf.L=true) (hLr:okL fi lf.Lr=true) (hL2:okL2 lf.L ps assign body=true) (hll:lf.La.length=lf.L.length) (hLv:∀t,lf.Lv.getD t false=true→lf.L.getD t false=true∧(fi.kind t).val=true)
  (hds:∀d∈lf.ds,(fi.kind d.1).val=true∧∀(v:Array Value) (tm:Array Value),v.size=ps.size→tm.size=fi.nt→((ps.zip v).foldl (fun t (p,v)=>t.setIfInBounds p v) tm).getD d.1 undef=v.getD d.2 undef) :
  AkL P f (runLF pur itr m lf):=by
 intro call hS args σ r σ' hown h;have hent:Ax9 P f:=⟨fn,hfn,hname,by rw[hbody];rfl⟩
 refine⟨hent,fun n vs w G K hargs hpre=>?_⟩
 unfold runLF at h
 split at h
 case isFalse=>cases h
 rename_i hlen;obtain⟨hl1,hl2⟩:=hlen;have hval:∀t,t<args.length→(fi.kind t).val=true:=fun t ht=>Ak0 (List.all_eq_true.1 hvals t (List.mem_range.2 (by omega)))
 have hinit:=inv_init hok hpre hargs hown (by omega) hval fi.ps.length
 have hvs:vs.size=args.length:=by simpa using hargs.1
 have hcx:=cxOk hok K G w;rw[hna,←hnt,hex] at h;refine callsIn_of_wp_marks hfn hbody trivial ?_
 rw[←hnt]
 have fin0:∀(e:AExit) (A1:Frm) (a':Act) (w':World),(e=.normal∨e=.ret)→Sim (mkCx fi hok K G w) a' w' A1 σ'→endF lf A1 σ'=some (r,σ')→
   bodyPostM (FW none) n P fn (fun e w'=>∃v G',e=.returned v∧RepT G'.I G'.bl w' v r∧Aft K G w σ' G' w') e.ex a' w':=by
  intro e A1 a' w' he hs hres;obtain⟨G',hi'⟩:=hs;unfold endF at hres;obtain⟨ps',hps,hres⟩:=Option.bind_eq_some_iff.1 hres;obtain⟨r',hr',e1⟩:=Option.map_eq_some_iff.1 hres;cases e1;obtain⟨v,hv,hrep⟩:=AQI (P:=P) hi' hcx hrs hps hr';have hb:=hi'.base;have haft:Aft K G w σ' G' w':=⟨hb.keep,hb.same,hb.sub,hb.new,hb.lt,hb.own,hb.grow,hb.bl,hb.os,hb.tape,hb.output,hi'.obj,hi'.len,hi'.abl⟩;have hd:a'.defers=[]:=hi'.defers
  have hfin:LeavesInM (FW none) n P fn a'.tmps (fun e w'=>∃v G',e=.returned v∧RepT G'.I G'.bl w' v r∧Aft K G w σ' G' w') a'.defers .returning w':=by
   rw[hd];exact⟨v,hv,v,G',rfl,hrep,haft⟩
  rcases he with rfl | rfl
  ·exact hfin
  ·exact hfin
 split at h
 ·
  rename_i A1 σ1 hrun
  have hσ:σ1=σ':=by
   unfold endF at h;obtain⟨_,_,h⟩:=Option.bind_eq_some_iff.1 h;obtain⟨_,_,e⟩:=Option.map_eq_some_iff.1 h;cases e;rfl
  subst hσ;exact AZ8 hS hcx hmo pre lf.pre hcp _ σ _ A1 σ1 hrun _ w ⟨G,hinit⟩ _ _ (fun a' w' hs=>⟨fun e=>(by cases e),fun _=>fin0 .ret A1 a' w' (.inr rfl) hs h⟩)
 ·rename_i A1 σ1 hrun
  split at h
  case h_2=>cases h
  rename_i A2 σ2 hrg;refine AZ8 hS hcx hmo pre lf.pre hcp _ σ _ A1 σ1 hrun _ w ⟨G,hinit⟩ _ _ (fun a' w' hs=>⟨fun _=>?_,fun e=>absurd rfl e⟩)
  refine wpIn_seq (wpIn_seq ?_)
  obtain⟨A2',hrg',hlg,hsg⟩:=AQG hrg;refine AzG (ro:=none) hS hcx hmo rg lf.rg hcr m _ _ _ _ _ hrg' a' w' hs _ (fun a2 w2 hs2 _=>?_)
  obtain⟨G2,hi2'⟩:=hs2;have hi2:=hi2'.forget hlg hsg;show(Code.block bid (Code.rangeFunc (.tmp gt) ps assign body)).wpIn (FW none) n P _ a2 w2;refine wpIn_block ?_
  unfold loopF at h;rw[hgt] at h
  split at h
  case h_2=>cases h
  rename_i gf caps hget
  split at h
  case h_2=>cases h
  rename_i xs hxs
  split at h
  case isFalse=>cases h
  rename_i hcc;obtain⟨hq,hlA,hlv1,hlr1,hcaps,hxl⟩:=hcc
  split at h
  case h_2=>cases h
  rename_i A3 σ3 hiter
  split at h
  case h_2=>cases h
  rename_i e4 A4 σ4 hpost
  split at h
  case isFalse=>cases h
  rename_i hend;obtain⟨he4,hq4,hl4⟩:=hend;have hgv:((mkCx fi hok K G w).kd gt).val=true:=Ak0 hgk;have hrepg:=((Aq9 hgv rfl).1 (hi2.slot gt _ hget)).1;obtain⟨fs,cs,hat,hf1,hf2,hf3,hf4⟩:=hrepg.AvD;have hfs:fs=#[]:=Array.eq_empty_of_size_eq_zero hf1;subst hfs;obtain⟨hge,hg⟩:=hitr gf caps xs hxs;obtain⟨vls,hito,hlv,hpv⟩:=hg G2.I w2 cs hi2.base.lt hf2 (fun i p hp=>RepT.flat (.one (hf4 i p hp)) (List.all_eq_true.1 hcaps p (List.mem_of_getElem? hp)))
  have hA0:∀t v,(keepF lf.L A2).get t=some v→AqX (mkCx fi hok K G w) t v∧lf.L.getD t false=true:=fun t v hv=>by
   obtain⟨e1,e2,e3⟩:=AjZ hv;exact⟨⟨e3,okL_get hL e1⟩,e1⟩
  have hi3:=hi2.forget (A':=keepF lf.L A2) (by rw[Az5 hlA,hlA]) (fun t v hv=>(AjZ hv).2.1)
  have hXl:(keepX lf.Lv A2).length=lf.L.length:=by simp[keepX,hlv1,hlA]
  have hXs:∀t v,(keepX lf.Lv A2).get t=some v→lf.L.getD t false=true∧((mkCx fi hok K G w).kd t).val=true∧AxU v=true∧(keepF lf.L A2).get t=some v:=fun t v hv=>by
   obtain⟨x1,x2,x3⟩:=keepX_get hv;obtain⟨y1,y2⟩:=hLv t x1;exact⟨y1,y2,x3,keepF_put y1 x2 (AvW x3).1⟩
  have hI0:∀b x,(mkCx fi hok K G w).I0 b x→b<w2.heap.size:=fun b x hb=>Nat.lt_of_lt_of_le (hpre.lt b x hb) hi2.base.grow
  refine range_sound (pur:=pur) (call:=call) (m:=m) hS hcx hmo hca hcb (a:=a2) (g:=.tmp gt) (by exact hat) hge hito (fun v hv=>?_) hlv (fun j v x h1 h2=>(hpv j v x h1 h2).2) hi3 hI0 hA0 hXl hXs hq (by rw[Az5 hlA]) hll
   (fun t ht=>⟨okL_get hL ht,okL2_get hL2 ht⟩) (fun t ht=>okL_get hLa ht) hds hiter (fun D W hD hdef hBW hex=>?_)
  ·obtain⟨j,hj⟩:=List.mem_iff_getElem?.1 hv;have hjl:j<xs.length:=by rw[←hlv];exact(List.getElem?_eq_some_iff.1 hj).1
   rw[(hpv j v _ hj (List.getElem?_eq_getElem hjl)).1]
   have:=List.all_eq_true.1 hxl _ (List.getElem_mem hjl);rw[←hnp];simpa using this
  ·obtain⟨G3,hi4,ht4,hA3⟩:=hex;have hd2:a2.defers=[]:=hi2.defers;rw[hd2] at hi4 ⊢
   let cxm:Cx:={ mkCx fi hok K G w with ds:=[mark D] }
   have hi5:Inv (cxm.inner G3 W [mark D]) G3 { a2 with defers:=[mark D] } W A3 σ3:=hi4.inner ht4 [mark D] rfl rfl (fun t v hv=>⟨(hA3 t v hv).1,hv,rfl⟩) rfl
   obtain⟨A4',hpost',hlp,hsp⟩:=AQG hpost;show post.wpIn (FW none) n P _ { a2 with defers:=[mark D] } W
   refine AzG (ro:=none) (cx:=cxm.inner G3 W [mark D]) hS ⟨hcx.kd,hcx.nt,hcx.al⟩ hmo post lf.post hct m _ _ _ _ _ hpost' _ W ⟨G3,hi5⟩ _ (fun a4 w4 hs4 _=>?_)
   obtain⟨G4,hi6'⟩:=hs4;have hi6:=hi6'.forget hlp hsp;have hk4:=AvY hi6.base;have hdef4:=hk4.same _ _ hdef rfl;have hd4:a4.defers=[mark D]:=hi6.defers;have hXr:(keepX lf.Lv A2).length=(keepF lf.Lr A4).length:=by rw[Az5 hl4,hXl,hlr1]
   have hA4:∀t v,(hideF (keepX lf.Lv A2) (keepF lf.Lr A4)).get t=some v→AqX cxm t v∧A4.get t=some v∧at' { a4 with defers:=[] } t=at' a4 t:=fun t v hv=>by
    obtain⟨e1,e2,e3⟩:=AjZ (AzQ hv);exact⟨⟨e3,okL_get hLr e1⟩,e2,rfl⟩
   have hi7:=(hi4.outer (cx:=cxm) hi6 (ds':=[]) (a2:={ a4 with defers:=[] }) rfl rfl (A2:=hideF (keepX lf.Lv A2) (keepF lf.Lr A4)) hA4 (by rw[AkZ hXr,Az5 hl4];exact hl4.symm)).prune w2.heap.size hI0 (fun t v hv=>(hA4 t v hv).1) hq4
   have ht7:=Av7 G4 w2.heap.size w4;obtain⟨w5,hw5⟩:∃w5,w4.putObj D (.deferred none)=w5:=⟨_,rfl⟩;have hg5:w4.grownBy w5 (some D):=by rw[←hw5];exact grownBy_putObj' _ _ _
   have hKB:∀b,K b→b<w2.heap.size:=fun b hb=>Nat.lt_of_lt_of_le (hpre.Klt b hb) hi2.base.grow
   obtain⟨hi8,_,_⟩:=hi7.grown ht7 hKB (Nat.le_trans hBW hk4.size) hg5 (fun r e=>by cases e;exact⟨hD,_,hdef4,rfl⟩)
   have hσ:σ4=σ':=by
    unfold endF at h;obtain⟨_,_,h⟩:=Option.bind_eq_some_iff.1 h;obtain⟨_,_,e⟩:=Option.map_eq_some_iff.1 h;cases e;rfl
   subst hσ;unfold endF at h;obtain⟨ps',hps,hres⟩:=Option.bind_eq_some_iff.1 h;obtain⟨r',hr',e1⟩:=Option.map_eq_some_iff.1 hres;cases e1;obtain⟨v,hv,hrep⟩:=AQI (P:=P) hi8 ⟨hcx.kd,hcx.nt,hcx.al⟩ hrs hps hr';have hb:=hi8.base;have haft:Aft K G w σ4 _ w5:=⟨hb.keep,hb.same,hb.sub,hb.new,hb.lt,hb.own,hb.grow,hb.bl,hb.os,hb.tape,hb.output,hi8.obj,hi8.len,hi8.abl⟩
   have hfin:LeavesInM (FW none) n P fn a4.tmps (fun e w'=>∃v G',e=.returned v∧RepT G'.I G'.bl w' v r∧Aft K G w σ4 G' w') a4.defers .returning w4:=by
    rw[hd4];refine⟨by simp,.inl ⟨D,w5,rfl,by rw[←hw5];exact run_takeDeferred hdef4,?_⟩⟩
    exact⟨v,hv,v,_,rfl,hrep,haft⟩
   rcases he4 with rfl | rfl
   ·exact hfin
   ·exact hfin
 ·cases h
end
end Go.Abs

namespace Go.Abs.Z
open Go.Abs.T
def lf7:LFn:=⟨1,10,0,[(R [o 1 (.p .bx) [s 0],v 2 (I 0)]),(R [o 3 (.p (.zl (I 0))) [],h (.p (.stl 0 1)) [s 3,i 0] [3]])],(R [o 4 L5 [s 1],o 5 (c 20) [s 4]]),5,.skip,(B 1 (R [o 7 (.p (.ldl 0 1 false)) [s 3],o 8 (y .add) [s 7,i 1],h (.p (.stl 0 1)) [s 3,s 8] [3]])),(q (R [o 9 (.p (.ldl 0 1 false)) [s 3],m 2 9]) .ret),(t (t (t (t (t (t (t (t (t (t [])))))))))),(t (t (t (t (t (t (f2 (f1 (t []))))))))),(t (t (t (t (t (t (t (t (t (t [])))))))))),[(6,0)],1,[(2,none)],(t (t (t (f1 (t (t (f2 (f1 (t [])))))))))⟩
def lf26:LFn:=⟨2,35,0,[(R [o 2 (.p .bx) [s 0],o 3 (.p .bx) [s 1],v 4 (S [])]),(R [o 5 (.w (.alB 120 5)) []]),(R [o 9 (f 4) [s 3],o 10 L1 [s 9],o 6 (.w (.alO [.nils])) [],u (.w (.st 1)) [s 6,s 10]]),(R [o 11 (.p (.mkf 82 0)) [s 6,s 5,s 2],o 7 (.w (.alO [.nilf])) [],u (.w (.st 1)) [s 7,s 11]])],(R [o 12 (.r (.ld 8 true)) [s 2],o 13 L5 [s 3],o 14 (c 25) [s 12,s 13]]),14,(R [o 8 (.p (.zi 4)) [],h (.p (.sti 4)) [s 8,s 15] [8]]),(B 1 (q (R [o 16 L1 [s 7],o 17 (f 2) [s 8],o 18 L1 [s 17],o 19 (.w .calld) [s 16,s 18]]) (R [o 20 (f 0) [s 2],o 21 L1 [s 20],o 22 (f 1) [s 8],o 23 L1 [s 22],o 24 (f 3) [s 8],o 25 L1 [s 24],o 26 (.p (.ssl true true)) [s 21,s 23,s 25],o 27 (w 83) [s 5,s 26]]))),(q (R [o 28 L1 [s 7],o 29 (f 0) [s 2],o 30 L1 [s 29],o 31 (.p (.len true)) [s 30],o 32 (y .add) [s 31,i 1],o 33 (.w .calld) [s 28,s 32]]) (q (R [o 34 (w 84) [s 5],m 4 34]) .ret)),(t (t (t (t (t (t (t (t (t (t (t (t (t (t (t (t (t (t (t (t (t (t (t (t (t (t (t (t (t (t (t (t (t (t (t []))))))))))))))))))))))))))))))))))),(t (t (t (t (t (t (t (t (f1 (t (t (t (t (t (t (f8 (f4 (f1 (t (t (t (t (t (t (t []))))))))))))))))))))))))),(t (t (t (t (t (t (t (t (t (t (t (t (t (t (t (t (t (t (t (t (t (t (t (t (t (t (t (t (t (t (t (t (t (t (t []))))))))))))))))))))))))))))))))))),[(15,0)],1,[(4,none)],(t (t (t (t (t (t (t (t (f1 (t (t (t (t (t (t (f8 (f4 (f1 (t (t (t (t (t (t (t [])))))))))))))))))))))))))⟩
def lf77:LFn:=⟨2,13,0,[(R [o 2 (.p .bxl) [s 0],v 4 .nils])],(R [m 6 1]),6,(R [o 5 (.p (.zi 4)) [],h (.p (.sti 4)) [s 5,s 7] [5]]),(B 1 (R [o 8 (.p (.ldl 0 1 false)) [s 2],o 9 (.r (.ld 4 true)) [s 5],o 10 (.p (.bsl 4)) [s 9],o 11 (.w (.appA 4)) [s 8,s 10],h (.p (.stl 0 1)) [s 2,s 11] [2]])),(q (R [o 12 (.p (.ldl 0 1 false)) [s 2],m 4 12]) .ret),(t (t (t (t (t (t (t (t (t (t (t (t (t []))))))))))))),(t (t (t (t (t (f1 (t (f4 (f1 (t [])))))))))),(t (t (t (t (t (t (t (t (t (t (t (t (t []))))))))))))),[(7,0)],1,[(4,none)],(t (t (f1 (t (t (f1 (t (f4 (f1 (t []))))))))))⟩
def lf127:LFn:=⟨1,49,0,[(R [o 1 (.p .bx) [s 0],v 2 (.bool false)]),(R [o 8 (c 174) [],o 3 (.p (.zi 1)) [],h (.p (.sti 1)) [s 3,s 8] [3]]),(R [o 4 (.p (.zl (.bool false))) [],h (.p (.stl 0 1)) [s 4,b true] [4]])],(R [o 9 L5 [s 1],o 10 (c 20) [s 9]]),10,(R [o 5 (.p (.zi 5)) [],h (.p (.sti 5)) [s 5,s 11] [5]]),(B 1 (q (R [o 13 L1 [s 3],o 14 (f 0) [s 5],o 15 L1 [s 14],o 16 (.p (.look (.agg [.nilf,.nils,.nilf,(I 0)]) true true)) [s 13,s 15],m 12 16,o 17 (.p (.ext 0)) [s 12],o 18 (.p (.ext 1)) [s 12],o 6 (.p (.zi 4)) [],h (.p (.sti 4)) [s 6,s 17] [6],m 7 18]) (q (R [o 19 (.p (.ldl 0 1 false)) [s 4],m 20 19,n 20 true 21 7,o 22 pk [s 20,s 21,b false],m 23 22,g 23 true 24 (.r (.ld 4 true)) [s 6],g 23 true 25 L5 [s 5],g 23 true 26 (c 175) [s 24,s 25],o 27 pk [s 23,s 26,b false],h (.p (.stl 0 1)) [s 4,s 27] [4]]) (q (R [o 28 (f 0) [s 5],o 29 L1 [s 28],o 30 (y .eql) [s 29,i 4],m 31 30,g 31 true 32 (.p (.ldl 0 1 false)) [s 4],o 33 pk [s 31,s 32,b false]]) (C 33 (R [o 34 (f 4) [s 5],o 35 L1 [s 34],o 36 (.p (.idx 5)) [s 35,i 0],o 37 (f 1) [s 36],o 38 L1 [s 37],o 39 (y .eql) [s 38,.val (S [105,110,116])],m 40 39,g 40 false 41 (f 4) [s 5],g 40 false 42 L1 [s 41],g 40 false 43 (.p (.idx 5)) [s 42,i 0],g 40 false 44 (f 1) [s 43],g 40 false 45 L1 [s 44],g 40 false 46 (y .eql) [s 45,.val (S [98,111,111,108])],o 47 pk [s 40,b true,s 46],h (.p (.stl 0 1)) [s 4,s 47] [4]]) .skip))))),(q (R [o 48 (.p (.ldl 0 1 false)) [s 4],m 2 48]) .ret),(t (t (t (t (t (t (t (t (t (t (t (t (t (t (t (t (t (t (t (t (t (t (t (t (t (t (t (t (t (t (t (t (t (t (t (t (t (t (t (t (t (t (t (t (t (t (t (t (t []))))))))))))))))))))))))))))))))))))))))))))))))),(t (t (t (t (t (f2 (f1 (t (t (t (f32 (f4 (f1 (t [])))))))))))))),(t (t (t (t (t (t (t (t (t (t (t (t (t (t (t (t (t (t (t (t (t (t (t (t (t (t (t (t (t (t (t (t (t (t (t (t (t (t (t (t (t (t (t (t (t (t (t (t (t []))))))))))))))))))))))))))))))))))))))))))))))))),[(11,0)],1,[(2,none)],(t (t (t (t (f4 (t (t (t (f32 (f4 (f1 (t []))))))))))))⟩
end Go.Abs.Z

namespace Go.Abs
open Go.RowKit
structure Split where
 rg:Code
 bid:Nat
 g:Nat
 ps:Array Tmp
 assign:Code
 body:Code
 post:Code
def splitC:Code→Option (List Code×Split)
 |.seq (.seq rg (.block bid (.rangeFunc (.tmp g) ps assign body))) post=>some ([],⟨rg,bid,g,ps,assign,body,post⟩)
 |.seq a b=>(splitC b).map fun r=>(a::r.1,r.2)
 |_=>none
theorem splitC_eq:∀(c:Code) (pre:List Code) (s:Split),splitC c=some (pre,s)→c=seqs pre (.seq (.seq s.rg (.block s.bid (.rangeFunc (.tmp s.g) s.ps s.assign s.body))) s.post):=by
 intro c
 induction c with
 |seq a b iha ihb=>
  intro pre s h;unfold splitC at h
  split at h
  ·rename_i rg bid g ps assign body post he;cases he;cases h;rfl
  ·rename_i x y hn he;cases he;obtain⟨⟨l,s'⟩,h1,h2⟩:=Option.map_eq_some_iff.1 h;cases h2;rw[ihb _ _ h1];rfl
  ·cases h
 |_=>intro pre s h;simp[splitC] at h
def AZC(fi:FI)(N:Nat):List Bool:=(List.range N).map fun t=>(fi.kind t).isVal||decide (fi.kind t=.box)
def AjC(fi:FI)(N:Nat)(ps:Array Tmp)(assign body:Code):List Bool:=
 (List.range N).map fun t=>((fi.kind t).isVal||decide (fi.kind t=.box))&&(Ax1 t assign&&Ax1 t body&&ps.all (fun p=>p != t))
def valSlots(fi:FI)(N:Nat)(ps:Array Tmp)(assign body:Code):List Bool:=
 (List.range N).map fun t=>(fi.kind t).isVal&&(Ax1 t assign&&Ax1 t body&&ps.all (fun p=>p != t))
def nodupB:List Nat→Bool
 |[]=>true
 |x::xs=>!xs.contains x&&nodupB xs
def dsOf:Nat→List Nat→List (Nat×Nat)
 |_,[]=>[]
 |i,p::ps=>(p,i)::dsOf (i+1) ps
def compLF(P:Program)(pur:FuncId→Bool)(fi:FI)(fn:Func):Option LFn:=
 match fn.body with
 |some c=>match splitC c with
  |some (pre,s)=>match comps P pur fi pre,comp P pur fi s.rg,comp P pur fi s.assign,comp P pur fi s.body,comp P pur fi s.post,Aj1 P fi fn.results.toList with
   |some pre',some rg',some aca,some ac,some post',some rs=>
    if fi.nt=fn.ntmps∧fi.okB=true∧(List.range (fn.params.size+fn.nfree)).all (fun t=>(fi.kind t).isVal)=true∧(fi.kind s.g).isVal=true∧s.ps.toList.all (fun p=>decide (p<fi.nt)&&(fi.kind p).isVal)=true∧nodupB s.ps.toList=true then
     some { nargs:=fn.params.size+fn.nfree,ntmps:=fn.ntmps,extra:=fi.ps.length,pre:=pre',rg:=rg',g:=s.g,aca:=aca,ac:=ac,post:=post',La:=AZC fi (fn.ntmps+fi.ps.length),L:=AjC fi (fn.ntmps+fi.ps.length) s.ps s.assign s.body,Lr:=AZC fi (fn.ntmps+fi.ps.length),ds:=dsOf 0 s.ps.toList,nps:=s.ps.size,res:=rs,Lv:=valSlots fi (fn.ntmps+fi.ps.length) s.ps s.assign s.body }
    else none
   |_,_,_,_,_,_=>none
  |none=>none
 |none=>none
section
variable{P:Program}{pur:FuncId→Bool}{fi:FI}
theorem AzL{N:Nat}{f:Nat→Bool}{t:Nat}(h:((List.range N).map f).getD t false=true):f t=true:=by
 rw[List.getD_eq_getElem?_getD,List.getElem?_map] at h
 cases hx:(List.range N)[t]? with
 |none=>rw[hx] at h;cases h
 |some u=>
  rw[hx] at h;obtain⟨h1,h2⟩:=List.getElem?_eq_some_iff.1 hx
  rw[List.getElem_range] at h2;subst h2;exact h
theorem AZD(N:Nat):okL fi (AZC fi N)=true:=by
 unfold okL;rw[List.all_eq_true];intro t _;cases h:(AZC fi N).getD t false with
 |false=>rfl
 |true=>
  have:=AzL h;simp only[Bool.not_true,Bool.false_or];exact this
theorem okL_keep(N:Nat)(ps:Array Tmp)(assign body:Code):okL fi (AjC fi N ps assign body)=true:=by
 unfold okL;rw[List.all_eq_true];intro t _;cases h:(AjC fi N ps assign body).getD t false with
 |false=>rfl
 |true=>
  have:=AzL h;simp only[Bool.not_true,Bool.false_or];rw[Bool.and_eq_true] at this;exact this.1
theorem okL2_keep(N:Nat)(ps:Array Tmp)(assign body:Code):okL2 (AjC fi N ps assign body) ps assign body=true:=by
 unfold okL2;rw[List.all_eq_true];intro t _;cases h:(AjC fi N ps assign body).getD t false with
 |false=>rfl
 |true=>
  have:=AzL h;simp only[Bool.not_true,Bool.false_or];rw[Bool.and_eq_true] at this;exact this.2
theorem getD_map_mk{N:Nat}{f:Nat→Bool}{t:Nat}(h:t<N)(hf:f t=true):((List.range N).map f).getD t false=true:=by
 rw[List.getD_eq_getElem?_getD,List.getElem?_map,List.getElem?_range h]
 exact hf
theorem keep_val{N:Nat}{ps:Array Tmp}{assign body:Code}{t:Nat}(h:(valSlots fi N ps assign body).getD t false=true):(AjC fi N ps assign body).getD t false=true∧(fi.kind t).val=true:=by
 have hlt:t<N:=by
  rcases Nat.lt_or_ge t N with h' | h'
  ·exact h'
  ·rw[List.getD_eq_getElem?_getD,List.getElem?_eq_none (by simpa [valSlots] using h')] at h;cases h
 have h1:=AzL h;rw[Bool.and_eq_true] at h1;exact⟨getD_map_mk hlt (by rw[h1.1,h1.2];rfl),Ak0 h1.1⟩
theorem AZT{t:Nat}:∀(l:List (Nat×Value)) (tm:Array Value),(∀d∈l,d.1≠t)→(l.foldl (fun t d=>t.setIfInBounds d.1 d.2) tm).getD t undef=tm.getD t undef
 |[],tm,_=>rfl
 |d::l,tm,h=>by
  rw[List.foldl_cons,AZT l _ (fun d' hd=>h d' (List.mem_cons_of_mem _ hd))]
  have:=h d (List.mem_cons_self ..);simp only[Array.getD_eq_getD_getElem?];rw[Array.getElem?_setIfInBounds_ne this]
theorem foldl_here{t:Nat}{i:Nat}:∀(ps:List Nat) (v:List Value) (k:Nat) (tm:Array Value),nodupB ps=true→v.length=ps.length→t<tm.size→(t,i)∈dsOf k ps→((ps.zip v).foldl (fun t d=>t.setIfInBounds d.1 d.2) tm).getD t undef=v.getD (i - k) undef∧k≤i
 |[],v,k,tm,_,_,_,hm=>by cases hm
 |p::ps,[],k,tm,_,hl,_,_=>by cases hl
 |p::ps,x::v,k,tm,hn,hl,ht,hm=>by
  rw[nodupB,Bool.and_eq_true] at hn;simp only[dsOf,List.mem_cons,Prod.mk.injEq] at hm;rw[List.zip_cons_cons,List.foldl_cons];rcases hm with⟨rfl,rfl⟩ | hm
  ·rw[AZT]
   ·simp[ht]
   ·intro d hd e;have hd':(d.1,d.2)∈ps.zip v:=hd;have h2:=(List.of_mem_zip hd').1;rw[e] at h2;have h1:=hn.1;simp[h2] at h1
  ·obtain⟨h1,h2⟩:=foldl_here ps v (k+1) (tm.setIfInBounds p x) hn.2 (by simpa using hl) (by simpa using ht) hm
   refine⟨?_,by omega⟩
   rw[h1,show i - k=(i - (k+1))+1 from by omega]
   simp
theorem dsOf_mem{t i:Nat}:∀{ps:List Nat} {k:Nat},(t,i)∈dsOf k ps→t∈ps
 |p::ps,k,h=>by
  simp only[dsOf,List.mem_cons,Prod.mk.injEq] at h;rcases h with⟨rfl,_⟩ | h
  ·exact List.mem_cons_self ..
  ·exact List.mem_cons_of_mem _ (dsOf_mem h)
theorem AQ1{f:FuncId}{fn:Func}{lf:LFn}{m:Nat}{itr:FuncId→List PV→Option (List (List PV))}(hitr:ItrOk P itr)(hmo:P.follows .mixedOrders=true)(hfn:P.funcs[f]?=some fn)(hname:(fn.name == "runtime.NumGoroutine")=false)
  (h:compLF P pur fi fn=some lf):AkL P f (runLF pur itr m lf):=by
 unfold compLF at h
 split at h
 case h_2=>cases h
 rename_i c hbody
 split at h
 case h_2=>cases h
 rename_i pre s hs
 split at h
 case h_2=>cases h
 rename_i pre' rg' aca ac post' rs h1 h2 h3 h4 h5 h6
 split at h
 case isFalse=>cases h
 rename_i hcc;obtain⟨c1,c2,c3,c4,c5,c6⟩:=hcc;cases h;have hc:=splitC_eq c pre s hs;subst hc;refine lf_ok (fi:=fi) hitr hmo hfn hname c2 c1 rfl rfl hbody rfl rfl h1 h2 h3 h4 h5 h6 c3 c4 (AZD _) (okL_keep _ _ _ _) (AZD _) (okL2_keep _ _ _ _) (by simp[AZC,AjC]) (fun t ht=>keep_val ht) ?_
 rintro⟨t,i⟩ hd
 have hmem:=dsOf_mem hd;have h7:=List.all_eq_true.1 c5 t hmem;simp only[Bool.and_eq_true,decide_eq_true_eq] at h7;refine⟨Ak0 h7.2,fun v tm hv htm=>?_⟩
 have:=(foldl_here (t:=t) (i:=i) s.ps.toList v.toList 0 tm c6 (by simpa using hv) (by rw[htm];exact h7.1) hd).1
 rw[←Array.foldl_toList,Array.toList_zip];show((s.ps.toList.zip v.toList).foldl (fun t d=>t.setIfInBounds d.1 d.2) tm).getD t undef=_
 rw[this];simp[List.getD_eq_getElem?_getD,Array.getD_eq_getD_getElem?]
end
end Go.Abs

namespace Go.Abs.Z
open Go.Proofs
theorem clf7:compLF Tryz.prog pur fi7 Tryz.f7=some lf7:=by kernel_rfl
theorem clf26:compLF Tryz.prog pur fi26 Tryz.f26=some lf26:=by kernel_rfl
theorem clf77:compLF Tryz.prog pur fi77 Tryz.f77=some lf77:=by kernel_rfl
theorem clf127:compLF Tryz.prog pur fi127 Tryz.f127=some lf127:=by kernel_rfl
end Go.Abs.Z

namespace Go.Abs.Z
def pWrite:Prim:=fun _ xs σ=>match xs with
 |[.ref id 0,.str s]=>match σ[id]? with
  |some [.bld t e l]=>if t=120∧e=5∧l.length+s.length≤4294967296 then some (.tuple [.int .i64 s.length,.nili],σ.set id [.bld t e (l++s)]) else none
  |_=>none
 |_=>none
def pString:Prim:=fun _ xs σ=>match xs with
 |[.ref id 0]=>match σ[id]? with
  |some [.bld t e l]=>if t=120∧e=5 then some (.str l,σ.set id [.dead]) else none
  |_=>none
 |_=>none
def AQK:Prim:=fun _ xs σ=>match xs with
 |[.str s,.int .u8 c]=>if 0≤c∧c<256 then some (.int .i64 (Lib.indexByte s c.toNat.toUInt8),σ) else none
 |_=>none
def isSl':PV→Bool
 |.slice _ _ _ | .nils=>true
 |_=>false
mutual

def nodeL:Nat→PV→Option (List PV)
 |0,_=>none
 |n+1,v=>match v with
  |.agg [.int .i64 _,.str _,.int .i64 _,.int .i64 _,x]=>match x with
   |.nils=>some [v]
   |.slice _ 5 ks=>(AzY n ks).map fun l=>v::l
   |_=>none
  |_=>none
def AzY:Nat→List PV→Option (List PV)
 |0,_=>none
 |n+1,vs=>match vs with
  |[]=>some []
  |v::vs=>match nodeL n v,AzY n vs with
   |some l,some r=>some (l++r)
   |_,_=>none
end
def inP(t n:PV):Option Bool:=match t,n with
 |.agg [.int .i64 k,.int .i64 _,.int .i64 a,.int .i64 e],.agg [.int .i64 _,.str _,.int .i64 st,.int .i64 en,x]=>if isSl' x then some (k != 5&&(decide (st≤a)&&decide (e≤en))) else none
 |_,_=>none
def anyP(t:PV):List PV→Option Bool
 |[]=>some false
 |k::ks=>match inP t k with
  |some true=>some true
  |some false=>anyP t ks
  |none=>none
def ownP(t n:PV)(kd:Int)(ks:List PV):Option Bool:=match inP t n,t with
 |some b,.agg (.int .i64 k::_)=>if b||(k==5&&kd==2) then(anyP t ks).map (! ·) else some false
 |_,_=>none
def ownsP(n:PV)(kd:Int)(ks:List PV):List PV→Option (List PV)
 |[]=>some []
 |t::ts=>match ownP t n kd ks,ownsP n kd ks ts with
  |some true,some l=>some (t::l)
  |some false,some l=>some l
  |_,_=>none
def isNd:PV→Bool
 |.agg [.int .i64 _,.str _,.int .i64 _,.int .i64 _,x]=>isSl' x
 |_=>false
def small(l:List PV):Bool:=decide (l.length≤1000000000)
def kidsP:PV→Option (List PV)
 |.nils=>some []
 |.slice _ 5 ks=>some ks
 |_=>none
def itr(gf:FuncId)(caps:List PV):Option (List (List PV)):=
 if gf=74 then match caps with
  |[.vptr v]=>match nodeL 1000000 v with
   |some l=>if small l then some (l.map fun x=>[x.Aq0]) else none
   |none=>none
  |_=>none
 else if gf=78 then match caps with
  |[.vptr (.agg [.str _,.int .i64 _,.str _,.int .i64 _,.int .i64 _,k0,.slice _ 4 toks,.bool _]),.vptr (.agg [.int .i64 kd,.str tx,.int .i64 st,.int .i64 en,kp])]=>
   if isSl' k0 then match kidsP kp with
    |some ks=>match ownsP (.agg [.int .i64 kd,.str tx,.int .i64 st,.int .i64 en,kp]) kd ks toks with
     |some l=>if small toks&&(small ks&&ks.all isNd) then some (l.map fun x=>[x.Aq0]) else none
     |none=>none
    |none=>none
   else none
  |_=>none
 else none
end Go.Abs.Z

namespace Go.Abs.Z
open Go.Proofs Go.RowKit
theorem ext_below{G:Gh}{K:Nat→Prop}{w w':World}{σ:Sto}(hpre:Pre K G w σ)(hb:Below w.heap.size w w'):Ext (fun _=>False) G G w w':=
 ⟨fun _ _ h=>h,⟨fun b o h=>cell_of_heap (hb.block b (hpre.lt b _ h)),fun b h=>hb.block b (hpre.lt b _ h)⟩,Bl.le_refl _,fun id hid hX g=>rfl,fun b tag h _=>⟨h,hb.block b (hpre.own b tag h).1,fun _ h=>h⟩⟩
theorem AQ6{G:Gh}{K:Nat→Prop}{w w':World}{σ:Sto}(hpre:Pre K G w σ)(hb:Below w.heap.size w w'):Aft K G w σ G w':=by
 have he:=ext_below hpre hb
 exact⟨fun b h=>hb.block b (hpre.Klt b h),he.same,fun _ _ h=>h,fun _ _ h=>.inl h,fun b x h=>Nat.lt_of_lt_of_le (hpre.lt b x h) hb.size,
  fun b tag h=>⟨Nat.lt_of_lt_of_le (hpre.own b tag h).1 hb.size,(hpre.own b tag h).2⟩,hb.size,Bl.le_refl _,hb.os,hb.tape,hb.output,fun id cs h=>(hpre.obj id cs h).ext he (fun _ h=>h),hpre.len,hpre.abl⟩
theorem AzH{f:FuncId}{vs:Array Value}{w:World}{n:Nat}{R:Ending→World→Prop}(h:Calls Tryz.prog f vs w R):CallsIn (FW none) n Tryz.prog f vs w R:=callsIn_wide.2 h
theorem AXQ{I:Imm}{bl:Bl}{w:World}{vs:Array Value}{p q:PV}(h:AxY I bl w vs.toList [p,q]):∃v u,vs=#[v,u]∧RepT I bl w v p∧RepT I bl w u q:=by
 obtain⟨v,h1,h2⟩:=h.2 0 p rfl;obtain⟨u,h3,h4⟩:=h.2 1 q rfl;have hl:=h.1
 match vs,hl,h1,h3 with
 |⟨[a,b]⟩,_,h1,h3=>
  simp at h1 h3;subst h1 h3;exact⟨a,b,rfl,h2,h4⟩
theorem AkU{I:Imm}{bl:Bl}{w:World}(l:List UInt8):RepT I bl w (.string ⟨l.toArray⟩) (.str l):=by
 have:=Rep.str (I:=I) (w:=w) ⟨l.toArray⟩;exact .one (.inl (by simpa using this))
end Go.Abs.Z

namespace Go.Abs.Z
open Go.Proofs Go.RowKit
set_option linter.unusedVariables false
theorem size111:(Tryz.prog.info? 120).map (·.size)=some 2:=by kernel_rfl
theorem lies111:liesAt Tryz.prog Tryz.prog.depth 120 (2 / Tryz.prog.cellsOf 120) 0 120 1=true:=by kernel_rfl
theorem info5:(Tryz.prog.info? 5).map (fun i=>(i.zero,i.size,i.bytes))=some (some (.int .u8 0),1,1):=by kernel_rfl
theorem cells5:Tryz.prog.cellsOf 5=1:=by kernel_rfl
set_option maxHeartbeats 1000000 in
set_option maxRecDepth 100000 in
theorem AJG(b:Nat)(w:World)(h0:w.cell? ⟨b,0,none⟩=some (.pointer (some ⟨b,0,none⟩))):
  Calls Tryz.prog 147 #[.pointer (some ⟨b,0,none⟩)] w fun e w'=>e=.returned (.tuple #[])∧w'=w:=by
 obtain⟨j,hj,_⟩:=Option.map_eq_some_iff.1 size111
 go_enter Tryz.func147,Tryz.ntmps147
 go_wp2
 rw[Lib.run_neq_ptr_same w _ Tryz.underlying117 hj]
 go_wp2
 go_end0
 exact⟨rfl,rfl⟩
set_option maxHeartbeats 1000000 in
set_option maxRecDepth 100000 in
theorem AJ0(b:Nat)(w:World)(h0:w.cell? ⟨b,0,none⟩=some (.pointer none))(hsh:w.shape? b=some (120,2))(hfz:w.frozen? ⟨b,0,none⟩=false):
  Calls Tryz.prog 147 #[.pointer (some ⟨b,0,none⟩)] w fun e w'=>e=.returned (.tuple #[])∧w'=w.setCell ⟨b,0,none⟩ (.pointer (some ⟨b,0,none⟩)):=by
 obtain⟨j,hj,hjs⟩:=Option.map_eq_some_iff.1 size111
 go_enter Tryz.func147,Tryz.ntmps147
 go_wp2
 rw[Lib.run_to_unsafe w ⟨b,0,none⟩ Tryz.underlying117 Tryz.underlying192 hj (by rw[hjs];decide) hsh (Nat.zero_lt_succ 1)]
 simp only[Result.andThen];rw[Oper.upon_value]
 go_wp2
 rw[run_callFunc_extern Tryz.func184 (by kernel_rfl) (by kernel_rfl) (by kernel_rfl) (e:=Extern.AbiNoEscape.same) (by kernel_rfl)]
 rw[Lib.run_noEscape];simp only[Result.andThen];rw[Oper.upon_value]
 go_wp2
 rw[Lib.run_from_unsafe w ⟨b,0,none⟩ Tryz.underlying192 Tryz.underlying117 hj hsh lies111];simp only[Result.andThen];rw[Oper.upon_value]
 go_wp2
 go_end0
 exact⟨rfl,rfl⟩
theorem app_exact{w:World}{v:Value}{l:List UInt8}(hown:w.ownsRow 0 5 1 v l.length (l.map fun c=>Value.int .u8 c.toNat))(s:ByteArray)(hb:l.length+s.size≤4294967296):
  ∃v' w',(∀ty,(Builtin.append_ #[118,9] ty #[v,.string s]).run Tryz.prog w=.ok v' w')∧w'.ownsRow 0 5 1 v' (l.length+s.size) ((l.map fun c=>Value.int .u8 c.toNat)++Lib.strCells s)∧
   w.grownBy w' v.ownBlock∧(v'.ownBlock=v.ownBlock∨v'.ownBlock=some w.heap.size):=by
 obtain⟨i0,hi,hz0,hz1,hz2⟩:=info_parts info5
 have key:∀ty,∃v' w',(Builtin.append_ #[118,9] ty #[v,.string s]).run Tryz.prog w=.ok v' w'∧w'.ownsRow 0 5 1 v' (l.length+s.size) ((l.map fun c=>Value.int .u8 c.toNat)++Lib.strCells s)∧
   w.grownBy w' v.ownBlock∧(v'.ownBlock=v.ownBlock∨v'.ownBlock=some w.heap.size):=by
  intro ty;obtain⟨v',w',hr,h2,h3,h4⟩:=Lib.run_append_own_string (P:=Tryz.prog) w 0 118 9 ty 5 i0 Tryz.underlying118 Tryz.underlying9 hi hz0 hz1 hz2 v l.length _ hown s (by unfold maxLen;omega) (by omega) (Nat.zero_le _)
  refine⟨v',w',hr,h2,h3,?_⟩
  have hsz:s.size=s.data.toList.length:=Lib.size_eq s
  obtain⟨news,hsrc,_⟩:=src_of (P:=Tryz.prog) (G:=⟨fun _ _=>False,fun _=>none,Bl.nil⟩) (w:=w) (size:=1) (by decide) (xT:=9) (.inr Tryz.underlying9) (bl:=Bl.nil) (v:=.string s) (x:=.str s.data.toList) (.one (.inl (.str s)))
   (xs:=s.data.toList.map fun b=>.int .u8 b.toNat) rfl (by rw[List.all_eq_true];intro p hp;obtain⟨_,_,rfl⟩:=List.mem_map.1 hp;rfl)
  rw[List.length_map,←hsz] at hsrc;have hs1:=hsrc;rw[←hz1] at hs1;rcases hown.2 with⟨rfl,hn0⟩ | ⟨g,cap,cur,rfl,_,hg,hnc,hcm,hcs,htake⟩
  ·by_cases hs0:s.size=0
   ·have:=h4.2 ⟨rfl,hs0⟩;rw[this];exact .inl rfl
   ·have hgr:=run_append_grow_src w 118 9 ty 5 i0 (.int .u8 0) Tryz.underlying118 hi hz0 none 0 0 [] (run_firstCells_none _ _ _ _ _) (.string s) s.size news hs1 (by omega) (by omega)
     (by rw[hz2];have:=nextslicecap_le (need:=0+s.size) (old:=0) (by omega);omega)
    rw[hgr] at hr;cases hr;exact .inr rfl
  ·by_cases hroom:l.length+s.size≤cap
   ·have hlen:news.length=s.size:=by rw[hsrc.newsLen];omega
    have hro:=run_append_room_src w 118 9 ty 5 i0 Tryz.underlying118 hi g 0 l.length cap (.string s) s.size news hs1 hroom
     (by intro j hj;rw[hz1];simp only[World.cell?,hg];simp;omega)
     (by intro j hj;simp[World.frozen?,hg])
    rw[hro] at hr;cases hr;exact .inl rfl
   ·have hgr:=run_append_grow_src w 118 9 ty 5 i0 (.int .u8 0) Tryz.underlying118 hi hz0 (some ⟨g,0,none⟩) l.length cap (l.map fun c=>Value.int .u8 c.toNat)
     (by
      rw[hz1];refine run_firstCells_some w.drew 1 l.length ⟨g,0,none⟩ _ _ _ (by simp) ?_
      intro j x hx;have hjl:j<l.length:=by have:=(List.getElem?_eq_some_iff.1 hx).1;simpa using this
      rw[Ax5,Nat.zero_add];show w.cell? ⟨g,j,none⟩=some x;simp only[World.cell?,hg];rw[←htake,Nat.mul_one,List.getElem?_take,if_pos hjl,Array.getElem?_toList] at hx
      exact hx) (.string s) s.size news hs1 (by omega) (by omega)
     (by rw[hz2];have:=nextslicecap_le (need:=l.length+s.size) (old:=cap) (by omega);omega)
    rw[hgr] at hr;cases hr;exact .inr rfl
 obtain⟨v',w',hr,h2,h3,h4⟩:=key 0;exact⟨v',w',fun ty=>hr,h2,h3,h4⟩
theorem setCell0{w:World}{b:Nat}{p v x:Value}{t:TypeId}(h:w.heap[b]?=some (.cells #[p,v] t (0,0))):(w.setCell ⟨b,0,none⟩ x).heap[b]?=some (.cells #[x,v] t (0,0)):=by
 simp only[World.setCell,Array.getElem?_modify,if_true,h];rfl
theorem setCell1{w:World}{b:Nat}{p v x:Value}{t:TypeId}(h:w.heap[b]?=some (.cells #[p,v] t (0,0))):(w.setCell ⟨b,1,none⟩ x).heap[b]?=some (.cells #[p,x] t (0,0)):=by
 simp only[World.setCell,Array.getElem?_modify,if_true,h];rfl
theorem Az1(w:World)(b o:Nat)(x:Value):AzO b w (w.setCell ⟨b,o,none⟩ x):=
 ⟨fun k hk=>Below.heap_setCell _ _ _ _ hk,by simp[World.setCell],rfl,rfl,rfl⟩
theorem copyCheck_any(b:Nat)(w:World)(p v:Value)(hp:p=.pointer none∨p=.pointer (some ⟨b,0,none⟩))(hbk:w.heap[b]?=some (.cells #[p,v] 120 (0,0))):
  Calls Tryz.prog 147 #[.pointer (some ⟨b,0,none⟩)] w fun e w'=>e=.returned (.tuple #[])∧(w'.heap[b]?=some (.cells #[.pointer (some ⟨b,0,none⟩),v] 120 (0,0))∧AzO b w w'):=by
 have hc:w.cell? ⟨b,0,none⟩=some p:=by simp[World.cell?,hbk]
 rcases hp with rfl | rfl
 ·refine(AJ0 b w hc (by simp[World.shape?,hbk]) (by simp[World.frozen?,hbk])).mono ?_
  rintro e w' ⟨rfl,rfl⟩
  exact⟨rfl,setCell0 hbk,Az1 ..⟩
 ·refine(AJG b w hc).mono ?_
  rintro e w' ⟨rfl,rfl⟩
  exact⟨rfl,hbk,⟨fun _ _=>rfl,rfl,rfl,rfl,rfl⟩⟩
theorem AwK{w w':World}{b:Nat}{v:Value}{n:Nat}{xs:List Value}(hob:AzO b w w')(hne:v.ownBlock≠some b)(h:w.ownsRow 0 5 1 v n xs):w'.ownsRow 0 5 1 v n xs:=by
 refine⟨h.1,?_⟩
 rcases h.2 with h | ⟨g,cap,cur,rfl,hb,hg,r⟩
 ·exact .inl h
 ·exact .inr ⟨g,cap,cur,rfl,hb,by rw[hob.other g (fun e=>hne (by rw[e];rfl))];exact hg,r⟩
theorem wpList_append_run{P:Program}{w:World}{ops:Array Oper}{rest:List Oper}{o:Oper}{a:Act}{Q:Exit→Act→World→Prop}(hgd:o.guard=none)(sl x:Operand)(t u:TypeId)
  (ho:o.op=.call { callee:=.builtin .append,args:=#[sl,x],argTypes:=#[t,u] }) {v y v':Value} {w':World} (hs:a.eval sl=v) (hx:a.eval x=y)
  (hr:∀ty,(Builtin.append_ #[t,u] ty #[v,y]).run P w=.ok v' w') (h:wpList P ops Q rest (a.put o.dst v') w'):wpList P ops Q (o::rest) a w:=by
 refine wpList_plain hgd fun K hK=>?_
 unfold Oper.wp execOp;simp only[ho,resolve,invoke,builtin,Sem.run_bind,Sem.run_pure,Result.andThen_ok,List.map_toArray,List.map_cons,List.map_nil,hs,hx,hr];exact hK _ _ h
def WPost(w:World)(b:Nat)(v:Value)(n:Nat)(xs:List Value)(e:Ending)(r:Value)(w':World):Prop:=
 e=.returned r∧∃v',w'.heap[b]?=some (.cells #[.pointer (some ⟨b,0,none⟩),v'] 120 (0,0))∧w'.ownsRow 0 5 1 v' n xs∧(v'.ownBlock=v.ownBlock∨v'.ownBlock=some w.heap.size)∧v'.ownBlock≠some b∧
  (∀k,k<w.heap.size→k≠b→some k≠v.ownBlock→w'.heap[k]?=w.heap[k]?)∧w.heap.size≤w'.heap.size∧w'.os=w.os∧w'.tape=w.tape∧w'.output=w.output
set_option maxHeartbeats 2000000 in
set_option maxRecDepth 100000 in
theorem writeString(b:Nat)(w:World)(p v:Value)(l:List UInt8)(s:ByteArray)(hp:p=.pointer none∨p=.pointer (some ⟨b,0,none⟩))(hbk:w.heap[b]?=some (.cells #[p,v] 120 (0,0)))
  (hown:w.ownsRow 0 5 1 v l.length (l.map fun c=>Value.int .u8 c.toNat)) (hne:v.ownBlock≠some b) (hlen:l.length+s.size≤4294967296) :
  Calls Tryz.prog 83 #[.pointer (some ⟨b,0,none⟩),.string s] w fun e w'=>WPost w b v (l.length+s.size) ((l.map fun c=>Value.int .u8 c.toNat)++Lib.strCells s) e (.tuple #[.int .i64 s.size,.nilIface]) w':=by
 go_enter Tryz.func83,Tryz.ntmps83
 go_wp2_with (go_at_call 147;refine(copyCheck_any b w p v hp hbk).mono ?_)
 rintro e w1 ⟨rfl,hb1,hob⟩
 obtain⟨v',w2,happ,hown2,hgrow,hblk⟩:=app_exact (AwK hob hne hown) s hlen
 have hlt:b<w1.heap.size:=by
  rcases Nat.lt_or_ge b w1.heap.size with h' | h'
  ·exact h'
  ·simp[Array.getElem?_eq_none h'] at hb1
 have hb2:w2.heap[b]?=some (.cells #[.pointer (some ⟨b,0,none⟩),v] 120 (0,0)):=by
  rw[hgrow.block b hlt (fun e=>hne e.symm)];exact hb1
 have c1:w1.cell? ⟨b,1,none⟩=some v:=by simp[World.cell?,hb1]
 have d1:w2.cell? ⟨b,1,none⟩=some v:=by simp[World.cell?,hb2]
 have f1:w2.frozen? ⟨b,1,none⟩=false:=by simp[World.frozen?,hb2]
 obtain⟨ao,n',cap,rfl⟩:∃ao n' cap,v'=.slice ao n' cap:=by
  rcases hown2.2 with⟨hv,_⟩ | ⟨g,cap,cur,hv,_⟩
  ·exact⟨_,_,_,hv⟩
  ·exact⟨_,_,_,hv⟩
 have HB2:=Lib.hid hb2;clear hb2;have HOB:=Lib.hid hob;clear hob;have HB1:=Lib.hid hb1;clear hb1;have HBK:=Lib.hid hbk;clear hbk;have HG:=Lib.hid hgrow;clear hgrow;have HBL:=Lib.hid hblk;clear hblk;have HN:=Lib.hid hne;clear hne;have HP:=Lib.hid hp;clear hp;have HA:=Lib.hid happ;clear happ
 go_wp2_with (at_builtin;refine wpList_append_run rfl _ _ 118 9 rfl rfl rfl HA.out ?_)
 go_ret2
 have hsz:w1.heap.size=w.heap.size:=HOB.out.size
 have hne2:(Value.slice ao n' cap).ownBlock≠some b:=by
  rcases HBL.out with h | h
  ·rw[h];exact HN.out
  ·rw[h];intro e;have:=Option.some.inj e;omega
 refine⟨rfl,.slice ao n' cap,setCell1 HB2.out,AwK (Az1 w2 b 1 _) hne2 hown2,?_,hne2,fun k hk hkb hkv=>?_,?_,?_,?_,?_⟩
 ·rcases HBL.out with h | h
  ·exact .inl h
  ·right;rw[h,hsz]
 ·rw[(Az1 w2 b 1 _).other k hkb,HG.out.block k (by omega) hkv,HOB.out.other k hkb]
 ·have:=HG.out.size;show w.heap.size≤(w2.setCell ⟨b,1,none⟩ _).heap.size;rw[(Az1 w2 b 1 _).size];omega
 ·show w2.os=_;rw[HG.out.os,HOB.out.os]
 ·show w2.tape=_;rw[HG.out.tape,HOB.out.tape]
 ·show w2.output=_;rw[HG.out.output,HOB.out.output]
theorem AZB(w:World)(g n:Nat):AzO g w (w.drew.freeze ⟨g,0,none⟩ n):=by
 refine⟨fun k hk=>?_,?_,?_,?_,?_⟩
 ·simp only[World.freeze];split
  ·rfl
  ·simp only[Array.getElem?_modify]
   rw[if_neg (fun e=>hk e.symm)];rfl
 all_goals (simp only[World.freeze];split<;>first | rfl | (rw[Array.size_modify];rfl))
set_option maxHeartbeats 1000000 in
set_option maxRecDepth 100000 in
theorem builderString(b g cap:Nat)(w:World)(p:Value)(cur:Array Value)(l:List UInt8)(h0:l≠[])(hbk:w.heap[b]?=some (.cells #[p,.slice (some ⟨g,0,none⟩) l.length cap] 120 (0,0)))(hg:w.heap[g]?=some (.cells cur 5 (0,0)))
  (hnc:l.length≤cap) (hcm:cap≤maxLen) (hcs:cur.size=cap * 1) (htake:cur.toList.take (l.length * 1)=l.map fun c=>Value.int .u8 c.toNat) :
  Calls Tryz.prog 84 #[.pointer (some ⟨b,0,none⟩)] w fun e w'=>e=.returned (.string ⟨l.toArray⟩)∧w'=w.drew.freeze ⟨g,0,none⟩ l.length:=by
 have hl0:l.length≠0:=by simpa using h0
 have c1:w.drew.cell? ⟨b,1,none⟩=some (.slice (some ⟨g,0,none⟩) l.length cap):=by
  have:w.drew.heap[b]?=some (.cells #[p,.slice (some ⟨g,0,none⟩) l.length cap] 120 (0,0)):=hbk;simp[World.cell?,this]
 have hSD:(Builtin.unsafeSliceData_ #[118] 165 #[.slice (some ⟨g,0,none⟩) l.length cap]).run Tryz.prog w.drew=.ok (.pointer (some ⟨g,0,none⟩)) w.drew:=
  Lib.run_unsafeSliceData_row _ _ _ _ _ _ (by omega)
 have hUS:(Builtin.unsafeString_ #[165,3] 9 #[.pointer (some ⟨g,0,none⟩),.int .i64 l.length]).run Tryz.prog w.drew=.ok (.string ⟨l.toArray⟩) (w.drew.freeze ⟨g,0,none⟩ l.length):=by
  refine Lib.run_unsafeString_row w.drew 165 3 9 5 Tryz.underlying165 cells5 g cur.size (by have hg':w.drew.heap[g]?=some (.cells cur 5 (0,0)):=hg;simp[World.shape?,hg']) l h0 (by omega) (by unfold maxLen at hcm;omega) ?_
  intro j x hx;rw[Ax5,Nat.zero_add];show w.cell? ⟨g,j,none⟩=_;have hj:j<l.length:=(List.getElem?_eq_some_iff.1 hx).1
  have:(l.map fun c=>Value.int .u8 c.toNat)[j]?=some (.int .u8 x.toNat):=by rw[List.getElem?_map,hx];rfl
  rw[←htake,Nat.mul_one,List.getElem?_take,if_pos hj,Array.getElem?_toList] at this
  simp[World.cell?,hg,this]
 clear htake hg
 go_enter Tryz.func84,Tryz.ntmps84
 go_wp2
 go_region
 all_goals (go_wp2;go_ret;exact⟨rfl,rfl⟩)
end Go.Abs.Z
