/- A part of the proof: A25 A26. -/
import Derived.Test.YtapgnmhobbgmiaaGreatDoorKac

set_option linter.unusedVariables false
set_option linter.unusedSimpArgs false
namespace Go.Abs
open Go.RowKit
section
variable{P:Program}{pur:FuncId→Bool}{call:Caller}{fi:FI}{cx:Cx}{G:Gh}{a:Act}{w:World}{A A':Frm}{σ σ':Sto}
structure Ih(b:Nat)(w w':World):Prop where
 other:∀k,k≠b→w'.heap[k]?=w.heap[k]?
 size:w'.heap.size=w.heap.size
 os:w'.os=w.os
 tape:w'.tape=w.tape
 output:w'.output=w.output
theorem QB{X:Tag→Prop}{b:Nat}{t0:Tag}{w':World}(h:Ih b w w')(hω:G.ω b=some t0)(hI:∀x,¬G.I b x)(hX:X t0):Ext X G G w w':=by
 have hne:∀b' x,G.I b' x→b'≠b:=fun b' x h e=>hI x (e▸h)
 refine⟨fun _ _ h=>h,⟨fun b' o h'=>cell_of_heap (h.other _ (hne _ _ h')),fun b' h'=>h.other _ (hne _ _ h')⟩,Bl.le_refl _,fun _ _ _ _=>rfl,fun b' tg h' hn=>⟨h',h.other _ ?_,fun _ h=>h⟩⟩
 intro e;subst e;rw[hω] at h';cases h';exact hn hX
theorem Uu(hb:Base cx G w){b:Nat}{t0:Tag}{w':World}(h:Ih b w w')(hω:G.ω b=some t0)(hI:∀x,¬G.I b x):Base cx G w':=by
 have hne:∀b' x,G.I b' x→b'≠b:=fun b' x h e=>hI x (e▸h)
 have hK:∀b',cx.K b'→b'≠b:=fun b' h e=>(hb.own b t0 hω).2 (e▸h)
 refine⟨fun b' h'=>?_,?_,hb.sub,hb.new,fun b' x h'=>by rw[h.size];exact hb.lt b' x h',fun b' tg h'=>by rw[h.size];exact hb.own b' tg h',hb.Klt,by rw[h.size];exact hb.grow,hb.bl,by rw[h.os];exact hb.os,by rw[h.tape];exact hb.tape,by rw[h.output];exact hb.output⟩
 ·rw[h.other _ (hK b' h')];exact hb.keep b' h'
 ·exact hb.same.trans (I':=G.I) ⟨fun b' o h'=>cell_of_heap (h.other _ (hne _ _ h')),fun b' h'=>h.other _ (hne _ _ h')⟩ hb.sub
theorem Ha{t:Nat}{v:PV}{keys:List Ky}(hk:cx.kd t=.mapb keys):Eg cx G a w t v↔(v=.mapb∧∃r,at' a t=.map (some r)∧Qb G w r (.slot t none) keys):=by
 unfold Eg;rw[hk]
theorem Iw{t m:Nat}{key:Ky}{v:PV}(hk:cx.kd t=.ent m key):Eg cx G a w t v↔∃k x ky r,v=.tuple [k,x]∧Pt k=some ky∧at' a m=.map (some r)∧Qa G w r (.slot m none) ky x∧ky=key:=by
 unfold Eg;rw[hk]
theorem Tm{t m:Nat}{key:Ky}(h:fi.kind t=.ent m key):t∈fi.KY m:=by
 unfold FI.KY;rw[Ck];refine⟨?_,by rw[h];simp⟩
 rw[CU];unfold FI.kind at h;by_cases hl:t<fi.kd.length
 ·exact hl
 ·rw[AC,BD (by omega)] at h;cases h
theorem lq{t m:Nat}(h:t∈fi.KY m):∃key,fi.kind t=.ent m key:=by
 unfold FI.KY at h;rw[Ck] at h;have h2:=h.2
 split at h2
 ·rename_i m' key hk;have:m'=m:=by simpa using h2
  subst this;exact⟨key,hk⟩
 ·cases h2
theorem vw(hi:Inv cx G a w A σ)(hkd:∀t,cx.kd t=fi.kind t){o:Oper}{t:TypeId}(ho:o.op=.makeMap t none){s:Nat}(hod:o.dst=some s)
  (hs:s<cx.nt) {keys:List Ky} (hk:cx.kd s=.mapb keys)
  (hrun:BU pur call { dst:=some s,k:=.p .mkm,args:=[],clr:=fi.KY s } A σ=some (A',σ')):Gives P cx o a w A' σ':=by
 obtain⟨vs,rs,he,hm,rfl,hA⟩:=AzN hrun;cases he;simp only[Be] at hm;cases hm;rw[hA _ rfl];have hext:=FN (G:=G) (fun tg=>tg=.slot s none) hi.base (.map #[] 0) (fun _=>False) (some (.slot s none))
 refine .inl ⟨.map (some w.heap.size),w.alloc (.map #[] 0),by simp[execOp,ho,Instr.makeMap],G.LH w.heap.size (fun _=>False) (some (.slot s none)),?_⟩
 rw[hod];refine hi.step _ (some s) _ hext (E9 hi.base _ _ _) (by rw[Eh];simp) ?_ (fun _ cs hc=>.inl ⟨hc,fun _ h=>by cases h⟩) hi.len hi.abl
 intro r q hq;obtain⟨hns,hq⟩:=ME _ _ _ _ hq;rw[Dk] at hq
 split at hq
 ·rename_i h;cases hq;refine .inr ?_
  rw[h.1,Ha hk];refine⟨rfl,w.heap.size,FO _ _ _ (by rw[hi.size];exact hs),if_pos rfl,?_,#[],0,heap_alloc_new' _ _,fun i e h=>by simp at h,fun i j e f h=>by simp at h⟩
  rintro x (h | ⟨_,h⟩)
  ·have:=hi.base.lt _ _ h;omega
  ·exact h
 ·rename_i h;have hrs:r≠s:=fun e=>h ⟨e,by have:=hi.room;omega⟩
  refine .inl ⟨hq,fun e=>hrs (Option.some.inj e).symm,fun j h=>by cases h;exact hrs rfl,fun d' off e hbx hdd=>?_,fun m hm=>?_⟩
  ·cases hdd;rw[hbx] at hk;cases hk
  ·obtain⟨key,hke⟩:=hm
   have:m≠s:=fun e=>by
    subst e;rw[hkd] at hke;exact hns (Tm hke)
   exact⟨fun e=>this (Option.some.inj e).symm,fun e=>by cases e;exact this rfl⟩
theorem ZM(k:Ky):Instr.sameBits 10000 k.val k.val=true:=by
 cases k with
 |i k n=>simp[Ky.val,Instr.sameBits]
 |s l=>
  simp only[Ky.val,Instr.sameBits];exact(Go.MapKept.bytes_beq _ _).2 rfl
theorem WY{t kt et:TypeId}(ht:P.underlying t=some (.map kt et)){d:TypeDesc}(hkt:P.underlying kt=some d)(hdk:(∃k,d=.int k)∨d=.string){k:Ky}(hint:k.isInt=d.isInt)
  {r clock:Nat} {es:Array MapEntry} (hheap:w.heap[r]?=some (.map es clock)) (hsk:∀(i:Nat) (e:MapEntry),es[i]?=some e→∃k',e.key=k'.val∧sameKind k k'=true)
  (hone:∀(i j:Nat) (e f:MapEntry),es[i]?=some e→es[j]?=some f→e.key=f.key→i=j) (v:Value) :
  ∃(w':World) (es':Array MapEntry) (clock':Nat),(Instr.mapUpdate t (.map (some r)) k.val v).run P w=.ok () w'∧Ih r w w'∧w'.heap[r]?=some (.map es' clock')∧
   (∃(i:Nat) (e:MapEntry),es'[i]?=some e∧e.key=k.val∧e.val=v)∧(∀(i:Nat) (e:MapEntry),es[i]?=some e→e.key≠k.val→es'[i]?=some e)∧
   (∀(i:Nat) (e:MapEntry),es'[i]?=some e→e.key=k.val∨es[i]?=some e)∧
   (∀(i j:Nat) (e f:MapEntry),es'[i]?=some e→es'[j]?=some f→e.key=f.key→i=j):=by
 have hdd:(∃i,d=.int i)∧(∃i n,k=.i i n)∨d=.string∧∃l,k=.s l:=by
  rcases hdk with⟨i,rfl⟩ | rfl
  ·cases k with
   |i j n=>exact .inl ⟨⟨i,rfl⟩,j,n,rfl⟩
   |s l=>simp[TypeDesc.isInt,Ky.isInt] at hint
  ·cases k with
   |i j n=>simp[TypeDesc.isInt,Ky.isInt] at hint
   |s l=>exact .inr ⟨rfl,l,rfl⟩
 have hck:=run_checkKey (P:=P) (w:=w) (empty:=false) hkt hdk k.val;have hget:(getObj r).run P w=.ok (.map es clock) w:=by simp[getObj,Sem.run,hheap]
 have hrl:r<w.heap.size:=by
  rcases Bc r w.heap.size with h | h
  ·exact h
  ·rw[Di h] at hheap;cases hheap
 have hset:∀o:Obj,Ih r w { w with heap:=w.heap.setIfInBounds r o }:=fun o=>
  ⟨fun k hk=>by show(w.heap.setIfInBounds r o)[k]?=_;rw[De (fun e=>hk e.symm)],by simp,rfl,rfl,rfl⟩
 have hseth:∀o:Obj,({ w with heap:=w.heap.setIfInBounds r o }:World).heap[r]?=some o:=fun o=>by
  show(w.heap.setIfInBounds r o)[r]?=_;simp[hrl]
 rcases LK hdd es.toList 0 (fun e he=>by
   obtain⟨i,hie⟩:=BL.1 he;rw[Ay] at hie;exact hsk i e hie) with⟨j,e,hej,hke,hfn⟩ | ⟨hno,hfn⟩
 ·rw[Ay] at hej;have hjl:j<es.size:=(Br.1 hej).1
  let es':=es.modify j fun e=>{ e with key:=k.val,val:=v }
  have hget':∀i,es'[i]?=if j=i then(es[i]?).map (fun e=>{ e with key:=k.val,val:=v }) else es[i]?:=fun i=>by
   show(es.modify j _)[i]?=_;rw[Cz]
  have hj':es'[j]?=some { e with key:=k.val,val:=v }:=by rw[hget',if_pos rfl,hej];rfl
  refine⟨{ w with heap:=w.heap.setIfInBounds r (.map es' clock) },es',clock,?_,hset _,hseth _,⟨j,_,hj',rfl,rfl⟩,fun i f hf hne=>?_,fun i f hf=>?_,fun i i' f f' hf hf' heq=>?_⟩
  ·have hst:(setObj r (.map es' clock)).run P w=.ok () { w with heap:=w.heap.setIfInBounds r (.map es' clock) }:=MapKept.run_setObj_map _ hheap
   have hkey:(Instr.keyThatStays (((es[j]?).map (·.key)).getD k.val) k.val).run P w=.ok k.val w:=by
    rw[hej];simp[Instr.keyThatStays,hke,ZM]
   simp only[Instr.mapUpdate,Sem.run_bind,run_underlying ht,Result.andThen_ok,hget,hck,MapKept.run_findKey hkt hfn,Bq,hkey];exact hst
  ·have hij:j≠i:=fun e'=>by subst e';rw[hej] at hf;cases hf;exact hne hke
   rw[hget',if_neg hij];exact hf
  ·rw[hget'] at hf
   split at hf
   ·obtain⟨e',_,rfl⟩:=Ac.1 hf;exact .inl rfl
   ·exact .inr hf
  ·have key:∀(i:Nat) (f:MapEntry),es'[i]?=some f→∃g,es[i]?=some g∧g.key=f.key:=fun i f hf=>by
    rw[hget'] at hf
    split at hf
    ·rename_i hji;subst hji;obtain⟨e',he',rfl⟩:=Ac.1 hf;rw[hej] at he';cases he';exact⟨e,hej,hke⟩
    ·exact⟨f,hf,rfl⟩
   obtain⟨g,hg,hgk⟩:=key i f hf;obtain⟨g',hg',hgk'⟩:=key i' f' hf';exact hone i i' g g' hg hg' (by rw[hgk,hgk',heq])
 ·let es':=es.push { key:=k.val,val:=v,born:=clock }
  have hget':∀i,es'[i]?=if i=es.size then some { key:=k.val,val:=v,born:=clock } else es[i]?:=fun i=>by
   show(es.push _)[i]?=_;rw[ED]
  have hno':∀(i:Nat) (f:MapEntry),es[i]?=some f→f.key≠k.val:=fun i f hf=>by
   rw[←Ay] at hf;exact hno f (Au hf)
  have hlt':∀(i:Nat) (f:MapEntry),es[i]?=some f→i≠es.size:=fun i f hf e=>by
   have:=(Br.1 hf).1;omega
  refine⟨{ w with heap:=w.heap.setIfInBounds r (.map es' (clock+1)) },es',clock+1,?_,hset _,hseth _,⟨es.size,_,by rw[hget',if_pos rfl],rfl,rfl⟩,fun i f hf hne=>?_,fun i f hf=>?_,fun i i' f f' hf hf' heq=>?_⟩
  ·have hst:(setObj r (.map es' (clock+1))).run P w=.ok () { w with heap:=w.heap.setIfInBounds r (.map es' (clock+1)) }:=MapKept.run_setObj_map _ hheap
   simp only[Instr.mapUpdate,Sem.run_bind,run_underlying ht,Result.andThen_ok,hget,hck,MapKept.run_findKey hkt hfn];exact hst
  ·rw[hget',if_neg (hlt' i f hf)];exact hf
  ·rw[hget'] at hf
   split at hf
   ·cases hf;exact .inl rfl
   ·exact .inr hf
  ·rw[hget'] at hf hf'
   split at hf
   ·split at hf'
    ·rename_i h1 h2;rw[h1,h2]
    ·cases hf;exact absurd heq.symm (hno' i' f' hf')
   ·split at hf'
    ·cases hf';exact absurd heq (hno' i f hf)
    ·exact hone i i' f f' hf hf' heq
theorem iV(hi:Inv cx G a w A σ)(hkd:∀t,cx.kd t=fi.kind t){o:Oper}{t kt et:TypeId}{m s:Nat}{kx x:Operand}(ho:o.op=.insert t (.tmp m) kx x)(hod:o.dst=none)
  (ht:P.underlying t=some (.map kt et)) {d:TypeDesc} (hkt:P.underlying kt=some d) (hdk:(∃k,d=.int k)∨d=.string) {key:Ky} (hint:key.isInt=d.isInt) {keys:List Ky} (hkm:cx.kd m=.mapb keys) (hks:cx.kd s=.ent m key)
  {az:List CQ} (hc:Ap fi [kx,x]=some az) (hrun:BU pur call { dst:=none,k:=.p (.ins key keys),args:=.slot m::az,ex:=[s] } A σ=some (A',σ')):Gives P cx o a w A' σ':=by
 obtain⟨vs,rs,he,hs,rfl,hA⟩:=NG rfl hrun;obtain⟨y1,zs,rfl,hy1,hz⟩:=AV hc;obtain⟨y2,zs,rfl,hy2,hz⟩:=AV hz;cases hz;obtain⟨c,qs,rfl,_,hq⟩:=Ar he;obtain⟨k,qs,rfl,hp1,hq⟩:=Ar hq;obtain⟨p,qs,rfl,hp2,hq⟩:=Ar hq;cases hq;obtain⟨hg,_⟩:=DT he;obtain⟨rfl,r,hr,hω,hI,es,clock,hheap,hes,hone⟩:=(Ha hkm).1 (hi.slot m c hg);simp only[Be] at hs
 split at hs
 ·rename_i k' hk'
  split at hs
  ·rename_i hf;obtain⟨rfl,hf1,hf2,hf3⟩:=hf;cases hs;have hkv:=Tv hk' (Bp hi hkd hy1 hp1 (OE hk'));have hrep:=((Bp hi hkd hy2 hp2 (IY hf3)).flat hf3).Ae
   obtain⟨w',es',clock',hrun',hob,hheap',⟨i0,e0,hi0,hk0,hv0⟩,hold,hnew,hone'⟩:=WY (P:=P) (w:=w) ht hkt hdk hint hheap (fun i e h=>by
    obtain⟨k2,hk2,e2⟩:=hes i e h;exact⟨k2,e2,Av.1 hf2 k2 hk2⟩) hone (a.eval x)
   have hext:=QB (X:=fun tg=>tg=.slot m none) hob hω hI rfl
   have hev:a.eval (.tmp m)=.map (some r):=hr;rw[hA rfl];refine .inr ⟨w',by simp[execOp,ho,hev,hkv,hrun'],G,?_⟩
   rw[hod];refine hi.step _ none undef hext (Uu hi.base hob hω hI) (by rw[Eh]) ?_ (fun _ cs hc=>.inl ⟨hc,fun _ h=>by cases h⟩) hi.len hi.abl
   intro u q hq;simp only[AOp.wr,Option.toList,Du,Az,Bj,Dm] at hq;rw[Dk] at hq
   split at hq
   ·rename_i h;cases hq;refine .inr ?_
    rw[h.1,Iw hks];exact⟨k,p.Ae,k',r,rfl,hk',hr,⟨hω,es',clock',i0,e0,hheap',hi0,hk0,by rw[hv0];exact hrep.mono hext.I hext.same⟩,rfl⟩
   ·rename_i h;by_cases hum:u=m
    ·subst hum;refine .inr ?_
     rw[hg] at hq;cases hq;rw[Ha hkm];refine⟨rfl,r,hr,hω,hI,es',clock',hheap',fun i e he=>?_,hone'⟩
     rcases hnew i e he with h' | h'
     ·exact⟨k',by simpa using hf1,h'⟩
     ·exact hes i e h'
    ·by_cases hue:∃key2,cx.kd u=.ent m key2
     ·obtain⟨key2,hue⟩:=hue;refine .inr ?_
      obtain⟨k2,x2,ky2,r2,rfl,h1,h2,⟨h3,es2,clock2,i2,e2,h4,h5,h6,h7⟩,rfl⟩:=(Iw hue).1 (hi.slot u q hq);rw[hr] at h2;cases h2;rw[hheap] at h4;cases h4;rw[Iw hue]
      have hne:ky2≠k':=fun e=>by
       subst e
       exact h ⟨cx.uniq u s m ky2 hue hks,by
        have:=Qw hq;rw[←cx.uniq u s m ky2 hue hks];exact this⟩
      refine⟨k2,x2,ky2,r,rfl,h1,hr,⟨hω,es',clock',i2,e2,hheap',hold i2 e2 h5 (by rw[h6];exact fun e=>hne (Wz e)),h6,h7.mono hext.I hext.same⟩,rfl⟩
     ·refine .inl ⟨hq,by simp,fun j h=>by cases h;exact hum rfl,fun _ _ _ _=>by simp,fun m' hm=>⟨by simp,fun e=>?_⟩⟩
      cases e;exact hue hm
  ·cases hs
 ·cases hs
theorem PM:∀(ks:List Ky) (ps vs:List PV),entries ks ps=some vs→ps.length=ks.length∧vs.length=ks.length∧∀(j:Nat) (k:Ky),ks[j]?=some k→∃a v,ps[j]?=some (.tuple [a,v])∧Pt a=some k∧vs[j]?=some v
 |[],[],vs,h=>by simp[entries] at h;subst h;exact⟨rfl,rfl,fun j k h=>by simp at h⟩
 |[],p::ps,vs,h=>by simp[entries] at h
 |k::ks,[],vs,h=>by simp[entries] at h
 |k::ks,p::ps,vs,h=>by
  cases p with
  |tuple xs=>
   rcases xs with _ | ⟨a,_ | ⟨v,_ | ⟨b,xs⟩⟩⟩
   ·simp[entries] at h
   ·simp[entries] at h
   ·simp only[entries] at h
    split at h
    ·rename_i k' vs' hk hv
     split at h
     ·rename_i e;subst e;cases h;obtain⟨h1,h2,h3⟩:=PM ks ps vs' hv;refine⟨by simp[h1],by simp[h2],fun j k hj=>?_⟩
      cases j with
      |zero=>simp at hj;subst hj;exact⟨a,v,rfl,hk,rfl⟩
      |succ j=>simpa using h3 j k (by simpa using hj)
     ·cases h
    ·cases h
   ·simp[entries] at h
  |_=>simp[entries] at h
theorem Wl:∀(ts:List Nat) (ps:List PV),BS A (ts.map .slot)=some ps→∀(j:Nat) (p:PV),ps[j]?=some p→∃t,ts[j]?=some t∧A.get t=some p
 |[],ps,h,j,p,hp=>by cases h;simp at hp
 |t::ts,ps,h,j,p,hp=>by
  obtain⟨q,qs,rfl,h1,h2⟩:=Ar h;cases j with
  |zero=>
   simp at hp;subst hp;exact⟨t,rfl,(DT h1).1⟩
  |succ j=>simpa using Wl ts qs h2 j p (by simpa using hp)
theorem vo(hi:Inv cx G a w A σ)(hkd:∀t,cx.kd t=fi.kind t)(hnt:cx.nt=fi.nt){o:Oper}{s u:Nat}(ho:o.op=.move (.tmp s))(hod:o.dst=some u){keys:List Ky}(hk:cx.kd s=.mapb keys)(hu:Dj fi u=true)
  (hrun:BU pur call { dst:=some u,k:=.p (.mvb keys),args:=.slot s::(fi.KY s).map .slot,ex:=[s],clr:=fi.KY s } A σ=some (A',σ')):Gives P cx o a w A' σ':=by
 obtain⟨vs,rs,he,hs,rfl,hA⟩:=NG rfl hrun;obtain⟨c,ps,rfl,_,hq⟩:=Ar he;obtain⟨hg,_⟩:=DT he;have huv:=Fx hkd hnt hu;obtain⟨rfl,r,hr,hω,hI,es,clock,hheap,hes,hone⟩:=(Ha hk).1 (hi.slot s c hg);simp only[Be] at hs;obtain⟨ws,hws,e⟩:=Ac.1 hs;cases e;obtain⟨hl1,hl2,hent⟩:=PM keys ps ws hws;have hus:u≠s:=fun e=>by rw[e,hk] at huv;simp[SK.val] at huv
 have hex:∀j:Nat,∃i:Nat,∀k:Ky,keys[j]?=some k→∃(e:MapEntry) (v:PV),es[i]?=some e∧e.key=k.val∧ws[j]?=some v∧Rep G.I w e.val v:=by
  intro j;cases hj:keys[j]? with
  |none=>exact⟨0,fun k h=>by cases h⟩
  |some k=>
   obtain⟨a',v,h1,h2,h3⟩:=hent j k hj;obtain⟨t,ht,hgt⟩:=Wl _ _ hq j _ h1;obtain⟨key,hkey⟩:=lq (Au ht);obtain⟨k2,x2,ky2,r2,e1,h4,h5,⟨h6,es2,clock2,i2,e2,h7,h8,h9,h10⟩,_⟩:=(Iw (by rw[hkd];exact hkey)).1 (hi.slot t _ hgt)
   cases e1;rw[hr] at h5;cases h5;rw[hheap] at h7;cases h7;rw[h2] at h4;cases h4;exact⟨i2,fun k' hk'=>by cases hk';exact⟨e2,v,h8,h9,h3,h10⟩⟩
 let ix:Nat→Nat:=fun j=>(hex j).choose
 have hix:∀(j:Nat) (k:Ky),keys[j]?=some k→∃(e:MapEntry) (v:PV),es[ix j]?=some e∧e.key=k.val∧ws[j]?=some v∧Rep G.I w e.val v:=fun j=>(hex j).choose_spec
 let J:Option Nat→Prop:=fun x=>x=none
 have hext:=TY (G:=G) (w:=w) (X:=fun tg=>tg=.slot s none) hω rfl J
 have hev:a.eval (.tmp s)=.map (some r):=hr;rw[hA rfl];refine .inl ⟨.map (some r),w,by simp[execOp,ho,hev],G.shut r J,?_⟩
 rw[hod];refine hi.step _ (some u) _ hext (Ny hi.base hω J) (by rw[Eh]) ?_ (fun _ cs hc=>.inl ⟨hc,fun _ h=>by cases h⟩) hi.len hi.abl
 intro t q hq;simp only[AOp.wr,Option.toList,BI,Bj,Dm] at hq;obtain⟨hnt',hq⟩:=ME _ _ _ _ hq;rw[Dk] at hq
 split at hq
 ·cases hq
 ·rename_i h1;have hts:t≠s:=fun e=>h1 ⟨e,by simp;exact Qw hg⟩
  rw[Dk] at hq
  split at hq
  ·rename_i h;cases hq;refine .inr ?_
   rw[h.1,BZ huv.2 rfl,FO _ _ _ (by rw[hi.size];exact huv.1)]
   refine⟨.one (.inl (.mapv ix (.inr ⟨rfl,rfl⟩) hheap hl2 hes hone (fun j k hj=>?_) (fun j e p he hp=>?_))),trivial⟩
   ·obtain⟨e,v,h1,h2,_⟩:=hix j k hj;rw[h1];simp[h2]
   ·have hj:j<keys.length:=by have:=(Ad.1 hp).1;omega
    obtain⟨e',v,h1,h2,h3,h4⟩:=hix j _ (Ah hj);rw[he] at h1;cases h1;rw[hp] at h3;cases h3;exact h4.mono hext.I hext.same
  ·rename_i h2;have htu:t≠u:=fun e=>h2 ⟨e,by have:=hi.room;omega⟩
   refine .inl ⟨hq,fun e=>htu (Option.some.inj e).symm,fun j h=>by cases h;exact hts rfl,fun d' off e hbx hdd=>?_,fun m hm=>?_⟩
   ·cases hdd;rw[hbx] at huv;simp[SK.val] at huv
   ·obtain⟨key,hke⟩:=hm
    have hms:m≠s:=fun e=>by
     subst e;rw[hkd] at hke;exact hnt' (Tm hke)
    refine⟨fun e=>?_,fun e=>by cases e;exact hms rfl⟩
    cases e;obtain⟨keys',hk'⟩:=cx.ents t u ⟨key,hke⟩;rw[hk'] at huv;simp[SK.val] at huv
end
end Go.Abs

namespace Go.Abs
open Go.RowKit
section
variable{P:Program}{pur:FuncId→Bool}{call:Caller}{fi:FI}{cx:Cx}{G:Gh}{a:Act}{w:World}{A A':Frm}{σ σ':Sto}
theorem J7{ao:AOp}(h:BU pur call ao A σ=some (A',σ')):
  ∃vs rs,BS A ao.args=some vs∧sem pur call ao.k vs σ=some (rs,σ')∧(rs.length=ao.dst.toList.length+ao.ex.length→A'=Dm A ao.wr (rs++ao.clr.map fun _=>none))∧
   (rs.length≠ao.dst.toList.length+ao.ex.length→A'=A∧ao.dst=none):=by
 unfold BU at h
 split at h
 ·rename_i vs hvs
  split at h
  ·rename_i rs σ₁ hs;refine⟨vs,rs,hvs,?_,fun hl=>?_,fun hl=>?_⟩
   ·split at h
    ·cases h;exact hs
    ·split at h<;>cases h;exact hs
   ·rw[if_pos hl] at h;cases h;rfl
   ·rw[if_neg hl] at h
    split at h
    ·rename_i hc;cases h;exact⟨rfl,by simpa using hc.1⟩
    ·cases h
  ·cases h
 ·cases h
theorem Zx(hi:Inv cx G a w A σ){s:Nat}{p:PV}(hnb:cx.kd s≠.box)(hg:A.get s=some p)(hr:p.Gi=true):Bz G.I G.bl w (at' a s) p:=by
 have h:=hi.slot s _ hg;have hf:p.free=true:=by cases p<;>first | rfl | cases hr
 cases hk:cx.kd s with
 |box=>exact absurd hk hnb
 |mapb keys=>have:=((Ha hk).1 h).1;subst this;cases hr
 |ent m key=>obtain⟨_,_,_,_,h,_⟩:=(Iw hk).1 h;subst h;cases hr
 |plain | imm | obj=>exact((BZ (by rw[hk];rfl) hf).1 h).1
theorem ZU(hi:Inv cx G a w A σ){s id off:Nat}(hnb:cx.kd s≠.box)(hg:A.get s=some (.ref id off)):∃b,G.bl.l[id]?=some b∧at' a s=.pointer (some ⟨b,off,none⟩):=
 (Zx hi hnb hg rfl).Jm
theorem Nj(hi:Inv cx G a w A σ){id b:Nat}(hb:G.bl.l[id]?=some b){cs:List PV}(hσ:σ[id]?=some cs)(hns:∀p,p.isSelf=true→cs≠[p]):F5 G w b (.obj id) cs:=by
 obtain⟨b',h1,h2⟩:=hi.obj id cs hσ;rw[hb] at h1;cases h1;rcases h2 with h2 | ⟨t,e,l,rfl,_⟩ | rfl | ⟨gen,size,es,rfl,_⟩ | ⟨d,z,ks,vs,rfl,_⟩
 rotate_right
 ·exact absurd rfl (hns (.mapo d z ks vs) rfl)
 ·exact h2
 ·exact absurd rfl (hns (.bld t e l) rfl)
 ·exact absurd rfl (hns .dead rfl)
 ·exact absurd rfl (hns (.arrv gen size es) rfl)
theorem OO{cs es:List PV}{gen size:Nat}(h:JH cs gen size=some es):cs=[.arrv gen size es]:=by
 unfold JH at h
 split at h
 ·split at h
  ·rename_i hc;cases h;obtain⟨rfl,rfl⟩:=hc;rfl
  ·cases h
 ·cases h
theorem PU(hi:Inv cx G a w A σ){id gen size:Nat}{es:List PV}(hσ:σ[id]?=some [.arrv gen size es]):Re G w id gen size es:=by
 obtain⟨b,h1,h2⟩:=hi.obj id _ hσ;rcases h2 with h2 | ⟨t,e,l,h,_⟩ | h | ⟨gen',size',es',h,h2⟩ | ⟨_,_,_,_,h,_⟩
 rotate_right
 ·cases h
 ·obtain⟨_,_,cs,_,_,_,h⟩:=h2;rcases h 0 _ rfl with⟨h,_⟩ | ⟨h,_⟩
  ·exact absurd h.free (by simp[PV.free])
  ·cases h
 ·cases h
 ·cases h
 ·cases h;exact h2
theorem Td{cs:List PV}(h:cs.any PV.isSelf=false):∀p,p.isSelf=true→cs≠[p]:=by
 rintro p hp rfl
 simp[hp] at h
theorem fP{cs:List PV}{off n:Nat}{ag:Bool}{v:PV}(h:sub (.agg cs) off n ag=some v)(hn0:n≠0):∀p,p.isSelf=true→cs≠[p]:=by
 rintro p hp rfl
 cases ag with
 |true=>
  simp only[sub] at h
  split at h
  ·rename_i hc;have h0:off=0:=by have:=hc.1;simp at this;omega
   have h1:n=1:=by have:=hc.1;simp at this;omega
   subst h0 h1;have:=hc.2;have:p.flat=true:=by simpa using this
   cases p<;>simp[PV.isSelf,PV.flat] at hp this
  ·cases h
 |false=>
  simp only[sub,PV.cells] at h;cases off with
  |zero=>simp[hp] at h
  |succ off=>simp at h
theorem lu{cs:List PV}{off:Nat}{v:PV}(h:cs[off]?=some v)(hs:v.Jt=true):∀p,p.isSelf=true→cs≠[p]:=by
 rintro p hp rfl
 cases off with
 |zero=>simp at h;subst h;cases p<;>simp[PV.Jt,PV.isSelf] at hs hp
 |succ off=>simp at h
theorem uW(cs:List PV)(off n:Nat)(ag:Bool):WH cs off n ag=sub (.agg cs) off n ag:=by cases ag<;>rfl
theorem oq(hi:Inv cx G a w A σ)(hkd:∀t,cx.kd t=fi.kind t)(hnt:cx.nt=fi.nt){o:Oper}{t:TypeId}{x:Operand}(ho:o.op=.load t x){n:Nat}{ag:Bool}(hn:Cv P t=some (n,ag))(hn0:n≠0)
  {az:List CQ} (hc:Ap fi [x]=some az) (hd:BC fi o.dst=true) (hrun:BU pur call { dst:=o.dst,k:=.r (.ld n ag),args:=az } A σ=some (A',σ')):Gives P cx o a w A' σ':=by
 obtain⟨vs,rs,he,hs,hA1,hA2⟩:=J7 hrun;simp only[sem] at hs;obtain⟨rs',hs2,e⟩:=Ac.1 hs;cases e;clear hs;obtain⟨y,zs,rfl,hy,hz⟩:=AV hc;cases hz;obtain⟨p,qs,rfl,hp,hq⟩:=Ar he;cases hq;cases p with
 |vptr v=>
  refine WW hi hkd hnt ho hn hc hd (pur:=pur) (call:=call) ?_
  unfold BU at hrun ⊢;dsimp only at hrun he ⊢;rw[he] at hrun ⊢;dsimp only[sem,Be,Fq] at hrun ⊢;exact hrun
 |ref id off=>
  obtain⟨b,hb,hv⟩:=(Bp hi hkd hy hp rfl).Jm;simp only[Fq] at hs2
  split at hs2
  ·rename_i cs hσ;obtain⟨v,hv',e⟩:=Ac.1 hs2;cases e;rw[uW] at hv';obtain⟨u,h1,h2⟩:=IB (P:=P) (c:=.agg cs) hn (Nj hi hb hσ (fP hv' hn0)) hv'
   have hA:A'=Jc A o.dst v.Ae:=by
    cases hdd:o.dst with
    |none=>
     rw[hdd] at hA2;exact(hA2 (by simp)).1
    |some d=>
     rw[hdd] at hA1;rw[hA1 rfl];rfl
   rw[hA];exact .inl ⟨u,w,by simp[execOp,ho,hv,h1],G,hi.NH (Ext.refl _ _ _) hi.base rfl o.dst (Ee hkd hnt hd) (by rw[Da];exact h2.free) h2.Ae (fun _ _=>Cr _)⟩
  ·cases hs2
 |aptr id gen size i off=>
  obtain⟨b,base,m,hb,hv⟩:=(Bp hi hkd hy hp rfl).Km;simp only[Fq] at hs2
  split at hs2
  ·rename_i cs hσ
   split at hs2
   ·rename_i es hes
    split at hs2
    ·rename_i e he';obtain⟨v,hv',e'⟩:=Ac.1 hs2;cases e';have:=OO hes;subst this;obtain⟨b',base',m',cs,elem,h1,_,_,_,h5,h6,h7,h8,h9⟩:=PU hi hσ;rw[hb] at h1;cases h1;obtain⟨hl,hall⟩:=h9 i e he';have hlt:=(Ad.1 he').1;have hmul:(i+1) * size≤es.length * size:=BB _ hlt;rw[BQ] at hmul;obtain⟨u,h1,h2⟩:=QO (P:=P) (I:=G.I) (bl:=G.bl) (base:=base+i * size) hn h5 (by omega) (fun j p hp _=>hall j p hp) hv'
     have hA:A'=Jc A o.dst v.Ae:=by
      cases hdd:o.dst with
      |none=>
       rw[hdd] at hA2;exact(hA2 (by simp)).1
      |some d=>
       rw[hdd] at hA1;rw[hA1 rfl];rfl
     rw[hA];exact .inl ⟨u,w,by simp[execOp,ho,hv,h1],G,hi.NH (Ext.refl _ _ _) hi.base rfl o.dst (Ee hkd hnt hd) (by rw[Da];exact h2.free) h2.Ae (fun _ _=>Cr _)⟩
    ·cases hs2
   ·cases hs2
  ·cases hs2
 |_=>simp[Fq] at hs2
theorem Inv.newObj(hi:Inv cx G a w A σ){d:Nat}(hd:d<cx.nt)(hk:(cx.kd d).val=true){cs:Array Value}{t:TypeId}{ps:List PV}(hrep:Ls G.I G.bl w cs.toList ps)
  (hown:∀(j:Nat) (q:PV),ps[j]?=some q→∀(G:Gh) (w:World) (tag:Tag) (c:Value),Eo G w tag c q) :
  Sim cx (a.put (some d) (.pointer (some ⟨w.heap.size,0,none⟩))) (w.alloc (.cells cs t)) (A.set d (some (.ref σ.length 0))) (σ++[ps]):=by
 let G1:=G.LH w.heap.size (fun _=>False) (some (.obj σ.length none))
 let G':Gh:={ G1 with bl:=⟨G.bl.l++[w.heap.size],G.bl.ab⟩ }
 have hext1:=FN (fun _=>False) hi.base (.cells cs t) (fun _=>False) (some (.obj σ.length none))
 have hext:Ext (fun _=>False) G G' w (w.alloc (.cells cs t)):=⟨hext1.I,hext1.same,⟨DW _ _,fun _ _ _ h=>h⟩,fun _ _ _ _=>rfl,hext1.fix⟩
 have hb1:=E9 hi.base (.cells cs t) (fun _=>False) (some (.obj σ.length none))
 have hbase:Base cx G' (w.alloc (.cells cs t)):=⟨hb1.keep,hb1.same,hb1.sub,hb1.new,hb1.lt,hb1.own,hb1.Klt,hb1.grow,hi.base.bl.trans ⟨DW _ _,fun _ _ _ h=>h⟩,hb1.os,hb1.tape,hb1.output⟩
 have hbl:G'.bl.l[σ.length]?=some w.heap.size:=by
  show(G.bl.l++[w.heap.size])[σ.length]?=_;rw[←hi.len];simp
 refine⟨G',hi.step _ (some d) _ hext hbase (by simp) ?_ ?_ ?_ (fun id g x h=>by have:=hi.abl id g x h;simp;omega)⟩
 ·intro s q hq;rw[Dk] at hq
  split at hq
  ·rename_i hc;cases hq;refine .inr ?_
   rw[hc.1,BZ hk rfl,FO _ _ _ (by rw[hi.size];exact hd)]
   exact⟨.one (.inr (.ref hbl)),trivial⟩
  ·rename_i hc;have hsd:s≠d:=fun e=>hc ⟨e,by have:=hi.room;omega⟩
   refine .inl ⟨hq,fun e=>hsd (Option.some.inj e).symm,fun j h=>h,fun d' off e hbx hdd=>?_,fun m hm=>⟨fun e=>?_,fun h=>h⟩⟩
   ·cases hdd;rw[hbx] at hk;simp[SK.val] at hk
   ·cases e;obtain⟨keys,hkm⟩:=cx.ents s d hm;rw[hkm] at hk;simp[SK.val] at hk
 ·intro id cs' hc;by_cases hid:id<σ.length
  ·rw[Ak hid] at hc;exact .inl ⟨hc,fun _ h=>h⟩
  ·have:id=σ.length:=by
    have:=(Ad.1 hc).1;simp at this;omega
   subst this;simp at hc;subst hc;refine .inr ⟨w.heap.size,hbl,.inl ⟨if_pos rfl,?_,cs,t,heap_alloc_new' _ _,by simpa using hrep.1,fun j r hr=>.inl ⟨?_,hown j r hr ..⟩⟩⟩
   ·rintro x (h | ⟨_,h⟩)
    ·have:=hi.base.lt _ _ h;omega
    ·exact h
   ·obtain⟨c,hc1,hc2⟩:=hrep.2 j r hr;rw[Ay] at hc1;rw[Aj,hc1];exact hc2.mono hext.I hext.same hext.bl
 ·show(G.bl.l++[w.heap.size]).length=_;simp[hi.len]
theorem vW(hi:Inv cx G a w A σ)(hkd:∀t,cx.kd t=fi.kind t){o:Oper}{t:TypeId}{x:Operand}(ho:o.op=.box t x){d:Nat}(hod:o.dst=some d)
  (hd:d<cx.nt) (hk:(cx.kd d).val=true)
  {az:List CQ} (hc:Ap fi [x]=some az) (hrun:BU pur call { dst:=some d,k:=.w .bxO,args:=az } A σ=some (A',σ')):Gives P cx o a w A' σ':=by
 obtain⟨vs,rs,he,hs,hA,_⟩:=J7 hrun;obtain⟨y,zs,rfl,hy,hz⟩:=AV hc;cases hz;obtain⟨p,qs,rfl,hp,hq⟩:=Ar he;cases hq;simp only[sem,EW] at hs
 split at hs
 ·rename_i hf;cases hs;rw[hA rfl];have hrep:=(Bp hi hkd hy hp (Lb hf)).Ae;refine .inl ⟨.pointer (some ⟨w.heap.size,0,none⟩),w.alloc (.cells (a.eval x).cells t),?_,?_⟩
  ·simp only[execOp,ho,Instr.box,newVar,newRow];rfl
  ·rw[hod];exact hi.newObj hd hk (Ls.Tc hrep (by rw[Je];exact hf)) (fun j q hq=>Ga hq)
 ·cases hs
theorem iY(hi:Inv cx G a w A σ){o:Oper}{t:TypeId}(ho:o.op=.alloc t){d:Nat}(hod:o.dst=some d)
  (hd:d<cx.nt) (hk:(cx.kd d).val=true) {z:PV} (hz:FH P t=some z)
  (hrun:BU pur call { dst:=some d,k:=.w (.alO z.cells),args:=[] } A σ=some (A',σ')):Gives P cx o a w A' σ':=by
 obtain⟨vs,rs,he,hs,hA,_⟩:=J7 hrun;cases he;simp only[sem,EW] at hs;cases hs;rw[hA rfl];unfold FH at hz
 split at hz
 ·rename_i it hit;obtain⟨zv,hzv,hzp⟩:=AL.1 hz;have hzr:Rep G.I w zv z:=F8 hzp;refine .inl ⟨.pointer (some ⟨w.heap.size,0,none⟩),w.alloc (.cells zv.cells t),?_,?_⟩
  ·have hzrun:(zeroValue t).run P w=.ok zv w:=by simp[zeroValue,typeInfo,hit,hzv]
   simp only[execOp,ho,Instr.alloc,Sem.run_bind,hzrun,Result.andThen_ok,newVar,newRow];rfl
  ·rw[hod];exact hi.newObj hd hk (.AwG (Mh.Qq hzr)) (VR hzp)
 ·cases hz
theorem vZ(hi:Inv cx G a w A σ){o:Oper}{t e:TypeId}(ho:o.op=.alloc t){d:Nat}(hod:o.dst=some d)
  (hd:d<cx.nt) (hk:(cx.kd d).val=true) (hz:FH P t=some (.agg [.nilp,.nils]))
  (hrun:BU pur call { dst:=some d,k:=.w (.alB t e),args:=[] } A σ=some (A',σ')):Gives P cx o a w A' σ':=by
 obtain⟨vs,rs,he,hs,hA,_⟩:=J7 hrun;cases he;simp only[sem,EW] at hs;cases hs;rw[hA rfl];unfold FH at hz
 split at hz
 ·rename_i it hit;obtain⟨zv,hzv,hzp⟩:=AL.1 hz;have hzr:Rep G.I w zv (.agg [.nilp,.nils]):=F8 hzp
  have hzc:zv.cells=#[.pointer none,.slice none 0 0]:=by
   cases hzr with
   |agg hl hr=>
    rename_i cs;have h0:=hr 0 _ rfl;have h1:=hr 1 _ rfl
    match cs,hl,h0,h1 with
    |⟨[x,y]⟩,_,h0,h1=>
     simp[Array.getD] at h0 h1;cases h0;cases h1;rfl
  let G1:=G.LH w.heap.size (fun _=>False) (some (.obj σ.length none))
  let G':Gh:={ G1 with bl:=⟨G.bl.l++[w.heap.size],G.bl.ab⟩ }
  have hext1:=FN (fun _=>False) hi.base (.cells zv.cells t) (fun _=>False) (some (.obj σ.length none))
  have hext:Ext (fun _=>False) G G' w (w.alloc (.cells zv.cells t)):=⟨hext1.I,hext1.same,⟨DW _ _,fun _ _ _ h=>h⟩,fun _ _ _ _=>rfl,hext1.fix⟩
  have hb1:=E9 hi.base (.cells zv.cells t) (fun _=>False) (some (.obj σ.length none))
  have hbase:Base cx G' (w.alloc (.cells zv.cells t)):=⟨hb1.keep,hb1.same,hb1.sub,hb1.new,hb1.lt,hb1.own,hb1.Klt,hb1.grow,hi.base.bl.trans ⟨DW _ _,fun _ _ _ h=>h⟩,hb1.os,hb1.tape,hb1.output⟩
  have hbl:G'.bl.l[σ.length]?=some w.heap.size:=by
   show(G.bl.l++[w.heap.size])[σ.length]?=_;rw[←hi.len];simp
  refine .inl ⟨.pointer (some ⟨w.heap.size,0,none⟩),w.alloc (.cells zv.cells t),?_,G',?_⟩
  ·have hzrun:(zeroValue t).run P w=.ok zv w:=by simp[zeroValue,typeInfo,hit,hzv]
   simp only[execOp,ho,Instr.alloc,Sem.run_bind,hzrun,Result.andThen_ok,newVar,newRow];rfl
  ·rw[hod];refine hi.step _ (some d) _ hext hbase (by simp[AOp.wr,Dm]) ?_ ?_ ?_ (fun id g x h=>by have:=hi.abl id g x h;simp;omega)
   ·intro s q hq;simp only[AOp.wr,Option.toList,Du,Az,Dm] at hq;rw[Dk] at hq
    split at hq
    ·rename_i hc;cases hq;refine .inr ?_
     rw[hc.1,BZ hk rfl,FO _ _ _ (by rw[hi.size];exact hd)]
     exact⟨.one (.inr (.ref hbl)),trivial⟩
    ·rename_i hc;have hsd:s≠d:=fun e=>hc ⟨e,by have:=hi.room;omega⟩
     refine .inl ⟨hq,fun e=>hsd (Option.some.inj e).symm,fun j h=>h,fun d' off e hbx hdd=>?_,fun m hm=>⟨fun e=>?_,fun h=>h⟩⟩
     ·cases hdd;rw[hbx] at hk;simp[SK.val] at hk
     ·cases e;obtain⟨keys,hkm⟩:=cx.ents s d hm;rw[hkm] at hk;simp[SK.val] at hk
   ·intro id cs' hc;by_cases hid:id<σ.length
    ·rw[Ak hid] at hc;exact .inl ⟨hc,fun _ h=>h⟩
    ·have:id=σ.length:=by
      have:=(Ad.1 hc).1;simp at this;omega
     subst this;simp at hc;subst hc;refine .inr ⟨w.heap.size,hbl,.inr (.inl ⟨t,e,[],rfl,if_pos rfl,?_,.pointer none,.slice none 0 0,.inl rfl,?_,⟨rfl,.inl ⟨rfl,rfl⟩⟩,fun g hg=>by cases hg⟩)⟩
     ·rintro x (h | ⟨_,h⟩)
      ·have:=hi.base.lt _ _ h;omega
      ·exact h
     ·rw[heap_alloc_new',hzc]
   ·show(G.bl.l++[w.heap.size]).length=_;simp[hi.len]
 ·cases hz
theorem Inv.Pi{G':Gh}{w':World}{X:Tag→Prop}{T:Nat→Prop}{id:Nat}{cs':List PV}(hi:Inv cx G a w A σ)(dst:Option Nat)(v:Value)(hdst:∀u,dst=some u→(cx.kd u).val=true)
  (hid:id<σ.length) (hobj:I9 G' w' id cs') (he:Ext X G G' w w') (hbase:Base cx G' w') (hbl:G'.bl.l=G.bl.l) (hab:∀k g x,G'.bl.ab k g=some x→k<σ.length)
  (hX:∀tg,X tg→(∃j,tg=.obj id j)∨∃t,tg=.slot t none∧T t) (hT:∀t,T t→(cx.kd t).val=true) (hl:A'.length=A.length)
  (hA:∀t p,A'.get t=some p→(¬T t∧dst≠some t∧A.get t=some p)∨Eg cx G' (a.put dst v) w' t p):Inv cx G' (a.put dst v) w' A' (σ.set id cs'):=by
 have hval:∀m,(cx.kd m).val=false→dst≠some m∧¬T m:=fun m hm=>by
  refine⟨fun e=>?_,fun e=>?_⟩
  ·rw[hdst m e] at hm;cases hm
  ·rw[hT m e] at hm;cases hm
 refine hi.step X dst v he hbase hl ?_ ?_ (by rw[hbl,CV];exact hi.len) (fun k g x h=>by rw[CV];exact hab k g x h)
 ·intro t p hp;rcases hA t p hp with⟨h2,h3,h4⟩ | h
  ·refine .inl ⟨h4,h3,fun j hx=>?_,fun d' off e hbx=>(hval d' (by rw[hbx];rfl)).1,fun m hm=>?_⟩
   ·rcases hX _ hx with⟨j',e⟩ | ⟨t',e,h⟩<;>cases e
    exact h2 h
   ·obtain⟨keys,hkm⟩:=cx.ents t m hm;have:=hval m (by rw[hkm];rfl)
    refine⟨this.1,fun hx=>?_⟩
    rcases hX _ hx with⟨j',e⟩ | ⟨t',e,h⟩<;>cases e
    exact this.2 h
  ·exact .inr h
 ·intro k cs hc;rw[Ew] at hc
  split at hc
  ·rename_i e;subst e;cases hc;exact .inr hobj
  ·rename_i hne;refine .inl ⟨hc,fun j hx=>?_⟩
   rcases hX _ hx with⟨j',e⟩ | ⟨t',e,h⟩<;>cases e
   exact hne rfl
theorem Inv.Pj{G':Gh}{w':World}{X:Tag→Prop}{T:Nat→Prop}{id:Nat}{cs':List PV}(hi:Inv cx G a w A σ)(dst:Option Nat)(v:Value)(hdst:∀u,dst=some u→(cx.kd u).val=true)
  (hid:id<σ.length) (hobj:I9 G' w' id cs') (he:Ext X G G' w w') (hbase:Base cx G' w') (hbl:G'.bl=G.bl)
  (hX:∀tg,X tg→(∃j,tg=.obj id j)∨∃t,tg=.slot t none∧T t) (hT:∀t,T t→(cx.kd t).val=true) (hl:A'.length=A.length)
  (hA:∀t p,A'.get t=some p→(¬T t∧dst≠some t∧A.get t=some p)∨Eg cx G' (a.put dst v) w' t p):Inv cx G' (a.put dst v) w' A' (σ.set id cs'):=
 hi.Pi dst v hdst hid hobj he hbase (by rw[hbl]) (by rw[hbl];exact hi.abl) hX hT hl hA
theorem TN{cs:Array Value}{ds:List Value}{k:Nat}(hk:k+ds.length≤cs.size)(j:Nat):
  ((cs.toList.take k++ds++cs.toList.drop (k+ds.length)).toArray).getD j undef=if k≤j∧j<k+ds.length then ds.getD (j - k) undef else cs.getD j undef:=by
 have hcl:cs.toList.length=cs.size:=by simp
 have e1:(cs.toList.take k).length=k:=by rw[Ba,hcl];omega
 rw[Aj,Dw,AP];by_cases h1:j<k
 ·rw[Ak (by omega),Cb,if_pos h1,if_neg (by omega),Ay,Aj]
 ·rw[Ao (by omega),e1]
  by_cases h2:j<k+ds.length
  ·rw[Ak (by omega),if_pos ⟨by omega,h2⟩,AC]
  ·rw[Ao (by omega),Cw,if_neg (by omega),show k+ds.length+(j - k - ds.length)=j from by omega,Ay,Aj]
theorem N8{ps qs:List PV}{k:Nat}(hk:k+qs.length≤ps.length)(j:Nat):(EX ps k qs)[j]?=if k≤j∧j<k+qs.length then qs[j - k]? else ps[j]?:=by
 have e1:(ps.take k).length=k:=by rw[Ba];omega
 unfold EX;rw[AP];by_cases h1:j<k
 ·rw[Ak (by omega),Cb,if_pos h1,if_neg (by omega)]
 ·rw[Ao (by omega),e1]
  by_cases h2:j<k+qs.length
  ·rw[Ak (by omega),if_pos ⟨by omega,h2⟩]
  ·rw[Ao (by omega),Cw,if_neg (by omega),show k+qs.length+(j - k - qs.length)=j from by omega]
theorem oh(hi:Inv cx G a w A σ)(hkd:∀t,cx.kd t=fi.kind t){o:Oper}{t:TypeId}{s:Nat}{x:Operand}(ho:o.op=.store t (.tmp s) x)(hod:o.dst=none)(hnb:cx.kd s≠.box){n:Nat}{ag:Bool}(hn:Cv P t=some (n,ag))
  {az:List CQ} (hc:Ap fi [x]=some az) (hrun:BU pur call { dst:=none,k:=.w (.st n),args:=.slot s::az } A σ=some (A',σ')):Gives P cx o a w A' σ':=by
 obtain⟨vs,rs,he,hs,hA,_⟩:=J7 hrun;obtain⟨y,zs,rfl,hy,hz⟩:=AV hc;cases hz;obtain⟨c,qs,rfl,_,hq⟩:=Ar he;obtain⟨p,qs,rfl,hp,hq⟩:=Ar hq;cases hq;obtain⟨hg,_⟩:=DT he;cases c with
 |ref id off=>
  simp only[sem,EW] at hs
  split at hs
  ·rename_i ps hσ
   split at hs
   ·rename_i hf;obtain⟨hf1,hf0,hf2,hf3,hf4⟩:=hf;cases hs;obtain⟨b,hb,hv⟩:=ZU hi hnb hg;obtain⟨hω,hI,cs,elem,hheap,hsz,hall⟩:=Nj hi hb hσ (Td hf4);have hrep:=(Bp hi hkd hy hp (Lb hf2)).Ae;have hok:p.Ae.okc=true:=by rw[Je];exact hf2
    have hcl:=Ls.Tc hrep hok;have hvs:(a.eval x).cells.size=n:=by have:=hcl.1;rw[Ea,hf1] at this;simpa using this
    let arr:Array Value:=(cs.toList.take off++(a.eval x).cells.toList++cs.toList.drop (off+(a.eval x).cells.toList.length)).toArray
    have hext:=Jj (G:=G) (w:=w) (X:=fun tg=>tg=.obj id none) hω hI rfl arr
    have hrun':(Instr.storeAt t (.pointer (some ⟨b,off,none⟩)) (a.eval x)).run P w=.ok () (w.setRow b arr):=
     Gv hn hheap hvs (Ta hrep hok (by rw[Jq];exact hf3)) (by omega)
    have hev:a.eval (.tmp s)=.pointer (some ⟨b,off,none⟩):=hv;rw[hA rfl];refine .inr ⟨w.setRow b arr,by simp[execOp,ho,hev,hrun'],G,?_⟩
    rw[hod];refine hi.Pj (X:=fun tg=>tg=.obj id none) (T:=fun _=>False) none undef (by simp) (Ad.1 hσ).1 ⟨b,hb,.inl ?_⟩ hext (IJ hi.base hω hI _) rfl (fun tg h=>.inl ⟨none,h⟩) (fun _ h=>h.elim) (by rw[Eh]) ?_
    ·refine KJ hω hI (setRow_heap _ _ _ _ _ _ hheap) hsz (by rw[Ea];omega) (by rw[Ea,hf1];simpa using hvs) ?_ ?_
     ·intro j q hq _;exact(hall j q hq).ext hext (by simp)
     ·intro j q hq;obtain⟨c,hc,hr⟩:=hcl.2 j q hq;exact⟨c,hc,.inl ⟨hr.mono hext.I hext.same hext.bl,Ga hq ..⟩⟩
    ·intro r q hq;exact .inl ⟨fun h=>h,by simp,hq⟩
   ·cases hs
  ·cases hs
 |aptr id gen size i off=>
  simp only[sem,EW] at hs
  split at hs
  ·rename_i ps hσ
   split at hs
   ·rename_i es hes
    split at hs
    ·rename_i e he'
     split at hs
     ·rename_i hf;obtain⟨hf1,hf2,hf3⟩:=hf;obtain⟨e',hup,ee⟩:=Ac.1 hs;cases ee;have:=OO hes;subst this;obtain⟨b0,base0,n0,hb,hv⟩:=(Zx hi hnb hg rfl).Km;obtain⟨b',base,m,cs,elem,h1,h2,hω,hI,hheap,h6,h7,h8,h9⟩:=PU hi hσ;rw[hb] at h1;cases h1;obtain⟨hl,hall⟩:=h9 i e he';have hlt:=(Ad.1 he').1;have hmul:(i+1) * size≤es.length * size:=BB _ hlt;rw[BQ] at hmul;obtain⟨hce,hle⟩:=M9 hup;have hrep:=(Bp hi hkd hy hp (Lb hf2)).Ae;have hok:p.Ae.okc=true:=by rw[Je];exact hf2
      have hcl:=Ls.Tc hrep hok;have hdl:p.Ae.cells.length=n:=by rw[Ea,hf1]
      have hvs:(a.eval x).cells.size=n:=by have:=hcl.1;rw[hdl] at this;simpa using this
      have hvl:(a.eval x).cells.toList.length=n:=by simpa using hvs
      let k:=base0+i * size+off
      let arr:Array Value:=(cs.toList.take k++(a.eval x).cells.toList++cs.toList.drop (k+(a.eval x).cells.toList.length)).toArray
      have hkn:k+n≤cs.size:=by show base0+i * size+off+n≤cs.size;omega
      have hext:=Jj (G:=G) (w:=w) (X:=fun tg=>tg=.obj id none) hω hI rfl arr
      have hrun':(Instr.storeAt t (.pointer (some ⟨b0,k,none⟩)) (a.eval x)).run P w=.ok () (w.setRow b0 arr):=
       Gv hn hheap hvs (Ta hrep hok (by rw[Jq];exact hf3)) hkn
      have hev:a.eval (.tmp s)=.pointer (some ⟨b0,k,none⟩):=hv;rw[hA rfl];refine .inr ⟨w.setRow b0 arr,by simp[execOp,ho,hev,hrun'],G,?_⟩
      rw[hod];obtain⟨bo,hbo,_⟩:=hi.obj id _ hσ
      refine hi.Pj (X:=fun tg=>tg=.obj id none) (T:=fun _=>False) none undef (by simp) (Ad.1 hσ).1
       ⟨bo,hbo,.inr (.inr (.inr (.inl ⟨gen,size,es.set i e',rfl,b0,base0,n0,arr,elem,hb,h2,hω,hI,setRow_heap _ _ _ _ _ _ hheap,?_,h7,by rw[CV];exact h8,?_⟩)))⟩ hext (IJ hi.base hω hI _) rfl (fun tg h=>.inl ⟨none,h⟩) (fun _ h=>h.elim) (by rw[Eh]) ?_
      ·show arr.size=n0;simp only[arr,BX,Af,Ba,AU,hvl,Array.length_toList];omega
      ·intro i' e'' hi';rw[Ew] at hi'
       split at hi'
       ·rename_i hii;subst hii;cases hi';rw[hce];refine⟨by unfold EX;simp only[Af,Ba,AU];omega,fun j q hq=>?_⟩
        rw[N8 hle] at hq;show Bz G.I G.bl _ (arr.getD (base0+i * size+j) undef) q;rw[show arr.getD (base0+i * size+j) undef=_ from TN (by rw[hvl];exact hkn) _]
        split at hq
        ·rename_i hc;obtain⟨c,hc1,hc2⟩:=hcl.2 _ _ hq;rw[if_pos (by show base0+i * size+off≤_∧_<base0+i * size+off+_;rw[hvl,←hdl];omega)]
         rw[show base0+i * size+j - k=j - off by show base0+i * size+j - (base0+i * size+off)=_;omega,AC,hc1]
         exact hc2.mono hext.I hext.same hext.bl
        ·rename_i hc;rw[if_neg (by show ¬(base0+i * size+off≤_∧_<base0+i * size+off+_);rw[hvl,←hdl];omega)]
         exact(hall j q hq).mono hext.I hext.same hext.bl
       ·rename_i hii;obtain⟨q1,q2⟩:=h9 i' e'' hi';refine⟨q1,fun j q hq=>?_⟩
        have hj:j<size:=by rw[←q1];exact(Ad.1 hq).1
        show Bz G.I G.bl _ (arr.getD (base0+i' * size+j) undef) q;rw[show arr.getD (base0+i' * size+j) undef=_ from TN (by rw[hvl];exact hkn) _]
        rw[if_neg]
        ·exact(q2 j q hq).mono hext.I hext.same hext.bl
        ·show ¬(base0+i * size+off≤_∧_<base0+i * size+off+_);rw[hvl];rcases Nat.lt_or_gt_of_ne hii with hlt' | hgt'
         ·have:(i+1) * size≤i' * size:=BB _ hlt';rw[BQ] at this;omega
         ·have:(i'+1) * size≤i * size:=BB _ hgt';rw[BQ] at this;omega
      ·intro r q hq;exact .inl ⟨fun h=>h,by simp,hq⟩
     ·cases hs
    ·cases hs
   ·cases hs
  ·cases hs
 |_=>simp[sem,EW] at hs
theorem jB{c:PV}{r:List (Option PV)×Sto}(h:EW pur call .ldo [c] σ=some r):∃id off cs v,c=.ref id off∧σ[id]?=some cs∧cs[off]?=some v∧v.Jt=true∧r=([some v],σ.set id (EX cs off [v.Ae])):=by
 cases c with
 |ref id off=>
  simp only[EW] at h
  split at h
  ·rename_i cs hσ
   split at h
   ·rename_i v hv;cases v<;>first | (cases h;done) | (cases h;exact⟨id,off,cs,_,rfl,hσ,hv,rfl,rfl⟩)
   ·cases h
  ·cases h
 |_=>simp[EW] at h
theorem vH(hi:Inv cx G a w A σ)(hkd:∀t,cx.kd t=fi.kind t)(hnt:cx.nt=fi.nt){o:Oper}{t:TypeId}{x:Operand}{u:Nat}(ho:o.op=.load t x)(hod:o.dst=some u){n:Nat}(hn:Cv P t=some (n,false))
  (hu:Dj fi u=true) {az:List CQ} (hc:Ap fi [x]=some az) (hrun:BU pur call { dst:=some u,k:=.w .ldo,args:=az } A σ=some (A',σ')):Gives P cx o a w A' σ':=by
 obtain⟨vs,rs,he,hs,hA,_⟩:=J7 hrun;obtain⟨y,zs,rfl,hy,hz⟩:=AV hc;cases hz;obtain⟨c,qs,rfl,hp,hq⟩:=Ar he;cases hq;simp only[sem] at hs;obtain⟨id,off,ps,v,rfl,hσ,hv,hsl,e⟩:=jB hs;cases e;have huv:=Fx hkd hnt hu;obtain⟨b,hb,hev⟩:=(Bp hi hkd hy hp rfl).Jm;have hcell:=Nj hi hb hσ (lu hv hsl)
 have hsub:sub (.agg ps) off n false=some v:=by
  simp only[sub,PV.cells,hv];rw[if_neg];intro e;cases v<;>simp[PV.isAgg,PV.isSelf,PV.Jt] at e hsl
 obtain⟨x',hr1,hr2⟩:=IB (P:=P) (c:=.agg ps) hn hcell hsub;have hcell':=hcell;obtain⟨hω,hI,cs,elem,hheap,hsz,hall⟩:=hcell;have hlt:off<cs.size:=by have:=(Ad.1 hv).1;omega
 have hx:x'=cs.getD off undef:=by
  have:(Instr.loadAt t (.pointer (some ⟨b,off,none⟩))).run P w=.ok (cs.getD off undef) w:=by
   have hcc:w.cell? ⟨b,off,none⟩=some (cs.getD off undef):=by simp[World.cell?,hheap,Array.getD,hlt]
   simp[Instr.loadAt,Instr.sureAddr,loadVar,Jd hn,hcc]
  rw[this] at hr1;cases hr1;rfl
 subst hx;obtain⟨G',e1,e2,hext,hbase,how⟩:=YD (t1:=.slot u none) hi.base ((hall off v hv).rep (Nn hsl)).2;rw[hA rfl];refine .inl ⟨cs.getD off undef,w,by simp[execOp,ho,hev,hr1],G',?_⟩
 rw[hod];refine hi.Pj (X:=fun tg=>tg=.obj id (some off)) (T:=fun _=>False) (some u) _ (fun u' e=>by cases e;exact huv.2) (Ad.1 hσ).1 ⟨b,by rw[e2];exact hb,.inl ?_⟩ hext hbase e2 (fun tg h=>.inl ⟨_,h⟩) (fun _ h=>h.elim) (by rw[Eh]) ?_
 ·exact Ul (Nn hsl) hcell' hv e1 hext (fun i j e=>by cases e;rfl)
 ·intro r q hq;simp only[AOp.wr,Option.toList,Du,Az,Dm] at hq;rw[Dk] at hq
  split at hq
  ·rename_i h;cases hq;refine .inr ?_
   rw[h.1,BZ huv.2 (JR hsl),FO _ _ _ (by rw[hi.size];exact huv.1)]
   exact⟨hr2.mono hext.I hext.same hext.bl,how⟩
  ·rename_i h;exact .inl ⟨fun h=>h,fun e=>h ⟨(Option.some.inj e).symm,by have:=hi.room;omega⟩,hq⟩
theorem uX{c v:PV}{r:List (Option PV)×Sto}(h:EW pur call .sto [c,v] σ=some r):∃id off cs,c=.ref id off∧σ[id]?=some cs∧v.Jt=true∧off+1≤cs.length∧cs.any PV.isSelf=false∧r=([some v.Ae],σ.set id (EX cs off [v])):=by
 cases c with
 |ref id off=>
  simp only[EW] at h
  split at h
  ·rename_i cs hσ;cases v<;>first | (cases h;done) | (dsimp only at h;split at h<;>first | (cases h;done) | (rename_i hc;cases h;exact⟨id,off,cs,rfl,hσ,rfl,hc.1,hc.2,rfl⟩))
  ·cases h
 |_=>simp[EW] at h
theorem u6(hi:Inv cx G a w A σ)(hkd:∀t,cx.kd t=fi.kind t)(hnt:cx.nt=fi.nt){o:Oper}{t:TypeId}{s u:Nat}(ho:o.op=.store t (.tmp s) (.tmp u))(hod:o.dst=none)(hnb:cx.kd s≠.box){n:Nat}{ag:Bool}(hn:Cv P t=some (n,ag))(hn1:n=1)
  (hu:Dj fi u=true) (hrun:BU pur call { dst:=none,k:=.w .sto,args:=[.slot s,.slot u],ex:=[u] } A σ=some (A',σ')):Gives P cx o a w A' σ':=by
 subst hn1;obtain⟨vs,rs,he,hs,hA,_⟩:=J7 hrun;obtain⟨c,qs,rfl,_,hq⟩:=Ar he;obtain⟨p,qs,rfl,hp,hq'⟩:=Ar hq;cases hq';obtain⟨hgs,_⟩:=DT he;simp only[sem] at hs;obtain⟨id,off,ps,rfl,hσ,hsl,hle,hns,e⟩:=uX hs;cases e;have huv:=Fx hkd hnt hu;obtain⟨b,hb,hev'⟩:=ZU hi hnb hgs;obtain⟨hrT,how⟩:=Mo hi huv.2 hp (JR hsl);have hrep:=bY hrT hsl;obtain⟨G',e1,e2,hext1,hbase1,how1⟩:=YD (t1:=.obj id (some off)) hi.base how;obtain⟨hω,hI,cs,elem,hheap,hsz,hall⟩:=Nj hi hb hσ (Td hns);have hω':G'.ω b=some (.obj id none):=(hext1.fix b _ hω (by simp)).1
 have hI':∀x,¬G'.I b x:=by rw[e1];exact hI
 have hvc:=bX hrep hsl
 let arr:Array Value:=(cs.toList.take off++(at' a u).cells.toList++cs.toList.drop (off+(at' a u).cells.toList.length)).toArray
 have hext2:=Jj (G:=G') (w:=w) (X:=fun tg=>tg=.obj id none) hω' hI' rfl arr
 have hext:Ext (fun tg=>tg=.slot u none∨tg=.obj id none) G G' w (w.setRow b arr):=(hext1.weaken (fun _ h=>.inl h)).trans (hext2.weaken (fun _ h=>.inr h))
 have hrun':(Instr.storeAt t (.pointer (some ⟨b,off,none⟩)) (at' a u)).run P w=.ok () (w.setRow b arr):=
  Gv hn hheap (by rw[hvc];rfl) (Pf hrep (V5 hsl)) (by rw[hsz];exact hle)
 have hev:a.eval (.tmp s)=.pointer (some ⟨b,off,none⟩):=hev';have hevu:a.eval (.tmp u)=at' a u:=rfl;rw[hA rfl];refine .inr ⟨w.setRow b arr,by simp[execOp,ho,hev,hevu,hrun'],G',?_⟩
 rw[hod];refine hi.Pj (X:=fun tg=>tg=.slot u none∨tg=.obj id none) (T:=fun t=>t=u) none undef (by simp) (Ad.1 hσ).1 ⟨b,by rw[e2];exact hb,.inl ?_⟩ hext (IJ hbase1 hω' hI' _) e2 ?_ (fun t h=>by rw[h];exact huv.2) (by rw[Eh]) ?_
 ·refine KJ hω' hI' (setRow_heap _ _ _ _ _ _ hheap) hsz hle (by rw[hvc];rfl) ?_ ?_
  ·intro j q hq _;exact((hall j q hq).ext hext1 (by simp)).ext hext2 (by simp)
  ·intro j q hq;cases j with
   |zero=>
    simp at hq;subst hq;exact⟨at' a u,by rw[hvc];rfl,.inl ⟨.one (.inl (hrep.mono hext.I hext.same)),how1.ext hext2 (by simp)⟩⟩
   |succ j=>simp at hq
 ·intro tg h;rcases h with h | h
  ·exact .inr ⟨u,h,rfl⟩
  ·exact .inl ⟨none,h⟩
 ·intro r q hq;simp only[AOp.wr,Option.toList,Du,Az,Bj,Dm] at hq;rw[Dk] at hq
  split at hq
  ·rename_i h;cases hq;refine .inr ?_
   rw[h.1,BZ huv.2 (by rw[Da];exact JR hsl)]
   exact⟨.one (.inl (hrep.mono hext.I hext.same).Ae),Cr p⟩
  ·rename_i h1;exact .inl ⟨fun e=>h1 ⟨e,by have:=hi.room;omega⟩,by simp,hq⟩
end
end Go.Abs
