/- A part of the proof: VE VF VG VH VI VJ VK VL VM VN. -/
import Derived.Test.YtgkkkgbknfhbaaaGreatDoorKbc
import Derived.Test.YtgkkkgbknfhbaaaGreatDoorKax

set_option linter.all false
namespace Go.Abs.Z
open Go.Proofs Go.RowKit
section
variable{f g:FuncId}{cs r ks:List PV}{m:Int}{T:Tr}
def Xt(w:T.wf)(i:T.kids.length<100000)(c:Kt (.func g [] r)):∀(n j:Nat),j+n=T.kids.length->
  (LL MC 0 [(2,some (.vptr (.agg [.func f [] cs,.nils,.func g [] r,I m]))),(42,some T.kp),(43,some (N T.kids.length)),(44,some (N j))] [] (.exit 0) [] []) \/
  (LL MC 0 [(2,some (.vptr (.agg [.func f [] cs,.nils,.func g [] r,I m]))),(42,some T.kp),(43,some (N T.kids.length)),(44,some (N j))] [] .ret [(4,some (.bool false))] [])
 |0,j,h=>.inl (AJJ (c.1.ld []) am)
 |n+1,j,h=>by
  have e:=Af (show j<T.kids.length by omega)
  obtain⟨b,d⟩:=c.2 (T.kids[j]).kind [];cases b with
  |false=>exact .inr (AJL (c.1.ld []) w am e d)
  |true=>exact(Xt w i c n (j+1) am).imp (qV (c.1.ld []) w am e d am) (qV (c.1.ld []) w am e d am)
def Xr(w:T.wf)(o:T.kids.length<100000)(l:∀g∈ks,Kt g)(p:T.kids.length=ks.length):∀(n j:Nat),j+n=T.kids.length->
  (LL MC 0 [(2,some (.vptr (.agg [.func f [] cs,.slice false 1 ks,.nilf,I m]))),(42,some T.kp),(43,some (N T.kids.length)),(44,some (N j))] [] (.exit 0) [] []) \/
  (LL MC 0 [(2,some (.vptr (.agg [.func f [] cs,.slice false 1 ks,.nilf,I m]))),(42,some T.kp),(43,some (N T.kids.length)),(44,some (N j))] [] .ret [(4,some (.bool false))] [])
 |0,j,h=>.inl (AJF am)
 |n+1,j,h=>by
  have k:=Af (show j<T.kids.length by omega)
  have d:=Af (show j<ks.length by omega)
  have c:=l _ (Cg (show j<ks.length by omega))
  obtain⟨g,r,e⟩:=c.1.fn;rw[e] at d c;obtain⟨b,i⟩:=c.2 (T.kids[j]).kind [];cases b with
  |false=>exact .inr (AJH w am k d (c.1.ld []) i)
  |true=>exact(Xr w o l p n (j+1) am).imp (qU w am k d (c.1.ld []) i am) (qU w am k d (c.1.ld []) i am)
end
def BxQ{k:Int}{v:PV}(o:En k v)(T:Tr)(w:T.wf)(j:T.kids.length<100000):∃b,E 120 [v,T.pv] [] (.bool b) []/\(b=true->Cl T.text/\ndK k<=T.kids.length):=by
 cases o with
 |none h l=>
  obtain⟨f,cs,rfl⟩:=h.1.fn;obtain⟨b,a,i⟩:=h.2 T.text [];cases b with
  |false=>exact⟨_,qR (h.1.ld []) a,nofun⟩
  |true=>
   by_cases c:(T.kids.length:Int)=0
   ·exact⟨_,AJO (h.1.ld []) a w c (AJN am),λ_=>⟨i rfl,am⟩⟩
   ·exact⟨_,Bj0 (h.1.ld []) a w c,nofun⟩
 |@list _ G m h l e=>
  obtain⟨f,cs,rfl⟩:=h.1.fn;obtain⟨g,p,rfl⟩:=e.1.fn;obtain⟨b,a,i⟩:=h.2 T.text [];cases b with
  |false=>exact⟨_,qR (h.1.ld []) a,nofun⟩
  |true=>
   by_cases c:(T.kids.length:Int) < m
   ·exact⟨_,BzY (e.1.ld []) (h.1.ld []) a w c,nofun⟩
   ·rcases Xt (f:=f) (cs:=cs) (m:=m) w j e T.kids.length 0 am with L | L
    ·exact⟨_,AJK (e.1.ld []) (h.1.ld []) a w c L,λ_=>⟨i rfl,am⟩⟩
    ·exact⟨_,AJM (e.1.ld []) (h.1.ld []) a w c L,nofun⟩
 |@kids _ ks m h l q n=>
  obtain⟨f,cs,rfl⟩:=h.1.fn;obtain⟨b,a,i⟩:=h.2 T.text [];cases b with
  |false=>exact⟨_,qR (h.1.ld []) a,nofun⟩
  |true=>
   by_cases c:T.kids.length=ks.length
   ·have d:(T.kids.length:Int)=(ks.length:Int):=am
    rcases Xr (f:=f) (cs:=cs) (m:=m) w j n c T.kids.length 0 am with L | L
    ·exact⟨_,AJG (h.1.ld []) a w d L,λ_=>⟨i rfl,am⟩⟩
    ·exact⟨_,AJI (h.1.ld []) a w d L,nofun⟩
   ·exact⟨_,BzZ (h.1.ld []) a w am,nofun⟩
def dSh:PV:=.agg [.nilf,.nils,.nilf,.int .i64 0]
def shB:PV->Bool
 |.mapv ks vs=>ks.all (λx=>match x with
   |.i .i64 _=>true
   |_=>false)&&(ks.zip vs).all (λx=>match x.1 with
   |.i .i64 k=>enB k x.2.Ag&&x.2.free
   |_=>false)
 |_=>false
def jc:shB shM=true:=by kernel_rfl
def Ul{k:Ky}{v:PV}:∀{ks:List Ky} {vs:List PV},findKey k ks vs=some v->(k,v)∈ks.zip vs
 |[],vs,h=>by cases vs<;>cases h
 |x::ks,[],h=>by cases h
 |x::ks,u::vs,h=>by
  rw[findKey] at h;rw[List.zip_cons_cons]
  split at h
  ·rename_i e;cases h;rw[e];exact AV ..
  ·exact AP _ (Ul h)
def mG(k:Int):(∃v,En k v/\v.free=true/\AQ (.look dSh true true) [shM,I k]=some [some (.tuple [v,.bool true])])\/AQ (.look dSh true true) [shM,I k]=some [some (.tuple [dSh,.bool false])]:=by
 have h:=jc;generalize shM=M at h ⊢;unfold shB at h
 split at h
 ·rename_i ks vs;obtain⟨c,j⟩:=Ce.1 h
  have d:ks.all (sameKind (.i .i64 k))=true:=by
   rw[Au] at c ⊢;intro x f;have:=c x f
   split at this
   ·rfl
   ·cases this
  show((∃v,En k v/\v.free=true/\(IX dSh true true (.mapv ks vs) (I k)).map (λv=>[some v])=_)\/(IX dSh true true (.mapv ks vs) (I k)).map (λv=>[some v])=_)
  have e:IX dSh true true (.mapv ks vs) (I k)=match findKey (.i .i64 k) ks vs with
    |some v=>if v.free then some (.tuple [v.Ag,.bool true]) else none
    |none=>some (.tuple [dSh,.bool false]):=by
   show(if ks.all (sameKind (.i .i64 k))=true/\_ then _ else _)=_
   rw[if_pos ⟨d,rfl⟩];cases findKey (.i .i64 k) ks vs<;>rfl
  rw[e];cases i:findKey (.i .i64 k) ks vs with
  |none=>exact .inr rfl
  |some v=>
   have:=Au.1 j _ (Ul i);obtain⟨g,b⟩:=Ce.1 this;have a:v.Ag.free=true:=by cases v<;>first | rfl | cases b
   refine .inl ⟨v.Ag,AUZ g,a,?_⟩
   show Option.map _ (if v.free=true then _ else _)=_
   rw[if_pos b];rfl
 ·cases h
def exK{i:De}{A B:Frm}{L:List Bool}{g a:Sto}{e:CE}(l:List Stp)(h:(exG i A g (Ko l)).map (λx=>(x.1,EJ L x.2.1,x.2.1.length,x.2.2.1,x.2.2.2))=some (e,B,L.length,a,qOf l True)):∃A',FEx i A g e A' a/\EJ L A'=B/\A'.length=L.length:=by
 obtain⟨⟨m,A1,o,n⟩,j,f⟩:=Ac.1 h;injection f with f b
 injection b with b c
 injection c with c d
 injection d with d k
 subst f d k;exact⟨A1,OT l j,b,c⟩
section
variable{tv J:List PV}{ks:List Ky}{vs:List PV}{ok:Bool}
def sF(tv:List PV)(ks:List Ky)(vs:List PV)(ok:Bool):Frm:=some (.agg tv)::some (.vptr (.agg tv))::some (.bool false)::some (.vptr (.mapv ks vs))::some (.bool ok)::none::none::none::some (.mapv ks vs)::some (.agg tv)::some (.func 172 [] [.vptr (.agg tv)])::nn 38
def sG(tv:List PV)(ks:List Ky)(vs:List PV)(ok:Bool)(J:List PV):Frm:=some (.agg tv)::some (.vptr (.agg tv))::some (.bool false)::some (.vptr (.mapv ks vs))::some (.bool ok)::some (.vptr (.agg J))::none::none::some (.mapv ks vs)::some (.agg tv)::some (.func 172 [] [.vptr (.agg tv)])::some (.agg J)::nn 37
def sX(ks:List Ky)(vs:List PV):Frm:=none::none::none::some (.vptr (.mapv ks vs))::none::none::none::none::some (.mapv ks vs)::nn 40
structure Rd1(J:List PV)(k:Int)(kp:PV):Prop where
 sti:AQ (.sti 5) [.hole 5,.agg J]=some [some (.vptr (.agg J))]
 ld:Dq (.ld 5 true) [.vptr (.agg J)] []=some [some (.agg J)]
 f0:AQ (.fa 0 1 false) [.vptr (.agg J)]=some [some (.vptr (I k))]
 f4:AQ (.fa 4 1 false) [.vptr (.agg J)]=some [some (.vptr kp)]
 lk:Dq (.ld 1 false) [.vptr kp] []=some [some kp]
 lk0:Dq (.ld 1 false) [.vptr (I k)] []=some [some (I k)]
 dis:(PV.agg J).Ag=.agg J
def AK5(h:AQ (.sti 5) [.hole 5,.agg J]=some [some (.vptr (.agg J))]):FEx lf60.aca (QO lf60.ds [.agg J] (sF tv ks vs ok)) [] .normal (sG tv ks vs ok J) []:=OT [sp 1 h]
variable{k:Int}{kp:PV}{v:PV}
def LK(ks:List Ky)(vs:List PV)(k:Int)(v:PV)(b:Bool):Prop:=AQ (.look dSh true true) [.mapv ks vs,I k]=some [some (.tuple [v,.bool b])]
abbrev Body(tv:List PV)(ks:List Ky)(vs:List PV)(ok:Bool)(J:List PV)(a:Bool):Prop:=∃A',FEx lf60.ac (sG tv ks vs ok J) [] .normal A' []/\EJ lf60.L A'=sF tv ks vs a/\A'.length=lf60.L.length
def bd1{b:Bool}{cs:List PV}(h:Rd1 J k kp)(e:LK ks vs k (.agg cs) b)(d:AQ (.sti 4) [.hole 4,.agg cs]=some [some (.vptr (.agg cs))])(f:Dq (.ld 4 true) [.vptr (.agg cs)] []=some [some (.agg cs)])(a:(PV.agg cs).Ag=.agg cs)(c:k≠4):Body tv ks vs false J false:=
 exK [sp 1 h.f0,st 0 (Q h.lk0),sp 0 e,sp 1 (CP (l:=[.agg cs,.bool b]) 0 (v:=.agg cs) rfl rfl a),sp 0 (CP (l:=[.agg cs,.bool b]) 1 (v:=.bool b) rfl rfl rfl),sp 1 d,sp 11 h.f0,st 0 (Q h.lk0),sp 0 (Bb .i64 c)] (by kernel_rfl)
def bd2{b:Bool}{cs:List PV}(h:Rd1 J k kp)(e:LK ks vs k (.agg cs) b)(d:AQ (.sti 4) [.hole 4,.agg cs]=some [some (.vptr (.agg cs))])(f:Dq (.ld 4 true) [.vptr (.agg cs)] []=some [some (.agg cs)])(a:(PV.agg cs).Ag=.agg cs)(c:k=4):Body tv ks vs false J false:=
 exK [sp 1 h.f0,st 0 (Q h.lk0),sp 0 e,sp 1 (CP (l:=[.agg cs,.bool b]) 0 (v:=.agg cs) rfl rfl a),sp 0 (CP (l:=[.agg cs,.bool b]) 1 (v:=.bool b) rfl rfl rfl),sp 1 d,sp 11 h.f0,st 0 (Q h.lk0),sp 0 (Bz .i64 c)] (by kernel_rfl)
def bd3{cs:List PV}(h:Rd1 J k kp)(d:LK ks vs k (.agg cs) false)(c:AQ (.sti 4) [.hole 4,.agg cs]=some [some (.vptr (.agg cs))])(e:Dq (.ld 4 true) [.vptr (.agg cs)] []=some [some (.agg cs)])(a:(PV.agg cs).Ag=.agg cs)(b:k≠4):Body tv ks vs true J false:=
 exK [sp 1 h.f0,st 0 (Q h.lk0),sp 0 d,sp 1 (CP (l:=[.agg cs,.bool false]) 0 (v:=.agg cs) rfl rfl a),sp 0 (CP (l:=[.agg cs,.bool false]) 1 (v:=.bool false) rfl rfl rfl),sp 1 c,sp 11 h.f0,st 0 (Q h.lk0),sp 0 (Bb .i64 b)] (by kernel_rfl)
def bd4{cs:List PV}(h:Rd1 J k kp)(d:LK ks vs k (.agg cs) false)(c:AQ (.sti 4) [.hole 4,.agg cs]=some [some (.vptr (.agg cs))])(e:Dq (.ld 4 true) [.vptr (.agg cs)] []=some [some (.agg cs)])(a:(PV.agg cs).Ag=.agg cs)(b:k=4):Body tv ks vs true J false:=
 exK [sp 1 h.f0,st 0 (Q h.lk0),sp 0 d,sp 1 (CP (l:=[.agg cs,.bool false]) 0 (v:=.agg cs) rfl rfl a),sp 0 (CP (l:=[.agg cs,.bool false]) 1 (v:=.bool false) rfl rfl rfl),sp 1 c,sp 11 h.f0,st 0 (Q h.lk0),sp 0 (Bz .i64 b)] (by kernel_rfl)
def bd5f{cs:List PV}(h:Rd1 J k kp)(d:LK ks vs k (.agg cs) true)(c:AQ (.sti 4) [.hole 4,.agg cs]=some [some (.vptr (.agg cs))])(f:Dq (.ld 4 true) [.vptr (.agg cs)] []=some [some (.agg cs)])(a:(PV.agg cs).Ag=.agg cs)(e:E 120 [.agg cs,.agg J] [] (.bool false) [])(b:k≠4):Body tv ks vs true J false:=
 exK [sp 1 h.f0,st 0 (Q h.lk0),sp 0 d,sp 1 (CP (l:=[.agg cs,.bool true]) 0 (v:=.agg cs) rfl rfl a),sp 0 (CP (l:=[.agg cs,.bool true]) 1 (v:=.bool true) rfl rfl rfl),sp 1 c,sg 6 (Q f),sg 0 (Q h.ld),sg 0 (MK (vs:=[.agg cs,.agg J]) (a:=[]) (r':=.bool false) e (by simp[a,h.dis]) rfl rfl rfl),sp 2 h.f0,st 0 (Q h.lk0),sp 0 (Bb .i64 b)] (by kernel_rfl)
def bd6f{cs:List PV}(h:Rd1 J k kp)(d:LK ks vs k (.agg cs) true)(c:AQ (.sti 4) [.hole 4,.agg cs]=some [some (.vptr (.agg cs))])(f:Dq (.ld 4 true) [.vptr (.agg cs)] []=some [some (.agg cs)])(a:(PV.agg cs).Ag=.agg cs)(e:E 120 [.agg cs,.agg J] [] (.bool false) [])(b:k=4):Body tv ks vs true J false:=
 exK [sp 1 h.f0,st 0 (Q h.lk0),sp 0 d,sp 1 (CP (l:=[.agg cs,.bool true]) 0 (v:=.agg cs) rfl rfl a),sp 0 (CP (l:=[.agg cs,.bool true]) 1 (v:=.bool true) rfl rfl rfl),sp 1 c,sg 6 (Q f),sg 0 (Q h.ld),sg 0 (MK (vs:=[.agg cs,.agg J]) (a:=[]) (r':=.bool false) e (by simp[a,h.dis]) rfl rfl rfl),sp 2 h.f0,st 0 (Q h.lk0),sp 0 (Bz .i64 b)] (by kernel_rfl)
def bd5t{cs:List PV}(h:Rd1 J k kp)(d:LK ks vs k (.agg cs) true)(c:AQ (.sti 4) [.hole 4,.agg cs]=some [some (.vptr (.agg cs))])(f:Dq (.ld 4 true) [.vptr (.agg cs)] []=some [some (.agg cs)])(a:(PV.agg cs).Ag=.agg cs)(e:E 120 [.agg cs,.agg J] [] (.bool true) [])(b:k≠4):Body tv ks vs true J true:=
 exK [sp 1 h.f0,st 0 (Q h.lk0),sp 0 d,sp 1 (CP (l:=[.agg cs,.bool true]) 0 (v:=.agg cs) rfl rfl a),sp 0 (CP (l:=[.agg cs,.bool true]) 1 (v:=.bool true) rfl rfl rfl),sp 1 c,sg 6 (Q f),sg 0 (Q h.ld),sg 0 (MK (vs:=[.agg cs,.agg J]) (a:=[]) (r':=.bool true) e (by simp[a,h.dis]) rfl rfl rfl),sp 2 h.f0,st 0 (Q h.lk0),sp 0 (Bb .i64 b)] (by kernel_rfl)
def bd7{cs:List PV}(h:Rd1 J k kp)(d:LK ks vs k (.agg cs) true)(j:AQ (.sti 4) [.hole 4,.agg cs]=some [some (.vptr (.agg cs))])(f:Dq (.ld 4 true) [.vptr (.agg cs)] []=some [some (.agg cs)])(a:(PV.agg cs).Ag=.agg cs)(e:E 120 [.agg cs,.agg J] [] (.bool true) [])(i:k=4){b:List PV}{t:List UInt8}(g:AQ (.idx 5) [kp,N 0]=some [some (.vptr (.agg b))])(c:AQ (.fa 1 1 false) [.vptr (.agg b)]=some [some (.vptr (.str t))])(l:t=[105,110,116]):Body tv ks vs true J true:=
 exK [sp 1 h.f0,st 0 (Q h.lk0),sp 0 d,sp 1 (CP (l:=[.agg cs,.bool true]) 0 (v:=.agg cs) rfl rfl a),sp 0 (CP (l:=[.agg cs,.bool true]) 1 (v:=.bool true) rfl rfl rfl),sp 1 j,sg 6 (Q f),sg 0 (Q h.ld),sg 0 (MK (vs:=[.agg cs,.agg J]) (a:=[]) (r':=.bool true) e (by simp[a,h.dis]) rfl rfl rfl),sp 2 h.f0,st 0 (Q h.lk0),sp 0 (Bz .i64 i),sp 4 h.f4,st 0 (Q h.lk),sp 0 g,sp 0 c,sp 1 (H7 l)] (by kernel_rfl)
def bd8T{cs:List PV}(h:Rd1 J k kp)(j:LK ks vs k (.agg cs) true)(i:AQ (.sti 4) [.hole 4,.agg cs]=some [some (.vptr (.agg cs))])(l:Dq (.ld 4 true) [.vptr (.agg cs)] []=some [some (.agg cs)])(f:(PV.agg cs).Ag=.agg cs)(e:E 120 [.agg cs,.agg J] [] (.bool true) [])(g:k=4){d:List PV}{t:List UInt8}(b:AQ (.idx 5) [kp,N 0]=some [some (.vptr (.agg d))])(c:AQ (.fa 1 1 false) [.vptr (.agg d)]=some [some (.vptr (.str t))])(m:t≠[105,110,116])(a:t=[98,111,111,108]):Body tv ks vs true J true:=
 exK [sp 1 h.f0,st 0 (Q h.lk0),sp 0 j,sp 1 (CP (l:=[.agg cs,.bool true]) 0 (v:=.agg cs) rfl rfl f),sp 0 (CP (l:=[.agg cs,.bool true]) 1 (v:=.bool true) rfl rfl rfl),sp 1 i,sg 6 (Q l),sg 0 (Q h.ld),sg 0 (MK (vs:=[.agg cs,.agg J]) (a:=[]) (r':=.bool true) e (by simp[f,h.dis]) rfl rfl rfl),sp 2 h.f0,st 0 (Q h.lk0),sp 0 (Bz .i64 g),sp 4 h.f4,st 0 (Q h.lk),sp 0 b,sp 0 c,sp 1 (Ha m),sq 1 h.f4,sg 0 (Q h.lk),sq 0 b,sq 0 c,sq 1 (H7 a)] (by kernel_rfl)
def bd8F{cs:List PV}(h:Rd1 J k kp)(j:LK ks vs k (.agg cs) true)(i:AQ (.sti 4) [.hole 4,.agg cs]=some [some (.vptr (.agg cs))])(l:Dq (.ld 4 true) [.vptr (.agg cs)] []=some [some (.agg cs)])(f:(PV.agg cs).Ag=.agg cs)(e:E 120 [.agg cs,.agg J] [] (.bool true) [])(g:k=4){d:List PV}{t:List UInt8}(b:AQ (.idx 5) [kp,N 0]=some [some (.vptr (.agg d))])(c:AQ (.fa 1 1 false) [.vptr (.agg d)]=some [some (.vptr (.str t))])(m:t≠[105,110,116])(a:t≠[98,111,111,108]):Body tv ks vs true J false:=
 exK [sp 1 h.f0,st 0 (Q h.lk0),sp 0 j,sp 1 (CP (l:=[.agg cs,.bool true]) 0 (v:=.agg cs) rfl rfl f),sp 0 (CP (l:=[.agg cs,.bool true]) 1 (v:=.bool true) rfl rfl rfl),sp 1 i,sg 6 (Q l),sg 0 (Q h.ld),sg 0 (MK (vs:=[.agg cs,.agg J]) (a:=[]) (r':=.bool true) e (by simp[f,h.dis]) rfl rfl rfl),sp 2 h.f0,st 0 (Q h.lk0),sp 0 (Bz .i64 g),sp 4 h.f4,st 0 (Q h.lk),sp 0 b,sp 0 c,sp 1 (Ha m),sq 1 h.f4,sg 0 (Q h.lk),sq 0 b,sq 0 c,sq 1 (Ha a)] (by kernel_rfl)
def Nd(T:Tr):Prop:=Cl T.text/\ndK T.kind<=T.kids.length
def kG(T:Tr):∃tv,T.pv=.agg tv:=⟨_,T.He⟩
def uY{x:Tr}(f:x.pv=.agg J):Rd1 J x.kind x.kp:=by
 have a:=BD x;have e:Dq (.ld 5 true) [.vptr x.pv] []=_:=AL x;have c:=BX x;have d:=DI x;have b:=x.Ef;rw[f] at a e c d b;exact⟨a,e,c,d,EE x,rfl,b⟩
def gM{k:Int}{v:PV}(h:En k v):∃cs,v=.agg cs/\(PV.agg cs).Ag=.agg cs/\AQ (.sti 4) [.hole 4,.agg cs]=some [some (.vptr (.agg cs))]/\Dq (.ld 4 true) [.vptr (.agg cs)] []=some [some (.agg cs)]:=by
 cases h with
 |none h a=>
  obtain⟨f,cs,rfl⟩:=h.1.fn;exact⟨_,rfl,rfl,rfl,rfl⟩
 |list h a b=>
  obtain⟨f,cs,rfl⟩:=h.1.fn;obtain⟨g,c,rfl⟩:=b.1.fn;exact⟨_,rfl,rfl,rfl,rfl⟩
 |kids h a e d=>
  obtain⟨f,cs,rfl⟩:=h.1.fn;exact⟨_,rfl,rfl,rfl,rfl⟩
def yo(B:shM=.mapv ks vs){x:Tr}(r:x.pv=.agg J)(w:x.wf)(u:x.kids.length<100000)(ok:Bool):∃m,Body tv ks vs ok J m/\(m=true->ok=true/\Nd x):=by
 have h:=uY r;have i:=mG x.kind;rw[B] at i;by_cases c:x.kind=4
 ·rcases i with⟨v,j,t,a⟩ | a
  ·obtain⟨cs,rfl,g,d,f⟩:=gM j;cases ok with
   |false=>exact⟨_,bd2 h a d f g c,nofun⟩
   |true=>
    obtain⟨b,e,s⟩:=BxQ j x w u;rw[r] at e;cases b with
    |false=>exact⟨_,bd6f h a d f g e c,nofun⟩
    |true=>
     obtain⟨y,n⟩:=s rfl;have z:0<x.kids.length:=by rw[c] at n;exact n
     obtain⟨U,C⟩:∃U,x.kids[0]?=some U:=⟨_,Af z⟩;have o:=EL 0 w C;have p:=Er U;obtain⟨D,A⟩:=kG U;rw[A] at o p;by_cases q:U.text=[105,110,116]
     ·exact⟨_,bd7 h a d f g e c o p q,λ_=>⟨rfl,y,n⟩⟩
     ·by_cases l:U.text=[98,111,111,108]
      ·exact⟨_,bd8T h a d f g e c o p q l,λ_=>⟨rfl,y,n⟩⟩
      ·exact⟨_,bd8F h a d f g e c o p q l,nofun⟩
  ·cases ok with
   |false=>exact⟨_,bd2 h a rfl rfl rfl c,nofun⟩
   |true=>exact⟨_,bd4 h a rfl rfl rfl c,nofun⟩
 ·rcases i with⟨v,j,t,a⟩ | a
  ·obtain⟨cs,rfl,g,d,f⟩:=gM j;cases ok with
   |false=>exact⟨_,bd1 h a d f g c,nofun⟩
   |true=>
    obtain⟨b,e,s⟩:=BxQ j x w u;rw[r] at e;cases b with
    |false=>exact⟨_,bd5f h a d f g e c,nofun⟩
    |true=>exact⟨_,bd5t h a d f g e c,λ_=>⟨rfl,s rfl⟩⟩
  ·cases ok with
   |false=>exact⟨_,bd1 h a rfl rfl rfl c,nofun⟩
   |true=>exact⟨_,bd3 h a rfl rfl rfl c,nofun⟩
def BjM(a:PV.EY tv=true)(ok:Bool):quiet (Gm (sX ks vs) (sF tv ks vs ok)) []=true:=
 ZB rfl _ (by simp[Gm,sX,sF,nn,PV.EO,PV.EY,a])
def uI(s:shM=.mapv ks vs)(f:PV.EY tv=true){x:Tr}(w:x.wf)(q:x.kids.length<100000)(ok:Bool):
  ∃a,(∃N,∀n,N<=n->∀m,Qt pur (run n) m lf60.aca lf60.ac lf60.La lf60.L (sX ks vs) lf60.ds [x.pv] (sF tv ks vs ok) []=some (sF tv ks vs a,[]))/\(a=true->ok=true/\Nd x):=by
 obtain⟨J,c⟩:=kG x;obtain⟨a,⟨A',o,h,b⟩,e⟩:=yo (tv:=tv) s c w q ok;obtain⟨g,p⟩:=AK5 (tv:=tv) (ks:=ks) (vs:=vs) (ok:=ok) (uY c).sti;obtain⟨j,r⟩:=o
 have d:PV.EY J=true:=by
  have:=x.Tm;rw[c] at this;simpa [PV.EO] using this
 refine⟨a,⟨max g j,λn e m=>?_⟩,e⟩
 unfold Qt;rw[c,p n am m]
 dsimp only;have i:EJ lf60.La (sG tv ks vs ok J)=sG tv ks vs ok J:=rfl;have l:quiet (Gm (sX ks vs) (sG tv ks vs ok J)) []=true:=ZB rfl _ (by simp[Gm,sX,sG,nn,PV.EO,PV.EY,f,d])
 rw[i,if_pos ⟨l,rfl⟩,show KP (sX ks vs) (sG tv ks vs ok J)=sG tv ks vs ok J from rfl,r n am m]
 dsimp only;rw[h,if_pos ⟨BjM f a,b⟩];rfl
def lL(i:shM=.mapv ks vs)(g:PV.EY tv=true):∀(L:List Tr) (ok:Bool),(∀x∈L,x.wf/\x.kids.length<100000)->
  ∃b,(∃N,∀n,N<=n->∀m,J5 pur (run n) m lf60.aca lf60.ac lf60.La lf60.L (sX ks vs) lf60.ds (L.map λx=>[x.pv]) (sF tv ks vs ok) []=some (sF tv ks vs b,[]))/\(b=true->ok=true/\∀x∈L,Nd x)
 |[],ok,h=>⟨ok,⟨0,λn _ m=>rfl⟩,λe=>⟨e,λx l=>by cases l⟩⟩
 |x::L,ok,h=>by
  obtain⟨w,z⟩:=h x (AV ..);obtain⟨f,⟨C,t⟩,j⟩:=uI i g w z ok;obtain⟨d,⟨o,A⟩,u⟩:=lL i g L f λy c=>h y (AP _ c)
  refine⟨d,⟨max C o,λn D m=>?_⟩,λe=>?_⟩
  ·rw[Bu,J5,t n am m]
   dsimp only;rw[A n am m]
  ·obtain⟨p,B⟩:=u e;obtain⟨s,r⟩:=j p;exact⟨s,λy c=>(AU.1 c).elim (λq=>q▸r) (B y)⟩
def BjQ(a:(PV.agg tv).Ag=.agg tv):FEx (lf60.pre.getD 0 .skip) (some (.agg tv)::nn 48) [] .normal (some (.agg tv)::some (.vptr (.agg tv))::some (.bool false)::nn 46) []:=
 OT [sp 0 (BqB a)]
def BjP(e:E 118 [] [] (.mapv ks vs) []):FEx (lf60.pre.getD 1 .skip) (some (.agg tv)::some (.vptr (.agg tv))::some (.bool false)::nn 46) [] .normal (some (.agg tv)::some (.vptr (.agg tv))::some (.bool false)::some (.vptr (.mapv ks vs))::none::none::none::none::some (.mapv ks vs)::nn 40) []:=
 OT [st 0 (MK (vs:=[]) (a:=[]) (r':=.mapv ks vs) e rfl rfl rfl rfl)]
def BjO:FEx (lf60.pre.getD 2 .skip) (some (.agg tv)::some (.vptr (.agg tv))::some (.bool false)::some (.vptr (.mapv ks vs))::none::none::none::none::some (.mapv ks vs)::nn 40) [] .normal (some (.agg tv)::some (.vptr (.agg tv))::some (.bool false)::some (.vptr (.mapv ks vs))::some (.bool true)::none::none::none::some (.mapv ks vs)::nn 40) []:=
 OT []
def BjL(b:Dq (.ld 5 true) [.vptr (.agg tv)] []=some [some (.agg tv)])(a:(PV.agg tv).Ag=.agg tv)(e:E 119 [.agg tv] [] (.func 172 [] [.vptr (.agg tv)]) []):FEx lf60.rg (some (.agg tv)::some (.vptr (.agg tv))::some (.bool false)::some (.vptr (.mapv ks vs))::some (.bool true)::none::none::none::some (.mapv ks vs)::nn 40) [] .normal (sF tv ks vs true) []:=
 OT [st 0 (Q b),st 0 (MK (vs:=[.agg tv]) (a:=[]) (r':=.func 172 [] [.vptr (.agg tv)]) e (by simp[a]) rfl rfl rfl)]
def BjN(ok:Bool):FEx lf60.post (sF tv ks vs ok) [] .ret (some (.agg tv)::some (.vptr (.agg tv))::some (.bool ok)::some (.vptr (.mapv ks vs))::some (.bool ok)::none::none::none::some (.mapv ks vs)::some (.agg tv)::some (.func 172 [] [.vptr (.agg tv)])::nn 37++[some (.bool ok)]) []:=
 OT []
end
def BjU(n:Nat)(args:List PV)(a:Sto):run (n+1) 60 args a=SQ pur itr 1000 lf60 (run n) args a:=rfl
def w60(T:Tr)(w:T.wf)(H:T.nds.length<=400000)(A:∀x∈T.nds,x.wf/\x.kids.length<100000):∃b,E 60 [T.pv] [] (.bool b) []/\(b=true->∀x∈T.nds,Nd x):=by
 obtain⟨ks,vs,j⟩:∃ks vs,shM=.mapv ks vs:=by
  have:=jc;generalize shM=M at this;unfold shB at this
  split at this
  ·exact⟨_,_,rfl⟩
  ·cases this
 obtain⟨tv,g⟩:=kG T
 have c:PV.EY tv=true:=by
  have:=T.Tm;rw[g] at this;simpa [PV.EO] using this
 have i:=T.Ef;have f:Dq (.ld 5 true) [.vptr T.pv] []=_:=AL T;have a:=r20 T;rw[g] at i f a;obtain⟨k,y⟩:=BjQ i;obtain⟨s,B⟩:=BjP (tv:=tv) (j▸e118);obtain⟨q,F⟩:=BjO (tv:=tv) (ks:=ks) (vs:=vs);obtain⟨r,m⟩:=BjL (ks:=ks) (vs:=vs) f i a;obtain⟨ok,⟨G,u⟩,h⟩:=lL j c T.nds true A;obtain⟨z,o⟩:=BjN (tv:=tv) (ks:=ks) (vs:=vs) ok;refine⟨ok,FC (max k (max s (max q (max r (max G z))))) λn C=>?_,λe=>(h e).2⟩
 rw[BjU,g]
 have l:ZL pur (run n) 1000 lf60.pre ([PV.agg tv].map some++List.replicate (lf60.ntmps+lf60.extra - [PV.agg tv].length) none) []=some (.normal,some (.agg tv)::some (.vptr (.agg tv))::some (.bool false)::some (.vptr (.mapv ks vs))::some (.bool true)::none::none::none::some (.mapv ks vs)::nn 40,[]):=by
  show ZL pur (run n) 1000 [lf60.pre.getD 0 .skip,lf60.pre.getD 1 .skip,lf60.pre.getD 2 .skip] (some (.agg tv)::nn 48) []=_;rw[ZL,y n am 1000]
  dsimp only;rw[ZL,B n am 1000]
  dsimp only;rw[ZL,F n am 1000]
  rfl
 have p:J4 lf60.Lv (sF tv ks vs true)=sX ks vs:=by
  have t:Ju (.agg tv)=false:=QE (by simpa [PV.EO] using c)
  have v:Ju (.vptr (.agg tv))=false:=QE (by simpa [PV.EO] using c)
  have D:Ju (.func 172 [] [.vptr (.agg tv)])=false:=QE (by simpa [PV.EO,PV.EY] using c)
  simp only[J4,lf60,sF,sX,nn,List.zipWith,Option.filter,t,v,D];rfl
 have hi:itr 172 [.vptr T.pv]=some ((T.nds.map Tr.pv).map λx=>[x.Ag]):=by
  unfold itr;rw[if_pos rfl];dsimp only;rw[fu T 1000000 w am]
  dsimp only;rw[if_pos (by simp[small];omega)]
 have d:((T.nds.map Tr.pv).map λx=>[x.Ag])=T.nds.map λx=>[x.pv]:=by
  rw[List.map_map];exact FN λx _=>by show[x.pv.Ag]=_;rw[x.Ef]
 rw[g] at hi;rw[SQ,if_pos ⟨rfl,by show 1<=49;decide⟩,l]
 dsimp only;rw[m n am 1000]
 dsimp only;have k0:EJ lf60.L (sF tv ks vs true)=sF tv ks vs true:=rfl;refine wN (f:=lf60) (A:=sF tv ks vs true) (X:=sX ks vs) rfl (hi.trans (congrArg some d)) p ⟨by rw[k0];exact BjM c true,rfl,rfl,rfl,rfl,by simp<;>(intros;rfl)⟩ (by rw[k0];exact u n am 1000) (o n am 1000) ⟨.inr rfl,?_,rfl⟩ rfl
 exact ZB rfl _ (by simp[Gm,EJ,lf60,sX,nn,PV.EO,PV.EY,PV.free,c,Option.filter])
end Go.Abs.Z

namespace Go.Abs.Z
noncomputable section
open Go.Proofs Go.RowKit
def AZK:Rn 265 a265:=rn
def BWC:Rn 264 a264:=rn
def BWY:Rn 212 a212:=rn
def BWK:Rn 229 a229:=rn
def AZO:Rn 228 a228:=rn
def BWP:Rn 223 a223:=rn
def BWO:Rn 224 a224:=rn
def BWN:Rn 225 a225:=rn
def BWM:Rn 226 a226:=rn
def BWL:Rn 227 a227:=rn
def BWQ:Rn 222 a222:=rn
def BWX:Rn 213 a213:=rn
def AZL:Rn 263 a263:=rn
def BY1:Rn 209 a209:=rn
def BWZ:Rn 211 a211:=rn
def BWV:Rn 215 a215:=rn
def BWU:Rn 216 a216:=rn
def BWR:Rn 221 a221:=rn
def AZP:Rn 220 a220:=rn
def AZQ:Rn 217 a217:=rn
def BWT:Rn 218 a218:=rn
def BWS:Rn 219 a219:=rn
def BY0:Rn 210 a210:=rn
def BY2:Rn 208 a208:=rn
def XM:Rn 101 a101:=rn
def BqK:Rn 51 a51:=rn
def BW4:Rn 98 a98:=rn
def BW9:Rn 50 a50:=rn
def BW6:Rn 61 a61:=rn
def BqI:Rn 97 a97:=rn
def BqL:Rn 20 a20:=rn
def BWE:Rn 261 a261:=rn
section
variable{i:Nat}{T H r J A K:Tr}{d z1 V:Int}{k s2 p O s:List UInt8}
section
variable(x:T.wf)(F:T.kids[i]?=some H)(l:EvE 99 [.agg [I d],H.pv] (.str k))
include x F l
def AkB:List Stp:=[sp 1 (BQ T),sp 2 (DI T),st 0 (Q (EE T)),sp 1 (EL i x F),st 0 (Q (AL H)),st 0 (oC l),st 1 (Q (AL T)),sp 1 (DI T),st 0 (Q (EE T)),sp 1 (EL i x F),st 0 (Q (AL H))]
theorem BQG(b:EvE 51 [T.pv,N i,H.pv] (.bool true))(a:([40]:List UInt8).length+(k:List UInt8).length<=CL)(c:(([40]++k):List UInt8).length+([41]:List UInt8).length<=CL):EvE 265 [.agg [I d],T.pv,N i] (.str (([40]++k)++[41])):=
 rule AZK (AkB x F l++[st 0 (oC b),sp 2 (Es a),sp 0 (Es c)])
theorem BQF(a:EvE 51 [T.pv,N i,H.pv] (.bool false)):EvE 265 [.agg [I d],T.pv,N i] (.str k):=
 rule AZK (AkB x F l++[st 0 (oC a)])
end
def BQH(a:EvE 283 [.str [32,32],I d] (.str k)):EvE 264 [.agg [I d]] (.str k):=
 rule BWC [st 4 (oC a)]
def BX7:EvE 212 [.agg [I d],T.pv] (.str T.text):=
 rule BWY [sp 1 (BQ T),sp 1 (Er T)]
def BQM(c:EvE 265 [.agg [I d],T.pv,I 0] (.str k))(a:EvE 265 [.agg [I d],T.pv,I 1] (.str s2))(b:EvE 261 [slF 1 [.str k,.str [32],.str T.text,.str [32],.str s2]] (.str p)):EvE 229 [.agg [I d],T.pv] (.str p):=
 rule BWK [sp 1 (BQ T),st 2 (Q (AL T)),st 0 (oC c),sp 0 (Er T),st 2 (Q (AL T)),st 0 (oC a),st 1 (oC b)]
def BQO(c:T.text=([110,111,116]:List UInt8))(a:EvE 265 [.agg [I d],T.pv,I 0] (.str s2))(b:EvE 261 [slF 1 [.str [110,111,116,32],.str s2]] (.str p)):EvE 228 [.agg [I d],T.pv] (.str p):=
 rule AZO [sp 1 (BQ T),sp 1 (Er T),sp 1 (H7 c),st 2 (Q (AL T)),st 0 (oC a),st 1 (oC b)]
def BQN(c:T.text≠([110,111,116]:List UInt8))(a:EvE 265 [.agg [I d],T.pv,I 0] (.str s2))(b:EvE 261 [slF 1 [.str T.text,.str s2]] (.str p)):EvE 228 [.agg [I d],T.pv] (.str p):=
 rule AZO [sp 1 (BQ T),sp 1 (Er T),sp 1 (Ha c),sp 1 (Er T),st 2 (Q (AL T)),st 0 (oC a),st 1 (oC b)]
section
variable(l:EvE 265 [.agg [I d],T.pv,I 0] (.str k))
include l
def sJ:List Stp:=[sp 1 (BQ T),st 2 (Q (AL T)),st 0 (oC l)]
theorem BQT(a:EvE 265 [.agg [I d],T.pv,I 1] (.str s2))(b:EvE 261 [slF 1 [.str k,.str [91],.str s2,.str [93]]] (.str p)):EvE 223 [.agg [I d],T.pv] (.str p):=
 rule BWP (sJ l++[st 1 (Q (AL T)),st 0 (oC a),st 1 (oC b)])
theorem BQS(a:EvE 261 [slF 1 [.str k,.str [46],.str T.text]] (.str s2)):EvE 224 [.agg [I d],T.pv] (.str s2):=
 rule BWO (sJ l++[sp 0 (Er T),st 2 (oC a)])
theorem BQR(a:EvE 261 [slF 1 [.str [108,101,110,40],.str k,.str [41]]] (.str s2)):EvE 225 [.agg [I d],T.pv] (.str s2):=
 rule BWN (sJ l++[st 1 (oC a)])
end
section
variable(l:EvE 262 [.agg [I d],T.pv] (.str k))
include l
theorem BQQ(a:EvE 261 [slF 1 [.str [91],.str k,.str [93]]] (.str s2)):EvE 226 [.agg [I d],T.pv] (.str s2):=
 rule BWM [sp 1 (BQ T),st 2 (Q (AL T)),st 0 (oC l),st 1 (oC a)]
theorem BQP(a:EvE 261 [slF 1 [.str T.text,.str [40],.str k,.str [41]]] (.str s2)):EvE 227 [.agg [I d],T.pv] (.str s2):=
 rule BWL [sp 1 (BQ T),sp 1 (Er T),st 2 (Q (AL T)),st 0 (oC l),st 1 (oC a)]
end
def BQU(b:EvE 227 [.agg [I d],T.pv] (.str k))(a:EvE 261 [slF 1 [.str k,.str [59]]] (.str s2)):EvE 222 [.agg [I d],T.pv] (.str s2):=
 rule BWQ [sp 1 (BQ T),st 2 (Q (AL T)),st 0 (oC b),st 1 (oC a)]
def BX6(a:EvE 261 [slF 1 [.str [105,110,116,91],.str T.text,.str [93]]] (.str k)):EvE 213 [.agg [I d],T.pv] (.str k):=
 rule BWX [sp 1 (BQ T),sp 1 (Er T),st 2 (oC a)]
def BQJ(a:T.kind=0):EvE 263 [.agg [I d],T.pv] (.str []):=
 rule AZL [sp 1 (BQ T),sp 1 (BX T),sp 1 (Bz .i64 a)]
def BQI(c:T.kind≠0)(a:EvE 99 [.agg [I d],T.pv] (.str s2))(b:EvE 261 [slF 1 [.str [58,32],.str s2]] (.str p)):EvE 263 [.agg [I d],T.pv] (.str p):=
 rule AZL [sp 1 (BQ T),sp 1 (BX T),sp 1 (Bb .i64 c),st 2 (Q (AL T)),st 0 (oC a),st 1 (oC b)]
def BXA(b:T.wf)(a:T.kids[0]?=some r)(e:EvE 263 [.agg [I d],r.pv] (.str k))(c:EvE 261 [slF 1 [.str T.text,.str k]] (.str s2)):EvE 209 [.agg [I d],T.pv] (.str s2):=
 rule BY1 [sp 1 (BQ T),sp 1 (Er T),sp 2 (DI T),st 0 (Q (EE T)),sp 0 (EL 0 b a),st 0 (Q (AL r)),st 0 (oC e),st 1 (oC c)]
def BX8(b:EvE 209 [.agg [I d],T.pv] (.str k))(a:EvE 261 [slF 1 [.str [118,97,114,32],.str k]] (.str s2)):EvE 211 [.agg [I d],T.pv] (.str s2):=
 rule BWZ [sp 1 (BQ T),st 2 (Q (AL T)),st 0 (oC b),st 1 (oC a)]
def BX3(b:T.wf)(a:T.kids[0]?=some r)(e:EvE 263 [.agg [I d],r.pv] (.str k))(c:EvE 265 [.agg [I d],T.pv,I 1] (.str s2))(f:EvE 261 [slF 1 [.str [118,97,114,32],.str T.text,.str k,.str [32,61,32],.str s2,.str [59]]] (.str p)):EvE 215 [.agg [I d],T.pv] (.str p):=
 rule BWV [sp 1 (BQ T),sp 1 (Er T),sp 2 (DI T),st 0 (Q (EE T)),sp 0 (EL 0 b a),st 0 (Q (AL r)),st 0 (oC e),st 1 (Q (AL T)),st 0 (oC c),st 1 (oC f)]
section
variable(l:EvE 265 [.agg [I d],T.pv,I 0] (.str k))
include l
theorem BX2(a:EvE 265 [.agg [I d],T.pv,I 1] (.str s2))(b:EvE 261 [slF 1 [.str k,.str [32,61,32],.str s2,.str [59]]] (.str p)):EvE 216 [.agg [I d],T.pv] (.str p):=
 rule BWU [sp 1 (BQ T),st 2 (Q (AL T)),st 0 (oC l),st 1 (Q (AL T)),st 0 (oC a),st 1 (oC b)]
theorem BQV(a:EvE 261 [slF 1 [.str [97,115,115,101,114,116,32],.str k,.str [59]]] (.str s2)):EvE 221 [.agg [I d],T.pv] (.str s2):=
 rule BWR [sp 1 (BQ T),st 2 (Q (AL T)),st 0 (oC l),st 1 (oC a)]
end
def BQX(b:T.wf)(a:T.kids[0]?=some r)(c:r.kind=0):EvE 220 [.agg [I d],T.pv] (.str [114,101,116,117,114,110,59]):=
 rule AZP [sp 1 (BQ T),sp 1 (DI T),st 0 (Q (EE T)),sp 0 (EL 0 b a),sp 0 (BX r),sp 1 (Bz .i64 c)]
def BQW(f:T.wf)(a:T.kids[0]?=some r)(b:r.kind≠0)(c:EvE 265 [.agg [I d],T.pv,I 0] (.str s2))(e:EvE 261 [slF 1 [.str [114,101,116,117,114,110,32],.str s2,.str [59]]] (.str p)):EvE 220 [.agg [I d],T.pv] (.str p):=
 rule AZP [sp 1 (BQ T),sp 1 (DI T),st 0 (Q (EE T)),sp 0 (EL 0 f a),sp 0 (BX r),sp 1 (Bb .i64 b),st 2 (Q (AL T)),st 0 (oC c),st 1 (oC e)]
section
variable(l:EvE 265 [.agg [I d],T.pv,I 0] (.str k))(x:T.wf)(z:T.kids[1]?=some J)(U:EvE 99 [.agg [I d],J.pv] (.str s2))
include l x z U
def AkA:List Stp:=[sp 1 (BQ T),st 2 (Q (AL T)),st 0 (oC l),sp 1 (DI T),st 0 (Q (EE T)),sp 0 (EL 1 x z),st 0 (Q (AL J)),st 0 (oC U)]
section
variable(W:EvE 261 [slF 1 [.str [105,102,32],.str k,.str [32],.str s2]] (.str p))(D:T.kids[2]?=some A)
include W D
def Ak9:List Stp:=AkA l x z U++[st 1 (oC W),sp 1 (DI T),st 0 (Q (EE T)),sp 0 (EL 2 x D),sp 0 (BX A)]
theorem BX1(a:A.kind=0):EvE 217 [.agg [I d],T.pv] (.str p):=
 rule AZQ (Ak9 l x z U W D++[sp 1 (Bz .i64 a)])
theorem BX0(c:A.kind≠0){a:List UInt8}(e:EvE 99 [.agg [I d],A.pv] (.str a)){b:List UInt8}(f:EvE 261 [slF 1 [.str p,.str [32,101,108,115,101,32],.str a]] (.str b)):EvE 217 [.agg [I d],T.pv] (.str b):=
 rule AZQ (Ak9 l x z U W D++[sp 1 (Bb .i64 c),sp 3 (DI T),st 0 (Q (EE T)),sp 0 (EL 2 x D),st 0 (Q (AL A)),st 0 (oC e),st 1 (oC f)])
end
theorem BQZ(a:EvE 261 [slF 1 [.str [119,104,105,108,101,32],.str k,.str [32],.str s2]] (.str p)):EvE 218 [.agg [I d],T.pv] (.str p):=
 rule BWT (AkA l x z U++[st 1 (oC a)])
end
def BQY(c:EvE 265 [.agg [I d],T.pv,I 0] (.str k))(f:EvE 265 [.agg [I d],T.pv,I 1] (.str s2))(b:T.wf)(a:T.kids[2]?=some A)(g:EvE 99 [.agg [I d],A.pv] (.str p))(e:EvE 261 [slF 1 [.str [102,111,114,32],.str T.text,.str [32,61,32],.str k,.str [32,116,111,32],.str s2,.str [32],.str p]] (.str O)):EvE 219 [.agg [I d],T.pv] (.str O):=
 rule BWS [sp 1 (BQ T),sp 1 (Er T),st 2 (Q (AL T)),st 0 (oC c),st 1 (Q (AL T)),st 0 (oC f),sp 1 (DI T),st 0 (Q (EE T)),sp 0 (EL 2 b a),st 0 (Q (AL A)),st 0 (oC g),st 1 (oC e)]
def BX9(e:T.wf)(b:T.kids[0]?=some r)(f:EvE 262 [.agg [I d],r.pv] (.str k))(a:T.kids[1]?=some J)(g:EvE 263 [.agg [I d],J.pv] (.str s2))(c:T.kids[2]?=some A)(h:EvE 99 [.agg [I d],A.pv] (.str p))(j:EvE 261 [slF 1 [.str [112,114,111,99,32],.str T.text,.str [40],.str k,.str [41],.str s2,.str [32],.str p]] (.str O)):EvE 210 [.agg [I d],T.pv] (.str O):=
 rule BY0 [sp 1 (BQ T),sp 1 (Er T),sp 2 (DI T),st 0 (Q (EE T)),sp 0 (EL 0 e b),st 0 (Q (AL r)),st 0 (oC f),sp 1 (DI T),st 0 (Q (EE T)),sp 0 (EL 1 e a),st 0 (Q (AL J)),st 0 (oC g),sp 1 (DI T),st 0 (Q (EE T)),sp 0 (EL 2 e c),st 0 (Q (AL A)),st 0 (oC h),st 1 (oC j)]
def BXB(b:EvE 262 [.agg [I d],T.pv] (.str k))(a:EvE 261 [slF 1 [.str [114,101,99,111,114,100,32],.str T.text,.str [32,123,32],.str k,.str [32,125]]] (.str s2)):EvE 208 [.agg [I d],T.pv] (.str s2):=
 rule BY2 [sp 1 (BQ T),sp 1 (Er T),st 2 (Q (AL T)),st 0 (oC b),st 1 (oC a)]
section
variable(l:EvE 100 [T.pv] (I z1))
include l
def sI:List Stp:=[sp 0 (BQ T),st 1 (Q (AL T)),st 0 (oC l)]
theorem BXK(a:z1=8):EvE 101 [T.pv,N i] (I 1):=
 rule XM (sI l++[sp 2 (Bz .i64 a)])
section
variable(G:z1≠8)
include G
theorem BXJ(a:z1=0):EvE 101 [T.pv,N i] (I 1):=
 rule XM (sI l++[sp 2 (Bb .i64 G),sq 2 (Bz .i64 a)])
section
variable(M:z1≠0)
include M
def kU:List Stp:=sI l++[sp 2 (Bb .i64 G),sq 2 (Bb .i64 M),sp 3 (BX T)]
theorem BXI(a:T.kind=28):EvE 101 [T.pv,N i] (I z1):=
 rule XM (kU l G M++[sp 1 (Bz .i64 a)])
theorem BXH(b:T.kind≠28)(c:z1=4){a:Int}(a6:BM (.bin .add 0) [I z1,I 1] (I a)):EvE 101 [T.pv,N i] (I a):=
 rule XM (kU l G M++[sp 1 (Bb .i64 b),sp 3 (Bz .i64 c),sp 7 a6])
theorem BXG(c:T.kind≠28)(b:z1≠4)(a:(i:Int)=0):EvE 101 [T.pv,N i] (I z1):=
 rule XM (kU l G M++[sp 1 (Bb .i64 c),sp 3 (Bb .i64 b),sq 2 (Dr .i64 a)])
theorem BXF(c:T.kind≠28)(b:z1≠4)(e:(i:Int)≠0){a:Int}(a7:BM (.bin .add 0) [I z1,I 1] (I a)):EvE 101 [T.pv,N i] (I a):=
 rule XM (kU l G M++[sp 1 (Bb .i64 c),sp 3 (Bb .i64 b),sq 2 (C8 .i64 e),sp 4 a7])
end
end
end
def p51a(a:K.kind<20):EvE 51 [T.pv,N i,K.pv] (.bool false):=
 rule BqK [sp 0 (BQ T),sp 0 (BQ K),sp 1 (BX K),sp 1 (AZ .i64 a)]
def p51b(a:¬K.kind<20)(b:K.kind>29):EvE 51 [T.pv,N i,K.pv] (.bool false):=
 rule BqK [sp 0 (BQ T),sp 0 (BQ K),sp 1 (BX K),sp 1 (Bh .i64 a),sq 1 (BX K),sq 1 (CF .i64 b)]
def p51c(b:¬K.kind<20)(e:¬K.kind>29)(c:EvE 100 [K.pv] (I V)){a:Int}(f:EvE 101 [T.pv,N i] (I a)):EvE 51 [T.pv,N i,K.pv] (.bool (decide (V<a))):=
 rule BqK [sp 0 (BQ T),sp 0 (BQ K),sp 1 (BX K),sp 1 (Bh .i64 b),sq 1 (BX K),sq 1 (Cz .i64 e),st 2 (Q (AL K)),st 0 (oC c),st 0 (Q (AL T)),st 1 (oC f)]
def p98a(a:(s.length:Int) > 4096):EvE 98 [.str s] (.tuple [.str [],I 8]):=
 rule BW4 [sp 4 (CF .i64 a)]
def p98b(a:¬(s.length:Int) > 4096):EvE 98 [.str s] (.tuple [.str s,I 0]):=
 rule BW4 [sp 4 (Cz .i64 a)]
def p50a(c:EvE 97 [T.pv] (.bool true))(e:EvE 99 [.agg [I 0],T.pv] (.str s2)){a:List UInt8}(b:EvE 98 [.str s2] (.tuple [.str a,I V])):EvE 50 [T.pv] (.tuple [.str a,I V]):=
 rule BW9 [sp 0 (BQ T),st 2 (Q (AL T)),st 0 (oC c),st 3 (Q (AL T)),st 0 (oC e),st 0 (oC b)]
def p50b(a:EvE 97 [T.pv] (.bool false)):EvE 50 [T.pv] (.tuple [.str [],I 1]):=
 rule BW9 [sp 0 (BQ T),st 2 (Q (AL T)),st 0 (oC a)]
def p61c(c:EvE 20 [T.pv] (.bool true))(h:¬d<0)(f:¬d>128)(e:EvE 99 [.agg [I d],T.pv] (.str O)){a:List UInt8}{b:Int}(g:EvE 98 [.str O] (.tuple [.str a,I b])):EvE 61 [T.pv,I d] (.tuple [.str a,I b]):=
 rule BW6 [sp 0 (BQ T),st 2 (Q (AL T)),st 0 (oC c),sp 3 (Bh .i64 h),sq 2 (Cz .i64 f),st 4 (Q (AL T)),st 0 (oC e),st 0 (oC g)]
def p61d(a:EvE 20 [T.pv] (.bool false)):EvE 61 [T.pv,I d] (.tuple [.str [],I 1]):=
 rule BW6 [sp 0 (BQ T),st 2 (Q (AL T)),st 0 (oC a)]
def p97a(b:EvE 147 [I T.kind] (.bool true))(a:EvE 60 [T.pv] (.bool true)):EvE 97 [T.pv] (.bool true):=
 rule BqI [sp 0 (BQ T),sp 1 (BX T),st 1 (oC b),sg 1 (Q (AL T)),sg 0 (oC a)]
def p97b(b:EvE 147 [I T.kind] (.bool true))(a:EvE 60 [T.pv] (.bool false)):EvE 97 [T.pv] (.bool false):=
 rule BqI [sp 0 (BQ T),sp 1 (BX T),st 1 (oC b),sg 1 (Q (AL T)),sg 0 (oC a)]
def p97c(a:EvE 147 [I T.kind] (.bool false)):EvE 97 [T.pv] (.bool false):=
 rule BqI [sp 0 (BQ T),sp 1 (BX T),st 1 (oC a)]
def p20a(b:EvE 59 [I T.kind] (.bool true))(a:EvE 60 [T.pv] (.bool true)):EvE 20 [T.pv] (.bool true):=
 rule BqL [sp 0 (BQ T),sp 1 (BX T),st 1 (oC b),sg 1 (Q (AL T)),sg 0 (oC a)]
def p20b(b:EvE 59 [I T.kind] (.bool true))(a:EvE 60 [T.pv] (.bool false)):EvE 20 [T.pv] (.bool false):=
 rule BqL [sp 0 (BQ T),sp 1 (BX T),st 1 (oC b),sg 1 (Q (AL T)),sg 0 (oC a)]
def p20c(a:EvE 59 [I T.kind] (.bool false)):EvE 20 [T.pv] (.bool false):=
 rule BqL [sp 0 (BQ T),sp 1 (BX T),st 1 (oC a)]
end
end
noncomputable section
open Go.Proofs Go.RowKit
def ig{es:List (List UInt8)}{s:List UInt8}(h:es.length+1<=Bo):AQ (.app 1) [BI 1 (es.map PV.str),.slice true 1 [.str s]]=some [some (BI 1 ((es++[s]).map PV.str)),some (Ci 1 (es.map PV.str))]:=by
 rw[BV];exact Kg (by simpa using h) ⟨rfl,rfl⟩
def qC{w p:List UInt8}(h:w.length+p.length<=4294967296):E 113 [.ref 0 0,.str p] [[.bld 125 5 w]] (.tuple [N p.length,.nili]) [[.bld 125 5 (w++p)]]:=by
 refine FC 0 λn _=>?_
 show Tv (run n) [.ref 0 0,.str p] [[.bld 125 5 w]]=_;show(if 125=125/\5=5/\w.length+p.length<=4294967296 then _ else _)=_
 rw[if_pos ⟨rfl,rfl,h⟩];rfl
def BjG{w:List UInt8}:E 115 [.ref 0 0] [[.bld 125 5 w]] (.str w) [[.dead]]:=FC 0 λn _=>rfl
def BWD:Rn 262 qf:=rn
def BWW:Rn 214 qg:=rn
def BY3:Rn 207 qh:=rn
def BW3:Rn 99 a99:=rn
def Lg:Rn 100 a100:=rn
section
variable{T U:Tr}{M:PV}{W d z:Int}{es:List (List UInt8)}{r s a t:List UInt8}{j:Nat}{e:CE}{K:FF}{V:Sto}
section
variable(A:M.Ag=M/\M.free=true/\M.flat=true)(D:EvE 149 [] M)
include A D
def Ak8:List Stp:=[sp 0 (BQ T),st 1 (oC D ⟨rfl,rfl,A.2.2,A.1⟩),sp 0 (Er T)]
section
variable(x:BM (.look (I 0) true false) [M,.str T.text] (.tuple [I W,.bool true]))
include x
def Ak7:List Stp:=Ak8 (T:=T) A D++[sp 1 x,sp 5 (BX T)]
theorem BXZ(b:T.kind<20):EvE 100 [T.pv] (I 0):=
 rule Lg (Ak7 A D x++[sp 1 (AZ .i64 b)])
section
variable(F:¬T.kind<20)
include F
def Ak6:List Stp:=Ak7 A D x++[sp 1 (Bh .i64 F),sq 1 (BX T)]
theorem BXY(b:T.kind>29):EvE 100 [T.pv] (I 0):=
 rule Lg (Ak6 A D x F++[sq 1 (CF .i64 b)])
section
variable(G:¬T.kind>29)
include G
def sD:List Stp:=Ak6 A D x F++[sq 1 (Cz .i64 G),sp 3 (BX T)]
theorem BXX(b:T.kind=29):EvE 100 [T.pv] (I W):=
 rule Lg (sD A D x F G++[sp 1 (Bz .i64 b)])
section
variable(J:T.kind≠29)(H:T.kind=28)
include J H
def Ak5:List Stp:=sD A D x F G++[sp 1 (Bb .i64 J),sp 5 (BX T),sp 1 (Bz .i64 H),sq 1 (Er T)]
theorem BXW(b:T.text=([110,111,116]:List UInt8)):EvE 100 [T.pv] (I 3):=
 rule Lg (Ak5 A D x F G J H++[sq 1 (H7 b)])
section
variable(O:T.text≠([110,111,116]:List UInt8))
include O
def Ak4:List Stp:=Ak5 A D x F G J H++[sq 1 (Ha O),sp 3 (BX T),sp 1 (Bz .i64 H),sq 1 (Er T)]
theorem BXV(b:T.text=([45]:List UInt8)):EvE 100 [T.pv] (I 7):=
 rule Lg (Ak4 A D x F G J H O++[sq 1 (H7 b)])
theorem BXU(b:T.text≠([45]:List UInt8)):EvE 100 [T.pv] (I 8):=
 rule Lg (Ak4 A D x F G J H O++[sq 1 (Ha b)])
end
end
theorem BXT(c:T.kind≠29)(b:T.kind≠28):EvE 100 [T.pv] (I 8):=
 rule Lg (sD A D x F G++[sp 1 (Bb .i64 c),sp 5 (BX T),sp 1 (Bb .i64 b),sp 7 (BX T),sp 1 (Bb .i64 b)])
end
end
end
section
variable(x:BM (.look (I 0) true false) [M,.str T.text] (.tuple [I W,.bool false]))
include x
def Ak3:List Stp:=Ak8 (T:=T) A D++[sp 1 x,sp 5 (BX T)]
theorem BXS(b:T.kind<20):EvE 100 [T.pv] (I 0):=
 rule Lg (Ak3 A D x++[sp 1 (AZ .i64 b)])
section
variable(F:¬T.kind<20)
include F
def Ak2:List Stp:=Ak3 A D x++[sp 1 (Bh .i64 F),sq 1 (BX T)]
theorem BXR(b:T.kind>29):EvE 100 [T.pv] (I 0):=
 rule Lg (Ak2 A D x F++[sq 1 (CF .i64 b)])
section
variable(G:¬T.kind>29)
include G
def sw:List Stp:=Ak2 A D x F++[sq 1 (Cz .i64 G),sp 3 (BX T)]
theorem BXQ(c:T.kind=29)(b:T.kind≠28):EvE 100 [T.pv] (I 8):=
 rule Lg (sw A D x F G++[sp 1 (Bz .i64 c),sp 5 (BX T),sp 1 (Bb .i64 b),sp 7 (BX T),sp 1 (Bb .i64 b)])
section
variable(J:T.kind≠29)(H:T.kind=28)
include J H
def Ak1:List Stp:=sw A D x F G++[sp 1 (Bb .i64 J),sp 5 (BX T),sp 1 (Bz .i64 H),sq 1 (Er T)]
theorem BXP(b:T.text=([110,111,116]:List UInt8)):EvE 100 [T.pv] (I 3):=
 rule Lg (Ak1 A D x F G J H++[sq 1 (H7 b)])
section
variable(O:T.text≠([110,111,116]:List UInt8))
include O
def sH:List Stp:=Ak1 A D x F G J H++[sq 1 (Ha O),sp 3 (BX T),sp 1 (Bz .i64 H),sq 1 (Er T)]
theorem BXO(b:T.text=([45]:List UInt8)):EvE 100 [T.pv] (I 7):=
 rule Lg (sH A D x F G J H O++[sq 1 (H7 b)])
theorem BXN(b:T.text≠([45]:List UInt8)):EvE 100 [T.pv] (I 8):=
 rule Lg (sH A D x F G J H O++[sq 1 (Ha b)])
end
end
theorem BXM(c:T.kind≠29)(b:T.kind≠28):EvE 100 [T.pv] (I 8):=
 rule Lg (sw A D x F G++[sp 1 (Bb .i64 c),sp 5 (BX T),sp 1 (Bb .i64 b),sp 7 (BX T),sp 1 (Bb .i64 b)])
end
end
end
end
def p99a{g:FuncId}(b:M.Ag=M/\M.free=true/\M.flat=true)(i:EvE 148 [] M)(f:BM (.look .nilf true true) [M,I T.kind] (.tuple [.func g [] [],.bool true])){c:List UInt8}(h:Bt pur run (.w .DC) [.func g [] [],.agg [I d],T.pv] [] [some (.str c)] []):EvE 99 [.agg [I d],T.pv] (.str c):=
 rule BW3 [sp 1 (BQ T),st 1 (oC i ⟨rfl,rfl,b.2.2,b.1⟩),sp 0 (BX T),sp 1 f,sp 1 (CP (l:=[.func g [] [],.bool true]) 0 (v:=.func g [] []) rfl (by first | rfl | simp) rfl),sp 0 (CP (l:=[.func g [] [],.bool true]) 1 (v:=(.bool true)) rfl (by first | rfl | simp) rfl),st 7 (Q (AL T)),st 0 h]
def p99b(b:M.Ag=M/\M.free=true/\M.flat=true)(f:EvE 148 [] M)(c:BM (.look .nilf true true) [M,I T.kind] (.tuple [.nilf,.bool false])):EvE 99 [.agg [I d],T.pv] (.str []):=
 rule BW3 [sp 1 (BQ T),st 1 (oC f ⟨rfl,rfl,b.2.2,b.1⟩),sp 0 (BX T),sp 1 c]
def p262(w:T.wf)(L:LL qf 0 [(2,some (.vptr (.agg [I d]))),(3,some (.vptr T.pv)),(5,some (BI 1 (([]:List (List UInt8)).map PV.str))),(9,some (N T.kids.length)),(10,some (N 0))] [] (.exit 0) [(5,some (BI 1 (es.map PV.str)))] [])(h:EvE 282 [Ci 1 (es.map PV.str),.str [44,32]] (.str r)):EvE 262 [.agg [I d],T.pv] (.str r):=
 rule BWD [sp 1 (BQ T),sp 2 (DI T),st 0 (Q (EE T)),sp 0 (EZ w),sl 1 [2,3,5,9,10] L,sp 0 (jK 1 (es.map PV.str)),st 0 (oC h)]
def BQL(f:j<T.kids.length)(c:es.length+1<=Bo)(l:j<1000000000)(h:EvE 265 [.agg [I d],T.pv,N j] (.str s))(b:LL qf 0 [(2,some (.vptr (.agg [I d]))),(3,some (.vptr T.pv)),(5,some (BI 1 ((es++[s]).map PV.str))),(9,some (N T.kids.length)),(10,some (N (j+1)))] [] e K V):LL qf 0 [(2,some (.vptr (.agg [I d]))),(3,some (.vptr T.pv)),(5,some (BI 1 (es.map PV.str))),(9,some (N T.kids.length)),(10,some (N j))] [] e K V:=
 BC [2,3,5,9,10] [sp 0 (AZ .i64 (show(j:Int) < (T.kids.length:Int) by omega)),sp 3 (JD 1 (es.map PV.str)),st 1 (Q (AL T)),st 1 (oC h),st 1 (GK (ig c):Bt pur run (.p (.app 1)) [BI 1 (es.map PV.str),.slice true 1 [.str s]] [] [some (BI 1 ((es++[s]).map PV.str)),some (Ci 1 (es.map PV.str))] []),sp 0 (JD 1 ((es++[s]).map PV.str)),sp 0 (AO j 1 am)] b
def BQK(b:¬j<T.kids.length):LL qf 0 [(2,some (.vptr (.agg [I d]))),(3,some (.vptr T.pv)),(5,some (BI 1 (es.map PV.str))),(9,some (N T.kids.length)),(10,some (N j))] [] (.exit 0) [(5,some (BI 1 (es.map PV.str)))] []:=
 Bw [5] [sp 0 (Bh .i64 (show ¬(j:Int) < (T.kids.length:Int) by omega))]
def p207(w:T.wf)(L:LL qh 0 [(2,some (.vptr (.agg [I d]))),(5,some (.str [])),(9,some T.kp),(10,some (N T.kids.length)),(11,some (N 0))] [] (.exit 0) [(5,some (.str r))] []):EvE 207 [.agg [I d],T.pv] (.str r):=
 rule BY3 [sp 1 (BQ T),sp 2 (DI T),st 0 (Q (EE T)),sp 0 (EZ w),sl 1 [2,5,9,10,11] L]
def BXD(w:T.wf)(i:j<T.kids.length)(g:T.kids[j]?=some U)(l:j<1000000000)(h:EvE 99 [.agg [I d],U.pv] (.str s))(c:EvE 261 [slF 1 [.str s,.str [10]]] (.str t))(f:a.length+t.length<=CL)(b:LL qh 0 [(2,some (.vptr (.agg [I d]))),(5,some (.str (a++t))),(9,some T.kp),(10,some (N T.kids.length)),(11,some (N (j+1)))] [] e K V):LL qh 0 [(2,some (.vptr (.agg [I d]))),(5,some (.str a)),(9,some T.kp),(10,some (N T.kids.length)),(11,some (N j))] [] e K V:=
 BC [2,5,9,10,11] [sp 0 (AZ .i64 (show(j:Int) < (T.kids.length:Int) by omega)),sp 1 (EL j w g),st 0 (Q (AL U)),sp 1 (BD U),st 2 (Q (AL U)),st 0 (oC h),st 1 (oC c),sp 0 (Es f),sp 1 (AO j 1 am)] b
def BXC(b:¬j<T.kids.length):LL qh 0 [(2,some (.vptr (.agg [I d]))),(5,some (.str a)),(9,some T.kp),(10,some (N T.kids.length)),(11,some (N j))] [] (.exit 0) [(5,some (.str a))] []:=
 Bw [5] [sp 0 (Bh .i64 (show ¬(j:Int) < (T.kids.length:Int) by omega))]
def p214(w:T.wf)(f:BM (.bin .add 0) [I d,I 1] (I z))(L:LL qg 0 [(2,some (.vptr (.agg [I d]))),(5,some (.vptr (.agg [I z]))),(6,some (.ref 0 0)),(15,some T.kp),(16,some (N T.kids.length)),(17,some (N 0))] [[.bld 125 5 [123,10]]] (.exit 0) [(2,some (.vptr (.agg [I d]))),(6,some (.ref 0 0))] [[.bld 125 5 a]])(h:EvE 264 [.agg [I d]] (.str r))(b:EvE 261 [slF 1 [.str r,.str [125]]] (.str t))(c:a.length+t.length<=4294967296):E 214 [.agg [I d],T.pv] [] (.str (a++t)) [[.dead]]:=
 rule BWW [sp 1 (BQ T),sp 3 f,st 3 (⟨0,λ_ _=>rfl⟩:Bt pur run (.w (.alB 125 5)) [] [] [some (.ref 0 0)] [[.bld 125 5 []]]),st 0 (oW (qC (w:=[]) (p:=[123,10]) (by decide))),sp 0 (DI T),st 0 (QS [[.bld 125 5 [123,10]]] (EE T)),sp 0 (EZ w),sl 1 [2,5,6,15,16,17] L,st 1 (oCS [[.bld 125 5 a]] h),st 1 (oCS [[.bld 125 5 a]] b),st 0 (oW (qC (w:=a) (p:=t) c)),st 0 (oW (BjG (w:=a++t)))]
def BX5(w:T.wf)(m:j<T.kids.length)(i:T.kids[j]?=some U)(l:j<1000000000){c s2:List UInt8}(h:EvE 264 [.agg [I z]] (.str c))(f:EvE 99 [.agg [I z],U.pv] (.str s2))(g:EvE 261 [slF 1 [.str c,.str s2,.str [10]]] (.str t))(k:a.length+t.length<=4294967296)(b:LL qg 0 [(2,some (.vptr (.agg [I d]))),(5,some (.vptr (.agg [I z]))),(6,some (.ref 0 0)),(15,some T.kp),(16,some (N T.kids.length)),(17,some (N (j+1)))] [[.bld 125 5 (a++t)]] e K V):LL qg 0 [(2,some (.vptr (.agg [I d]))),(5,some (.vptr (.agg [I z]))),(6,some (.ref 0 0)),(15,some T.kp),(16,some (N T.kids.length)),(17,some (N j))] [[.bld 125 5 a]] e K V:=
 BC [2,5,6,15,16,17] [sp 0 (AZ .i64 (show(j:Int) < (T.kids.length:Int) by omega)),sp 1 (EL j w i),st 0 (QS [[.bld 125 5 a]] (AL U)),sp 1 (BD U),st 1 (oCS [[.bld 125 5 a]] h),st 1 (QS [[.bld 125 5 a]] (AL U)),st 0 (oCS [[.bld 125 5 a]] f),st 1 (oCS [[.bld 125 5 a]] g),st 0 (oW (qC (w:=a) (p:=t) k)),sp 0 (AO j 1 am)] b
def BX4(b:¬j<T.kids.length):LL qg 0 [(2,some (.vptr (.agg [I d]))),(5,some (.vptr (.agg [I z]))),(6,some (.ref 0 0)),(15,some T.kp),(16,some (N T.kids.length)),(17,some (N j))] [[.bld 125 5 a]] (.exit 0) [(2,some (.vptr (.agg [I d]))),(6,some (.ref 0 0))] [[.bld 125 5 a]]:=
 Bw [2,6] [sp 0 (Bh .i64 (show ¬(j:Int) < (T.kids.length:Int) by omega))]
end
end
noncomputable section
open Go.Proofs Go.RowKit
def SA:∀l:List (List UInt8),strsOf (l.map PV.str)=some l
 |[]=>rfl
 |s::l=>by
  show(strsOf (l.map PV.str)).map (s::·)=_;rw[SA l];rfl
def BVE(l:List (List UInt8))(a:List UInt8)(h:l.length<=1000000/\(Lib.join l a).length<=100000000):E 282 [slF 1 (l.map PV.str),.str a] [] (.str (Lib.join l a)) []:=by
 refine FC 0 λn _=>?_
 show l8 (run n) [slF 1 (l.map PV.str),.str a] []=_
 show(if 1=1 then match strsOf (l.map PV.str) with
   |some l=>if l.length<=140737488355328/\(Lib.join l a).length<=140737488355328 then some (PV.str (Lib.join l a),([]:Sto)) else none
   |none=>none else none)=_
 rw[if_pos rfl,SA];exact if_pos ⟨am,am⟩
def BVD(a:List UInt8):E 282 [.nils,.str a] [] (.str []) []:=FC 0 λn _=>rfl
def p261{l:List PV}{r:List UInt8}(h:E 282 [slF 1 l,.str []] [] (.str r) []):E 261 [slF 1 l] [] (.str r) []:=rule BWE [st 2 (oC h)]
def xu(s t a:List UInt8)(l:List (List UInt8)):Lib.join (s::t::l) a=s++(a++Lib.join (t::l) a):=by simp[Lib.join,List.intercalate,List.intersperse]
def aH{b:List UInt8}(d:Cl b):∀l:List (List UInt8),(∀s∈l,Cl s)->Cl (Lib.join l b)
 |[],_=>Fy
 |[s],h=>by rw[Lib.join_one];exact h s (AV ..)
 |s::t::l,h=>by
  rw[xu];exact EW (h s (AV ..)) (EW d (aH d (t::l) λx e=>h x (AP _ e)))
def lens(l:List (List UInt8)):Nat:=(l.map List.length).sum
def TK(a:List UInt8):∀l:List (List UInt8),(Lib.join l a).length<=lens l+l.length * a.length
 |[]=>Ca _
 |[s]=>by rw[Lib.join_one];simp[lens]
 |s::t::l=>by
  have:=TK a (t::l);rw[xu];simp only[Ae,lens,Bu,List.sum_cons,Ah,Cf,Nat.one_mul] at this ⊢;omega
def AJE(l:List (List UInt8))(c:l.length<=1000)(b:lens l<=10000000)(a:∀s∈l,Cl s):∃r,E 261 [slF 1 (l.map PV.str)] [] (.str r) []/\Cl r/\r.length<=lens l:=by
 have h:=TK [] l;simp only[Ba,Nat.mul_zero,FH] at h;exact⟨_,p261 (BVE l [] ⟨am,am⟩),aH Fy l a,h⟩
def yc{s:List UInt8}(h:Cl s):∀n,Cl (Lib.repeatL s n)
 |0=>Fy
 |n+1=>EW h (yc h n)
def BxN(d:Nat)(e:d<=1000):∃s,E 264 [.agg [I d]] [] (.str s) []/\Cl s/\s.length<=2 * d:=by
 have h:E 283 [.str [32,32],I d] [] (.str (Lib.repeatL [32,32] d)) []:=by
  refine FC 0 λn _=>?_
  show(if 0<=(d:Int)/\(d:Int)<=1048576/\2 * (d:Int).toNat<=140737488355328 then some (PV.str (Lib.repeatL [32,32] (d:Int).toNat),([]:Sto)) else none)=_
  rw[if_pos ⟨am,am,am⟩];rfl
 exact⟨_,BQH h,yc (by intro c b;simp at b;subst b;decide) d,by rw[Lib.repeatL_length];show d * 2<=_;omega⟩
def lvM:PV:=((run 30 149 [] []).getD (.nils,[])).1
def OY:E 149 [] [] lvM []:=FC 40 λn a=>by
 obtain⟨m,rfl⟩:∃m,n=m+40:=⟨n - 40,am⟩
 kernel_rfl
def wrM:PV:=((run 30 148 [] []).getD (.nils,[])).1
def BxE:E 148 [] [] wrM []:=FC 40 λn a=>by
 obtain⟨m,rfl⟩:∃m,n=m+40:=⟨n - 40,am⟩
 kernel_rfl
def lvB:PV->Bool
 |.mapv ks vs=>ks.all (λx=>match x with
   |.s _=>true
   |_=>false)&&vs.all (λv=>match v with
   |.int .i64 _=>true
   |_=>false)
 |_=>false
def wL:lvB lvM=true:=by kernel_rfl
def gF{k:Ky}{v:PV}:∀{ks:List Ky} {vs:List PV},findKey k ks vs=some v->v∈vs
 |[],vs,h=>by cases vs<;>cases h
 |x::ks,[],h=>by cases h
 |x::ks,u::vs,h=>by
  rw[findKey] at h
  split at h
  ·cases h;exact AV ..
  ·exact AP _ (gF h)
def AxW(s:List UInt8):∃z b,AQ (.look (.int .i64 0) true false) [lvM,.str s]=some [some (.tuple [I z,.bool b])]:=by
 have h:=wL;generalize lvM=M at h ⊢;unfold lvB at h
 split at h
 ·rename_i ks vs;obtain⟨a,g⟩:=Ce.1 h
  have c:ks.all (sameKind (.s s))=true:=by
   rw[Au] at a ⊢;intro x d;have:=a x d
   split at this
   ·rfl
   ·cases this
  show ∃z b,(IX (.int .i64 0) true false (.mapv ks vs) (.str s)).map (λv=>[some v])=_
  have e:IX (.int .i64 0) true false (.mapv ks vs) (.str s)=match findKey (.s s) ks vs with
    |some v=>if v.free then some (.tuple [v.Ag,.bool true]) else none
    |none=>some (.tuple [I 0,.bool false]):=by
   show(if ks.all (sameKind (.s s))=true/\_ then _ else _)=_
   rw[if_pos ⟨c,rfl⟩];cases findKey (.s s) ks vs<;>rfl
  rw[e];cases f:findKey (.s s) ks vs with
  |none=>exact⟨_,_,rfl⟩
  |some v=>
   have:=Au.1 g _ (gF f)
   split at this
   ·exact⟨_,_,rfl⟩
   ·cases this
 ·cases h
def ZY{M:PV}(h:∃ks vs,M=.mapv ks vs):M.Ag=M/\M.free=true/\M.flat=true:=by
 obtain⟨ks,vs,rfl⟩:=h;exact⟨rfl,rfl,rfl⟩
def AU6:∃ks vs,lvM=.mapv ks vs:=by
 have:=wL;generalize lvM=M at this;unfold lvB at this
 split at this
 ·exact⟨_,_,rfl⟩
 ·cases this
def BxR(T:Tr):∃z,E 100 [T.pv] [] (I z) []:=by
 obtain⟨z,b,k⟩:=AxW T.text;have a:=ZY AU6;by_cases c:T.kind<20
 ·cases b with
  |true=>exact⟨_,BXZ a OY k c⟩
  |false=>exact⟨_,BXS a OY k c⟩
 by_cases d:T.kind>29
 ·cases b with
  |true=>exact⟨_,BXY a OY k c d⟩
  |false=>exact⟨_,BXR a OY k c d⟩
 by_cases e:T.kind=29
 ·cases b with
  |true=>exact⟨_,BXX a OY k c d e⟩
  |false=>exact⟨_,BXQ a OY k c d e am⟩
 by_cases f:T.kind=28
 ·by_cases g:T.text=[110,111,116]
  ·cases b with
   |true=>exact⟨_,BXW a OY k c d e f g⟩
   |false=>exact⟨_,BXP a OY k c d e f g⟩
  ·by_cases h:T.text=[45]
   ·cases b with
    |true=>exact⟨_,BXV a OY k c d e f g h⟩
    |false=>exact⟨_,BXO a OY k c d e f g h⟩
   ·cases b with
    |true=>exact⟨_,BXU a OY k c d e f g h⟩
    |false=>exact⟨_,BXN a OY k c d e f g h⟩
 ·cases b with
  |true=>exact⟨_,BXT a OY k c d e f⟩
  |false=>exact⟨_,BXM a OY k c d e f⟩
def BUP(T:Tr)(i:Nat):∃z,E 101 [T.pv,N i] [] (I z) []:=by
 obtain⟨z,h⟩:=BxR T;by_cases a:z=8
 ·exact⟨_,BXK h a⟩
 by_cases b:z=0
 ·exact⟨_,BXJ h a b⟩
 by_cases c:T.kind=28
 ·exact⟨_,BXI h a b c⟩
 by_cases d:z=4
 ·exact⟨_,BXH h a b c d rfl⟩
 by_cases e:(i:Int)=0
 ·exact⟨_,BXG h a b c d e⟩
 ·exact⟨_,BXF h a b c d e rfl⟩
def w51(T K:Tr)(i:Nat):∃b,E 51 [T.pv,N i,K.pv] [] (.bool b) []:=by
 obtain⟨z,h⟩:=BxR K;obtain⟨y,d⟩:=BUP T i;by_cases a:K.kind<20
 ·exact⟨_,p51a a⟩
 by_cases c:K.kind>29
 ·exact⟨_,p51b a c⟩
 exact⟨_,p51c a c h d⟩
end
end Go.Abs.Z

namespace Go.Abs.Z
open Go.Proofs Go.RowKit
def tbl:List (Int×Nat):=[(2,207),(3,208),(4,209),(5,210),(7,209),(8,211),(9,212),(10,213),(11,214),(12,215),(13,216),(14,217),(15,218),(16,219),(17,220),(18,221),(19,222),(20,212),(21,223),(22,224),(23,225),(24,212),(25,212),(26,226),(27,227),(28,228),(29,229)]
def wrB:PV->Bool
 |.mapv ks vs=>ks.all (λx=>match x with
   |.i .i64 _=>true
   |_=>false)&&(ks.zip vs).all (λx=>match x.1,x.2 with
   |.i .i64 k,.func g [] []=>tbl.contains (k,g)
   |_,_=>false)
 |_=>false
def qD:wrB wrM=true:=by kernel_rfl
def qA:∃ks vs,wrM=.mapv ks vs:=by
 have:=qD;generalize wrM=M at this;unfold wrB at this
 split at this
 ·exact⟨_,_,rfl⟩
 ·cases this
def AxX(k:Int):(∃g,(k,g)∈tbl/\AQ (.look .nilf true true) [wrM,I k]=some [some (.tuple [.func g [] [],.bool true])])\/AQ (.look .nilf true true) [wrM,I k]=some [some (.tuple [.nilf,.bool false])]:=by
 have h:=qD;generalize wrM=M at h ⊢;unfold wrB at h
 split at h
 ·rename_i ks vs;obtain⟨a,j⟩:=Ce.1 h
  have b:ks.all (sameKind (.i .i64 k))=true:=by
   rw[Au] at a ⊢;intro x i;have:=a x i
   split at this
   ·rfl
   ·cases this
  show((∃g,(k,g)∈tbl/\(IX .nilf true true (.mapv ks vs) (I k)).map (λv=>[some v])=_)\/(IX .nilf true true (.mapv ks vs) (I k)).map (λv=>[some v])=_)
  have e:IX .nilf true true (.mapv ks vs) (I k)=match findKey (.i .i64 k) ks vs with
    |some v=>if v.free then some (.tuple [v.Ag,.bool true]) else none
    |none=>some (.tuple [.nilf,.bool false]):=by
   show(if ks.all (sameKind (.i .i64 k))=true/\_ then _ else _)=_
   rw[if_pos ⟨b,rfl⟩];cases findKey (.i .i64 k) ks vs<;>rfl
  rw[e];cases f:findKey (.i .i64 k) ks vs with
  |none=>exact .inr rfl
  |some v=>
   have:=Au.1 j _ (Ul f)
   split at this
   ·rename_i l g c d;cases c;cases d;exact .inl ⟨g,by simpa using this,rfl⟩
   ·cases this
 ·cases h
def GdT(T:Tr):Prop:=∀x∈T.nds,x.wf/\x.kids.length<100000/\x.text.length<=60/\Nd x
def Eo(T:Tr):T.nds=T::CV T.kids:=by cases T;rw[Tr.nds];rfl
def GdT.self{T:Tr}(h:GdT T):T.wf/\T.kids.length<100000/\T.text.length<=60/\Nd T:=h T (by rw[Eo];exact AV ..)
def Ja{U:Tr}:∀{ks:List Tr},U∈ks->∀x∈U.nds,x∈CV ks
 |k::ks,h,x,b=>by
  rw[CV];rcases AU.1 h with rfl | h
  ·exact List.mem_append_left _ b
  ·exact List.mem_append_right _ (Ja h x b)
def GdT.kid{T U:Tr}(h:GdT T)(b:U∈T.kids):GdT U:=λx a=>h x (by rw[Eo];exact AP _ (Ja b x a))
def F8{U:Tr}:∀{ks:List Tr},U∈ks->U.nds.length<=(CV ks).length
 |k::ks,h=>by
  rw[CV,Ae];rcases AU.1 h with rfl | h
  ·omega
  ·have:=F8 h;omega
def TW(d:Nat)(T:Tr):Prop:=∃t,E 99 [.agg [I d],T.pv] [] (.str t) []/\Cl t/\t.length+500<=1000 * T.nds.length
section
variable{T U:Tr}{d:Nat}
def BxM(w:T.wf){i:Nat}(f:T.kids[i]?=some U)(j:U.nds.length<=200)(h:TW d U):∃s,E 265 [.agg [I d],T.pv,N i] [] (.str s) []/\Cl s/\s.length+498<=1000 * U.nds.length:=by
 obtain⟨t,e,a,k⟩:=h;obtain⟨b,g⟩:=w51 T U i;cases b with
 |false=>exact⟨_,BQF w f e g,a,am⟩
 |true=>exact⟨_,BQG w f e g (by simp[CL];omega) (by simp[CL];omega),EW (EW (by intro c h;simp at h;subst h;decide) a) (by intro c h;simp at h;subst h;decide),by simp;omega⟩
def AzI{c:Type}{l:List c}{j:Nat}{x:c}{r:List c}(h:l.drop j=x::r):l[j]?=some x/\j<l.length/\l.drop (j+1)=r:=by
 have b:j<l.length:=by
  rcases Be j l.length with a | a
  ·exact a
  ·rw[AY.2 a] at h;cases h
 rw[BN b] at h;injection h with e f
 exact⟨by rw[Af b,e],b,f⟩
def nu{a:Type}{l:List a}{j:Nat}(h:l.drop j=[]):¬j<l.length:=by
 have:=AY.1 h;omega
def iq(w:T.wf)(m:T.kids.length<100000)(p:(CV T.kids).length<=200)(i:∀U∈T.kids,TW d U):∀(r:List Tr) (j:Nat) (es:List (List UInt8)),T.kids.drop j=r->es.length=j->(∀s∈es,Cl s)->
  ∃es',LL qf 0 [(2,some (.vptr (.agg [I d]))),(3,some (.vptr T.pv)),(5,some (BI 1 (es.map PV.str))),(9,some (N T.kids.length)),(10,some (N j))] [] (.exit 0) [(5,some (BI 1 (es'.map PV.str)))] []/\(∀s∈es',Cl s)/\lens es'+2 * es'.length<=lens es+2 * es.length+1000 * (CV r).length/\es'.length=es.length+r.length
 |[],j,es,h,f,b=>⟨es,BQK (nu h),b,by simp[CV],rfl⟩
 |U::r,j,es,h,f,b=>by
  obtain⟨c,u,v⟩:=AzI h;have g:=Am c;obtain⟨s,e,t,y⟩:=BxM w c (by have:=F8 g;omega) (i U g)
  obtain⟨es',L,k,l,n⟩:=iq w m p i r (j+1) (es++[s]) v (by simp[f]) (λx o=>(Bv.1 o).elim (b x) (λq=>by simp at q;exact q▸t))
  refine⟨es',BQL u (by simp[Bo];omega) am e L,k,?_,by rw[n];simp;omega⟩
  rw[CV,Ae];simp only[lens,BV,List.sum_append,Bu,CK,List.sum_cons,List.sum_nil,Ae,Ah,Ba] at l ⊢;omega
def UD{l:List UInt8}(h:l.all (· != 35)=true):Cl l:=UC h (by decide)
def BxO(w:T.wf)(k:T.kids.length<100000)(f:(CV T.kids).length<=200)(j:∀U∈T.kids,TW d U):∃s,E 262 [.agg [I d],T.pv] [] (.str s) []/\Cl s/\s.length<=1000 * (CV T.kids).length:=by
 obtain⟨es,L,e,c,b⟩:=iq w k f j T.kids 0 [] rfl rfl (λs h=>by cases h)
 have i:=TK [44,32] es;simp only[lens,CK,List.sum_nil,Ba] at c b
 have a:(Lib.join es [44,32]).length<=1000 * (CV T.kids).length:=by
  simp only[lens,Ah,Ba] at i c;omega
 refine⟨_,p262 w L ?_,aH (UD (by decide)) es e,a⟩
 cases es with
 |nil=>exact BVD _
 |cons s es=>exact BVE (s::es) [44,32] ⟨by simp only[Ah] at b ⊢;omega,am⟩
def WN(w:T.wf)(u:T.kids.length<100000)(q:(CV T.kids).length<=200)(l:∀U∈T.kids,TW d U):∀(r:List Tr) (j:Nat) (a:List UInt8),T.kids.drop j=r->Cl a->a.length+1000 * (CV r).length<=300000->
  ∃a',LL qh 0 [(2,some (.vptr (.agg [I d]))),(5,some (.str a)),(9,some T.kp),(10,some (N T.kids.length)),(11,some (N j))] [] (.exit 0) [(5,some (.str a'))] []/\Cl a'/\a'.length<=a.length+1000 * (CV r).length
 |[],j,a,h,f,k=>⟨a,BXC (nu h),f,by simp[CV]⟩
 |U::r,j,a,h,f,k=>by
  obtain⟨i,A,n⟩:=AzI h;have y:=Am i;rw[CV,Ae] at k;obtain⟨s,e,v,B⟩:=l U y;obtain⟨t,z,p,c⟩:=AJE [s,[10]] (by simp) (by simp[lens];omega) (by intro x g;simp at g;rcases g with rfl | rfl;exact v;exact UD (by decide))
  simp only[lens,Bu,CK,List.sum_cons,List.sum_nil,Ah,Ba] at c;obtain⟨a',L,m,o⟩:=WN w u q l r (j+1) (a++t) n (EW f p) (by rw[Ae];omega)
  refine⟨a',BXD w A i am e z (by simp[CL];omega) L,m,?_⟩
  rw[CV,Ae];rw[Ae] at o;omega
def gZ(w:T.wf)(C:T.kids.length<100000)(z:(CV T.kids).length+d<=199)(m:∀U∈T.kids,TW (d+1) U):∀(r:List Tr) (j:Nat) (a:List UInt8),T.kids.drop j=r->Cl a->a.length+1000 * (CV r).length<=300000->
  ∃a',LL qg 0 [(2,some (.vptr (.agg [I d]))),(5,some (.vptr (.agg [I ((d+1:Nat):Int)]))),(6,some (.ref 0 0)),(15,some T.kp),(16,some (N T.kids.length)),(17,some (N j))] [[.bld 125 5 a]] (.exit 0) [(2,some (.vptr (.agg [I d]))),(6,some (.ref 0 0))] [[.bld 125 5 a']]/\Cl a'/\a'.length<=a.length+1000 * (CV r).length
 |[],j,a,h,f,k=>⟨a,BX4 (nu h),f,by simp[CV]⟩
 |U::r,j,a,h,f,k=>by
  obtain⟨g,p,q⟩:=AzI h;have B:=Am g;rw[CV,Ae] at k;obtain⟨s,e,A,E⟩:=m U B;obtain⟨i,y,hi,D⟩:=BxN (d+1) am
  obtain⟨t,o,v,c⟩:=AJE [i,s,[10]] (by simp) (by simp[lens];omega) (by intro x l;simp at l;rcases l with rfl | rfl | rfl;exact hi;exact A;exact UD (by decide))
  simp only[lens,Bu,CK,List.sum_cons,List.sum_nil,Ah,Ba] at c;obtain⟨a',L,n,u⟩:=gZ w C z m r (j+1) (a++t) q (EW f v) (by rw[Ae];omega)
  refine⟨a',BX5 w p g am y e o am L,n,?_⟩
  rw[CV,Ae];rw[Ae] at u;omega
end
def RW(g:FuncId)(d:Nat)(T:Tr):Prop:=∃t a,E g [.agg [I d],T.pv] [] (.str t) a/\Cl t/\t.length+500<=1000 * T.nds.length
def TQ:∀{ks:List Tr},1<=ks.length->∃U,ks[0]?=some U/\U∈ks/\U.nds.length<=(CV ks).length
 |U::ks,_=>⟨U,rfl,AV ..,F8 (AV ..)⟩
def fK:∀{ks:List Tr},2<=ks.length->∃U V,ks[0]?=some U/\ks[1]?=some V/\U∈ks/\V∈ks/\U.nds.length+V.nds.length<=(CV ks).length
 |[_],h=>by simp at h
 |U::V::ks,_=>⟨U,V,rfl,rfl,by simp,by simp,by simp[CV]⟩
def wZ:∀{ks:List Tr},3<=ks.length->∃U V X,ks[0]?=some U/\ks[1]?=some V/\ks[2]?=some X/\U∈ks/\V∈ks/\X∈ks/\U.nds.length+V.nds.length+X.nds.length<=(CV ks).length
 |[_],h=>by simp at h
 |[_,_],h=>by simp at h
 |U::V::X::ks,_=>⟨U,V,X,rfl,rfl,rfl,by simp,by simp,by simp,by simp[CV];omega⟩
def Fq(T:Tr):T.nds.length=1+(CV T.kids).length:=by rw[Eo,Ah,Cm]
def CLs:List (List UInt8)->Prop
 |[]=>True
 |s::l=>Cl s/\CLs l
def CLs.all:∀{l:List (List UInt8)},CLs l->∀s∈l,Cl s
 |[],_=>nofun
 |s::l,h=>λt a=>(AU.1 a).elim (λe=>e▸h.1) (CLs.all h.2 t)
def clk{l:List UInt8}(h:l.all (· != 35)=true:=by decide):Cl l:=UD h
def Fv(l:List (List UInt8))(n:Nat)(b:CLs l)(c:l.length<=1000:=by simp)(f:lens l<=n:=by simp[lens]<;>omega)(g:n<=10000000:=by omega):∃r,E 261 [slF 1 (l.map PV.str)] [] (.str r) []/\Cl r/\r.length<=n:=by
 obtain⟨r,d,a,e⟩:=AJE l c am b.all
 exact⟨r,d,a,am⟩
section
variable{T:Tr}{d:Nat}(F:GdT T)(H:d+T.nds.length<=200)(G:∀U:Tr,GdT U->U.nds.length<T.nds.length->∀e:Nat,e+U.nds.length<=200->TW e U)
include F H G
theorem twk{U:Tr}(a:U∈T.kids):TW d U:=G U (F.kid a) (by have:=F8 a;have:=Fq T;omega) d (by have:=F8 a;have:=Fq T;omega)
theorem JG{U:Tr}{i:Nat}(b:T.kids[i]?=some U):∃s,E 265 [.agg [I d],T.pv,N i] [] (.str s) []/\Cl s/\s.length+498<=1000 * U.nds.length:=by
 have a:=Am b;exact BxM F.self.1 b (by have:=F8 a;have:=Fq T;omega) (twk F H G a)
theorem qY:∃s,E 262 [.agg [I d],T.pv] [] (.str s) []/\Cl s/\s.length<=1000 * (CV T.kids).length:=
 BxO F.self.1 F.self.2.1 (by have:=Fq T;omega) λU a=>twk F H G a
theorem qX{U:Tr}(a:U∈T.kids):∃s,E 263 [.agg [I d],U.pv] [] (.str s) []/\Cl s/\s.length+498<=1000 * U.nds.length:=by
 have g:=Fq U;have l:=F8 a;have j:=Fq T;by_cases h:U.kind=0
 ·exact⟨_,BQJ h,Fy,by simp;omega⟩
 ·obtain⟨s,e,f,k⟩:=twk F H G a;obtain⟨r,b,c,i⟩:=Fv [[58,32],s] (s.length+2) ⟨clk,f,trivial⟩;exact⟨_,BQI h e b,c,am⟩
theorem AzJ:RW 212 d T:=⟨_,_,BX7,F.self.2.2.2.1,by have:=Fq T;have:=F.self.2.2.1;omega⟩
theorem g213:RW 213 d T:=by
 have b:=F.self.2.2.1;have f:=Fq T;obtain⟨r,a,c,g⟩:=Fv [[105,110,116,91],T.text,[93]] (4+T.text.length+1) ⟨clk,F.self.2.2.2.1,clk,trivial⟩;exact⟨_,_,BX6 a,c,am⟩
theorem g229(n:2<=T.kids.length):RW 229 d T:=by
 have l:=F.self.2.2.1;have p:=Fq T;obtain⟨U,V,o,k,u,t,s⟩:=fK n;obtain⟨f,a,h,j⟩:=JG F H G o;obtain⟨c,g,b,i⟩:=JG F H G k;obtain⟨r,q,m,v⟩:=Fv [f,[32],T.text,[32],c] (f.length+1+T.text.length+1+c.length) ⟨h,clk,F.self.2.2.2.1,clk,b,trivial⟩;exact⟨_,_,BQM a g q,m,am⟩
theorem BZS(k:1<=T.kids.length)(j:T.text=[110,111,116]):RW 228 d T:=by
 have h:=F.self.2.2.1;have m:=Fq T;obtain⟨U,i,n,p⟩:=TQ k;obtain⟨a,b,c,f⟩:=JG F H G i;obtain⟨r,g,l,o⟩:=Fv [[110,111,116,32],a] (4+a.length) ⟨clk,c,trivial⟩;exact⟨_,_,BQO j b g,l,am⟩
theorem BZR(k:1<=T.kids.length)(j:T.text≠[110,111,116]):RW 228 d T:=by
 have h:=F.self.2.2.1;have m:=Fq T;obtain⟨U,i,n,p⟩:=TQ k;obtain⟨a,b,c,f⟩:=JG F H G i;obtain⟨r,g,l,o⟩:=Fv [T.text,a] (T.text.length+a.length) ⟨F.self.2.2.2.1,c,trivial⟩;exact⟨_,_,BQN j b g,l,am⟩
theorem g228(b:1<=T.kids.length):RW 228 d T:=if a:T.text=[110,111,116] then BZS F H G b a else BZR F H G b a
theorem g223(n:2<=T.kids.length):RW 223 d T:=by
 have l:=F.self.2.2.1;have p:=Fq T;obtain⟨U,V,o,k,u,t,s⟩:=fK n;obtain⟨f,a,h,j⟩:=JG F H G o;obtain⟨c,g,b,i⟩:=JG F H G k;obtain⟨r,q,m,v⟩:=Fv [f,[91],c,[93]] (f.length+1+c.length+1) ⟨h,clk,b,clk,trivial⟩;exact⟨_,_,BQT a g q,m,am⟩
theorem g224(j:1<=T.kids.length):RW 224 d T:=by
 have i:=F.self.2.2.1;have l:=Fq T;obtain⟨U,h,n,o⟩:=TQ j;obtain⟨a,c,b,f⟩:=JG F H G h;obtain⟨r,g,k,m⟩:=Fv [a,[46],T.text] (a.length+1+T.text.length) ⟨b,clk,F.self.2.2.2.1,trivial⟩;exact⟨_,_,BQS c g,k,am⟩
theorem g225(j:1<=T.kids.length):RW 225 d T:=by
 have i:=F.self.2.2.1;have l:=Fq T;obtain⟨U,h,n,o⟩:=TQ j;obtain⟨a,c,b,f⟩:=JG F H G h;obtain⟨r,g,k,m⟩:=Fv [[108,101,110,40],a,[41]] (4+a.length+1) ⟨clk,b,clk,trivial⟩;exact⟨_,_,BQR c g,k,am⟩
theorem g226:RW 226 d T:=by
 have h:=F.self.2.2.1;have j:=Fq T;obtain⟨a,b,c,f⟩:=qY F H G;obtain⟨r,g,i,k⟩:=Fv [[91],a,[93]] (1+a.length+1) ⟨clk,c,clk,trivial⟩;exact⟨_,_,BQQ b g,i,am⟩
theorem AkW:∃s,E 227 [.agg [I d],T.pv] [] (.str s) []/\Cl s/\s.length+900<=1000 * T.nds.length:=by
 have j:=F.self.2.2.1;have h:=Fq T;obtain⟨c,a,b,f⟩:=qY F H G;obtain⟨r,g,i,k⟩:=Fv [T.text,[40],c,[41]] (T.text.length+1+c.length+1) ⟨F.self.2.2.2.1,clk,b,clk,trivial⟩;exact⟨_,BQP a g,i,am⟩
theorem g227:RW 227 d T:=by
 obtain⟨s,e,c,l⟩:=AkW F H G;exact⟨s,_,e,c,am⟩
theorem g222:RW 222 d T:=by
 have h:=F.self.2.2.1;have g:=Fq T;obtain⟨b,e,a,j⟩:=AkW F H G;obtain⟨r,c,f,i⟩:=Fv [b,[59]] (b.length+1) ⟨a,clk,trivial⟩;exact⟨_,_,BQU e c,f,am⟩
theorem AkX(m:1<=T.kids.length):∃s,E 209 [.agg [I d],T.pv] [] (.str s) []/\Cl s/\s.length+900<=1000 * T.nds.length:=by
 have j:=F.self.2.2.1;have l:=Fq T;obtain⟨U,k,i,n⟩:=TQ m;obtain⟨b,a,c,f⟩:=qX F H G i;obtain⟨r,g,h,o⟩:=Fv [T.text,b] (T.text.length+b.length) ⟨F.self.2.2.2.1,c,trivial⟩;exact⟨_,BXA F.self.1 k a g,h,am⟩
theorem BZT(a:1<=T.kids.length):RW 209 d T:=by
 obtain⟨s,e,c,l⟩:=AkX F H G a;exact⟨s,_,e,c,am⟩
theorem g211(f:1<=T.kids.length):RW 211 d T:=by
 have i:=F.self.2.2.1;have h:=Fq T;obtain⟨b,e,a,k⟩:=AkX F H G f;obtain⟨r,c,g,j⟩:=Fv [[118,97,114,32],b] (4+b.length) ⟨clk,a,trivial⟩;exact⟨_,_,BX8 e c,g,am⟩
theorem g215(m:2<=T.kids.length):RW 215 d T:=by
 have o:=F.self.2.2.1;have q:=Fq T;obtain⟨U,V,n,k,p,t,u⟩:=fK m;obtain⟨g,h,a,j⟩:=qX F H G p;obtain⟨c,f,b,i⟩:=JG F H G k;obtain⟨r,s,l,v⟩:=Fv [[118,97,114,32],T.text,g,[32,61,32],c,[59]] (4+T.text.length+g.length+3+c.length+1) ⟨clk,F.self.2.2.2.1,a,clk,b,clk,trivial⟩;exact⟨_,_,BX3 F.self.1 n h f s,l,am⟩
theorem g216(n:2<=T.kids.length):RW 216 d T:=by
 have l:=F.self.2.2.1;have p:=Fq T;obtain⟨U,V,o,k,u,t,s⟩:=fK n;obtain⟨f,a,h,j⟩:=JG F H G o;obtain⟨c,g,b,i⟩:=JG F H G k;obtain⟨r,q,m,v⟩:=Fv [f,[32,61,32],c,[59]] (f.length+3+c.length+1) ⟨h,clk,b,clk,trivial⟩;exact⟨_,_,BX2 a g q,m,am⟩
theorem g221(j:1<=T.kids.length):RW 221 d T:=by
 have i:=F.self.2.2.1;have l:=Fq T;obtain⟨U,h,n,o⟩:=TQ j;obtain⟨a,c,b,f⟩:=JG F H G h;obtain⟨r,g,k,m⟩:=Fv [[97,115,115,101,114,116,32],a,[59]] (7+a.length+1) ⟨clk,b,clk,trivial⟩;exact⟨_,_,BQV c g,k,am⟩
theorem g220(k:1<=T.kids.length):RW 220 d T:=by
 have l:=F.self.2.2.1;have m:=Fq T;obtain⟨U,f,n,o⟩:=TQ k;by_cases h:U.kind=0
 ·exact⟨_,_,BQX F.self.1 f h,clk,by simp;omega⟩
 obtain⟨a,b,c,g⟩:=JG F H G f;obtain⟨r,i,j,p⟩:=Fv [[114,101,116,117,114,110,32],a,[59]] (7+a.length+1) ⟨clk,c,clk,trivial⟩;exact⟨_,_,BQW F.self.1 f h b i,j,am⟩
theorem g217(s:3<=T.kids.length):RW 217 d T:=by
 have w:=F.self.2.2.1;have z:=Fq T;obtain⟨U,V,X,v,j,l,B,x,u,C⟩:=wZ s;obtain⟨g,a,f,n⟩:=JG F H G v;obtain⟨h,b,c,i⟩:=twk F H G x;obtain⟨r,o,m,A⟩:=Fv [[105,102,32],g,[32],h] (3+g.length+1+h.length) ⟨clk,f,clk,c,trivial⟩;by_cases k:X.kind=0
 ·exact⟨_,_,BX1 a F.self.1 j b o l k,m,am⟩
 obtain⟨s2,p,c2,E⟩:=twk F H G u;obtain⟨q,t,y,D⟩:=Fv [r,[32,101,108,115,101,32],s2] (r.length+6+s2.length) ⟨m,clk,c2,trivial⟩;exact⟨_,_,BX0 a F.self.1 j b o l k p t,y,am⟩
theorem g218(m:2<=T.kids.length):RW 218 d T:=by
 have o:=F.self.2.2.1;have q:=Fq T;obtain⟨U,V,n,k,t,s,v⟩:=fK m;obtain⟨a,b,h,i⟩:=JG F H G n;obtain⟨g,c,f,j⟩:=twk F H G s;obtain⟨r,p,l,u⟩:=Fv [[119,104,105,108,101,32],a,[32],g] (6+a.length+1+g.length) ⟨clk,h,clk,f,trivial⟩;exact⟨_,_,BQZ b F.self.1 k c p,l,am⟩
theorem g219(p:3<=T.kids.length):RW 219 d T:=by
 have u:=F.self.2.2.1;have w:=Fq T;obtain⟨U,V,X,t,o,v,A,y,q,B⟩:=wZ p;obtain⟨g,a,k,l⟩:=JG F H G t;obtain⟨c,h,i,m⟩:=JG F H G o;obtain⟨b,j,f,n⟩:=twk F H G q;obtain⟨r,x,s,z⟩:=Fv [[102,111,114,32],T.text,[32,61,32],g,[32,116,111,32],c,[32],b] (4+T.text.length+3+g.length+4+c.length+1+b.length) ⟨clk,F.self.2.2.2.1,clk,k,clk,i,clk,f,trivial⟩;exact⟨_,_,BQY a h F.self.1 v j x,s,am⟩
theorem g208:RW 208 d T:=by
 have h:=F.self.2.2.1;have j:=Fq T;obtain⟨a,b,c,f⟩:=qY F H G;obtain⟨r,g,i,k⟩:=Fv [[114,101,99,111,114,100,32],T.text,[32,123,32],a,[32,125]] (7+T.text.length+3+a.length+2) ⟨clk,F.self.2.2.2.1,clk,c,clk,trivial⟩;exact⟨_,_,BXB b g,i,am⟩
theorem g210(q:3<=T.kids.length):RW 210 d T:=by
 have u:=F.self.2.2.1;have s:=Fq T;obtain⟨U,V,X,v,z,x,j,w,y,D⟩:=wZ q;have a:=F.kid j;have B:=Fq U;obtain⟨m,t,k,C⟩:=BxO (d:=d) a.self.1 a.self.2.1 (by have:=F8 j;omega) λY l=>G Y (a.kid l) (by have:=F8 j;have:=F8 l;omega) d (by have:=F8 j;have:=F8 l;omega)
 obtain⟨b,f,c,o⟩:=qX F H G w;obtain⟨h,i,g,n⟩:=twk F H G y;obtain⟨r,p,A,E⟩:=Fv [[112,114,111,99,32],T.text,[40],m,[41],b,[32],h] (5+T.text.length+1+m.length+1+b.length+1+h.length) ⟨clk,F.self.2.2.2.1,clk,k,clk,c,clk,g,trivial⟩;exact⟨_,_,BX9 F.self.1 v t z f x i p,A,am⟩
theorem g207:RW 207 d T:=by
 have g:=Fq T;obtain⟨a,L,b,f⟩:=WN F.self.1 F.self.2.1 am (λU c=>twk F H G c) T.kids 0 [] rfl Fy (by simp;omega)
 exact⟨_,_,p207 F.self.1 L,b,by simp at f;omega⟩
theorem g214:RW 214 d T:=by
 have l:=Fq T;obtain⟨a,L,c,k⟩:=gZ (d:=d) F.self.1 F.self.2.1 am (λU b=>G U (F.kid b) (by have:=F8 b;omega) (d+1) (by have:=F8 b;omega)) T.kids 0 [123,10] rfl clk (by simp;omega)
 obtain⟨i,g,hi,f⟩:=BxN d am
 obtain⟨t,j,h,m⟩:=Fv [i,[125]] (i.length+1) ⟨hi,clk,trivial⟩;simp only[Ah,Ba] at k;exact⟨_,_,p214 F.self.1 (AO d 1 am) L g j am,EW c h,by rw[Ae];omega⟩
end
def Gs{g:FuncId}{d:Nat}{T:Tr}(c:pur g=true)(f:AQ (.look .nilf true true) [wrM,I T.kind]=some [some (.tuple [.func g [] [],.bool true])])(h:RW g d T):TW d T:=by
 obtain⟨t,i,e,a,b⟩:=h;exact⟨t,p99a (ZY qA) BxE f (KE e c (by simp[UZ,T.Ef]) (by simp[T.RZ]) (by simp[T.Pj]) rfl rfl),a,b⟩
set_option maxRecDepth 10000 in
def w99:∀(n:Nat) (T:Tr),T.nds.length<=n->GdT T->∀d:Nat,d+T.nds.length<=200->TW d T
 |0,T,h,_,_,_=>by rw[Fq] at h;omega
 |n+1,T,h,hT,d,hd=>by
  have ih:∀U:Tr,GdT U->U.nds.length<T.nds.length->∀e:Nat,e+U.nds.length<=200->TW e U:=λU hU hlt e he=>w99 n U am hU e he
  have hN:=hT.self.2.2.2.2;rcases AxX T.kind with⟨g,hm,hl⟩ | hl
  ·have hk:∀{k:Int} {m:Nat},T.kind=k->ndK k=m->m<=T.kids.length:=λh1 h2=>by rw[<-h2,<-h1];exact hN
   simp only[tbl,AU,ET,or_false,Prod.mk.injEq] at hm;rcases hm with⟨h,rfl⟩ | ⟨h,rfl⟩ | ⟨h,rfl⟩ | ⟨h,rfl⟩ | ⟨h,rfl⟩ | ⟨h,rfl⟩ | ⟨h,rfl⟩ | ⟨h,rfl⟩ | ⟨h,rfl⟩ | ⟨h,rfl⟩ | ⟨h,rfl⟩ | ⟨h,rfl⟩ | ⟨h,rfl⟩ | ⟨h,rfl⟩ | ⟨h,rfl⟩ | ⟨h,rfl⟩ | ⟨h,rfl⟩ | ⟨h,rfl⟩ | ⟨h,rfl⟩ | ⟨h,rfl⟩ | ⟨h,rfl⟩ | ⟨h,rfl⟩ | ⟨h,rfl⟩ | ⟨h,rfl⟩ | ⟨h,rfl⟩ | ⟨h,rfl⟩ | ⟨h,rfl⟩
   ·exact Gs rfl hl (g207 hT hd ih)
   ·exact Gs rfl hl (g208 hT hd ih)
   ·exact Gs rfl hl (BZT hT hd ih (hk h rfl))
   ·exact Gs rfl hl (g210 hT hd ih (hk h rfl))
   ·exact Gs rfl hl (BZT hT hd ih (hk h rfl))
   ·exact Gs rfl hl (g211 hT hd ih (hk h rfl))
   ·exact Gs rfl hl (AzJ hT hd ih)
   ·exact Gs rfl hl (g213 hT hd ih)
   ·exact Gs rfl hl (g214 hT hd ih)
   ·exact Gs rfl hl (g215 hT hd ih (hk h rfl))
   ·exact Gs rfl hl (g216 hT hd ih (hk h rfl))
   ·exact Gs rfl hl (g217 hT hd ih (hk h rfl))
   ·exact Gs rfl hl (g218 hT hd ih (hk h rfl))
   ·exact Gs rfl hl (g219 hT hd ih (hk h rfl))
   ·exact Gs rfl hl (g220 hT hd ih (hk h rfl))
   ·exact Gs rfl hl (g221 hT hd ih (hk h rfl))
   ·exact Gs rfl hl (g222 hT hd ih)
   ·exact Gs rfl hl (AzJ hT hd ih)
   ·exact Gs rfl hl (g223 hT hd ih (hk h rfl))
   ·exact Gs rfl hl (g224 hT hd ih (hk h rfl))
   ·exact Gs rfl hl (g225 hT hd ih (hk h rfl))
   ·exact Gs rfl hl (AzJ hT hd ih)
   ·exact Gs rfl hl (AzJ hT hd ih)
   ·exact Gs rfl hl (g226 hT hd ih)
   ·exact Gs rfl hl (g227 hT hd ih)
   ·exact Gs rfl hl (g228 hT hd ih (hk h rfl))
   ·exact Gs rfl hl (g229 hT hd ih (hk h rfl))
  ·exact⟨[],p99b (ZY qA) BxE hl,Fy,by rw[Fq];simp;omega⟩
def Bnd(T:Tr):Prop:=T.nds.length<=100/\∀x∈T.nds,x.wf/\x.kids.length<100000/\x.text.length<=60
def BqD{T:Tr}(h:Bnd T)(b:∀x∈T.nds,Nd x):GdT T:=λx a=>⟨(h.2 x a).1,(h.2 x a).2.1,(h.2 x a).2.2,b x a⟩
def BqC{T:Tr}(h:Bnd T):T.wf:=(h.2 T (by rw[Eo];exact AV ..)).1
def b60{T:Tr}(h:Bnd T):∃b,E 60 [T.pv] [] (.bool b) []/\(b=true->GdT T):=by
 obtain⟨b,e,c⟩:=w60 T (BqC h) (by have:=h.1;omega) λx a=>⟨(h.2 x a).1,(h.2 x a).2.1⟩
 exact⟨b,e,λq=>BqD h (c q)⟩
def w20{T:Tr}(h:Bnd T):∃b,E 20 [T.pv] [] (.bool b) []/\(b=true->GdT T):=by
 obtain⟨c,a⟩:∃c,E 59 [I T.kind] [] (.bool c) []:=if h:T.kind>=12 then⟨_,BxW h⟩ else⟨_,BxV h⟩
 obtain⟨b,e,d⟩:=b60 h;cases c with
 |false=>exact⟨_,p20c a,nofun⟩
 |true=>cases b with
  |true=>exact⟨_,p20a a e,d⟩
  |false=>exact⟨_,p20b a e,nofun⟩
def w97{T:Tr}(h:Bnd T):∃b,E 97 [T.pv] [] (.bool b) []/\(b=true->GdT T):=by
 obtain⟨c,a⟩:∃c,E 147 [I T.kind] [] (.bool c) []:=if h:T.kind>=20 then⟨_,AjF h⟩ else⟨_,AjE h⟩
 obtain⟨b,e,d⟩:=b60 h;cases c with
 |false=>exact⟨_,p97c a,nofun⟩
 |true=>cases b with
  |true=>exact⟨_,p97a a e,d⟩
  |false=>exact⟨_,p97b a e,nofun⟩
def w98(s:List UInt8)(a:Cl s):∃t z,E 98 [.str s] [] (.tuple [.str t,I z]) []/\Cl t/\t.length<=4096:=by
 by_cases h:(s.length:Int) > 4096
 ·exact⟨_,_,p98a h,Fy,by simp⟩
 ·exact⟨_,_,p98b h,a,am⟩
def w61{T:Tr}(h:Bnd T):∃t z,E 61 [T.pv,I 0] [] (.tuple [.str t,I z]) []/\Cl t/\t.length<=4096:=by
 obtain⟨b,e,f⟩:=w20 h;cases b with
 |false=>exact⟨_,_,p61d e,Fy,by simp⟩
 |true=>
  obtain⟨s,d,i,j⟩:=w99 _ T (Ai _) (f rfl) 0 (by have:=h.1;omega)
  obtain⟨t,z,g,c,a⟩:=w98 s i;exact⟨_,_,p61c e (by decide) (by decide) d g,c,a⟩
def w50{T:Tr}(h:Bnd T):∃t z,E 50 [T.pv] [] (.tuple [.str t,I z]) []/\Cl t/\t.length<=4096:=by
 obtain⟨b,e,f⟩:=w97 h;cases b with
 |false=>exact⟨_,_,p50b e,Fy,by simp⟩
 |true=>
  obtain⟨s,d,i,j⟩:=w99 _ T (Ai _) (f rfl) 0 (by have:=h.1;omega)
  obtain⟨t,z,g,c,a⟩:=w98 s i;exact⟨_,_,p50a e d g,c,a⟩
end Go.Abs.Z

namespace Go.Abs.Z
noncomputable section
open Go.Proofs Go.RowKit
def AzW{es:List (List UInt8)}{s:List UInt8}(h:es.length+1<=Bo):Bt pur run (.p (.app 1)) [BI 1 (es.map PV.str),.slice true 1 [.str s]] [] [some (BI 1 ((es++[s]).map PV.str)),some (Ci 1 (es.map PV.str))] []:=GK (ig h)
def BY6:Rn 146 a146:=rn
def RV95:Rn 95 a95:=rn
def yR:Rn 96 a96:=rn
section
variable{s a b x0 M:List UInt8}{ts:List Tk}{j:Nat}{A:Tk}{e:CE}{F:FF}{J:Sto}{es K:List (List UInt8)}
def BV8(f:(j:Int) < (ts.length:Int))(d:ts[j]?=some A)(k:¬(A.f:Int) < 0)(i:¬(A.a:Int) < (A.f:Int))(g:¬(A.e:Int) < (A.a:Int))(h:¬(A.e:Int) > (s.length:Int))(l:j<1000000000)(c:LL a146 0 [(0,some (.str s)),(1,some (slF 4 (ts.map Tk.pv))),(7,some (slF 4 (ts.map Tk.pv))),(8,some (N ts.length)),(9,some (N (j+1)))] [] e F J):LL a146 0 [(0,some (.str s)),(1,some (slF 4 (ts.map Tk.pv))),(7,some (slF 4 (ts.map Tk.pv))),(8,some (N ts.length)),(9,some (N j))] [] e F J:=
 BC [0,1,7,8,9] [sp 0 (AZ .i64 f),sp 1 (Cs (o:=false) (s:=4) j d),sp 5 (Bh .i64 k),sq 5 (Bh .i64 i),sq 6 (Bh .i64 g),sq 6 (Cz .i64 h),sp 2 (AO j 1 am)] c
def BV7(c:¬(j:Int) < (ts.length:Int)):LL a146 0 [(0,some (.str s)),(1,some (slF 4 (ts.map Tk.pv))),(7,some (slF 4 (ts.map Tk.pv))),(8,some (N ts.length)),(9,some (N j))] [] (.exit 0) [(1,some (slF 4 (ts.map Tk.pv)))] []:=
 Bw [1] [sp 0 (Bh .i64 c)]
def AUR(d:LL a146 0 [(0,some (.str s)),(1,some (slF 4 (ts.map Tk.pv))),(7,some (slF 4 (ts.map Tk.pv))),(8,some (N ts.length)),(9,some (I 0))] [] (.exit 0) [(1,some (slF 4 (ts.map Tk.pv)))] [])(c:(ts.length:Int)<=4097):EvE 146 [.str s,slF 4 (ts.map Tk.pv)] (.bool true):=
 rule BY6 [sp 2 (ED false 4 ts),sl 1 [0,1,7,8,9] d,sp 1 (ED false 4 ts),sp 0 (KW .i64 c)]
def f95a(f:(j:Int) < (ts.length:Int))(c:ts[j]?=some A){s2:List UInt8}(c2:BM (.ssl true true) [.str s,N A.a,N A.e] (.str s2))(g:es.length+1<=Bo)(h:j<1000000000)(d:LL a95 0 [(0,some (.str s)),(5,some (BI 1 ((es++[s2]).map PV.str))),(12,some (slF 4 (ts.map Tk.pv))),(13,some (N ts.length)),(14,some (N (j+1)))] [] e F J):LL a95 0 [(0,some (.str s)),(5,some (BI 1 (es.map PV.str))),(12,some (slF 4 (ts.map Tk.pv))),(13,some (N ts.length)),(14,some (N j))] [] e F J:=
 BC [0,5,12,13,14] [sp 0 (AZ .i64 f),sp 1 (Cs (o:=false) (s:=4) j c),sp 3 (JD 1 (es.map PV.str)),sp 5 c2,st 1 (AzW (es:=es) (s:=s2) g),sp 0 (JD 1 ((es++[s2]).map PV.str)),sp 0 (AO j 1 am)] d
def f95b(c:¬(j:Int) < (ts.length:Int)):LL a95 0 [(0,some (.str s)),(5,some (BI 1 (es.map PV.str))),(12,some (slF 4 (ts.map Tk.pv))),(13,some (N ts.length)),(14,some (N j))] [] (.exit 0) [(5,some (BI 1 (es.map PV.str)))] []:=
 Bw [5] [sp 0 (Bh .i64 c)]
def BV6{x:List UInt8}{xs:List (List UInt8)}(c:EvE 146 [.str s,slF 4 (ts.map Tk.pv)] (.bool true))(d:LL a95 0 [(0,some (.str s)),(5,some .nils),(12,some (slF 4 (ts.map Tk.pv))),(13,some (N ts.length)),(14,some (I 0))] [] (.exit 0) [(5,some (BI 1 ((x::xs).map PV.str)))] []):EvE 95 [.str s,slF 4 (ts.map Tk.pv)] (Ci 1 ((x::xs).map PV.str)):=
 rule RV95 [st 3 (oC c),sp 4 (ED false 4 ts),sl 1 [0,5,12,13,14] d,sp 0 (jK 1 ((x::xs).map PV.str))]
section
variable(D:(a:List UInt8).length+(b:List UInt8).length<=CL)(H:EvE 94 [.str (a++b)] (.tuple [slF 4 (ts.map Tk.pv),I 0]))(G:(ts.length:Int)=3)(e4:EvE 95 [.str (a++b),slF 4 (ts.map Tk.pv)] (slF 1 (K.map PV.str)))(r:K[0]?=some x0)
include D H G e4 r
def su:List Stp:=[sp 3 (Es D),st 2 (oC H),sp 1 (CP (l:=[slF 4 (ts.map Tk.pv),I 0]) 0 (v:=(slF 4 (ts.map Tk.pv))) rfl (by first | rfl | simp) rfl),sp 0 (CP (l:=[slF 4 (ts.map Tk.pv),I 0]) 1 (v:=(I 0)) rfl (by first | rfl | simp) rfl),sq 6 (ED false 4 ts),sq 0 (Bz .i64 G),st 4 (oC e4),sp 2 (Hf (z:=1) (f:=PV.str) 0 r)]
theorem f96a(f:x0=a)(c:K[1]?=some M)(d:M=b):EvE 96 [.str a,.str b] (.str []):=
 rule yR (su D H G e4 r++[sp 2 (H7 f),sq 2 (Hf (z:=1) (f:=PV.str) 1 c),sq 2 (H7 d)])
theorem f96b(d:x0=a)(c:K[1]?=some M)(f:M≠b):EvE 96 [.str a,.str b] (.str [32]):=
 rule yR (su D H G e4 r++[sp 2 (H7 d),sq 2 (Hf (z:=1) (f:=PV.str) 1 c),sq 2 (Ha f)])
theorem f96c(c:x0≠a):EvE 96 [.str a,.str b] (.str [32]):=
 rule yR (su D H G e4 r++[sp 2 (Ha c)])
end
section
variable(D:(a:List UInt8).length+(b:List UInt8).length<=CL)
include D
theorem f96d(c:EvE 94 [.str (a++b)] (.tuple [slF 4 (ts.map Tk.pv),I 0]))(d:(ts.length:Int)≠3):EvE 96 [.str a,.str b] (.str [32]):=
 rule yR [sp 3 (Es D),st 2 (oC c),sp 1 (CP (l:=[slF 4 (ts.map Tk.pv),I 0]) 0 (v:=(slF 4 (ts.map Tk.pv))) rfl (by first | rfl | simp) rfl),sp 0 (CP (l:=[slF 4 (ts.map Tk.pv),I 0]) 1 (v:=(I 0)) rfl (by first | rfl | simp) rfl),sq 6 (ED false 4 ts),sq 0 (Bb .i64 d)]
theorem BV5(c:EvE 94 [.str (a++b)] (.tuple [.nils,I 8])):EvE 96 [.str a,.str b] (.str [32]):=
 rule yR [sp 3 (Es D),st 2 (oC c)]
end
end
end
end Go.Abs.Z

namespace Go.Abs.Z
open Go.Proofs Go.RowKit
def Fit(s:List UInt8)(ts:List Tk):Prop:=ts.length<=4097/\∀t∈ts,t.f<=t.a/\t.a<=t.e/\t.e<=s.length
def BVN{n f:Nat}{l:List Tk}(h:Chn n f l):∀t∈l,t.f<=t.a:=by
 induction h with
 |fin h=>intro t b;rw[BR] at b;subst b;exact h
 |@cons f t l i d g j e h c=>
  intro u a;rcases AU.1 a with rfl | a
  ·omega
  ·exact c u a
def yf(s:List UInt8):Chn s.length 0 (Gl s):=bT s (s.length+1) 0 am am
def Uk(s:List UInt8)(b:s.length<=4096):Fit s (Gl s):=
 ⟨Bf (IR _ _ _) am,λt a=>⟨BVN (yf s) t a,((yf s).bd t a).2.1,((yf s).bd t a).2.2.1⟩⟩
section
variable{s:List UInt8}{ts:List Tk}(h:Fit s ts)
include h
theorem gD:∀(n j:Nat),j+n=ts.length->LL a146 0 [(0,some (.str s)),(1,some (slF 4 (ts.map Tk.pv))),(7,some (slF 4 (ts.map Tk.pv))),(8,some (N ts.length)),(9,some (N j))] [] (.exit 0) [(1,some (slF 4 (ts.map Tk.pv)))] []
 |0,j,b=>BV7 am
 |n+1,j,b=>by
  have g:=Af (show j<ts.length by omega)
  obtain⟨c,e,d⟩:=h.2 _ (Am g);exact BV8 am g am am am am (by have:=h.1;omega) (gD n (j+1) am)
theorem BUN:E 146 [.str s,slF 4 (ts.map Tk.pv)] [] (.bool true) []:=AUR (gD h ts.length 0 am) (by have:=h.1;omega)
theorem Sk:∀(n j:Nat) (es:List (List UInt8)),j+n=ts.length->es.length=j->(∀x∈es,x.length<=s.length)->∃es':List (List UInt8),(es'.length=ts.length/\∀x∈es',x.length<=s.length)/\LL a95 0 [(0,some (.str s)),(5,some (BI 1 (es.map PV.str))),(12,some (slF 4 (ts.map Tk.pv))),(13,some (N ts.length)),(14,some (N j))] [] (.exit 0) [(5,some (BI 1 (es'.map PV.str)))] []
 |0,j,es,f,c,b=>⟨es,⟨am,b⟩,f95b am⟩
 |n+1,j,es,f,c,b=>by
  have g:=Af (show j<ts.length by omega)
  obtain⟨l,k,i⟩:=h.2 _ (Am g);have m:=h.1;obtain⟨es',e,L⟩:=Sk n (j+1) (es++[(s.drop (ts[j]).a).take ((ts[j]).e - (ts[j]).a)]) am (by simp[c]) (λx d=>(Bv.1 d).elim (b x) (λq=>by rw[BR] at q;rw[q,AA,Aw];omega))
  exact⟨es',e,f95a am g (K8 s _ _ k i) (by simp only[Bo];omega) am L⟩
theorem w95(c:ts≠[]):∃a:List (List UInt8),(a.length=ts.length/\∀x∈a,x.length<=s.length)/\E 95 [.str s,slF 4 (ts.map Tk.pv)] [] (slF 1 (a.map PV.str)) []:=by
 obtain⟨es,b,L⟩:=Sk h ts.length 0 [] am rfl (λx d=>by cases d)
 cases es with
 |nil=>exact absurd (Ak.1 b.1.symm) c
 |cons x xs=>exact⟨x::xs,b,BV6 (BUN h) L⟩
end
def w96(a b:List UInt8)(m:a.length+b.length<=1000000):∃t:List UInt8,E 96 [.str a,.str b] [] (.str t) []/\(t=[]\/t=[32]):=by
 have d:a.length+b.length<=CL:=by simp only[CL];omega
 by_cases h:(a++b).length<=4096
 ·have e:=e97 (a++b) h;have k:=Uk (a++b) h;by_cases c:(((Gl (a++b)).length:Nat):Int)=3
  ·obtain⟨f,⟨l,_⟩,g⟩:=w95 k (by intro e;rw[e] at c;simp at c)
   obtain⟨x,y,z,rfl⟩:∃x y z:List UInt8,f=[x,y,z]:=by
    match f,(show f.length=3 by omega) with
    |[x,y,z],_=>exact⟨x,y,z,rfl⟩
   by_cases i:x=a
   ·by_cases j:y=b
    ·exact⟨_,f96a d e c g rfl i rfl j,.inl rfl⟩
    ·exact⟨_,f96b d e c g rfl i rfl j,.inr rfl⟩
   ·exact⟨_,f96c d e c g rfl i,.inr rfl⟩
  ·exact⟨_,f96d d e c,.inr rfl⟩
 ·exact⟨_,BV5 d (AkH am),.inr rfl⟩
end Go.Abs.Z
